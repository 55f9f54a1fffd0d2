/- Proved: the program's Tilt answers as the reference's for all weights and placings, and leaves them as they were. No conditions. -/
import Derived.Test.YthhihmhcfodjiaaLWMass
import Derived.Test.YthhihmhcfodjiaaMx16
import Derived.Test.YthhihmhcfodjiaaWSized
namespace Go.Proofs.Ythhihmhcfodjiaa.Pure
open Go.RowKit Go.Proofs.Ythhihmhcfodjiaa.M Go.Proofs.YthhihmhcfodjiaaW.PrintWords Go.Proofs.YthhihmhcfodjiaaW.PrintLast Go.Proofs.YthhihmhcfodjiaaW.PrintMore
set_option linter.unusedVariables false
set_option linter.unusedSimpArgs false

theorem both (xs ps : List Int) (a : Int) (hx : xs.length ≤ 1048576) (hp : ps.length ≤ 1048576) (hw : ∀ x ∈ xs, (Lit.int .i16 x).wf = true) (k : Nat) (hk : 2097161 < k) :
    ∃ v, spec_Tilt.f k xs ps a = some v ∧ impl_Tilt.f k xs ps a = some v := by
  obtain ⟨k, rfl⟩ : ∃ m, k = m + 1 := ⟨k - 1, by omega⟩
  obtain ⟨v, s, i, w⟩ := fits xs ps hx hp (k + 1) (by omega)
  unfold spec_Tilt.f impl_Tilt.f impl_TiltOfArms.f
  rw [s, i]
  simp only [Option.bind_some]
  cases v
  · exact ⟨(0, 1), rfl, rfl⟩
  · obtain ⟨w1, w2, w3⟩ := w rfl
    obtain ⟨L, R, e1, e2, b1, b2⟩ := mass_f xs ps hw w1 w2 w3 k (by omega)
    obtain ⟨L2, R2, e3, e4, _, _⟩ := mass_f xs ps hw w1 w2 w3 (k + 1) (by omega)
    have e5 : spec_l01Mass.f (k + 1) xs ps = some (R - L) := mass_l0 xs ps hw w1 w2 w3 ps.length 0 0 0 L R (by omega) (by omega) (by omega) (k + 1) k (by omega) (by omega) e1
    rw [e5]
    unfold spec_l01Heavy.f spec_l00In.f impl_within.f
    by_cases c1 : 0 ≤ a
    · by_cases c2 : a ≤ 1000000
      · rw [if_pos (show a ≥ 0 by omega), decide_eq_true c2]
        simp only [Option.bind_some, if_true, Int.le_refl]
        simp only [show decide ((1 : Int) ≤ 100) = true from rfl, if_true, Bool.not_true]
        simp only [impl_TiltOfArms.j0]
        rw [e1]
        simp only [Option.bind_some, Bool.false_eq_true, if_false]
        unfold spec_l01Sign.f impl_seen.f
        rw [show wrap64 (R - L - a) = R - L - a by unfold wrap64; omega, show wrap64 (wrap64 (a + L) * 1) = a + L by rw [Int.mul_one]; unfold wrap64; omega, show wrap64 (R * 1) = R by rw [Int.mul_one]; unfold wrap64; omega]
        by_cases d1 : R - L - a < 0
        · rw [if_pos d1, if_pos (by omega)]; exact ⟨_, rfl, rfl⟩
        · rw [if_neg d1]
          by_cases d2 : R - L - a > 0
          · rw [if_pos d2, if_neg (by omega), if_pos (by omega)]; exact ⟨_, rfl, rfl⟩
          · rw [if_neg d2, if_neg (by omega), if_neg (by omega)]; exact ⟨_, rfl, rfl⟩
      · rw [if_pos (show a ≥ 0 by omega), decide_eq_false c2]
        exact ⟨(0, 2), rfl, rfl⟩
    · rw [if_neg (show ¬ a ≥ 0 by omega)]
      exact ⟨(0, 2), rfl, rfl⟩
theorem FnExactTilt : laws_FnExactTilt.Pure := by
  intro xs ps a _ _ hx _ _ hp  _
  obtain ⟨k, hk⟩ : ∃ k : Nat, 2097170 ≤ k := ⟨2097170, by omega⟩
  refine ⟨k + 1, ?_⟩
  unfold laws_FnExactTilt.f
  by_cases big : (xs.length : Int) > 1048576
  · rw [if_pos big]
  · rw [if_neg big]
    by_cases big2 : (ps.length : Int) > 1048576
    · rw [if_pos big2]
    · rw [if_neg big2]
      obtain ⟨v, s, i⟩ := both xs ps a (by omega) (by omega) hx (k + 1) (by omega)
      rw [laws_toWeights_f xs (by omega) _ (by omega), laws_toPlacing_f ps (by omega) _ (by omega)]
      simp only [Option.bind_some]
      rw [s, i]
      simp only [Option.bind_some, bne_self_eq_false, Bool.false_eq_true, if_false, if_true, laws_FnExactTilt.j0]
      rw [laws_toWeights_f xs (by omega) _ (by omega), laws_toPlacing_f ps (by omega) _ (by omega)]
      simp only [Option.bind_some]
      rw [laws_eqWeights_f xs (by omega) _ (by omega), laws_eqPlacing_f ps (by omega) _ (by omega)]
      rfl

end Go.Proofs.Ythhihmhcfodjiaa.Pure
namespace Go.Proofs.Ythhihmhcfodjiaa.PrintWords
/-- The printed row names this theorem by the name that it bears outside of OWN=1. -/
abbrev sized_ints := @Go.Proofs.YthhihmhcfodjiaaW.PrintWords.sized_ints
end Go.Proofs.Ythhihmhcfodjiaa.PrintWords
