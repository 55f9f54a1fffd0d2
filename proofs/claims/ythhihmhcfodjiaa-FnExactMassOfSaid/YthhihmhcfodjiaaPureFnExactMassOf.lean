/- Proved: the program's MassOf answers as the reference's for all weights and placings, and leaves them as they were. No conditions. -/
import Derived.Test.YthhihmhcfodjiaaLWMass
import Derived.Test.YthhihmhcfodjiaaMx13
import Derived.Test.YthhihmhcfodjiaaWSized
namespace Go.Proofs.Ythhihmhcfodjiaa.Pure
open Go.RowKit Go.Proofs.Ythhihmhcfodjiaa.M Go.Proofs.YthhihmhcfodjiaaW.PrintWords Go.Proofs.YthhihmhcfodjiaaW.PrintLast Go.Proofs.YthhihmhcfodjiaaW.PrintMore
set_option linter.unusedVariables false
set_option linter.unusedSimpArgs false

theorem both (xs ps : List Int) (hx : xs.length ≤ 1048576) (hp : ps.length ≤ 1048576) (hw : ∀ x ∈ xs, (Lit.int .i16 x).wf = true) (k : Nat) (hk : 2097160 < k) :
    ∃ v, spec_MassOf.f k xs ps = some v ∧ impl_MassOf.f k xs ps = some v := by
  obtain ⟨v, s, i, w⟩ := fits xs ps hx hp k hk
  unfold spec_MassOf.f impl_MassOf.f
  rw [s, i]
  simp only [Option.bind_some]
  cases v
  · exact ⟨(0, 1), rfl, rfl⟩
  · obtain ⟨w1, w2, w3⟩ := w rfl
    obtain ⟨L, R, e1, e2, b1, b2⟩ := mass_f xs ps hw w1 w2 w3 k (by omega)
    rw [e1, e2]
    refine ⟨(R - L, 0), rfl, ?_⟩
    simp only [Option.bind_some, if_true]
    rw [show wrap64 (R - L) = R - L by unfold wrap64; omega]
theorem FnExactMassOf : laws_FnExactMassOf.Pure := by
  intro xs ps _ _ hx _ _ hp
  obtain ⟨k, hk⟩ : ∃ k : Nat, 2097170 ≤ k := ⟨2097170, by omega⟩
  refine ⟨k + 1, ?_⟩
  unfold laws_FnExactMassOf.f
  by_cases big : (xs.length : Int) > 1048576
  · rw [if_pos big]
  · rw [if_neg big]
    by_cases big2 : (ps.length : Int) > 1048576
    · rw [if_pos big2]
    · rw [if_neg big2]
      obtain ⟨v, s, i⟩ := both xs ps (by omega) (by omega) hx (k + 1) (by omega)
      rw [laws_toWeights_f xs (by omega) _ (by omega), laws_toPlacing_f ps (by omega) _ (by omega)]
      simp only [Option.bind_some]
      rw [s, i]
      simp only [Option.bind_some, bne_self_eq_false, Bool.false_eq_true, if_false, if_true, laws_FnExactMassOf.j0]
      rw [laws_toWeights_f xs (by omega) _ (by omega), laws_toPlacing_f ps (by omega) _ (by omega)]
      simp only [Option.bind_some]
      rw [laws_eqWeights_f xs (by omega) _ (by omega), laws_eqPlacing_f ps (by omega) _ (by omega)]
      rfl

end Go.Proofs.Ythhihmhcfodjiaa.Pure
namespace Go.Proofs.Ythhihmhcfodjiaa.PrintWords
/-- The printed row names this theorem by the name that it bears outside of OWN=1. -/
abbrev sized_ints := @Go.Proofs.YthhihmhcfodjiaaW.PrintWords.sized_ints
end Go.Proofs.Ythhihmhcfodjiaa.PrintWords
