/- Proved: the program's ValidPlacing answers as the reference's for all weights and placings, and leaves them as they were. No conditions. -/
import Derived.Test.YthhihmhcfodjiaaLWBase
import Derived.Test.YthhihmhcfodjiaaMx8
import Derived.Test.YthhihmhcfodjiaaWSized
namespace Go.Proofs.Ythhihmhcfodjiaa.Pure
open Go.RowKit Go.Proofs.Ythhihmhcfodjiaa.M Go.Proofs.YthhihmhcfodjiaaW.PrintWords Go.Proofs.YthhihmhcfodjiaaW.PrintLast Go.Proofs.YthhihmhcfodjiaaW.PrintMore
set_option linter.unusedVariables false
set_option linter.unusedSimpArgs false

theorem FnExactValidPlacing : laws_FnExactValidPlacing.Pure := by
  intro xs ps _ _ hx _ _ hp
  refine ⟨2097170, ?_⟩
  unfold laws_FnExactValidPlacing.f
  by_cases big : (xs.length : Int) > 1048576
  · rw [if_pos big]
  · rw [if_neg big]
    by_cases big2 : (ps.length : Int) > 1048576
    · rw [if_pos big2]
    · rw [if_neg big2]
      obtain ⟨v, s, i, _⟩ := fits xs ps (by omega) (by omega) 2097170 (by omega)
      rw [laws_toWeights_f xs (by omega) _ (by omega), laws_toPlacing_f ps (by omega) _ (by omega)]
      simp only [Option.bind_some, spec_ValidPlacing.f]
      rw [s, i]
      simp only [Option.bind_some, bne_self_eq_false, Bool.false_eq_true, if_false]
      rw [laws_eqWeights_f xs (by omega) _ (by omega), laws_eqPlacing_f ps (by omega) _ (by omega)]
      rfl

end Go.Proofs.Ythhihmhcfodjiaa.Pure
namespace Go.Proofs.Ythhihmhcfodjiaa.PrintWords
/-- The printed row names this theorem by the name that it bears outside of OWN=1. -/
abbrev sized_ints := @Go.Proofs.YthhihmhcfodjiaaW.PrintWords.sized_ints
end Go.Proofs.Ythhihmhcfodjiaa.PrintWords
