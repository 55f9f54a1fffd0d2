/- Proved: the program's WaysToWeigh answers as the reference's for all weights and masses. No conditions. -/
import Derived.Test.YthhihmhcfodjiaaLRBaseR
import Derived.Test.YthhihmhcfodjiaaLRWayR
import Derived.Test.YthhihmhcfodjiaaRx17
import Derived.Test.YthhihmhcfodjiaaWSized
namespace Go.Proofs.Ythhihmhcfodjiaa.Pure
open Go.RowKit Go.Proofs.Ythhihmhcfodjiaa.R Go.Proofs.YthhihmhcfodjiaaW.PrintWords Go.Proofs.YthhihmhcfodjiaaW.PrintLast Go.Proofs.YthhihmhcfodjiaaW.PrintMore
set_option linter.unusedVariables false
set_option linter.unusedSimpArgs false

theorem ways_f (xs : List Int) (a : Int) (b : Bool) (hn : xs.length ≤ 1048576) (hw : ∀ x ∈ xs, (Lit.int .i16 x).wf = true) : ∃ v, ∀ k, 2097160 < k → spec_WaysToWeigh.f k xs a b = some v ∧ impl_WaysToWeigh.f k xs a b = some v := by
  obtain ⟨c, hc, h0⟩ := asked_f xs a hn hw
  by_cases e : c = 0
  · subst e
    obtain ⟨ho, a1, a2⟩ := h0 rfl
    refine ⟨((R.ways b xs a : Int), 0), fun k hk => ⟨way_f ho ⟨a1, a2⟩ k (by omega) (hc k hk).1, ?_⟩⟩
    unfold impl_WaysToWeigh.f
    rw [(hc k hk).2, Option.bind_some, if_pos rfl, if_pos ⟨ho, a1, a2⟩]
  · refine ⟨(0, c), fun k hk => ?_⟩
    unfold spec_WaysToWeigh.f impl_WaysToWeigh.f
    rw [(hc k hk).1, (hc k hk).2]
    refine ⟨?_, ?_⟩
    · rw [Option.bind_some, if_neg e]
    · rw [Option.bind_some, if_neg e]
theorem FnExactWaysToWeigh : laws_FnExactWaysToWeigh.Pure := by
  intro xs a b _ _ hx _
  obtain ⟨k, hk⟩ : ∃ k : Nat, 2097170 ≤ k := ⟨2097170, Nat.le_refl _⟩
  refine ⟨k + 1, ?_⟩
  unfold laws_FnExactWaysToWeigh.f
  by_cases big : (xs.length : Int) > 1048576
  · rw [if_pos big]
  · rw [if_neg big]
    obtain ⟨v, hv⟩ := ways_f xs a b (by omega) hx
    rw [laws_toWeights_f xs (by omega) _ (by omega)]
    simp only [Option.bind_some]
    rw [(hv (k + 1) (by omega)).1, (hv (k + 1) (by omega)).2]
    simp only [Option.bind_some, bne_self_eq_false, Bool.false_eq_true, if_false, if_true, laws_FnExactWaysToWeigh.j0]
    rw [laws_toWeights_f xs (by omega) _ (by omega)]
    simp only [Option.bind_some]
    rw [laws_eqWeights_f xs (by omega) _ (by omega)]
    rfl

end Go.Proofs.Ythhihmhcfodjiaa.Pure
namespace Go.Proofs.Ythhihmhcfodjiaa.PrintWords
/-- The printed row names this theorem by the name that it bears outside of OWN=1. -/
abbrev sized_ints := @Go.Proofs.YthhihmhcfodjiaaW.PrintWords.sized_ints
end Go.Proofs.Ythhihmhcfodjiaa.PrintWords
