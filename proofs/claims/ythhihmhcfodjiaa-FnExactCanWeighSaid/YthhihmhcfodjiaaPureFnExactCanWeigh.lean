/- Proved: the program's CanWeigh answers as the reference's for all weights and masses. No conditions. -/
import Derived.Test.YthhihmhcfodjiaaLRBaseR
import Derived.Test.YthhihmhcfodjiaaLRFewR
import Derived.Test.YthhihmhcfodjiaaRx8
import Derived.Test.YthhihmhcfodjiaaWSized
namespace Go.Proofs.Ythhihmhcfodjiaa.Pure
open Go.RowKit Go.Proofs.Ythhihmhcfodjiaa.R Go.Proofs.YthhihmhcfodjiaaW.PrintWords Go.Proofs.YthhihmhcfodjiaaW.PrintLast Go.Proofs.YthhihmhcfodjiaaW.PrintMore
set_option linter.unusedVariables false
set_option linter.unusedSimpArgs false

theorem can_f (xs : List Int) (a : Int) (b : Bool) (hn : xs.length ≤ 1048576) (hw : ∀ x ∈ xs, (Lit.int .i16 x).wf = true) : ∃ v, ∀ k, 2097160 < k → spec_CanWeigh.f k xs a b = some v ∧ impl_CanWeigh.f k xs a b = some v := by
  obtain ⟨c, hc, h0⟩ := asked_f xs a hn hw
  by_cases e : c = 0
  · subst e
    obtain ⟨ho, a1, a2⟩ := h0 rfl
    obtain ⟨v, ⟨v1, v2, v3⟩, hv⟩ := few_f (b := b) ho
    refine ⟨(decide (R.ways b xs a ≠ 0), 0), fun k hk => ?_⟩
    obtain ⟨q, hq⟩ : ∃ q : Nat, (q : Int) = 2000 + a := ⟨(2000 + a).toNat, by omega⟩
    obtain ⟨-, -, u3⟩ := v3 q (by omega)
    rw [List.drop_zero, show (q : Int) - 2000 = a by omega] at u3
    have E1 : Aside0 (wrap64 (2000 + a) = (q : Int)) := ⟨by rw [hq]; exact wrap_of (by omega) (by omega)⟩
    have g1 : (0 : Int) < (v.length : Int) := by omega
    have g2 : (0 : Int) ≤ (q : Int) := Int.natCast_nonneg q
    have g3 : (q : Int) < ((rd_L2 v 0).length : Int) := by omega
    unfold spec_CanWeigh.f impl_CanWeigh.f
    rw [(hc k hk).1, (hc k hk).2]
    rw [Option.bind_some, Option.bind_some, if_pos rfl, if_pos rfl, hv k (by omega), Option.bind_some]
    refine ⟨?_, by rw [if_pos ⟨ho, a1, a2⟩]⟩
    rw [E1.out, if_pos g1, if_pos g2, if_pos g3]
    congr 2
    exact decide_eq_decide.mpr u3
  · refine ⟨(false, c), fun k hk => ?_⟩
    unfold spec_CanWeigh.f impl_CanWeigh.f
    rw [(hc k hk).1, (hc k hk).2, Option.bind_some, Option.bind_some, if_neg e, if_neg e]
    exact ⟨rfl, rfl⟩
theorem FnExactCanWeigh : laws_FnExactCanWeigh.Pure := by
  intro xs a b _ _ hx _
  obtain ⟨k, hk⟩ : ∃ k : Nat, 2097170 ≤ k := ⟨2097170, Nat.le_refl _⟩
  refine ⟨k + 1, ?_⟩
  unfold laws_FnExactCanWeigh.f
  by_cases big : (xs.length : Int) > 1048576
  · rw [if_pos big]
  · rw [if_neg big]
    obtain ⟨v, hv⟩ := can_f xs a b (by omega) hx
    rw [laws_toWeights_f xs (by omega) _ (by omega)]
    simp only [Option.bind_some]
    rw [(hv (k + 1) (by omega)).1, (hv (k + 1) (by omega)).2]
    simp only [Option.bind_some, bne_self_eq_false, Bool.false_eq_true, if_false, if_true, laws_FnExactCanWeigh.j0]
    rw [laws_toWeights_f xs (by omega) _ (by omega)]
    simp only [Option.bind_some]
    rw [laws_eqWeights_f xs (by omega) _ (by omega)]
    rfl

end Go.Proofs.Ythhihmhcfodjiaa.Pure
namespace Go.Proofs.Ythhihmhcfodjiaa.PrintWords
/-- The printed row names this theorem by the name that it bears outside of OWN=1. -/
abbrev sized_ints := @Go.Proofs.YthhihmhcfodjiaaW.PrintWords.sized_ints
end Go.Proofs.Ythhihmhcfodjiaa.PrintWords
