/- Proved: the program's AllUpTo answers as the reference's for all weights. No conditions. -/
import Derived.Test.YthhihmhcfodjiaaLRBaseR
import Derived.Test.YthhihmhcfodjiaaLRMissR
import Derived.Test.YthhihmhcfodjiaaRx14
import Derived.Test.YthhihmhcfodjiaaWSized
namespace Go.Proofs.Ythhihmhcfodjiaa.Pure
open Go.RowKit Go.Proofs.Ythhihmhcfodjiaa.R Go.Proofs.YthhihmhcfodjiaaW.PrintWords Go.Proofs.YthhihmhcfodjiaaW.PrintLast Go.Proofs.YthhihmhcfodjiaaW.PrintMore
set_option linter.unusedVariables false
set_option linter.unusedSimpArgs false

theorem up_f (xs : List Int) (b : Bool) (hn : xs.length ≤ 1048576) (hw : ∀ x ∈ xs, (Lit.int .i16 x).wf = true) : ∃ v, ∀ k, 2097160 < k → spec_AllUpTo.f k xs b = some v ∧ impl_AllUpTo.f k xs b = some v := by
  obtain ⟨v, hv, ho⟩ := valid_f xs hn hw
  cases v with
  | false =>
    refine ⟨(0, 1), fun k hk => ⟨?_, ?_⟩⟩
    · unfold spec_AllUpTo.f
      rw [(hv k hk).1, Option.bind_some, if_neg (by simp)]
    · unfold impl_AllUpTo.f
      rw [(hv k hk).2, Option.bind_some, if_neg (by simp)]
  | true =>
    have ho := ho rfl
    obtain ⟨r, m1, m2⟩ := miss_f (b := b) ho
    have h0 := sum_ge xs ho.2.2.1
    have h2 := ho.2.2.2
    obtain ⟨u, u1, u2, u3⟩ := up_eq (b := b) ho xs.sum.toNat 0 3000 5000 r (by omega) (by omega) m1
    refine ⟨((u : Int), 0), fun k hk => ⟨?_, ?_⟩⟩
    · unfold spec_AllUpTo.f
      rw [(hv k hk).1, Option.bind_some, if_pos rfl, (sum_f ho hw k (by omega)).1, Option.bind_some, m2 k (by omega), Option.bind_some]
      by_cases e : r = []
      · subst e
        have e0 : (([] : List Int).length : Int) = 0 := rfl
        rw [if_pos e0, u2 rfl]
      · have hl : 0 < r.length := List.length_pos_iff.mpr e
        rw [if_neg (by omega), if_pos (by omega), u3 e, wrap_of (by have := u3 e; omega) (by have := u3 e; have := up_bound _ _ _ u1; omega)]
    · unfold impl_AllUpTo.f
      rw [(hv k hk).2, Option.bind_some, if_pos rfl, if_pos ho, u1, Option.bind_some]
theorem FnExactAllUpTo : laws_FnExactAllUpTo.Pure := by
  intro xs b _ _ hx
  obtain ⟨k, hk⟩ : ∃ k : Nat, 2097170 ≤ k := ⟨2097170, Nat.le_refl _⟩
  refine ⟨k + 1, ?_⟩
  unfold laws_FnExactAllUpTo.f
  by_cases big : (xs.length : Int) > 1048576
  · rw [if_pos big]
  · rw [if_neg big]
    obtain ⟨v, hv⟩ := up_f xs b (by omega) hx
    rw [laws_toWeights_f xs (by omega) _ (by omega)]
    simp only [Option.bind_some]
    rw [(hv (k + 1) (by omega)).1, (hv (k + 1) (by omega)).2]
    simp only [Option.bind_some, bne_self_eq_false, Bool.false_eq_true, if_false, if_true, laws_FnExactAllUpTo.j0]
    rw [laws_toWeights_f xs (by omega) _ (by omega)]
    simp only [Option.bind_some]
    rw [laws_eqWeights_f xs (by omega) _ (by omega)]
    rfl

end Go.Proofs.Ythhihmhcfodjiaa.Pure
namespace Go.Proofs.Ythhihmhcfodjiaa.PrintWords
/-- The printed row names this theorem by the name that it bears outside of OWN=1. -/
abbrev sized_ints := @Go.Proofs.YthhihmhcfodjiaaW.PrintWords.sized_ints
end Go.Proofs.Ythhihmhcfodjiaa.PrintWords
