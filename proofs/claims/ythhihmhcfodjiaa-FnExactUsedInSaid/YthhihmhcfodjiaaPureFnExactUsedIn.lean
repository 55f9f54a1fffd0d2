/- Proved: the program's UsedIn answers as the reference's for all weights and placings, and leaves them as they were. No conditions. -/
import Derived.Test.YthhihmhcfodjiaaLWBase
import Derived.Test.YthhihmhcfodjiaaMx10
import Derived.Test.YthhihmhcfodjiaaWSized
namespace Go.Proofs.Ythhihmhcfodjiaa.Pure
open Go.RowKit Go.Proofs.Ythhihmhcfodjiaa.M Go.Proofs.YthhihmhcfodjiaaW.PrintWords Go.Proofs.YthhihmhcfodjiaaW.PrintLast Go.Proofs.YthhihmhcfodjiaaW.PrintMore
set_option linter.unusedVariables false
set_option linter.unusedSimpArgs false

def usedF : List Int → Int → Int
  | [], c => c
  | p :: r, c => usedF r (if p = 0 then c else wrap64 (c + 1))
theorem spec_l0 (ps : List Int) (hn : ps.length ≤ 140737488355328) (d : Nat) : ∀ (j : Nat) (c : Int), j + d = ps.length → ∀ k, d < k → spec_UsedIn.l0 k ps c j = some (usedF (ps.drop j) c, 0) := by
  induction d with
  | zero =>
    intro j c hj k hk
    obtain ⟨k, rfl⟩ : ∃ m, k = m + 1 := ⟨k - 1, by omega⟩
    simp only [spec_UsedIn.l0]; rw [if_neg (by omega), List.drop_of_length_le (by omega)]; rfl
  | succ d ih =>
    intro j c hj k hk
    obtain ⟨k, rfl⟩ : ∃ m, k = m + 1 := ⟨k - 1, by omega⟩
    simp only [spec_UsedIn.l0]
    rw [if_pos (by omega), if_pos (by omega), rd_at, drop_at ps j (by omega), next_i (n := ps.length) (by omega) hn]
    simp only [usedF]
    by_cases q : ps.getD j 0 = 0
    · rw [if_pos q, if_pos q]; exact ih (j + 1) _ (by omega) k (by omega)
    · rw [if_neg q, if_neg q]; exact ih (j + 1) _ (by omega) k (by omega)
theorem impl_l0 (ps : List Int) (hn : ps.length ≤ 140737488355328) (d : Nat) : ∀ (j : Nat) (c : Int), j + d = ps.length → ∀ k, d < k → impl_UsedIn.l0 k c ps ps.length j = some (usedF (ps.drop j) c, 0) := by
  induction d with
  | zero =>
    intro j c hj k hk
    obtain ⟨k, rfl⟩ : ∃ m, k = m + 1 := ⟨k - 1, by omega⟩
    simp only [impl_UsedIn.l0]; rw [if_neg (by omega), List.drop_of_length_le (by omega)]; rfl
  | succ d ih =>
    intro j c hj k hk
    obtain ⟨k, rfl⟩ : ∃ m, k = m + 1 := ⟨k - 1, by omega⟩
    simp only [impl_UsedIn.l0]
    rw [if_pos (by omega), if_pos (by omega), if_pos (by omega), rd_at, drop_at ps j (by omega), next_i (n := ps.length) (by omega) hn]
    simp only [usedF]
    by_cases q : ps.getD j 0 = 0
    · rw [if_pos q, if_pos q]; exact ih (j + 1) _ (by omega) k (by omega)
    · rw [if_neg q, if_neg q]; exact ih (j + 1) _ (by omega) k (by omega)
theorem both (xs ps : List Int) (hx : xs.length ≤ 1048576) (hp : ps.length ≤ 1048576) (hw : ∀ x ∈ xs, (Lit.int .i16 x).wf = true) (k : Nat) (hk : 2097160 < k) :
    ∃ v, spec_UsedIn.f k xs ps = some v ∧ impl_UsedIn.f k xs ps = some v := by
  obtain ⟨v, s, i, w⟩ := fits xs ps hx hp k hk
  unfold spec_UsedIn.f impl_UsedIn.f
  rw [s, i]
  simp only [Option.bind_some]
  cases v
  · exact ⟨(0, 1), rfl, rfl⟩
  · have a := spec_l0 ps (by omega) ps.length 0 0 (by omega) k (by omega)
    have b := impl_l0 ps (by omega) ps.length 0 0 (by omega) k (by omega)
    exact ⟨_, a, b⟩
theorem FnExactUsedIn : laws_FnExactUsedIn.Pure := by
  intro xs ps _ _ hx _ _ hp
  obtain ⟨k, hk⟩ : ∃ k : Nat, 2097170 ≤ k := ⟨2097170, by omega⟩
  refine ⟨k + 1, ?_⟩
  unfold laws_FnExactUsedIn.f
  by_cases big : (xs.length : Int) > 1048576
  · rw [if_pos big]
  · rw [if_neg big]
    by_cases big2 : (ps.length : Int) > 1048576
    · rw [if_pos big2]
    · rw [if_neg big2]
      obtain ⟨v, s, i⟩ := both xs ps (by omega) (by omega) hx (k + 1) (by omega)
      rw [laws_toWeights_f xs (by omega) _ (by omega), laws_toPlacing_f ps (by omega) _ (by omega)]
      simp only [Option.bind_some]
      rw [s, i]
      simp only [Option.bind_some, bne_self_eq_false, Bool.false_eq_true, if_false, if_true, laws_FnExactUsedIn.j0]
      rw [laws_toWeights_f xs (by omega) _ (by omega), laws_toPlacing_f ps (by omega) _ (by omega)]
      simp only [Option.bind_some]
      rw [laws_eqWeights_f xs (by omega) _ (by omega), laws_eqPlacing_f ps (by omega) _ (by omega)]
      rfl

end Go.Proofs.Ythhihmhcfodjiaa.Pure
namespace Go.Proofs.Ythhihmhcfodjiaa.PrintWords
/-- The printed row names this theorem by the name that it bears outside of OWN=1. -/
abbrev sized_ints := @Go.Proofs.YthhihmhcfodjiaaW.PrintWords.sized_ints
end Go.Proofs.Ythhihmhcfodjiaa.PrintWords
