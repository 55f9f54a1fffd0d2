/- The reference's and the program's SameFerry both come to 'these are equal'. -/
import Derived.Test.YtikdnhhegknplaaLFBase
import Derived.Test.YtikdnhhegknplaaMx3
import Derived.Test.YtikdnhhegknplaaMx4
namespace Go.Proofs.Ytikdnhhegknplaa.M
open Go.RowKit Go.Proofs.YtikdnhhegknplaaW.PrintWords Go.Proofs.YtikdnhhegknplaaW.PrintLast Go.Proofs.YtikdnhhegknplaaW.PrintMore
set_option linter.unusedVariables false
set_option linter.unusedSimpArgs false

theorem specSame_l0 (a b c e : Int) (xs ys : List Int) (hn : xs.length ≤ 140737488355328) (he : xs.length = ys.length) (d : Nat) : ∀ (j : Nat), j + d = xs.length → ∀ k, d < k →
    spec_l05Same.l0 k j a b xs c e ys = some (decide (xs.drop j = ys.drop j)) := by
  induction d with
  | zero =>
    intro j hj k hk
    obtain ⟨k, rfl⟩ : ∃ m, k = m + 1 := ⟨k - 1, by omega⟩
    simp only [spec_l05Same.l0]; rw [if_neg (by omega), List.drop_of_length_le (by omega), List.drop_of_length_le (by omega)]; rfl
  | succ d ih =>
    intro j hj k hk
    obtain ⟨k, rfl⟩ : ∃ m, k = m + 1 := ⟨k - 1, by omega⟩
    simp only [spec_l05Same.l0]
    rw [if_pos (by omega), if_pos (by omega), if_pos (by omega), next_i (n := xs.length) (by omega) hn, rd_at, rd_at, drop_at xs j (by omega), drop_at ys j (by omega)]
    by_cases q : xs.getD j 0 = ys.getD j 0
    · rw [if_pos q, ih (j + 1) (by omega) k (by omega), q]; simp
    · rw [if_neg q]; simp only [List.cons.injEq, q, false_and, decide_false]
theorem implSame_l0 (xs ys : List Int) (hn : xs.length ≤ 140737488355328) (he : xs.length = ys.length) (d : Nat) : ∀ (j : Nat), j + d = xs.length → ∀ k, d < k →
    slices_Equal_uint16_uint16.l0 k xs ys (xs.length : Int) j = some (decide (xs.drop j = ys.drop j)) := by
  induction d with
  | zero =>
    intro j hj k hk
    obtain ⟨k, rfl⟩ : ∃ m, k = m + 1 := ⟨k - 1, by omega⟩
    simp only [slices_Equal_uint16_uint16.l0]; rw [if_neg (by omega), List.drop_of_length_le (by omega), List.drop_of_length_le (by omega)]; rfl
  | succ d ih =>
    intro j hj k hk
    obtain ⟨k, rfl⟩ : ∃ m, k = m + 1 := ⟨k - 1, by omega⟩
    simp only [slices_Equal_uint16_uint16.l0]
    rw [if_pos (by omega), if_pos (by omega), if_pos (by omega), if_pos (by omega), next_i (n := xs.length) (by omega) hn, rd_at, rd_at, drop_at xs j (by omega), drop_at ys j (by omega)]
    by_cases q : xs.getD j 0 = ys.getD j 0
    · rw [if_pos q, ih (j + 1) (by omega) k (by omega), q]; simp
    · rw [if_neg q]; simp only [List.cons.injEq, q, false_and, decide_false]
theorem specSame_f (a b c e : Int) (xs ys : List Int) (hn : xs.length ≤ 1048576) (k : Nat) (hk : 1048578 < k) :
    spec_SameFerry.f k a b xs c e ys = some (decide (a = c ∧ b = e ∧ xs = ys)) := by
  obtain ⟨k, rfl⟩ : ∃ m, k = m + 1 := ⟨k - 1, by omega⟩
  unfold spec_SameFerry.f spec_l05Same.f
  by_cases h1 : a = c
  · rw [if_pos h1]
    by_cases h2 : b = e
    · rw [if_pos h2]
      by_cases h3 : xs.length = ys.length
      · have hb : ((xs.length : Int) != (ys.length : Int)) = false := by simp [h3]
        rw [hb]
        simp only [spec_l05Same.j0]
        rw [if_neg (by simp)]
        have := specSame_l0 a b c e xs ys (by omega) h3 xs.length 0 (by omega) k (by omega)
        simp only [List.drop_zero] at this
        have e0 : spec_l05Same.l0 k 0 a b xs c e ys = some (decide (xs = ys)) := this
        rw [e0]; simp [h1, h2]
      · have hb : ((xs.length : Int) != (ys.length : Int)) = true := by simp; omega
        rw [hb]
        have : xs ≠ ys := fun h => h3 (by rw [h])
        simp [spec_l05Same.j0, this]
    · rw [if_neg h2]; simp [spec_l05Same.j0, h2]
  · rw [if_neg h1]; simp [spec_l05Same.j0, h1]
theorem implSame_f (a b c e : Int) (xs ys : List Int) (hn : xs.length ≤ 1048576) (k : Nat) (hk : 1048578 < k) :
    impl_SameFerry.f k a b xs c e ys = some (decide (a = c ∧ b = e ∧ xs = ys)) := by
  unfold impl_SameFerry.f slices_Equal_uint16_uint16.f
  by_cases h1 : a = c
  · rw [if_pos h1]
    by_cases h2 : b = e
    · rw [if_pos h2]
      by_cases h3 : xs.length = ys.length
      · rw [if_pos (by omega)]
        have := implSame_l0 xs ys (by omega) h3 xs.length 0 (by omega) k (by omega)
        simp only [List.drop_zero] at this
        have e0 : slices_Equal_uint16_uint16.l0 k xs ys (xs.length : Int) 0 = some (decide (xs = ys)) := this
        rw [e0]; simp [h1, h2]
      · rw [if_neg (by omega)]
        have : xs ≠ ys := fun h => h3 (by rw [h])
        simp [this]
    · rw [if_neg h2]; simp [h2]
  · rw [if_neg h1]; simp [h1]

end Go.Proofs.Ytikdnhhegknplaa.M
