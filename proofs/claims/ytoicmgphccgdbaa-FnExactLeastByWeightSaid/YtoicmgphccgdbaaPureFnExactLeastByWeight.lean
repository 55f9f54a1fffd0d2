/- Proved: the program's LeastByWeight answers as the reference's for every number of lies and state. No conditions. -/
import Derived.Test.YtoicmgphccgdbaaLSWeight
import Derived.Test.YtoicmgphccgdbaaMx13
import Derived.Test.YtoicmgphccgdbaaMx14
import Derived.Test.YtoicmgphccgdbaaSFnExactLeastByWeight
namespace Go.Proofs.Ytoicmgphccgdbaa.Pure
open Go.RowKit Go.Proofs.Ytoicmgphccgdbaa.M Go.Proofs.YtoicmgphccgdbaaW.PrintWords Go.Proofs.YtoicmgphccgdbaaW.PrintLast Go.Proofs.YtoicmgphccgdbaaW.PrintMore
set_option linter.unusedVariables false
set_option linter.unusedSimpArgs false

theorem sums20 : chS 20 1 1 0 0 = 1 ∧ chS 20 2 1 0 0 = 21 ∧ chS 20 3 1 0 0 = 211 ∧ chS 20 4 1 0 0 = 1351 := by decide +kernel
theorem part20 {x0 j v : Int} (h0 : 0 ≤ x0) (h3 : x0 ≤ 3) (hj : 0 ≤ j) (hj2 : j ≤ x0) (v0 : 0 ≤ v) (v1 : v ≤ 60) : 0 ≤ partW x0 20 j v ∧ partW x0 20 j v ≤ 81060 := by
  obtain ⟨s1, s2, s3, s4⟩ := sums20
  unfold partW
  have : x0 - j = 0 ∨ x0 - j = 1 ∨ x0 - j = 2 ∨ x0 - j = 3 := by omega
  rcases this with e | e | e | e <;> rw [e]
  · rw [show ((0 : Int) + 1).toNat = 1 from rfl, s1, wrap_in (by omega) (by omega)]; omega
  · rw [show ((1 : Int) + 1).toNat = 2 from rfl, s2, wrap_in (by omega) (by omega)]; omega
  · rw [show ((2 : Int) + 1).toNat = 3 from rfl, s3, wrap_in (by omega) (by omega)]; omega
  · rw [show ((3 : Int) + 1).toNat = 4 from rfl, s4, wrap_in (by omega) (by omega)]; omega
theorem weight20 {x0 a b c d : Int} (g : GoodState x0 a b c d) : weightW x0 20 a b c d ≤ 1048576 := by
  have p0 := part20 (j := 0) (v := a) g.n0 g.n3 (by omega) g.n0 g.a0 g.a1
  have e0 : wrap64 (0 + partW x0 20 0 a) = partW x0 20 0 a := by unfold wrap64; omega
  unfold weightW
  simp only [e0]
  by_cases c1 : 1 ≤ x0
  · have p1 := part20 (j := 1) (v := b) g.n0 g.n3 (by omega) c1 g.b0 g.b1
    simp only [if_pos c1]
    rw [show wrap64 (partW x0 20 0 a + partW x0 20 1 b) = partW x0 20 0 a + partW x0 20 1 b by unfold wrap64; omega]
    by_cases c2 : 2 ≤ x0
    · have p2 := part20 (j := 2) (v := c) g.n0 g.n3 (by omega) c2 g.c0 g.c1
      simp only [if_pos c2]
      rw [show wrap64 (partW x0 20 0 a + partW x0 20 1 b + partW x0 20 2 c) = partW x0 20 0 a + partW x0 20 1 b + partW x0 20 2 c by unfold wrap64; omega]
      by_cases c3 : 3 ≤ x0
      · have p3 := part20 (j := 3) (v := d) g.n0 g.n3 (by omega) c3 g.d0 g.d1
        simp only [if_pos c3]
        unfold wrap64; omega
      · simp only [if_neg c3]; omega
    · simp only [if_neg c2, if_neg (show ¬ 3 ≤ x0 by omega)]; omega
  · simp only [if_neg c1, if_neg (show ¬ 2 ≤ x0 by omega), if_neg (show ¬ 3 ≤ x0 by omega)]; omega
theorem both_l0 {x0 a b c d : Int} (g : GoodState x0 a b c d) (r : Nat) : ∀ (n : Int), 0 ≤ n → n + r = 20 → ∀ k, r + 200 < k →
    ∃ v, spec_LeastByWeight.l0 k x0 n a b c d = some v ∧ impl_LeastByWeight.l0 k x0 n a b c d = some v := by
  induction r with
  | zero =>
    intro n h0 hn k hk
    obtain ⟨k, rfl⟩ : ∃ m, k = m + 1 := ⟨k - 1, by omega⟩
    have e : n = 20 := by omega
    subst e
    simp only [spec_LeastByWeight.l0, impl_LeastByWeight.l0]
    rw [specWeight_f g (by omega) (by omega) k (by omega), implWeight_f g k (by omega)]
    simp only [Option.bind_some]
    have w := weight20 g
    have e1 : shl .i64 1 20 = 1048576 := by decide
    have h20 : (0 : Int) ≤ 20 := by omega
    rw [show IntKind.u64.wrap 20 = 20 by decide, if_pos h20, if_pos h20, e1, if_neg (by omega), if_neg (by omega)]
    exact ⟨_, rfl, rfl⟩
  | succ r ih =>
    intro n h0 hn k hk
    obtain ⟨k, rfl⟩ : ∃ m, k = m + 1 := ⟨k - 1, by omega⟩
    simp only [spec_LeastByWeight.l0, impl_LeastByWeight.l0]
    rw [specWeight_f g (by omega) (by omega) k (by omega), implWeight_f g k (by omega)]
    simp only [Option.bind_some]
    have eu : IntKind.u64.wrap n = n := by simp only [IntKind.wrap, IntKind.bits, IntKind.signed, Bool.false_and, Bool.false_eq_true, if_false]; omega
    rw [eu, if_pos h0, if_pos h0, show wrap64 (n + 1) = n + 1 from wrap_in (by omega) (by omega)]
    by_cases q : weightW x0 n a b c d > shl .i64 1 n
    · rw [if_pos q, if_pos q]; exact ih (n + 1) (by omega) (by omega) k (by omega)
    · rw [if_neg q, if_neg q]; exact ⟨_, rfl, rfl⟩
theorem both (x0 a b c d : Int) : ∃ v, spec_LeastByWeight.f 300 x0 a b c d = some v ∧ impl_LeastByWeight.f 300 x0 a b c d = some v := by
  obtain ⟨v, e, g⟩ := valid_some x0 a b c d 300 (by omega)
  unfold spec_LeastByWeight.f impl_LeastByWeight.f
  rw [valid_f, e]
  simp only [Option.bind_some]
  cases v
  · exact ⟨(0, 1), rfl, rfl⟩
  · exact both_l0 (g rfl) 20 0 (by omega) (by omega) 300 (by omega)
theorem FnExactLeastByWeight : laws_FnExactLeastByWeight.Pure := by
  intro x0 a b c d _ _ _ _ _
  refine ⟨300, ?_⟩
  unfold laws_FnExactLeastByWeight.f
  rw [toState_f a b c d 300 (by omega)]
  simp only [Option.bind_some]
  obtain ⟨v, e, f⟩ := both x0 a b c d
  rw [e, f]
  simp

end Go.Proofs.Ytoicmgphccgdbaa.Pure
