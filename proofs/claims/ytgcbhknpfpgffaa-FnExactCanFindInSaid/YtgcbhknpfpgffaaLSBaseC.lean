/- States of the liars' game: copying, and the one test of both sides. -/
import Derived.Test.YtgcbhknpfpgffaaCx1
import Derived.Test.YtgcbhknpfpgffaaCx4
import Derived.Test.YtgcbhknpfpgffaaCx5
namespace Go.Proofs.Ytgcbhknpfpgffaa.C
open Go.RowKit Go.Proofs.YtgcbhknpfpgffaaW.PrintWords Go.Proofs.YtgcbhknpfpgffaaW.PrintLast Go.Proofs.YtgcbhknpfpgffaaW.PrintMore
set_option linter.unusedVariables false
set_option linter.unusedSimpArgs false

theorem next_i {j n : Nat} (h : j < n) (hn : n ≤ 140737488355328) : wrap64 ((j : Int) + 1) = ((j + 1 : Nat) : Int) := by
  unfold wrap64; omega
theorem rd_at (xs : List Int) (j : Nat) : rd xs (j : Int) = xs.getD j 0 := by unfold rd; rw [Int.toNat_natCast]
theorem getD_at (xs : List Int) (j : Nat) (h : j < xs.length) : xs[j]? = some (xs.getD j 0) := by
  rw [List.getD_eq_getElem?_getD, List.getElem?_eq_getElem h]; rfl
theorem drop_at (xs : List Int) (j : Nat) (h : j < xs.length) : xs.drop j = xs.getD j 0 :: xs.drop (j + 1) := by
  rw [List.getD_eq_getElem?_getD, List.getElem?_eq_getElem h, Option.getD_some]
  exact List.drop_eq_getElem_cons h

theorem i64_wf {a : Int} (h : (Lit.int .i64 a).wf = true) : -9223372036854775808 ≤ a ∧ a ≤ 9223372036854775807 := by simpa [Lit.wf, IntKind.min, IntKind.max, IntKind.signed, IntKind.bits] using h
theorem w01 : wrap64 (0 + 1) = 1 := by unfold wrap64; omega
theorem w12 : wrap64 (1 + 1) = 2 := by unfold wrap64; omega
theorem w23 : wrap64 (2 + 1) = 3 := by unfold wrap64; omega
theorem w34 : wrap64 (3 + 1) = 4 := by unfold wrap64; omega
theorem w1 : wrap64 1 = 1 := by unfold wrap64; omega
theorem w2 : wrap64 2 = 2 := by unfold wrap64; omega
theorem w3 : wrap64 3 = 3 := by unfold wrap64; omega
theorem w4 : wrap64 4 = 4 := by unfold wrap64; omega
theorem rd0 (a b c d : Int) : rd [a, b, c, d] 0 = a := rfl
theorem rd1 (a b c d : Int) : rd [a, b, c, d] 1 = b := rfl
theorem rd2 (a b c d : Int) : rd [a, b, c, d] 2 = c := rfl
theorem rd3 (a b c d : Int) : rd [a, b, c, d] 3 = d := rfl
/-- Both sides test a state in the same rounds. -/
theorem valid_l0 (a0 a b c d : Int) : ∀ (k : Nat) (j : Int), spec_l06Valid.l0 k a0 j a b c d = impl_ValidState.l0 k a0 j a b c d a b c d := by
  intro k
  induction k with
  | zero => intro j; rfl
  | succ k ih =>
    intro j
    simp only [spec_l06Valid.l0, impl_ValidState.l0, spec_l00In.f, impl_within.f, spec_l06Total.f, impl_State_sum.f, ge_iff_le, ih]
theorem valid_f (a0 a b c d : Int) (k : Nat) : impl_ValidState.f k a0 a b c d = spec_l06Valid.f k a0 a b c d := by
  unfold impl_ValidState.f spec_l06Valid.f impl_within.f spec_l00In.f
  simp only [ge_iff_le, valid_l0]
/-- What a valid state bears. -/
structure zec (n a b c d : Int) : Prop where
  n0 : 0 ≤ n
  n3 : n ≤ 3
  a0 : 0 ≤ a
  a1 : a ≤ 60
  b0 : 0 ≤ b
  b1 : b ≤ 60
  c0 : 0 ≤ c
  c1 : c ≤ 60
  d0 : 0 ≤ d
  d1 : d ≤ 60
  zb : n < 1 → b = 0
  zc : n < 2 → c = 0
  zd : n < 3 → d = 0
theorem zac {a0 a b c d : Int} {k : Nat} {j j' x : Int} (h4 : j < 4) (h0 : 0 ≤ j) (hx : rd [a, b, c, d] j = x) (hj : wrap64 (j + 1) = j') :
    spec_l06Valid.l0 (k + 1) a0 j a b c d = some false ∨ (0 ≤ x ∧ x ≤ 60 ∧ (a0 < j → x = 0) ∧ spec_l06Valid.l0 (k + 1) a0 j a b c d = spec_l06Valid.l0 k a0 j' a b c d) := by
  simp only [spec_l06Valid.l0, spec_l00In.f]
  rw [if_pos h4, if_pos h0, hx, hj]
  by_cases c1 : 0 ≤ x
  · rw [if_pos (show x ≥ 0 from c1)]
    by_cases c2 : x ≤ 60
    · simp only [Option.bind_some, decide_eq_true c2, if_true]
      by_cases c3 : j > a0
      · rw [if_pos c3]
        by_cases c4 : x = 0
        · rw [if_pos c4]; exact .inr ⟨c1, c2, fun _ => c4, rfl⟩
        · rw [if_neg c4]; exact .inl rfl
      · rw [if_neg c3]; exact .inr ⟨c1, c2, fun h => absurd h (by omega), rfl⟩
    · left; simp only [Option.bind_some, decide_eq_false c2, Bool.false_eq_true, if_false]
  · left; rw [if_neg (show ¬ x ≥ 0 from c1)]; simp
theorem zfe (a0 a b c d : Int) (k : Nat) (hk : 4 < k) : ∃ v, spec_l06Valid.f k a0 a b c d = some v ∧ (v = true → zec a0 a b c d) := by
  obtain ⟨k, rfl⟩ : ∃ m, k = m + 1 + 1 + 1 + 1 + 1 := ⟨k - 5, by omega⟩
  unfold spec_l06Valid.f spec_l00In.f
  by_cases h0 : 0 ≤ a0
  · rw [if_pos (show a0 ≥ 0 from h0)]
    by_cases h3 : a0 ≤ 3
    · simp only [Option.bind_some, decide_eq_true h3, if_true]
      rcases zac (a0 := a0) (k := k + 1 + 1 + 1 + 1) (by omega) (by omega) (rd0 a b c d) w01 with e | ⟨p0, p1, p2, e⟩
      · exact ⟨false, e, fun h => by simp at h⟩
      rcases zac (a0 := a0) (k := k + 1 + 1 + 1) (by omega) (by omega) (rd1 a b c d) w12 with f | ⟨q0, q1, q2, f⟩
      · exact ⟨false, e.trans f, fun h => by simp at h⟩
      rcases zac (a0 := a0) (k := k + 1 + 1) (by omega) (by omega) (rd2 a b c d) w23 with g | ⟨r0, r1, r2, g⟩
      · exact ⟨false, e.trans (f.trans g), fun h => by simp at h⟩
      rcases zac (a0 := a0) (k := k + 1) (by omega) (by omega) (rd3 a b c d) w34 with i | ⟨s0, s1, s2, i⟩
      · exact ⟨false, e.trans (f.trans (g.trans i)), fun h => by simp at h⟩
      refine ⟨_, e.trans (f.trans (g.trans (i.trans (show spec_l06Valid.l0 (k + 1) a0 4 a b c d = some (decide (wrap64 (wrap64 (wrap64 (a + b) + c) + d) ≤ 60)) from rfl)))), fun _ => ?_⟩
      exact ⟨h0, h3, p0, p1, q0, q1, r0, r1, s0, s1, fun h => q2 (by omega), fun h => r2 (by omega), fun h => s2 (by omega)⟩
    · exact ⟨false, by simp only [Option.bind_some, decide_eq_false h3, Bool.false_eq_true, if_false], fun h => by simp at h⟩
  · exact ⟨false, by rw [if_neg (show ¬ a0 ≥ 0 from h0)]; rfl, fun h => by simp at h⟩

end Go.Proofs.Ytgcbhknpfpgffaa.C
