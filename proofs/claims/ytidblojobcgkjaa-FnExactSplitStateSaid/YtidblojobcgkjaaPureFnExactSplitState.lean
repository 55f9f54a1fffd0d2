/- Proved: the program's SplitState answers as the reference's for every number of lies, state and question. No conditions. -/
import Derived.Test.YtidblojobcgkjaaLSBaseX
import Derived.Test.YtidblojobcgkjaaSFnExactSplitState
namespace Go.Proofs.Ytidblojobcgkjaa.Pure
open Go.RowKit Go.Proofs.Ytidblojobcgkjaa.M Go.Proofs.YtidblojobcgkjaaW.PrintWords Go.Proofs.YtidblojobcgkjaaW.PrintLast Go.Proofs.YtidblojobcgkjaaW.PrintMore
set_option linter.unusedVariables false
set_option linter.unusedSimpArgs false

theorem toState_f (a b c d : Int) (k : Nat) (hk : 4 < k) : laws_toState.f k a b c d = some (a, b, c, d) := by
  obtain ⟨k, rfl⟩ : ∃ m, k = m + 1 + 1 + 1 + 1 + 1 := ⟨k - 5, by omega⟩
  unfold laws_toState.f
  simp [laws_toState.l0, pickA, w1, w2, w3, w4, rd0, rd1, rd2, rd3]
theorem eqState_f (a b c d : Int) (k : Nat) (hk : 4 < k) : laws_eqState.f k a b c d a b c d = some true := by
  obtain ⟨k, rfl⟩ : ∃ m, k = m + 1 + 1 + 1 + 1 + 1 := ⟨k - 5, by omega⟩
  unfold laws_eqState.f
  simp [laws_eqState.l0, w1, w2, w3, w4]
/-- Both sides test a question in the same rounds. -/
theorem within_l0 (p q r s a b c d : Int) : ∀ (k : Nat) (j : Int), spec_l06Within.l0 k j p q r s a b c d = impl_isAsk.l0 k j a b c d p q r s := by
  intro k
  induction k with
  | zero => intro j; rfl
  | succ k ih =>
    intro j
    simp only [spec_l06Within.l0, impl_isAsk.l0, spec_l00In.f, impl_within.f, ge_iff_le, ih]
theorem within_step {p q r s a b c d : Int} {k : Nat} {j j' x y : Int} (h4 : j < 4) (h0 : 0 ≤ j) (hx : rd [p, q, r, s] j = x) (hy : rd [a, b, c, d] j = y) (hj : wrap64 (j + 1) = j') :
    spec_l06Within.l0 (k + 1) j p q r s a b c d = some false ∨ (0 ≤ x ∧ x ≤ y ∧ spec_l06Within.l0 (k + 1) j p q r s a b c d = spec_l06Within.l0 k j' p q r s a b c d) := by
  simp only [spec_l06Within.l0, spec_l00In.f]
  rw [if_pos h4, if_pos h0, hx, hy, hj]
  by_cases c1 : 0 ≤ x
  · rw [if_pos (show x ≥ 0 from c1)]
    by_cases c2 : x ≤ y
    · right; refine ⟨c1, c2, ?_⟩; simp only [Option.bind_some, decide_eq_true c2, if_true]
    · left; simp only [Option.bind_some, decide_eq_false c2, Bool.false_eq_true, if_false]
  · left; rw [if_neg (show ¬ x ≥ 0 from c1)]; simp
/-- What a valid question bears. -/
structure GoodAsk (p q r s a b c d : Int) : Prop where
  p0 : 0 ≤ p
  p1 : p ≤ a
  q0 : 0 ≤ q
  q1 : q ≤ b
  r0 : 0 ≤ r
  r1 : r ≤ c
  s0 : 0 ≤ s
  s1 : s ≤ d
theorem within_some (p q r s a b c d : Int) (k : Nat) (hk : 4 < k) : ∃ v, spec_l06Within.f k p q r s a b c d = some v ∧ (v = true → GoodAsk p q r s a b c d) := by
  obtain ⟨k, rfl⟩ : ∃ m, k = m + 1 + 1 + 1 + 1 + 1 := ⟨k - 5, by omega⟩
  unfold spec_l06Within.f
  rcases within_step (k := k + 1 + 1 + 1 + 1) (by omega) (by omega) (rd0 p q r s) (rd0 a b c d) w01 with e | ⟨p0, p1, e⟩
  · exact ⟨false, e, fun h => by simp at h⟩
  rcases within_step (k := k + 1 + 1 + 1) (by omega) (by omega) (rd1 p q r s) (rd1 a b c d) w12 with f | ⟨q0, q1, f⟩
  · exact ⟨false, e.trans f, fun h => by simp at h⟩
  rcases within_step (k := k + 1 + 1) (by omega) (by omega) (rd2 p q r s) (rd2 a b c d) w23 with g | ⟨r0, r1, g⟩
  · exact ⟨false, e.trans (f.trans g), fun h => by simp at h⟩
  rcases within_step (k := k + 1) (by omega) (by omega) (rd3 p q r s) (rd3 a b c d) w34 with i | ⟨s0, s1, i⟩
  · exact ⟨false, e.trans (f.trans (g.trans i)), fun h => by simp at h⟩
  exact ⟨true, e.trans (f.trans (g.trans (i.trans rfl))), fun _ => ⟨p0, p1, q0, q1, r0, r1, s0, s1⟩⟩
theorem split_f (n a b c d p q r s : Int) (h : GoodState n a b c d) (g : GoodAsk p q r s a b c d) (k : Nat) (hk : 4 < k) :
    spec_l06Split.f k n a b c d p q r s = impl_State_split.f k a b c d n p q r s ∧ ∃ v, impl_State_split.f k a b c d n p q r s = some v := by
  obtain ⟨k, rfl⟩ : ∃ m, k = m + 1 + 1 + 1 + 1 + 1 := ⟨k - 5, by omega⟩
  obtain ⟨n0, n3, a0, a1, b0, b1, c0, c1, d0, d1, zb, zc, zd⟩ := h
  obtain ⟨p0, p1, q0, q1, r0, r1, s0, s1⟩ := g
  unfold spec_l06Split.f impl_State_split.f
  have hn : n = 0 ∨ n = 1 ∨ n = 2 ∨ n = 3 := by omega
  rcases hn with rfl | rfl | rfl | rfl
  · constructor
    · simp [spec_l06Split.l0, impl_State_split.l0, w1]
      refine ⟨?_, ?_⟩ <;> unfold wrap64 <;> omega
    · simp [impl_State_split.l0, w1]
  · constructor
    · simp [spec_l06Split.l0, impl_State_split.l0, w1, w2]
      refine ⟨?_, ?_, ?_, ?_⟩ <;> unfold wrap64 <;> omega
    · simp [impl_State_split.l0, w2]
  · constructor
    · simp [spec_l06Split.l0, impl_State_split.l0, w1, w2, w3]
      refine ⟨?_, ?_, ?_, ?_, ?_, ?_⟩ <;> unfold wrap64 <;> omega
    · simp [impl_State_split.l0, w3]
  · constructor
    · simp [spec_l06Split.l0, impl_State_split.l0, w1, w2, w3, w4]
      refine ⟨?_, ?_, ?_, ?_, ?_, ?_, ?_, ?_⟩ <;> unfold wrap64 <;> omega
    · simp [impl_State_split.l0, w4]
theorem FnExactSplitState : laws_FnExactSplitState.Pure := by
  intro n a b c d p q r s _ _ _ _ _ _ _ _ _
  refine ⟨20, ?_⟩
  unfold laws_FnExactSplitState.f spec_SplitState.f impl_SplitState.f
  rw [toState_f a b c d 20 (by omega), toState_f p q r s 20 (by omega)]
  simp only [Option.bind_some]
  obtain ⟨v, e, hv⟩ := valid_some n a b c d 20 (by omega)
  obtain ⟨u, f, hu⟩ := within_some p q r s a b c d 20 (by omega)
  rw [valid_f, e, f, show impl_isAsk.f 20 a b c d p q r s = some u from (within_l0 p q r s a b c d 20 0).symm.trans f]
  simp only [Option.bind_some]
  cases v
  · simp only [Bool.false_eq_true, if_false, Option.bind_some]
    rw [eqState_f 0 0 0 0 20 (by omega)]
    rfl
  · cases u
    · simp only [Bool.false_eq_true, if_false, if_true, Option.bind_some]
      rw [eqState_f 0 0 0 0 20 (by omega)]
      rfl
    · obtain ⟨g1, ⟨⟨h0, h1, h2, h3, h4, h5, h6, h7⟩, g2⟩⟩ := split_f n a b c d p q r s (hv rfl) (hu rfl) 20 (by omega)
      rw [g1, g2]
      simp only [if_true, Option.bind_some]
      rw [eqState_f h0 h1 h2 h3 20 (by omega)]
      simp only [if_true, Option.bind_some]
      rw [eqState_f h4 h5 h6 h7 20 (by omega)]
      rfl

end Go.Proofs.Ytidblojobcgkjaa.Pure
