/- Proved: the program's HalfOf answers as the reference's for every number of lies and state. No conditions. -/
import Derived.Test.YtoicmgphccgdbaaLSBaseX
import Derived.Test.YtoicmgphccgdbaaSFnExactHalfOf
namespace Go.Proofs.Ytoicmgphccgdbaa.Pure
open Go.RowKit Go.Proofs.Ytoicmgphccgdbaa.X Go.Proofs.YtoicmgphccgdbaaW.PrintWords Go.Proofs.YtoicmgphccgdbaaW.PrintLast Go.Proofs.YtoicmgphccgdbaaW.PrintMore
set_option linter.unusedVariables false
set_option linter.unusedSimpArgs false

theorem toState_f (a b c d : Int) (k : Nat) (hk : 4 < k) : laws_toState.f k a b c d = some (a, b, c, d) := by
  obtain ⟨k, rfl⟩ : ∃ m, k = m + 1 + 1 + 1 + 1 + 1 := ⟨k - 5, by omega⟩
  unfold laws_toState.f
  simp [laws_toState.l0, pickA, w1, w2, w3, w4, rd0, rd1, rd2, rd3]
theorem eqState_f (a b c d : Int) (k : Nat) (hk : 4 < k) : laws_eqState.f k a b c d a b c d = some true := by
  obtain ⟨k, rfl⟩ : ∃ m, k = m + 1 + 1 + 1 + 1 + 1 := ⟨k - 5, by omega⟩
  unfold laws_eqState.f
  simp [laws_eqState.l0, w1, w2, w3, w4]
theorem wrap_wrap (x : Int) : wrap64 (wrap64 x) = wrap64 x := by unfold wrap64; omega
theorem w10 : wrap64 (1 - 1) = 0 := by unfold wrap64; omega
theorem w11 : wrap64 (1 - 0) = 1 := by unfold wrap64; omega
theorem pk00 (a b : Int) : pickA 0 0 a b = a := rfl
theorem pk01 (a b : Int) : pickA 0 1 a b = b := rfl
theorem pk02 (a b : Int) : pickA 0 2 a b = b := rfl
theorem pk03 (a b : Int) : pickA 0 3 a b = b := rfl
theorem pk10 (a b : Int) : pickA 1 0 a b = b := rfl
theorem pk11 (a b : Int) : pickA 1 1 a b = a := rfl
theorem pk12 (a b : Int) : pickA 1 2 a b = b := rfl
theorem pk13 (a b : Int) : pickA 1 3 a b = b := rfl
theorem pk20 (a b : Int) : pickA 2 0 a b = b := rfl
theorem pk21 (a b : Int) : pickA 2 1 a b = b := rfl
theorem pk22 (a b : Int) : pickA 2 2 a b = a := rfl
theorem pk23 (a b : Int) : pickA 2 3 a b = b := rfl
theorem pk30 (a b : Int) : pickA 3 0 a b = b := rfl
theorem pk31 (a b : Int) : pickA 3 1 a b = b := rfl
theorem pk32 (a b : Int) : pickA 3 2 a b = b := rfl
theorem pk33 (a b : Int) : pickA 3 3 a b = a := rfl
def upI (u : Bool) : Int := if u = true then 1 else 0
/-- Both sides halve in the same rounds. -/
theorem half_l0 (a b c d : Int) : ∀ (k : Nat) (u : Bool) (j o0 o1 o2 o3 : Int), spec_l06Half.l0 k (upI u) j a b c d o0 o1 o2 o3 = impl_State_half.l0 k u j o0 o1 o2 o3 a b c d := by
  intro k
  induction k with
  | zero => intro u j o0 o1 o2 o3; rfl
  | succ k ih =>
    intro u j o0 o1 o2 o3
    simp only [spec_l06Half.l0, impl_State_half.l0]
    by_cases h4 : j < 4
    · rw [if_pos h4, if_pos h4]
      by_cases h0 : 0 ≤ j
      · rw [if_pos h0, if_pos h0]
        have hj : j = 0 ∨ j = 1 ∨ j = 2 ∨ j = 3 := by omega
        rcases hj with rfl | rfl | rfl | rfl
        all_goals
          simp only [pk00, pk01, pk02, pk03, pk10, pk11, pk12, pk13, pk20, pk21, pk22, pk23, pk30, pk31, pk32, pk33, rd0, rd1, rd2, rd3]
          cases u
          · rw [show upI false = 0 from rfl, w11]
            simp only [Int.add_zero, wrap_wrap, Bool.not_false, Bool.false_eq_true, if_false]
            rw [show (1 : Int) = upI true from rfl, show (0 : Int) = upI false from rfl] <;> simp only [ih]
          · rw [show upI true = 1 from rfl, w10]
            simp only [Bool.not_true, if_true]
            have e1 := ih true
            have e0 := ih false
            rw [show upI true = 1 from rfl] at e1
            rw [show upI false = 0 from rfl] at e0
            simp only [e0, e1]
      · rw [if_neg h0, if_neg h0]
    · rw [if_neg h4, if_neg h4]
theorem half_step (a b c d : Int) (k : Nat) (u : Bool) {j j' : Int} (h4 : j < 4) (h0 : 0 ≤ j) (hj : wrap64 (j + 1) = j') (o0 o1 o2 o3 : Int) :
    ∃ u' p0 p1 p2 p3, impl_State_half.l0 (k + 1) u j o0 o1 o2 o3 a b c d = impl_State_half.l0 k u' j' p0 p1 p2 p3 a b c d := by
  simp only [impl_State_half.l0]
  rw [if_pos h4, if_pos h0, hj]
  split
  · split
    · exact ⟨_, _, _, _, _, rfl⟩
    · exact ⟨_, _, _, _, _, rfl⟩
  · exact ⟨_, _, _, _, _, rfl⟩
theorem half_some (a b c d : Int) (k : Nat) (hk : 4 < k) : ∃ v, impl_State_half.f k a b c d = some v := by
  obtain ⟨k, rfl⟩ : ∃ m, k = m + 1 + 1 + 1 + 1 + 1 := ⟨k - 5, by omega⟩
  unfold impl_State_half.f
  obtain ⟨u1, p0, p1, p2, p3, e1⟩ := half_step a b c d (k + 1 + 1 + 1 + 1) true (j := 0) (by omega) (by omega) w01 0 0 0 0
  obtain ⟨u2, q0, q1, q2, q3, e2⟩ := half_step a b c d (k + 1 + 1 + 1) u1 (j := 1) (by omega) (by omega) w12 p0 p1 p2 p3
  obtain ⟨u3, r0, r1, r2, r3, e3⟩ := half_step a b c d (k + 1 + 1) u2 (j := 2) (by omega) (by omega) w23 q0 q1 q2 q3
  obtain ⟨u4, s0, s1, s2, s3, e4⟩ := half_step a b c d (k + 1) u3 (j := 3) (by omega) (by omega) w34 r0 r1 r2 r3
  rw [e1, e2, e3, e4]
  exact ⟨_, rfl⟩
theorem half_f (a b c d : Int) (k : Nat) : spec_l06Half.f k a b c d = impl_State_half.f k a b c d := half_l0 a b c d k true 0 0 0 0 0
theorem FnExactHalfOf : laws_FnExactHalfOf.Pure := by
  intro x0 a b c d _ _ _ _ _
  refine ⟨20, ?_⟩
  unfold laws_FnExactHalfOf.f spec_HalfOf.f impl_HalfOf.f
  rw [toState_f a b c d 20 (by omega)]
  simp only [Option.bind_some]
  obtain ⟨v, e, _⟩ := valid_some x0 a b c d 20 (by omega)
  obtain ⟨⟨h0, h1, h2, h3⟩, f⟩ := half_some a b c d 20 (by omega)
  rw [valid_f, e, half_f, f]
  simp only [Option.bind_some]
  cases v
  · simp only [Bool.false_eq_true, if_false, Option.bind_some]
    rw [eqState_f 0 0 0 0 20 (by omega)]
    rfl
  · simp only [if_true, Option.bind_some]
    rw [eqState_f h0 h1 h2 h3 20 (by omega)]
    rfl

end Go.Proofs.Ytoicmgphccgdbaa.Pure
