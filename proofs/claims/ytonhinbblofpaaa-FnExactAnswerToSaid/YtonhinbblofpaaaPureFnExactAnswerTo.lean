/- Proved: the reference's and the program's answer to whether a number is in a set are the same, for every set, number and truth of the answer. No conditions. -/
import Derived.Test.YtonhinbblofpaaaPFnExactAnswerTox1
namespace Go.Proofs.Ytonhinbblofpaaa.Pure
open Go.RowKit Go.Proofs.Ytonhinbblofpaaa.PFnExactAnswerTo Go.Proofs.YtonhinbblofpaaaW.PrintWords Go.Proofs.YtonhinbblofpaaaW.PrintLast

theorem and63_fin : ∀ n : Fin 64, Go.bits .and .i64 (n.val : Int) 63 = (n.val : Int) := by decide +kernel
theorem and63 (a : Int) (h0 : 0 ≤ a) (h1 : a ≤ 63) : Go.bits .and .i64 a 63 = a := by
  obtain ⟨n, rfl⟩ := Int.eq_ofNat_of_zero_le h0
  exact and63_fin ⟨n, by omega⟩
theorem u64_small (a : Int) (h0 : 0 ≤ a) (h1 : a ≤ 63) : IntKind.u64.wrap a = a := by
  simp [IntKind.wrap, IntKind.bits, IntKind.signed]
  omega
theorem mx_zero (a : Int) (h0 : 0 ≤ a) : mx a 0 = a := by unfold mx; rw [if_neg (by omega)]

theorem FnExactAnswerTo : laws_FnExactAnswerTo.Pure := by
  intro a0 a1 a2 w0 w1
  unfold laws_FnExactAnswerTo.f spec_AnswerTo.f impl_AnswerTo.f spec_l00In.f impl_within.f
  by_cases h0 : 0 ≤ a1
  · by_cases h1 : a1 ≤ 63
    · rw [if_pos (show a1 ≥ 0 from h0)]
      simp only [Option.bind_some, decide_eq_true h1, if_true]
      rw [and63 a1 h0 h1, u64_small a1 h0 h1, if_pos h0, mx_zero a1 h0]
      simp only [Option.bind_some, bne_self_eq_false, Bool.false_eq_true, if_false]
    · rw [if_pos (show a1 ≥ 0 from h0)]
      simp [h1]
  · rw [if_neg (show ¬ a1 ≥ 0 from h0)]
    simp

end Go.Proofs.Ytonhinbblofpaaa.Pure
