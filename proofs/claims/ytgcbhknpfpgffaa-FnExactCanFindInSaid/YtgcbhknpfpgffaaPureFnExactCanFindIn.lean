/- Proved: the program's CanFindIn answers as the reference's for every number of lies, state and number of questions. No conditions. -/
import Derived.Test.YtgcbhknpfpgffaaCx1
import Derived.Test.YtgcbhknpfpgffaaCx4
import Derived.Test.YtgcbhknpfpgffaaCx5
import Derived.Test.YtgcbhknpfpgffaaCx9
import Derived.Test.YtgcbhknpfpgffaaLCanC
import Derived.Test.YtgcbhknpfpgffaaLFCanIC
import Derived.Test.YtgcbhknpfpgffaaLFCanSC
import Derived.Test.YtgcbhknpfpgffaaLFSplitC
import Derived.Test.YtgcbhknpfpgffaaLSBaseC
import Derived.Test.YtgcbhknpfpgffaaLSWeightC
import Derived.Test.YtgcbhknpfpgffaaSFnExactCanFindIn
namespace Go.Proofs.Ytgcbhknpfpgffaa.Pure
open Go.RowKit Go.Proofs.Ytgcbhknpfpgffaa.C Go.Proofs.YtgcbhknpfpgffaaW.PrintWords Go.Proofs.YtgcbhknpfpgffaaW.PrintLast Go.Proofs.YtgcbhknpfpgffaaW.PrintMore
set_option linter.unusedVariables false
set_option linter.unusedSimpArgs false

theorem zpe (a b c d : Int) (k : Nat) (hk : 4 < k) : laws_toState.f k a b c d = some (a, b, c, d) := by
  obtain ⟨k, rfl⟩ : ∃ m, k = m + 1 + 1 + 1 + 1 + 1 := ⟨k - 5, by omega⟩
  unfold laws_toState.f
  simp [laws_toState.l0, zqa, w1, w2, w3, w4, rd0, rd1, rd2, rd3]
theorem zze (n : Int) (q : Nat) : Inv n q zqc := by
  refine ⟨by unfold zqc; rw [List.length_replicate], fun r y _ _ => .inl ?_⟩
  unfold rd zqc
  rw [List.getD_eq_getElem?_getD, List.getElem?_replicate]
  split <;> rfl
theorem K0_big : 100000 ≤ K0 := by unfold K0; omega
theorem both (a0 x0 x1 x2 x3 q : Int) : ∃ v, spec_CanFindIn.f a0 x0 x1 x2 x3 q = some v ∧ impl_CanFindIn.f a0 x0 x1 x2 x3 q = some v := by
  obtain ⟨v, e, g⟩ := zfe a0 x0 x1 x2 x3 K0 (by have := K0_big; omega)
  unfold spec_CanFindIn.f impl_CanFindIn.f zgc impl_exactCode.f
  rw [valid_f, e]
  simp only [Option.bind_some]
  cases v with
  | false => exact ⟨(false, 1), rfl, rfl⟩
  | true =>
    have g := g rfl
    unfold spec_l00In.f impl_within.f
    simp only [if_true]
    by_cases c1 : 0 ≤ q
    · rw [if_pos (show q ≥ 0 from c1)]
      by_cases c2 : q ≤ 20
      · rw [decide_eq_true c2]
        simp only [Option.bind_some, if_true]
        unfold spec_l06Total.f impl_State_sum.f impl_unless.f
        simp only [Option.bind_some]
        obtain ⟨n0, n3, a0', a1, b0, b1, c0, c1', d0, d1, zb, zc, zd⟩ := id g
        rw [zse x0 x1 x2 x3 ⟨a0', b0, c0, d0, by omega⟩]
        by_cases c3 : x0 + x1 + x2 + x3 ≤ 8
        · rw [if_neg (show ¬ x0 + x1 + x2 + x3 > 8 by omega), decide_eq_true c3]
          simp only [Option.bind_some, if_true]
          have gs : GS a0 (x0, x1, x2, x3) := ⟨n0, n3, a0', b0, c0, d0, c3, zb, zc, zd⟩
          obtain ⟨j, rfl⟩ : ∃ j : Nat, q = j := ⟨q.toNat, by omega⟩
          obtain ⟨b, st, e1, _, i1⟩ := zne a0 j (by omega) 30 (by omega) zqc (x0, x1, x2, x3) (zze a0 j) gs
          obtain ⟨b', st', e2, _, i2⟩ := canI_spec a0 j (by omega) 30 (by omega) [] (x0, x1, x2, x3) ⟨fun e he => absurd he (by simp), by simp⟩ gs
          have hb : b = b' := by
            cases b <;> cases b'
            · rfl
            · exact absurd (i1.mpr (i2.mp rfl)) (by decide)
            · exact absurd (i2.mpr (i1.mp rfl)) (by decide)
            · rfl
          subst hb
          have e1' : canS 30 zqc a0 x0 x1 x2 x3 (j : Int) = some (b, st) := e1
          have e2' : canI 30 [] a0 x0 x1 x2 x3 (j : Int) = some (b, st') := e2
          rw [e1', e2']
          exact ⟨(b, 0), rfl, rfl⟩
        · rw [if_pos (show x0 + x1 + x2 + x3 > 8 by omega), decide_eq_false c3]
          exact ⟨(false, 3), rfl, rfl⟩
      · rw [decide_eq_false c2]
        exact ⟨(false, 2), rfl, rfl⟩
    · rw [if_neg (show ¬ q ≥ 0 from c1)]
      exact ⟨(false, 2), rfl, rfl⟩
theorem FnExactCanFindIn : laws_FnExactCanFindIn.Pure := by
  intro a0 x0 x1 x2 x3 q _ _ _ _ _ _
  refine ⟨10, ?_⟩
  unfold laws_FnExactCanFindIn.f
  rw [zpe x0 x1 x2 x3 10 (by omega)]
  simp only [Option.bind_some]
  obtain ⟨v, e1, e2⟩ := both a0 x0 x1 x2 x3 q
  rw [e1, e2]
  simp

end Go.Proofs.Ytgcbhknpfpgffaa.Pure
