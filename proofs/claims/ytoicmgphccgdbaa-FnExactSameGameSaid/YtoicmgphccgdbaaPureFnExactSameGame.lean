/- Proved: the program's SameGame answers as the reference's for every two games, and leaves them as they were. No conditions. -/
import Derived.Test.YtoicmgphccgdbaaLGBase
import Derived.Test.YtoicmgphccgdbaaSFnExactSameGame
namespace Go.Proofs.Ytoicmgphccgdbaa.Pure
open Go.RowKit Go.Proofs.Ytoicmgphccgdbaa.M Go.Proofs.YtoicmgphccgdbaaW.PrintWords Go.Proofs.YtoicmgphccgdbaaW.PrintLast Go.Proofs.YtoicmgphccgdbaaW.PrintMore
set_option linter.unusedVariables false
set_option linter.unusedSimpArgs false

theorem same_l0 (a b c e : Int) (xs ys : List S75) (k : Nat) : ∀ j : Int, spec_SameGame.l0 k j a b xs c e ys = impl_Ask_64.l0 k xs ys xs.length j := by
  induction k with
  | zero => intro j; rfl
  | succ k ih =>
    intro j
    simp only [spec_SameGame.l0, impl_Ask_64.l0, ih]
    by_cases h : j < (xs.length : Int)
    · simp only [if_pos h]
    · simp only [if_neg h]
theorem impl_some (xs ys : List S75) (hn : xs.length ≤ 140737488355328) (he : xs.length = ys.length) (d : Nat) : ∀ (j : Nat), j + d = xs.length → ∀ k, d < k →
    ∃ v, impl_Ask_64.l0 k xs ys xs.length j = some v := by
  induction d with
  | zero =>
    intro j hj k hk
    obtain ⟨k, rfl⟩ : ∃ m, k = m + 1 := ⟨k - 1, by omega⟩
    simp only [impl_Ask_64.l0]; rw [if_neg (by omega)]; exact ⟨_, rfl⟩
  | succ d ih =>
    intro j hj k hk
    obtain ⟨k, rfl⟩ : ∃ m, k = m + 1 := ⟨k - 1, by omega⟩
    simp only [impl_Ask_64.l0]
    rw [if_pos (by omega), if_pos (by omega), if_pos (by omega), if_pos (by omega), next_i (n := xs.length) (by omega) hn]
    split
    · exact ⟨_, rfl⟩
    · exact ih (j + 1) (by omega) k (by omega)
theorem impl_mono (xs ys : List S75) (hn : xs.length ≤ 140737488355328) (he : xs.length = ys.length) (d : Nat) : ∀ (j : Nat), j + d = xs.length → ∀ k k2, d < k → d < k2 →
    impl_Ask_64.l0 k xs ys xs.length j = impl_Ask_64.l0 k2 xs ys xs.length j := by
  induction d with
  | zero =>
    intro j hj k k2 hk hk2
    obtain ⟨k, rfl⟩ : ∃ m, k = m + 1 := ⟨k - 1, by omega⟩
    obtain ⟨k2, rfl⟩ : ∃ m, k2 = m + 1 := ⟨k2 - 1, by omega⟩
    simp only [impl_Ask_64.l0]; rw [if_neg (by omega), if_neg (by omega)]
  | succ d ih =>
    intro j hj k k2 hk hk2
    obtain ⟨k, rfl⟩ : ∃ m, k = m + 1 := ⟨k - 1, by omega⟩
    obtain ⟨k2, rfl⟩ : ∃ m, k2 = m + 1 := ⟨k2 - 1, by omega⟩
    simp only [impl_Ask_64.l0]
    rw [next_i (n := xs.length) (by omega) hn, ih (j + 1) (by omega) k k2 (by omega) (by omega)]
theorem both (a b c e : Int) (xs ys : List S75) (hn : xs.length ≤ 1048576) (k : Nat) (hk : 1048578 < k) :
    ∃ v, spec_SameGame.f (k + 1) a b xs c e ys = some v ∧ impl_SameGame.f (k + 1) a b xs c e ys = some v := by
  unfold spec_SameGame.f impl_SameGame.f impl_Ask_64.f
  by_cases h1 : a = c
  · rw [if_pos h1, if_pos h1]
    by_cases h2 : b = e
    · rw [if_pos h2, if_pos h2]
      by_cases h3 : (xs.length : Int) = (ys.length : Int)
      · rw [if_pos h3]
        have hb : ((xs.length : Int) != (ys.length : Int)) = false := by simp; omega
        rw [hb]
        simp only [spec_SameGame.j0, Bool.false_eq_true, if_false]
        obtain ⟨v, e1⟩ := impl_some xs ys (by omega) (by omega) xs.length 0 (by omega) k (by omega)
        obtain ⟨v2, e2⟩ := impl_some xs ys (by omega) (by omega) xs.length 0 (by omega) (k + 1) (by omega)
        have mono := impl_mono xs ys (by omega) (by omega) xs.length 0 (by omega) k (k + 1) (by omega) (by omega)
        have e1' : impl_Ask_64.l0 k xs ys xs.length 0 = some v := e1
        have e2' : impl_Ask_64.l0 (k + 1) xs ys xs.length 0 = some v := mono.symm.trans e1
        rw [same_l0, e1', e2']
        exact ⟨v, rfl, rfl⟩
      · rw [if_neg h3]
        have hb : ((xs.length : Int) != (ys.length : Int)) = true := by simp; omega
        rw [hb]
        exact ⟨false, rfl, rfl⟩
    · rw [if_neg h2, if_neg h2]; exact ⟨false, rfl, rfl⟩
  · rw [if_neg h1, if_neg h1]; exact ⟨false, rfl, rfl⟩
theorem FnExactSameGame : laws_FnExactSameGame.Pure := by
  intro a b xs c e ys _ _ hx _ _ _ hy _
  obtain ⟨k, hk⟩ : ∃ k : Nat, 1048580 ≤ k := ⟨1048580, by omega⟩
  refine ⟨k + 1, ?_⟩
  unfold laws_FnExactSameGame.f
  rw [szGame_f a b xs _ (by omega) (by omega) hx]
  by_cases q : (1048576 : Int) < xs.length
  · rw [if_pos q]; simp
  · rw [if_neg q]
    simp only [Option.bind_some]
    rw [if_neg (by omega), szGame_f c e ys _ (by omega) (by omega) hy]
    by_cases q2 : (1048576 : Int) - xs.length < ys.length
    · rw [if_pos q2]; simp
    · rw [if_neg q2]
      simp only [Option.bind_some]
      rw [if_neg (by omega), toGame_f a b xs (by omega) _ (by omega), toGame_f c e ys (by omega) _ (by omega)]
      simp only [Option.bind_some]
      obtain ⟨v, s, i⟩ := both a b c e (xs.map cv) (ys.map cv) (by rw [List.length_map]; omega) k (by omega)
      rw [s, i]
      simp only [Option.bind_some, bne_self_eq_false, Bool.false_eq_true, if_false]
      rw [eqGame_f a b (xs.map cv) (by rw [List.length_map]; omega) _ (by omega), eqGame_f c e (ys.map cv) (by rw [List.length_map]; omega) _ (by omega)]
      rfl

end Go.Proofs.Ytoicmgphccgdbaa.Pure
