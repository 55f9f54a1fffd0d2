/- Proved: the program's NewGame answers as the reference's for every number of things and of lies. No conditions. -/
import Derived.Test.YtoicmgphccgdbaaLGValid
import Derived.Test.YtoicmgphccgdbaaMx18
import Derived.Test.YtoicmgphccgdbaaMx19
import Derived.Test.YtoicmgphccgdbaaMx20
namespace Go.Proofs.Ytoicmgphccgdbaa.Pure
open Go.RowKit Go.Proofs.Ytoicmgphccgdbaa.M Go.Proofs.YtoicmgphccgdbaaW.PrintWords Go.Proofs.YtoicmgphccgdbaaW.PrintLast Go.Proofs.YtoicmgphccgdbaaW.PrintMore
set_option linter.unusedVariables false
set_option linter.unusedSimpArgs false

def made (a b : Int) : Int × Int × List S75 × Int := if begunG a b = true then (IntKind.i8.wrap a, IntKind.i8.wrap b, [], 0) else (0, 0, [], 2)
theorem new_f (a b : Int) : spec_NewGame.f a b = some (made a b) ∧ impl_NewGame.f a b = some (made a b) := by
  unfold spec_NewGame.f impl_NewGame.f made
  rw [(begin_f a b).1, (begin_f a b).2]
  simp only [Option.bind_some]
  by_cases g : begunG a b = true
  · rw [if_pos g, if_pos g]; exact ⟨rfl, rfl⟩
  · rw [if_neg g, if_neg g]; exact ⟨rfl, rfl⟩
theorem made_nil (a b : Int) : (made a b).2.2.1 = [] := by unfold made; split <;> rfl
theorem FnExactNewGame : laws_FnExactNewGame.Pure := by
  intro a b _ _
  obtain ⟨k, hk⟩ : ∃ k : Nat, 1048580 ≤ k := ⟨1048580, by omega⟩
  refine ⟨k + 1 + 1 + 1, ?_⟩
  unfold laws_FnExactNewGame.f
  have nf := new_f a b
  rw [nf.1, nf.2]
  have nil := made_nil a b
  generalize made a b = v at nf nil ⊢
  obtain ⟨v1, v2, vl, v3⟩ := v
  simp only at nil
  subst nil
  simp only [Option.bind_some, bne_self_eq_false]
  rw [eqGame_f v1 v2 [] (by simp) _ (by omega)]
  have mk : ∀ k, laws_markGame.f (k + 1) v1 v2 [] 1 = some (1, []) := by intro k; rfl
  have hd : ∀ k, laws_heldGame.f (k + 1) v1 v2 [] 1 = some 1 := by intro k; rfl
  simp only [Option.bind_some, if_true, laws_FnExactNewGame.j0, Bool.false_eq_true, if_false]
  rw [mk]
  simp only [Option.bind_some]
  rw [hd]
  simp only [Option.bind_some]
  rw [if_neg (by omega)]
  simp only [if_true]
  rw [nf.2]
  simp only [Option.bind_some]
  rw [eqGame_f v1 v2 [] (by simp) _ (by omega)]
  simp only [Option.bind_some, if_true, laws_FnExactNewGame.j1, bne_self_eq_false, Bool.false_eq_true, if_false]
  obtain ⟨k, rfl⟩ : ∃ m, k = m + 1 := ⟨k - 1, by omega⟩
  rw [hd]
  simp only [Option.bind_some]
  rw [if_neg (by omega)]
  simp

end Go.Proofs.Ytoicmgphccgdbaa.Pure
