/- Proved: the program's LiesFor answers as the reference's for every game and thing, and leaves the game as it was. No conditions. -/
import Derived.Test.YtoicmgphccgdbaaLGLies
import Derived.Test.YtoicmgphccgdbaaSFnExactLiesFor
namespace Go.Proofs.Ytoicmgphccgdbaa.Pure
open Go.RowKit Go.Proofs.Ytoicmgphccgdbaa.M Go.Proofs.YtoicmgphccgdbaaW.PrintWords Go.Proofs.YtoicmgphccgdbaaW.PrintLast Go.Proofs.YtoicmgphccgdbaaW.PrintMore
set_option linter.unusedVariables false
set_option linter.unusedSimpArgs false

theorem lies_l0 {n : Int} (h0 : 0 ≤ n) (h1 : n ≤ 63) (a b : Int) (l : List S75) (hn : l.length ≤ 60) (d : Nat) : ∀ (j c : Nat), j + d = l.length → c ≤ j → ∀ k, d < k →
    spec_l06Lies.l0 k n c j a b l = some ((c + (liesF n (l.drop j) j).length : Nat) : Int) := by
  induction d with
  | zero =>
    intro j c hj ho k hk
    obtain ⟨k, rfl⟩ : ∃ m, k = m + 1 := ⟨k - 1, by omega⟩
    simp only [spec_l06Lies.l0]; rw [if_neg (by omega), List.drop_of_length_le (by omega)]; simp [liesF]
  | succ d ih =>
    intro j c hj ho k hk
    obtain ⟨k, rfl⟩ : ∃ m, k = m + 1 := ⟨k - 1, by omega⟩
    simp only [spec_l06Lies.l0]
    rw [if_pos (by omega), if_pos (by omega), rd75_at, specWrong_f h0 h1, drop75_at l j (by omega), next_i (j := j) (n := l.length) (by omega) (by omega), next_i (j := c) (n := 61) (by omega) (by omega)]
    simp only [Option.bind_some]
    rw [liesF]
    by_cases q : wrongB n (l.getD j z75) = true
    · rw [if_pos q, if_pos q, ih (j + 1) (c + 1) (by omega) (by omega) k (by omega), List.length_cons]
      congr 2; omega
    · rw [if_neg q, if_neg q, ih (j + 1) c (by omega) (by omega) k (by omega)]
theorem both {a b : Int} {l : List S75} (n : Int) (ha : -128 ≤ a ∧ a ≤ 127) (hb : -128 ≤ b ∧ b ≤ 127) (k : Nat) (hk : 200 < k) :
    ∃ v, spec_LiesFor.f k a b l n = some v ∧ impl_LiesFor.f k a b l n = some v := by
  unfold spec_LiesFor.f impl_LiesFor.f impl_size_int64.f
  rw [asked_f n ha hb k (by omega), implFirst_f n ha hb k hk]
  simp only [Option.bind_some, firstF]
  by_cases c : codeG a b l n = 0
  · have w := code_zero c
    have g := okG_small w.1
    unfold spec_l06Lies.f
    have e := lies_l0 w.2.1 (by omega) a b l g.2.2 l.length 0 0 (by omega) (by omega) k (by omega)
    simp only [List.drop_zero, Nat.zero_add] at e
    have e' : spec_l06Lies.l0 k n 0 0 a b l = some ((liesF n l 0).length : Int) := e
    rw [if_pos c, if_pos c, e']
    exact ⟨_, rfl, rfl⟩
  · rw [if_neg c, if_neg c]
    exact ⟨_, rfl, rfl⟩
theorem FnExactLiesFor : laws_FnExactLiesFor.Pure := by
  intro a b xs n ha hb hx _ _
  obtain ⟨k, hk⟩ : ∃ k : Nat, 1048580 ≤ k := ⟨1048580, by omega⟩
  refine ⟨k + 1, ?_⟩
  unfold laws_FnExactLiesFor.f
  rw [szGame_f a b xs _ (by omega) (by omega) hx]
  by_cases q : (1048576 : Int) < xs.length
  · rw [if_pos q]; simp
  · rw [if_neg q]
    simp only [Option.bind_some]
    rw [if_neg (by omega), toGame_f a b xs (by omega) _ (by omega)]
    simp only [Option.bind_some]
    obtain ⟨v, s, i⟩ := both (l := xs.map cv) n (i8_wf ha) (i8_wf hb) (k + 1) (by omega)
    rw [s, i]
    simp only [Option.bind_some, bne_self_eq_false, Bool.false_eq_true, if_false, if_true, laws_FnExactLiesFor.j0]
    rw [toGame_f a b xs (by omega) _ (by omega)]
    simp only [Option.bind_some]
    rw [eqGame_f a b (xs.map cv) (by rw [List.length_map]; omega) _ (by omega)]
    rfl

end Go.Proofs.Ytoicmgphccgdbaa.Pure
