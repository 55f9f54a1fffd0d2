/- Games: which answers would be lies, on both sides. -/
import Derived.Test.YtoicmgphccgdbaaLGValid
import Derived.Test.YtoicmgphccgdbaaMx31
import Derived.Test.YtoicmgphccgdbaaMx32
import Derived.Test.YtoicmgphccgdbaaMx33
import Derived.Test.YtoicmgphccgdbaaMx34
namespace Go.Proofs.Ytoicmgphccgdbaa.M
open Go.RowKit Go.Proofs.YtoicmgphccgdbaaW.PrintWords Go.Proofs.YtoicmgphccgdbaaW.PrintLast Go.Proofs.YtoicmgphccgdbaaW.PrintMore
set_option linter.unusedVariables false
set_option linter.unusedSimpArgs false

def wrongB (n : Int) (x : S75) : Bool := ((Go.bits .and .u64 (shr .u64 x.f0 n) 1) == 1) != x.f1
def liesF (n : Int) : List S75 → Nat → List Int
  | [], _ => []
  | x :: r, j => if wrongB n x = true then (j : Int) :: liesF n r (j + 1) else liesF n r (j + 1)
theorem liesF_len (n : Int) : ∀ (l : List S75) (j : Nat), (liesF n l j).length ≤ l.length := by
  intro l
  induction l with
  | nil => intro j; simp [liesF]
  | cons x r ih =>
    intro j
    have := ih (j + 1)
    unfold liesF
    split <;> simp only [List.length_cons] <;> omega
theorem specWrong_f {n : Int} (h0 : 0 ≤ n) (h1 : n ≤ 63) (x : S75) : spec_l06Wrong.f x.f0 x.f1 n = some (wrongB n x) := by
  have en : IntKind.u64.wrap n = n := by simp only [IntKind.wrap, IntKind.bits, IntKind.signed, Bool.false_and, Bool.false_eq_true, if_false]; omega
  unfold spec_l06Wrong.f
  rw [en, if_pos h0]; rfl
theorem implAnswer_f {n : Int} (h0 : 0 ≤ n) (h1 : n ≤ 63) (x : S75) : impl_AnswerTo.f x.f0 n false = some ((Go.bits .and .u64 (shr .u64 x.f0 n) 1) == 1) := by
  unfold impl_AnswerTo.f impl_within.f
  rw [if_pos h0, decide_eq_true h1]
  simp only [Option.bind_some, if_true]
  rw [show mx n 0 = n by unfold mx; split <;> omega]
  simp
theorem wrongFor_l0 {n : Int} (h0 : 0 ≤ n) (h1 : n ≤ 63) (l : List S75) (hn : l.length ≤ 60) (d : Nat) : ∀ (j : Nat) (o : List Int), j + d = l.length → o.length ≤ j → ∀ k, d < k →
    impl_Game_wrongFor.l0 k n o l l.length j = some (o ++ liesF n (l.drop j) j) := by
  induction d with
  | zero =>
    intro j o hj ho k hk
    obtain ⟨k, rfl⟩ : ∃ m, k = m + 1 := ⟨k - 1, by omega⟩
    simp only [impl_Game_wrongFor.l0]; rw [if_neg (by omega), List.drop_of_length_le (by omega)]; simp [liesF]
  | succ d ih =>
    intro j o hj ho k hk
    obtain ⟨k, rfl⟩ : ∃ m, k = m + 1 := ⟨k - 1, by omega⟩
    simp only [impl_Game_wrongFor.l0]
    rw [if_pos (by omega), if_pos (by omega), if_pos (by omega), rd75_at, implAnswer_f h0 h1, drop75_at l j (by omega), next_i (n := l.length) (by omega) (by omega)]
    simp only [Option.bind_some]
    rw [liesF, show (((Go.bits .and .u64 (shr .u64 (l.getD j z75).f0 n) 1) == 1) != (l.getD j z75).f1) = wrongB n (l.getD j z75) from rfl]
    by_cases q : wrongB n (l.getD j z75) = true
    · rw [if_pos q, if_pos q, if_pos (by omega), ih (j + 1) _ (by omega) (by rw [List.length_append]; simp; omega) k (by omega)]
      simp
    · rw [if_neg q, if_neg q, ih (j + 1) _ (by omega) (by omega) k (by omega)]
def codeG (a b : Int) (l : List S75) (n : Int) : Int := if okG a b l = true then (if 0 ≤ n ∧ n ≤ a - 1 then 0 else 2) else 1
theorem asked_f {a b : Int} {l : List S75} (n : Int) (ha : -128 ≤ a ∧ a ≤ 127) (hb : -128 ≤ b ∧ b ≤ 127) (k : Nat) (hk : 100 < k) : spec_l06Asked.f k a b l n = some (codeG a b l n) := by
  unfold spec_l06Asked.f codeG spec_l00In.f
  rw [specOk_f ha hb k hk]
  simp only [Option.bind_some]
  by_cases o : okG a b l = true
  · rw [if_pos o, if_pos o, show wrap64 a = a by unfold wrap64; omega, show wrap64 (a - 1) = a - 1 by unfold wrap64; omega]
    by_cases c1 : 0 ≤ n
    · rw [if_pos (show n ≥ 0 from c1)]
      by_cases c2 : n ≤ a - 1
      · simp [c1, c2]
      · simp [c2]
    · rw [if_neg (show ¬ n ≥ 0 from c1)]; simp [c1]
  · rw [if_neg o, if_neg o]
def firstF (a b : Int) (l : List S75) (n : Int) : List Int × Int := if codeG a b l n = 0 then (liesF n l 0, 0) else ([], codeG a b l n)
theorem code_zero {a b : Int} {l : List S75} {n : Int} (h : codeG a b l n = 0) : okG a b l = true ∧ 0 ≤ n ∧ n ≤ a - 1 := by
  unfold codeG at h
  by_cases o : okG a b l = true
  · rw [if_pos o] at h
    by_cases c : 0 ≤ n ∧ n ≤ a - 1
    · exact ⟨o, c⟩
    · rw [if_neg c] at h; omega
  · rw [if_neg o] at h; omega
theorem implFirst_f {a b : Int} {l : List S75} (n : Int) (ha : -128 ≤ a ∧ a ≤ 127) (hb : -128 ≤ b ∧ b ≤ 127) (k : Nat) (hk : 200 < k) : impl_FirstLies.f k a b l n = some (firstF a b l n) := by
  unfold impl_FirstLies.f firstF codeG impl_within.f
  rw [implOk_f ha hb k (by omega)]
  simp only [Option.bind_some]
  by_cases o : okG a b l = true
  · have w := okG_small o
    rw [if_pos o, if_pos o, show wrap64 a = a by unfold wrap64; omega, show wrap64 (a - 1) = a - 1 by unfold wrap64; omega]
    by_cases c1 : 0 ≤ n
    · rw [if_pos c1]
      by_cases c2 : n ≤ a - 1
      · unfold impl_Game_wrongFor.f
        have e := wrongFor_l0 c1 (by omega) l w.2.2 l.length 0 [] (by omega) (by simp) k (by omega)
        have e' : impl_Game_wrongFor.l0 k n [] l l.length 0 = some (liesF n l 0) := e
        rw [e']
        simp [c1, c2]
      · simp [c2]
    · rw [if_neg c1]; simp [c1]
  · rw [if_neg o, if_neg o]; rfl

end Go.Proofs.Ytoicmgphccgdbaa.M
