/- Games: lies, and the state. -/
import Derived.Test.YtidblojobcgkjaaLGValid
import Derived.Test.YtidblojobcgkjaaMx2
import Derived.Test.YtidblojobcgkjaaMx3
import Derived.Test.YtidblojobcgkjaaMx4
import Derived.Test.YtidblojobcgkjaaMx6
import Derived.Test.YtidblojobcgkjaaMx7
import Derived.Test.YtidblojobcgkjaaMx8
import Derived.Test.YtidblojobcgkjaaMx9
namespace Go.Proofs.Ytidblojobcgkjaa.M
open Go.RowKit Go.Proofs.YtidblojobcgkjaaW.PrintWords Go.Proofs.YtidblojobcgkjaaW.PrintLast Go.Proofs.YtidblojobcgkjaaW.PrintMore
set_option linter.unusedVariables false
set_option linter.unusedSimpArgs false

def wrongB (n : Int) (x : S60) : Bool := ((Go.bits .and .u64 (shr .u64 x.f0 n) 1) == 1) != x.f1
def liesF (n : Int) : List S60 → Nat → List Int
  | [], _ => []
  | x :: r, j => if wrongB n x = true then (j : Int) :: liesF n r (j + 1) else liesF n r (j + 1)
theorem liesF_len (n : Int) : ∀ (l : List S60) (j : Nat), (liesF n l j).length ≤ l.length := by
  intro l
  induction l with
  | nil => intro j; simp [liesF]
  | cons x r ih =>
    intro j
    have := ih (j + 1)
    unfold liesF
    split <;> simp only [List.length_cons] <;> omega
theorem specWrong_f {n : Int} (h0 : 0 ≤ n) (h1 : n ≤ 63) (x : S60) : spec_l06Wrong.f x.f0 x.f1 n = some (wrongB n x) := by
  have en : IntKind.u64.wrap n = n := by simp only [IntKind.wrap, IntKind.bits, IntKind.signed, Bool.false_and, Bool.false_eq_true, if_false]; omega
  unfold spec_l06Wrong.f
  rw [en, if_pos h0]; rfl
theorem implAnswer_f {n : Int} (h0 : 0 ≤ n) (h1 : n ≤ 63) (x : S60) : impl_AnswerTo.f x.f0 n false = some ((Go.bits .and .u64 (shr .u64 x.f0 n) 1) == 1) := by
  unfold impl_AnswerTo.f impl_within.f
  rw [if_pos h0, decide_eq_true h1]
  simp only [Option.bind_some, if_true]
  rw [show mx n 0 = n by unfold mx; split <;> omega]
  simp
theorem wrongFor_l0 {n : Int} (h0 : 0 ≤ n) (h1 : n ≤ 63) (l : List S60) (hn : l.length ≤ 60) (d : Nat) : ∀ (j : Nat) (o : List Int), j + d = l.length → o.length ≤ j → ∀ k, d < k →
    impl_Game_wrongFor.l0 k n o l l.length j = some (o ++ liesF n (l.drop j) j) := by
  induction d with
  | zero =>
    intro j o hj ho k hk
    obtain ⟨k, rfl⟩ : ∃ m, k = m + 1 := ⟨k - 1, by omega⟩
    simp only [impl_Game_wrongFor.l0]; rw [if_neg (by omega), List.drop_of_length_le (by omega)]; simp [liesF]
  | succ d ih =>
    intro j o hj ho k hk
    obtain ⟨k, rfl⟩ : ∃ m, k = m + 1 := ⟨k - 1, by omega⟩
    simp only [impl_Game_wrongFor.l0]
    rw [if_pos (by omega), if_pos (by omega), if_pos (by omega), rd60_at, implAnswer_f h0 h1, drop60_at l j (by omega), next_i (n := l.length) (by omega) (by omega)]
    simp only [Option.bind_some]
    rw [liesF, show (((Go.bits .and .u64 (shr .u64 (l.getD j z60).f0 n) 1) == 1) != (l.getD j z60).f1) = wrongB n (l.getD j z60) from rfl]
    by_cases q : wrongB n (l.getD j z60) = true
    · rw [if_pos q, if_pos q, if_pos (by omega), ih (j + 1) _ (by omega) (by rw [List.length_append]; simp; omega) k (by omega)]
      simp
    · rw [if_neg q, if_neg q, ih (j + 1) _ (by omega) (by omega) k (by omega)]
theorem lies_l0 {n : Int} (h0 : 0 ≤ n) (h1 : n ≤ 63) (a b : Int) (l : List S60) (hn : l.length ≤ 60) (d : Nat) : ∀ (j c : Nat), j + d = l.length → c ≤ j → ∀ k, d < k →
    spec_l06Lies.l0 k n c j a b l = some ((c + (liesF n (l.drop j) j).length : Nat) : Int) := by
  induction d with
  | zero =>
    intro j c hj ho k hk
    obtain ⟨k, rfl⟩ : ∃ m, k = m + 1 := ⟨k - 1, by omega⟩
    simp only [spec_l06Lies.l0]; rw [if_neg (by omega), List.drop_of_length_le (by omega)]; simp [liesF]
  | succ d ih =>
    intro j c hj ho k hk
    obtain ⟨k, rfl⟩ : ∃ m, k = m + 1 := ⟨k - 1, by omega⟩
    simp only [spec_l06Lies.l0]
    rw [if_pos (by omega), if_pos (by omega), rd60_at, specWrong_f h0 h1, drop60_at l j (by omega), next_i (j := j) (n := l.length) (by omega) (by omega), next_i (j := c) (n := 61) (by omega) (by omega)]
    simp only [Option.bind_some]
    rw [liesF]
    by_cases q : wrongB n (l.getD j z60) = true
    · rw [if_pos q, if_pos q, ih (j + 1) (c + 1) (by omega) (by omega) k (by omega), List.length_cons]
      congr 2; omega
    · rw [if_neg q, if_neg q, ih (j + 1) c (by omega) (by omega) k (by omega)]
def addAt (t : Nat) (i : Nat) (o : List Int) (j : Int) : List Int := if t = i then o ++ [j] else o
theorem addAt_len (t i : Nat) (o : List Int) (j : Int) (m : Nat) (h : o.length ≤ m) : (addAt t i o j).length ≤ m + 1 := by
  unfold addAt; split
  · rw [List.length_append]; simp; omega
  · omega
theorem wrapl (o : List Int) (h : o.length ≤ 64) : wrap64 ((o.length : Int) + 1) = ((o.length + 1 : Nat) : Int) := by unfold wrap64; omega
theorem state_l0 {a b : Int} (ha : 1 ≤ a ∧ a ≤ 60) (hb : 0 ≤ b ∧ b ≤ 3) (l : List S60) (hn : l.length ≤ 60) : ∀ (d j : Nat) (o0 o1 o2 o3 : List Int), (j : Int) + d = a → o0.length ≤ j → o1.length ≤ j → o2.length ≤ j → o3.length ≤ j →
    ∃ v0 v1 v2 v3 : List Int, ∀ k, d + 100 < k → spec_l06State.l0 k j a b l o0.length o1.length o2.length o3.length = some ((v0.length : Int), (v1.length : Int), (v2.length : Int), (v3.length : Int)) ∧ impl_Game_sorts.l0 k a j a b l o0 o1 o2 o3 = some (v0, v1, v2, v3) := by
  have wa : Aside0 (wrap64 a = a) := ⟨by unfold wrap64; omega⟩
  have wb : Aside0 (wrap64 b = b) := ⟨by unfold wrap64; omega⟩
  intro d
  induction d with
  | zero =>
    intro j o0 o1 o2 o3 hj h0 h1 h2 h3
    refine ⟨o0, o1, o2, o3, fun k hk => ?_⟩
    obtain ⟨k, rfl⟩ : ∃ m, k = m + 1 := ⟨k - 1, by omega⟩
    simp only [spec_l06State.l0, impl_Game_sorts.l0]
    rw [wa.out, if_neg (by omega), if_neg (by omega)]
    exact ⟨rfl, rfl⟩
  | succ d ih =>
    intro j o0 o1 o2 o3 hj h0 h1 h2 h3
    have hj2 : j ≤ 60 := by omega
    have wj : wrap64 ((j : Int) + 1) = ((j + 1 : Nat) : Int) := next_i (j := j) (n := 61) (by omega) (by omega)
    replace wj := Aside0.mk wj
    have j0 : (0 : Int) ≤ (j : Int) := by omega
    have j1 : (j : Int) ≤ 63 := by omega
    have es : ∀ k, 100 < k → spec_l06Lies.f k a b l j = some ((liesF (j : Int) l 0).length : Int) := fun k hk => by
      have e := lies_l0 j0 j1 a b l hn l.length 0 0 (by omega) (by omega) k (by omega)
      simp only [List.drop_zero, Nat.zero_add] at e
      unfold spec_l06Lies.f
      have e' : spec_l06Lies.l0 k (j : Int) 0 0 a b l = some ((liesF (j : Int) l 0).length : Int) := e
      exact e'
    have ei : ∀ k, 100 < k → impl_Game_wrongFor.f k a b l j = some (liesF (j : Int) l 0) := fun k hk => by
      have e := wrongFor_l0 j0 j1 l hn l.length 0 [] (by omega) (by simp) k (by omega)
      unfold impl_Game_wrongFor.f
      have e' : impl_Game_wrongFor.l0 k (j : Int) [] l l.length 0 = some (liesF (j : Int) l 0) := e
      exact e'
    generalize liesF (j : Int) l 0 = t at es ei
    by_cases c : (t.length : Int) ≤ b
    · have ht : t.length = 0 ∨ t.length = 1 ∨ t.length = 2 ∨ t.length = 3 := by omega
      obtain ⟨v0, v1, v2, v3, hv⟩ := ih (j + 1) (addAt t.length 0 o0 j) (addAt t.length 1 o1 j) (addAt t.length 2 o2 j) (addAt t.length 3 o3 j) (by omega) (addAt_len _ _ _ _ _ h0) (addAt_len _ _ _ _ _ h1) (addAt_len _ _ _ _ _ h2) (addAt_len _ _ _ _ _ h3)
      refine ⟨v0, v1, v2, v3, fun k hk => ?_⟩
      obtain ⟨k, rfl⟩ : ∃ m, k = m + 1 := ⟨k - 1, by omega⟩
      have hv' := hv k (by omega)
      simp only [spec_l06State.l0, impl_Game_sorts.l0]
      rw [wa.out, if_pos (by omega), if_pos (by omega), es k (by omega), ei k (by omega)]
      simp only [Option.bind_some]
      rw [wb.out, if_pos c, if_pos c, if_pos (by omega), if_pos (by omega), wj.out]
      rcases ht with e | e | e | e
      · rw [e] at hv' ⊢
        simp only [addAt, if_true, if_false, Nat.zero_ne_one, show (0 : Nat) ≠ 2 by decide, show (0 : Nat) ≠ 3 by decide, List.length_append, List.length_singleton] at hv'
        rw [if_pos (show ((0 : Nat) : Int) = 0 from rfl), if_pos (by omega)]
        rw [show rd [(o0.length : Int), (o1.length : Int), (o2.length : Int), (o3.length : Int)] ((0 : Nat) : Int) = (o0.length : Int) from rfl, wrapl o0 (by omega)]
        exact hv'
      · rw [e] at hv' ⊢
        simp only [addAt, if_true, if_false, show (1 : Nat) ≠ 0 by decide, show (1 : Nat) ≠ 2 by decide, show (1 : Nat) ≠ 3 by decide, List.length_append, List.length_singleton] at hv'
        rw [if_neg (show ¬ ((1 : Nat) : Int) = 0 by decide), if_pos (show ((1 : Nat) : Int) = 1 from rfl), if_pos (by omega)]
        rw [show rd [(o0.length : Int), (o1.length : Int), (o2.length : Int), (o3.length : Int)] ((1 : Nat) : Int) = (o1.length : Int) from rfl, wrapl o1 (by omega)]
        exact hv'
      · rw [e] at hv' ⊢
        simp only [addAt, if_true, if_false, show (2 : Nat) ≠ 0 by decide, show (2 : Nat) ≠ 1 by decide, show (2 : Nat) ≠ 3 by decide, List.length_append, List.length_singleton] at hv'
        rw [if_neg (show ¬ ((2 : Nat) : Int) = 0 by decide), if_neg (show ¬ ((2 : Nat) : Int) = 1 by decide), if_pos (show ((2 : Nat) : Int) = 2 from rfl), if_pos (by omega)]
        rw [show rd [(o0.length : Int), (o1.length : Int), (o2.length : Int), (o3.length : Int)] ((2 : Nat) : Int) = (o2.length : Int) from rfl, wrapl o2 (by omega)]
        exact hv'
      · rw [e] at hv' ⊢
        simp only [addAt, if_true, if_false, show (3 : Nat) ≠ 0 by decide, show (3 : Nat) ≠ 1 by decide, show (3 : Nat) ≠ 2 by decide, List.length_append, List.length_singleton] at hv'
        rw [if_neg (show ¬ ((3 : Nat) : Int) = 0 by decide), if_neg (show ¬ ((3 : Nat) : Int) = 1 by decide), if_neg (show ¬ ((3 : Nat) : Int) = 2 by decide), if_pos (show ((3 : Nat) : Int) = 3 from rfl), if_pos (by omega)]
        rw [show rd [(o0.length : Int), (o1.length : Int), (o2.length : Int), (o3.length : Int)] ((3 : Nat) : Int) = (o3.length : Int) from rfl, wrapl o3 (by omega)]
        exact hv'
    · obtain ⟨v0, v1, v2, v3, hv⟩ := ih (j + 1) o0 o1 o2 o3 (by omega) (by omega) (by omega) (by omega) (by omega)
      refine ⟨v0, v1, v2, v3, fun k hk => ?_⟩
      obtain ⟨k, rfl⟩ : ∃ m, k = m + 1 := ⟨k - 1, by omega⟩
      simp only [spec_l06State.l0, impl_Game_sorts.l0]
      rw [wa.out, if_pos (by omega), if_pos (by omega), es k (by omega), ei k (by omega)]
      simp only [Option.bind_some]
      rw [wb.out, if_neg c, if_neg c, wj.out]
      exact hv k (by omega)
theorem both {a b : Int} {l : List S60} (ha : -128 ≤ a ∧ a ≤ 127) (hb : -128 ≤ b ∧ b ≤ 127) : ∃ v, ∀ k, 300 < k → spec_StateOf.f k a b l = some v ∧ impl_StateOf.f k a b l = some v := by
  by_cases o : okG a b l = true
  · have w := okG_small o
    have hb3 : 0 ≤ b ∧ b ≤ 3 := by
      unfold okG begunG at o
      simp only [Bool.and_eq_true, decide_eq_true_eq] at o
      exact ⟨o.1.2.2.1, o.1.2.2.2⟩
    obtain ⟨v0, v1, v2, v3, hv⟩ := state_l0 (a := a) (b := b) ⟨w.1, w.2.1⟩ hb3 l w.2.2 a.toNat 0 [] [] [] [] (by omega) (by simp) (by simp) (by simp) (by simp)
    refine ⟨((v0.length : Int), (v1.length : Int), (v2.length : Int), (v3.length : Int), 0), fun k hk => ?_⟩
    obtain ⟨e1, e2⟩ := hv k (by omega)
    unfold spec_StateOf.f impl_StateOf.f spec_l06State.f impl_Game_state.f impl_Game_sorts.f
    rw [specOk_f ha hb k (by omega), implOk_f ha hb k (by omega), o]
    simp only [Option.bind_some, if_true]
    have wa : wrap64 a = a := by unfold wrap64; omega
    rw [wa]
    have e1' : spec_l06State.l0 k 0 a b l 0 0 0 0 = some ((v0.length : Int), (v1.length : Int), (v2.length : Int), (v3.length : Int)) := e1
    have e2' : impl_Game_sorts.l0 k a 0 a b l [] [] [] [] = some (v0, v1, v2, v3) := e2
    rw [e1', e2']
    simp only [Option.bind_some]
    obtain ⟨k, rfl⟩ : ∃ m, k = m + 1 + 1 + 1 + 1 + 1 := ⟨k - 5, by omega⟩
    have e3 : impl_Game_state.l0 (k + 1 + 1 + 1 + 1 + 1) 0 0 0 0 0 v0 v1 v2 v3 = some ((v0.length : Int), (v1.length : Int), (v2.length : Int), (v3.length : Int)) := by
      rw [impl_Game_state.l0.eq_2, if_pos (by decide), if_pos rfl]
      simp only [impl_size_int64.f, Option.bind_some]
      rw [impl_Game_state.l0.eq_2, if_pos (by decide), if_neg (by decide), if_pos (by decide)]
      simp only [impl_size_int64.f, Option.bind_some]
      rw [impl_Game_state.l0.eq_2, if_pos (by decide), if_neg (by decide), if_neg (by decide), if_pos (by decide)]
      simp only [impl_size_int64.f, Option.bind_some]
      rw [impl_Game_state.l0.eq_2, if_pos (by decide), if_neg (by decide), if_neg (by decide), if_neg (by decide), if_pos (by decide)]
      simp only [impl_size_int64.f, Option.bind_some]
      rw [impl_Game_state.l0.eq_2, if_neg (by decide)]
    rw [e3]
    simp
  · refine ⟨(0, 0, 0, 0, 1), fun k hk => ?_⟩
    unfold spec_StateOf.f impl_StateOf.f
    rw [specOk_f ha hb k (by omega), implOk_f ha hb k (by omega)]
    simp only [Option.bind_some]
    rw [if_neg o, if_neg o]
    exact ⟨rfl, rfl⟩

end Go.Proofs.Ytidblojobcgkjaa.M
