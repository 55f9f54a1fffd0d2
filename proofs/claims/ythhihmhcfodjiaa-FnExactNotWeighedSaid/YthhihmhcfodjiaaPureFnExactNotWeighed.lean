/- Proved: the program's NotWeighed answers as the reference's for all weights, and its result is its own. No conditions. -/
import Derived.Test.YthhihmhcfodjiaaLRBaseR
import Derived.Test.YthhihmhcfodjiaaLRMissR
import Derived.Test.YthhihmhcfodjiaaRx10
import Derived.Test.YthhihmhcfodjiaaRx11
import Derived.Test.YthhihmhcfodjiaaRx12
import Derived.Test.YthhihmhcfodjiaaWSized
namespace Go.Proofs.Ythhihmhcfodjiaa.Pure
open Go.RowKit Go.Proofs.Ythhihmhcfodjiaa.R Go.Proofs.YthhihmhcfodjiaaW.PrintWords Go.Proofs.YthhihmhcfodjiaaW.PrintLast Go.Proofs.YthhihmhcfodjiaaW.PrintMore
set_option linter.unusedVariables false
set_option linter.unusedSimpArgs false

theorem laws_eqInt64S_l0 (xs : List Int) (hn : xs.length ≤ 140737488355328) (d : Nat) : ∀ (j : Nat), j + d = xs.length → ∀ k, d < k → laws_eqInt64S.l0 k xs xs j = some true := by
  induction d with
  | zero =>
    intro j hj k hk
    obtain ⟨k, rfl⟩ : ∃ m, k = m + 1 := ⟨k - 1, by omega⟩
    simp only [laws_eqInt64S.l0]; rw [if_neg (by omega)]
  | succ d ih =>
    intro j hj k hk
    obtain ⟨k, rfl⟩ : ∃ m, k = m + 1 := ⟨k - 1, by omega⟩
    simp only [laws_eqInt64S.l0]
    rw [if_pos (by omega), if_pos (by omega), if_pos (by omega), if_pos trivial, next_i (n := xs.length) (by omega) hn]
    exact ih (j + 1) (by omega) k (by omega)
theorem laws_eqInt64S_f (xs : List Int) (hn : xs.length ≤ 140737488355328) (k : Nat) (hk : xs.length < k) : laws_eqInt64S.f k xs xs = some true := by
  unfold laws_eqInt64S.f
  rw [if_pos rfl]
  exact laws_eqInt64S_l0 xs hn xs.length 0 (by omega) k hk

theorem laws_markInt64S_l0 (d : Nat) : ∀ (l : List Int) (i j : Nat), j + d = l.length → i + d ≤ 140737488355328 → l.length ≤ 140737488355328 → ∀ k, d < k →
    ∃ l', laws_markInt64S.l0 k l i j = some (((i + d : Nat) : Int), l') ∧ l'.length = l.length ∧ (∀ q, q < j → l'.getD q 0 = l.getD q 0) ∧ (∀ q, j ≤ q → q < l.length → l'.getD q 0 =  ((i + (q - j) : Nat) : Int)) := by
  induction d with
  | zero =>
    intro l i j hj hi hl k hk
    obtain ⟨k, rfl⟩ : ∃ m, k = m + 1 := ⟨k - 1, by omega⟩
    refine ⟨l, ?_, rfl, fun _ _ => rfl, fun q h1 h2 => by omega⟩
    simp only [laws_markInt64S.l0]; rw [if_neg (by omega)]; simp
  | succ d ih =>
    intro l i j hj hi hl k hk
    obtain ⟨k, rfl⟩ : ∃ m, k = m + 1 := ⟨k - 1, by omega⟩
    simp only [laws_markInt64S.l0]
    rw [if_pos (by omega), if_pos (by omega), next_i (j := j) (n := l.length) (by omega) hl, next_i (n := 140737488355328) (j := i) (by omega) (by omega), Int.toNat_natCast]
    obtain ⟨l', e, el, e1, e2⟩ := ih (l.set j ( (i : Int))) (i + 1) (j + 1) (by rw [List.length_set]; omega) (by omega) (by rw [List.length_set]; omega) k (by omega)
    rw [List.length_set] at el
    refine ⟨l', ?_, el, fun q h => ?_, fun q h1 h2 => ?_⟩
    · rw [e]; simp; omega
    · rw [e1 q (by omega)]; simp only [List.getD_eq_getElem?_getD]; rw [List.getElem?_set_ne (by omega)]
    · by_cases c : q = j
      · subst c
        rw [e1 q (by omega)]; simp only [List.getD_eq_getElem?_getD]; rw [List.getElem?_set_self (by omega)]; simp
      · rw [e2 q (by omega) (by rw [List.length_set]; exact h2)]
        rw [show i + 1 + (q - (j + 1)) = i + (q - j) by omega]
theorem laws_heldInt64S_l0 (d : Nat) : ∀ (l : List Int) (i j : Nat), j + d = l.length → i + d ≤ 140737488355328 → l.length ≤ 140737488355328 → (∀ q, j ≤ q → q < l.length → l.getD q 0 =  ((i + (q - j) : Nat) : Int)) → ∀ k, d < k →
    laws_heldInt64S.l0 k l i j = some ((i + d : Nat) : Int) := by
  induction d with
  | zero =>
    intro l i j hj hi hl he k hk
    obtain ⟨k, rfl⟩ : ∃ m, k = m + 1 := ⟨k - 1, by omega⟩
    simp only [laws_heldInt64S.l0]; rw [if_neg (by omega)]; simp
  | succ d ih =>
    intro l i j hj hi hl he k hk
    obtain ⟨k, rfl⟩ : ∃ m, k = m + 1 := ⟨k - 1, by omega⟩
    simp only [laws_heldInt64S.l0]
    have h0 := he j (by omega) (by omega)
    rw [show i + (j - j) = i by omega] at h0
    rw [if_pos (by omega), if_pos (by omega), rd_at, if_pos h0, next_i (j := j) (n := l.length) (by omega) hl, next_i (n := 140737488355328) (j := i) (by omega) (by omega)]
    rw [ih l (i + 1) (j + 1) (by omega) (by omega) hl (fun q h1 h2 => by rw [he q (by omega) h2, show i + 1 + (q - (j + 1)) = i + (q - j) by omega]) k (by omega)]
    rw [show i + 1 + d = i + (d + 1) by omega]
/-- What is marked is held. -/
theorem laws_markInt64S_held (l : List Int) (i : Nat) (hi : i + l.length ≤ 140737488355328) (k k2 : Nat) (hk : l.length < k) (hk2 : l.length < k2) :
    ∃ l', laws_markInt64S.f k l i = some (((i + l.length : Nat) : Int), l') ∧ l'.length = l.length ∧ laws_heldInt64S.f k2 l' i = some ((i + l.length : Nat) : Int) := by
  obtain ⟨l', e, el, _, e2⟩ := laws_markInt64S_l0 l.length l i 0 (by omega) (by omega) (by omega) k hk
  refine ⟨l', e, el, ?_⟩
  have := laws_heldInt64S_l0 l.length l' i 0 (by omega) (by omega) (by omega) (fun q h1 h2 => e2 q h1 (by omega)) k2 (by omega)
  exact this

theorem markW_l0 (d : Nat) : ∀ (l : List Int) (i j : Nat), j + d = l.length → i + d ≤ 140737488355328 → l.length ≤ 140737488355328 → ∀ k, d < k → ∃ l', laws_markWeights.l0 k l i j = some (((i + d : Nat) : Int), l') := by
  induction d with
  | zero =>
    intro l i j hj hi hl k hk
    obtain ⟨k, rfl⟩ : ∃ m, k = m + 1 := ⟨k - 1, by omega⟩
    refine ⟨l, ?_⟩
    simp only [laws_markWeights.l0]; rw [if_neg (by omega)]; simp
  | succ d ih =>
    intro l i j hj hi hl k hk
    obtain ⟨k, rfl⟩ : ∃ m, k = m + 1 := ⟨k - 1, by omega⟩
    simp only [laws_markWeights.l0]
    rw [if_pos (by omega), if_pos (by omega), next_i (j := j) (n := l.length) (by omega) hl, next_i (n := 140737488355328) (j := i) (by omega) (by omega), Int.toNat_natCast]
    obtain ⟨l', e⟩ := ih (l.set j (IntKind.i16.wrap (i : Int))) (i + 1) (j + 1) (by rw [List.length_set]; omega) (by omega) (by rw [List.length_set]; omega) k (by omega)
    refine ⟨l', ?_⟩
    rw [e]; simp; omega
theorem miss_len {l : List Int} {b : Bool} {s : Int} : ∀ (D m : Nat) (acc r : List Int), missFrom b l s D m acc = some r → r.length ≤ acc.length + D := by
  intro D
  induction D with
  | zero => intro m acc r h; cases h
  | succ D ih =>
    intro m acc r h
    unfold missFrom at h
    by_cases hm : (m : Int) ≤ s
    · rw [if_pos hm] at h
      by_cases z : R.ways b l (m : Int) = 0
      · rw [if_pos z] at h
        have := ih _ _ _ h
        rw [List.length_append] at this
        simp at this
        omega
      · rw [if_neg z] at h
        have := ih _ _ _ h
        omega
    · rw [if_neg hm] at h
      have := Option.some.inj h
      subst this
      omega
theorem not_f (xs : List Int) (b : Bool) (hn : xs.length ≤ 1048576) (hw : ∀ x ∈ xs, (Lit.int .i16 x).wf = true) : ∃ (r : List Int) (c : Int), r.length ≤ 3000 ∧ ∀ k, 2097160 < k → spec_NotWeighed.f k xs b = some (r, c) ∧ impl_NotWeighed.f k xs b = some (r, c) := by
  obtain ⟨v, hv, ho⟩ := valid_f xs hn hw
  cases v with
  | false =>
    refine ⟨[], 1, by simp, fun k hk => ⟨?_, ?_⟩⟩
    · unfold spec_NotWeighed.f
      rw [(hv k hk).1, Option.bind_some, if_neg (by simp)]
    · unfold impl_NotWeighed.f
      rw [(hv k hk).2, Option.bind_some, if_neg (by simp)]
  | true =>
    have ho := ho rfl
    obtain ⟨r, m1, m2⟩ := miss_f (b := b) ho
    refine ⟨r, 0, by have := miss_len _ _ _ _ m1; simpa using this, fun k hk => ⟨?_, ?_⟩⟩
    · unfold spec_NotWeighed.f
      rw [(hv k hk).1, Option.bind_some, if_pos rfl, (sum_f ho hw k (by omega)).1, Option.bind_some, m2 k (by omega), Option.bind_some]
    · unfold impl_NotWeighed.f
      rw [(hv k hk).2, Option.bind_some, if_pos rfl, (sum_f ho hw k (by omega)).2, Option.bind_some, if_pos ho, m1, Option.bind_some]
theorem FnExactNotWeighed : laws_FnExactNotWeighed.Pure := by
  intro xs b _ _ hx
  obtain ⟨k, hk⟩ : ∃ k : Nat, 2097170 ≤ k := ⟨2097170, Nat.le_refl _⟩
  refine ⟨k + 1 + 1 + 1, ?_⟩
  unfold laws_FnExactNotWeighed.f
  by_cases big : (xs.length : Int) > 1048576
  · rw [if_pos big]
  · rw [if_neg big]
    obtain ⟨r, c, hl, hv⟩ := not_f xs b (by omega) hx
    rw [laws_toWeights_f xs (by omega) _ (by omega)]
    simp only [Option.bind_some]
    rw [(hv (k + 1 + 1 + 1) (by omega)).1, (hv (k + 1 + 1 + 1) (by omega)).2]
    simp only [Option.bind_some]
    rw [laws_eqInt64S_f r (by omega) _ (by omega)]
    simp only [Option.bind_some, if_true, bne_self_eq_false, laws_FnExactNotWeighed.j0, Bool.false_eq_true, if_false]
    rw [laws_toWeights_f xs (by omega) _ (by omega)]
    simp only [Option.bind_some]
    rw [laws_eqWeights_f xs (by omega) _ (by omega)]
    simp only [Option.bind_some, if_true]
    obtain ⟨l', hm⟩ := markW_l0 xs.length xs 1 0 (by omega) (by omega) (by omega) (k + 1 + 1) (by omega)
    have hm' : laws_markWeights.f (k + 1 + 1) xs 1 = some (((1 + xs.length : Nat) : Int), l') := hm
    rw [hm', Option.bind_some, if_neg (show ¬ (((1 + xs.length : Nat) : Int) < 0) by omega), laws_eqInt64S_f r (by omega) _ (by omega)]
    simp only [Option.bind_some, if_true, bne_self_eq_false, laws_FnExactNotWeighed.j1, Bool.false_eq_true, if_false]
    obtain ⟨l2, e1, e2, e3⟩ := laws_markInt64S_held r 1 (by omega) (k + 1) (k + 1) (by omega) (by omega)
    obtain ⟨l3, f1, f2, f3⟩ := laws_markInt64S_held r 1 (by omega) (k + 1) k (by omega) (by omega)
    have e1' : laws_markInt64S.f (k + 1) r 1 = some (((1 + r.length : Nat) : Int), l2) := e1
    have e3' : laws_heldInt64S.f (k + 1) l2 1 = some ((1 + r.length : Nat) : Int) := e3
    have f3' : laws_heldInt64S.f k l2 1 = some ((1 + r.length : Nat) : Int) := by
      have : l3 = l2 := by
        have h := f1.symm.trans e1
        injection h with h
        injection h
      rw [← this]
      exact f3
    rw [e1', Option.bind_some, e3', Option.bind_some, if_neg (show ¬ (((1 + r.length : Nat) : Int) < 0) by omega), if_pos rfl, laws_toWeights_f xs (by omega) _ (by omega), Option.bind_some, (hv (k + 1) (by omega)).2, Option.bind_some, laws_eqInt64S_f r (by omega) _ (by omega), Option.bind_some, if_pos rfl]
    simp only [bne_self_eq_false, laws_FnExactNotWeighed.j2, Bool.false_eq_true, if_false]
    rw [f3', Option.bind_some, if_neg (show ¬ (((1 + r.length : Nat) : Int) < 0) by omega), if_pos rfl]

end Go.Proofs.Ythhihmhcfodjiaa.Pure
namespace Go.Proofs.Ythhihmhcfodjiaa.PrintWords
/-- The printed row names this theorem by the name that it bears outside of OWN=1. -/
abbrev sized_ints := @Go.Proofs.YthhihmhcfodjiaaW.PrintWords.sized_ints
end Go.Proofs.Ythhihmhcfodjiaa.PrintWords
