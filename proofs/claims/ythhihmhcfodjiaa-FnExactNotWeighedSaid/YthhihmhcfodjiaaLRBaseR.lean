/- Weights: copying, comparing, the one test of both sides, and what it says. -/
import Derived.Test.YthhihmhcfodjiaaLWaysR
import Derived.Test.YthhihmhcfodjiaaRx1
import Derived.Test.YthhihmhcfodjiaaRx2
import Derived.Test.YthhihmhcfodjiaaRx3
import Derived.Test.YthhihmhcfodjiaaRx6
namespace Go.Proofs.Ythhihmhcfodjiaa.R
open Go.RowKit Go.Proofs.YthhihmhcfodjiaaW.PrintWords Go.Proofs.YthhihmhcfodjiaaW.PrintLast Go.Proofs.YthhihmhcfodjiaaW.PrintMore
set_option linter.unusedVariables false
set_option linter.unusedSimpArgs false

theorem next_i {j n : Nat} (h : j < n) (hn : n ≤ 140737488355328) : wrap64 ((j : Int) + 1) = ((j + 1 : Nat) : Int) := by
  unfold wrap64; omega
theorem rd_at (xs : List Int) (j : Nat) : rd xs (j : Int) = xs.getD j 0 := by unfold rd; rw [Int.toNat_natCast]
theorem getD_at (xs : List Int) (j : Nat) (h : j < xs.length) : xs[j]? = some (xs.getD j 0) := by
  rw [List.getD_eq_getElem?_getD, List.getElem?_eq_getElem h]; rfl
theorem drop_at (xs : List Int) (j : Nat) (h : j < xs.length) : xs.drop j = xs.getD j 0 :: xs.drop (j + 1) := by
  rw [List.getD_eq_getElem?_getD, List.getElem?_eq_getElem h, Option.getD_some]
  exact List.drop_eq_getElem_cons h

theorem laws_toWeights_l0 (xs : List Int) (hn : xs.length ≤ 140737488355328) (d : Nat) : ∀ (j : Nat) (ys : List Int), j + d = xs.length → ys.length = xs.length → (∀ i, i < j → ys[i]? = xs[i]?) →
    ∀ k, d < k → laws_toWeights.l0 k xs ys j = some xs := by
  induction d with
  | zero =>
    intro j ys hj hl he k hk
    obtain ⟨k, rfl⟩ : ∃ m, k = m + 1 := ⟨k - 1, by omega⟩
    simp only [laws_toWeights.l0]; rw [if_neg (by omega)]
    congr 1
    refine List.ext_getElem? fun i => ?_
    by_cases hi : i < j
    · exact he i hi
    · rw [List.getElem?_eq_none (by omega), List.getElem?_eq_none (by omega)]
  | succ d ih =>
    intro j ys hj hl he k hk
    obtain ⟨k, rfl⟩ : ∃ m, k = m + 1 := ⟨k - 1, by omega⟩
    simp only [laws_toWeights.l0]
    rw [if_pos (by omega), if_pos (by omega), if_pos (by omega), next_i (n := xs.length) (by omega) hn, Int.toNat_natCast, rd_at]
    refine ih (j + 1) _ (by omega) (by rw [List.length_set]; exact hl) (fun i hi => ?_) k (by omega)
    by_cases e : i = j
    · subst e
      rw [List.getElem?_set_self (by omega), getD_at xs i (by omega)]
    · rw [List.getElem?_set_ne (by omega)]
      exact he i (by omega)
theorem laws_toWeights_f (xs : List Int) (hn : xs.length ≤ 140737488355328) (k : Nat) (hk : xs.length < k) : laws_toWeights.f k xs = some xs := by
  unfold laws_toWeights.f
  rw [if_pos (by omega), if_pos (by omega), Int.toNat_natCast]
  exact laws_toWeights_l0 xs hn xs.length 0 _ (by omega) (by simp) (fun i hi => by omega) k hk

theorem laws_eqWeights_l0 (xs : List Int) (hn : xs.length ≤ 140737488355328) (d : Nat) : ∀ (j : Nat), j + d = xs.length → ∀ k, d < k → laws_eqWeights.l0 k xs xs j = some true := by
  induction d with
  | zero =>
    intro j hj k hk
    obtain ⟨k, rfl⟩ : ∃ m, k = m + 1 := ⟨k - 1, by omega⟩
    simp only [laws_eqWeights.l0]; rw [if_neg (by omega)]
  | succ d ih =>
    intro j hj k hk
    obtain ⟨k, rfl⟩ : ∃ m, k = m + 1 := ⟨k - 1, by omega⟩
    simp only [laws_eqWeights.l0]
    rw [if_pos (by omega), if_pos (by omega), if_pos (by omega), if_pos trivial, next_i (n := xs.length) (by omega) hn]
    exact ih (j + 1) (by omega) k (by omega)
theorem laws_eqWeights_f (xs : List Int) (hn : xs.length ≤ 140737488355328) (k : Nat) (hk : xs.length < k) : laws_eqWeights.f k xs xs = some true := by
  unfold laws_eqWeights.f
  rw [if_pos rfl]
  exact laws_eqWeights_l0 xs hn xs.length 0 (by omega) k hk

def sumW : List Int → Int → Int
  | [], a => a
  | x :: r, a => sumW r (wrap64 (a + wrap64 x))
theorem specSum_l0 (xs : List Int) (hn : xs.length ≤ 140737488355328) (d : Nat) : ∀ (j : Nat) (a : Int), j + d = xs.length → ∀ k, d < k → spec_l01Sum.l0 k xs a j = some (sumW (xs.drop j) a) := by
  induction d with
  | zero =>
    intro j a hj k hk
    obtain ⟨k, rfl⟩ : ∃ m, k = m + 1 := ⟨k - 1, by omega⟩
    simp only [spec_l01Sum.l0]; rw [if_neg (by omega), List.drop_of_length_le (by omega)]; rfl
  | succ d ih =>
    intro j a hj k hk
    obtain ⟨k, rfl⟩ : ∃ m, k = m + 1 := ⟨k - 1, by omega⟩
    simp only [spec_l01Sum.l0]
    rw [if_pos (by omega), if_pos (by omega), next_i (n := xs.length) (by omega) hn, rd_at, ih (j + 1) _ (by omega) k (by omega), drop_at xs j (by omega)]
    rfl
theorem specSum_f (xs : List Int) (hn : xs.length ≤ 140737488355328) (k : Nat) (hk : xs.length < k) : spec_l01Sum.f k xs = some (sumW xs 0) := specSum_l0 xs hn xs.length 0 0 (by omega) k hk
theorem implSum_l0 (xs : List Int) (hn : xs.length ≤ 140737488355328) (d : Nat) : ∀ (j : Nat) (a : Int), j + d = xs.length → ∀ k, d < k → impl_Weights_sum.l0 k a xs (xs.length : Int) j = some (sumW (xs.drop j) a) := by
  induction d with
  | zero =>
    intro j a hj k hk
    obtain ⟨k, rfl⟩ : ∃ m, k = m + 1 := ⟨k - 1, by omega⟩
    simp only [impl_Weights_sum.l0]; rw [if_neg (by omega), List.drop_of_length_le (by omega)]; rfl
  | succ d ih =>
    intro j a hj k hk
    obtain ⟨k, rfl⟩ : ∃ m, k = m + 1 := ⟨k - 1, by omega⟩
    simp only [impl_Weights_sum.l0]
    rw [if_pos (by omega), if_pos (by omega), if_pos (by omega), next_i (n := xs.length) (by omega) hn, rd_at, ih (j + 1) _ (by omega) k (by omega), drop_at xs j (by omega)]
    rfl
theorem implSum_f (xs : List Int) (hn : xs.length ≤ 140737488355328) (k : Nat) (hk : xs.length < k) : impl_Weights_sum.f k xs = some (sumW xs 0) := implSum_l0 xs hn xs.length 0 0 (by omega) k hk
/-- Each weight from j on is at least 1, and not less than the one before. -/
def GoodW (xs : List Int) (j : Nat) : Prop := ∀ i, j ≤ i → i < xs.length → 1 ≤ xs.getD i 0 ∧ (0 < i → xs.getD (i - 1) 0 ≤ xs.getD i 0)
theorem specOk_l0 (xs : List Int) (hn : xs.length ≤ 140737488355328) (d : Nat) : ∀ (j : Nat), j + d = xs.length → ∀ k, d + xs.length + 1 < k →
    (GoodW xs j → spec_l01Ok.l0 k xs j = some (decide (sumW xs 0 ≤ 2000))) ∧ (¬ GoodW xs j → spec_l01Ok.l0 k xs j = some false) := by
  induction d with
  | zero =>
    intro j hj k hk
    obtain ⟨k, rfl⟩ : ∃ m, k = m + 1 := ⟨k - 1, by omega⟩
    simp only [spec_l01Ok.l0]; rw [if_neg (by omega)]
    refine ⟨fun _ => ?_, fun h => absurd (fun i h1 h2 => by omega) h⟩
    rw [specSum_f xs hn k (by omega)]; rfl
  | succ d ih =>
    intro j hj k hk
    obtain ⟨k, rfl⟩ : ∃ m, k = m + 1 := ⟨k - 1, by omega⟩
    obtain ⟨ih1, ih2⟩ := ih (j + 1) (by omega) k (by omega)
    have hs : GoodW xs j ↔ (1 ≤ xs.getD j 0 ∧ (0 < j → xs.getD (j - 1) 0 ≤ xs.getD j 0)) ∧ GoodW xs (j + 1) := by
      constructor
      · exact fun h => ⟨h j (Nat.le_refl _) (by omega), fun i h1 h2 => h i (by omega) h2⟩
      · rintro ⟨h1, h2⟩ i hi hl
        by_cases e : i = j
        · subst e; exact h1
        · exact h2 i (by omega) hl
    have hnx := next_i (j := j) (n := xs.length) (by omega) hn
    rw [hs]
    simp only [spec_l01Ok.l0]
    rw [if_pos (by omega), if_pos (by omega), hnx, rd_at]
    by_cases h1 : xs.getD j 0 < 1
    · rw [if_pos h1]
      exact ⟨fun h => by omega, fun _ => rfl⟩
    · rw [if_neg h1]
      by_cases h0 : 0 < j
      · have hp : wrap64 ((j : Int) - 1) = ((j - 1 : Nat) : Int) := by unfold wrap64; omega
        rw [if_pos (by omega), hp, if_pos (by omega), if_pos (by omega), rd_at]
        by_cases h2 : xs.getD j 0 < xs.getD (j - 1) 0
        · rw [if_pos h2]
          exact ⟨fun h => by have := h.1.2 h0; omega, fun _ => rfl⟩
        · rw [if_neg h2]
          exact ⟨fun h => ih1 h.2, fun h => ih2 fun g => h ⟨⟨by omega, fun _ => by omega⟩, g⟩⟩
      · rw [if_neg (by omega)]
        exact ⟨fun h => ih1 h.2, fun h => ih2 fun g => h ⟨⟨by omega, fun h => absurd h h0⟩, g⟩⟩
/-- The weights are valid. -/
def ValidW (xs : List Int) : Prop := 1 ≤ xs.length ∧ xs.length ≤ 16 ∧ GoodW xs 0 ∧ sumW xs 0 ≤ 2000
theorem specOk_f (xs : List Int) (hn : xs.length ≤ 140737488355328) (k : Nat) (hk : 2 * xs.length + 1 < k) :
    (ValidW xs → spec_l01Ok.f k xs = some true) ∧ (¬ ValidW xs → spec_l01Ok.f k xs = some false) := by
  obtain ⟨h1, h2⟩ := specOk_l0 xs hn xs.length 0 (by omega) k (by omega)
  have h1' : GoodW xs 0 → spec_l01Ok.l0 k xs 0 = some (decide (sumW xs 0 ≤ 2000)) := h1
  have h2' : ¬ GoodW xs 0 → spec_l01Ok.l0 k xs 0 = some false := h2
  unfold spec_l01Ok.f spec_l00In.f ValidW
  by_cases a : 1 ≤ xs.length
  · rw [if_pos (show (xs.length : Int) ≥ 1 by omega)]
    by_cases b : xs.length ≤ 16
    · simp only [Option.bind_some, decide_eq_true (show (xs.length : Int) ≤ 16 by omega), if_true]
      by_cases c : GoodW xs 0
      · rw [h1' c]
        by_cases e : sumW xs 0 ≤ 2000
        · simp [e, a, b, c]
        · simp [e]
      · rw [h2' c]; simp [c]
    · simp only [Option.bind_some, decide_eq_false (show ¬ (xs.length : Int) ≤ 16 by omega)]
      simp [b]
  · rw [if_neg (show ¬ (xs.length : Int) ≥ 1 by omega)]
    simp [a]
/-- From j down to 1, none is less than the one before. -/
def DownW (xs : List Int) (j : Nat) : Prop := ∀ i, 0 < i → i ≤ j → xs.getD (i - 1) 0 ≤ xs.getD i 0
theorem sorted_l0 (xs : List Int) (hn : xs.length ≤ 140737488355328) (j : Nat) : j < xs.length → ∀ k, j < k →
    (DownW xs j → impl_Weights_int16.l0 k xs j = some true) ∧ (¬ DownW xs j → impl_Weights_int16.l0 k xs j = some false) := by
  induction j with
  | zero =>
    intro hj k hk
    obtain ⟨k, rfl⟩ : ∃ m, k = m + 1 := ⟨k - 1, by omega⟩
    simp only [impl_Weights_int16.l0]; rw [if_neg (by omega)]
    exact ⟨fun _ => rfl, fun h => absurd (fun i h1 h2 => by omega) h⟩
  | succ j ih =>
    intro hj k hk
    obtain ⟨k, rfl⟩ : ∃ m, k = m + 1 := ⟨k - 1, by omega⟩
    obtain ⟨ih1, ih2⟩ := ih (by omega) k (by omega)
    have hs : DownW xs (j + 1) ↔ (xs.getD j 0 ≤ xs.getD (j + 1) 0) ∧ DownW xs j := by
      constructor
      · exact fun h => ⟨h (j + 1) (by omega) (Nat.le_refl _), fun i h1 h2 => h i h1 (by omega)⟩
      · rintro ⟨h1, h2⟩ i hi hl
        by_cases e : i = j + 1
        · subst e; exact h1
        · exact h2 i hi (by omega)
    have hp : wrap64 (((j + 1 : Nat) : Int) - 1) = (j : Int) := by unfold wrap64; omega
    rw [hs]
    simp only [impl_Weights_int16.l0]
    rw [if_pos (by omega), if_pos (by omega), if_pos (by omega), hp, if_pos (by omega), if_pos (by omega), rd_at, rd_at]
    simp only [cmp_Less_int16.f, cmp_isNaN_int16.f, Option.bind_some, bne_self_eq_false, Bool.false_eq_true, if_false, decide_eq_true_eq]
    by_cases h2 : xs.getD (j + 1) 0 < xs.getD j 0
    · rw [if_pos h2]
      exact ⟨fun h => by omega, fun _ => rfl⟩
    · rw [if_neg h2]
      exact ⟨fun h => ih1 h.2, fun h => ih2 fun g => h ⟨by omega, g⟩⟩
theorem good_down (xs : List Int) (h : 1 ≤ xs.length) : GoodW xs 0 ↔ DownW xs (xs.length - 1) ∧ 1 ≤ xs.getD 0 0 := by
  constructor
  · exact fun g => ⟨fun i h1 h2 => (g i (by omega) (by omega)).2 h1, (g 0 (by omega) (by omega)).1⟩
  · rintro ⟨g, h1⟩
    have up : ∀ i, i < xs.length → 1 ≤ xs.getD i 0 := by
      intro i
      induction i with
      | zero => exact fun _ => h1
      | succ i ih =>
        intro hi
        have := g (i + 1) (by omega) (by omega)
        have := ih (by omega)
        simp only [Nat.add_sub_cancel] at *
        omega
    exact fun i _ hi => ⟨up i hi, fun h0 => g i h0 (by omega)⟩
theorem implValid_f (xs : List Int) (hn : xs.length ≤ 140737488355328) (k : Nat) (hk : xs.length + 1 < k) :
    (ValidW xs → impl_ValidWeights.f k xs = some true) ∧ (¬ ValidW xs → impl_ValidWeights.f k xs = some false) := by
  unfold impl_ValidWeights.f impl_size_int16.f impl_within.f ValidW
  simp only [Option.bind_some]
  by_cases a : 1 ≤ xs.length
  · rw [if_pos (show (1 : Int) ≤ (xs.length : Int) by omega), good_down xs a]
    by_cases b : xs.length ≤ 16
    · simp only [Option.bind_some, decide_eq_true (show (xs.length : Int) ≤ 16 by omega), if_true]
      unfold impl_Weights_int16.f
      have hp : wrap64 ((xs.length : Int) - 1) = ((xs.length - 1 : Nat) : Int) := by unfold wrap64; omega
      obtain ⟨s1, s2⟩ := sorted_l0 xs hn (xs.length - 1) (by omega) k (by omega)
      rw [hp]
      by_cases c : DownW xs (xs.length - 1)
      · rw [s1 c]
        simp only [Option.bind_some, if_true]
        have e0 : rd xs 0 = xs.getD 0 0 := rd_at xs 0
        rw [if_pos (by omega), e0]
        by_cases e1 : 1 ≤ xs.getD 0 0
        · rw [if_pos e1, implSum_f xs hn k (by omega)]
          by_cases e : sumW xs 0 ≤ 2000
          · simp only [Option.bind_some, decide_eq_true e]
            exact ⟨fun _ => trivial, fun h => absurd ⟨a, b, ⟨c, e1⟩, e⟩ h⟩
          · simp only [Option.bind_some, decide_eq_false e]
            exact ⟨fun h => absurd h.2.2.2 e, fun _ => trivial⟩
        · rw [if_neg e1]
          exact ⟨fun h => absurd h.2.2.1.2 e1, fun _ => rfl⟩
      · rw [s2 c]; simp [c]
    · simp only [Option.bind_some, decide_eq_false (show ¬ (xs.length : Int) ≤ 16 by omega)]
      simp [b]
  · rw [if_neg (show ¬ (1 : Int) ≤ (xs.length : Int) by omega)]
    simp [a]

theorem i16_in {x : Int} (h : (Lit.int .i16 x).wf = true) : -32768 ≤ x ∧ x ≤ 32767 := by
  simpa [Lit.wf, IntKind.min, IntKind.max, IntKind.signed, IntKind.bits] using h
theorem sumW_eq : ∀ (l : List Int) (a : Int), (∀ x ∈ l, (Lit.int .i16 x).wf = true) → l.length ≤ 1000 → (-100000000 + 32768 * l.length ≤ a ∧ a ≤ 100000000 - 32768 * l.length) → sumW l a = a + l.sum := by
  intro l
  induction l with
  | nil => intro a _ _ _; simp [sumW]
  | cons x l ih =>
    intro a hw hl ha
    have hx := i16_in (hw x (by simp))
    rw [List.length_cons] at hl ha
    have e1 : wrap64 x = x := by unfold wrap64; omega
    have e2 : wrap64 (a + x) = a + x := by unfold wrap64; omega
    unfold sumW
    rw [e1, e2, ih (a + x) (fun y hy => hw y (by simp [hy])) (by omega) (by omega), List.sum_cons]
    omega
theorem okay_of {xs : List Int} (h : ValidW xs) (hw : ∀ x ∈ xs, (Lit.int .i16 x).wf = true) : Okay xs := by
  obtain ⟨h1, h2, h3, h4⟩ := h
  refine ⟨h1, h2, fun x hx => ?_, ?_⟩
  · obtain ⟨i, hi, rfl⟩ := List.getElem_of_mem hx
    have := (h3 i (Nat.zero_le _) hi).1
    rw [List.getD_eq_getElem?_getD, List.getElem?_eq_getElem hi, Option.getD_some] at this
    exact this
  · rw [sumW_eq xs 0 hw (by omega) (by omega)] at h4
    omega
theorem asked_f (xs : List Int) (a : Int) (hn : xs.length ≤ 1048576) (hw : ∀ x ∈ xs, (Lit.int .i16 x).wf = true) : ∃ c, (∀ k, 2097160 < k → spec_l01Asked.f k xs a = some c ∧ impl_massCode.f k xs a = some c) ∧ (c = 0 → Okay xs ∧ 0 ≤ a ∧ a ≤ 2000) := by
  by_cases v : ValidW xs
  · by_cases a1 : 0 ≤ a
    · by_cases a2 : a ≤ 2000
      · refine ⟨0, fun k hk => ?_, fun _ => ⟨okay_of v hw, a1, a2⟩⟩
        unfold spec_l01Asked.f impl_massCode.f
        rw [(specOk_f xs (by omega) k (by omega)).1 v, (implValid_f xs (by omega) k (by omega)).1 v]
        simp [spec_l00In.f, impl_within.f, impl_unless.f, a1, a2]
      · refine ⟨2, fun k hk => ?_, fun h => by omega⟩
        unfold spec_l01Asked.f impl_massCode.f
        rw [(specOk_f xs (by omega) k (by omega)).1 v, (implValid_f xs (by omega) k (by omega)).1 v]
        simp [spec_l00In.f, impl_within.f, impl_unless.f, a1, a2]
    · refine ⟨2, fun k hk => ?_, fun h => by omega⟩
      unfold spec_l01Asked.f impl_massCode.f
      rw [(specOk_f xs (by omega) k (by omega)).1 v, (implValid_f xs (by omega) k (by omega)).1 v]
      simp [spec_l00In.f, impl_within.f, impl_unless.f, a1]
  · refine ⟨1, fun k hk => ?_, fun h => by omega⟩
    unfold spec_l01Asked.f impl_massCode.f
    rw [(specOk_f xs (by omega) k (by omega)).2 v, (implValid_f xs (by omega) k (by omega)).2 v]
    simp

end Go.Proofs.Ythhihmhcfodjiaa.R
