/- Puzzles: copying, comparing, measuring, and the one test of both sides. -/
import Derived.Test.YteciomagemjjaaaJx13
import Derived.Test.YteciomagemjjaaaJx14
import Derived.Test.YteciomagemjjaaaJx15
import Derived.Test.YteciomagemjjaaaJx3
import Derived.Test.YteciomagemjjaaaJx6
import Derived.Test.YteciomagemjjaaaJx7
import Derived.Test.YteciomagemjjaaaJx8
import Derived.Test.YteciomagemjjaaaJx9
namespace Go.Proofs.Yteciomagemjjaaa.J
open Go.RowKit Go.Proofs.YteciomagemjjaaaW.PrintWords Go.Proofs.YteciomagemjjaaaW.PrintLast Go.Proofs.YteciomagemjjaaaW.PrintMore
set_option linter.unusedVariables false
set_option linter.unusedSimpArgs false

theorem zac {j n : Nat} (h : j < n) (hn : n ≤ 140737488355328) : wrap64 ((j : Int) + 1) = ((j + 1 : Nat) : Int) := by
  unfold wrap64; omega
theorem rd_at (xs : List Int) (j : Nat) : rd xs (j : Int) = xs.getD j 0 := by unfold rd; rw [Int.toNat_natCast]
theorem getD_at (xs : List Int) (j : Nat) (h : j < xs.length) : xs[j]? = some (xs.getD j 0) := by
  rw [List.getD_eq_getElem?_getD, List.getElem?_eq_getElem h]; rfl
theorem drop_at (xs : List Int) (j : Nat) (h : j < xs.length) : xs.drop j = xs.getD j 0 :: xs.drop (j + 1) := by
  rw [List.getD_eq_getElem?_getD, List.getElem?_eq_getElem h, Option.getD_some]
  exact List.drop_eq_getElem_cons h

theorem laws_toInt16S_l0 (xs : List Int) (hn : xs.length ≤ 140737488355328) (d : Nat) : ∀ (j : Nat) (ys : List Int), j + d = xs.length → ys.length = xs.length → (∀ i, i < j → ys[i]? = xs[i]?) →
    ∀ k, d < k → laws_toInt16S.l0 k xs ys j = some xs := by
  induction d with
  | zero =>
    intro j ys hj hl he k hk
    obtain ⟨k, rfl⟩ : ∃ m, k = m + 1 := ⟨k - 1, by omega⟩
    simp only [laws_toInt16S.l0]; rw [if_neg (by omega)]
    congr 1
    refine List.ext_getElem? fun i => ?_
    by_cases hi : i < j
    · exact he i hi
    · rw [List.getElem?_eq_none (by omega), List.getElem?_eq_none (by omega)]
  | succ d ih =>
    intro j ys hj hl he k hk
    obtain ⟨k, rfl⟩ : ∃ m, k = m + 1 := ⟨k - 1, by omega⟩
    simp only [laws_toInt16S.l0]
    rw [if_pos (by omega), if_pos (by omega), if_pos (by omega), zac (n := xs.length) (by omega) hn, Int.toNat_natCast, rd_at]
    refine ih (j + 1) _ (by omega) (by rw [List.length_set]; exact hl) (fun i hi => ?_) k (by omega)
    by_cases e : i = j
    · subst e
      rw [List.getElem?_set_self (by omega), getD_at xs i (by omega)]
    · rw [List.getElem?_set_ne (by omega)]
      exact he i (by omega)
theorem laws_toInt16S_f (xs : List Int) (hn : xs.length ≤ 140737488355328) (k : Nat) (hk : xs.length < k) : laws_toInt16S.f k xs = some xs := by
  unfold laws_toInt16S.f
  rw [if_pos (by omega), if_pos (by omega), Int.toNat_natCast]
  exact laws_toInt16S_l0 xs hn xs.length 0 _ (by omega) (by simp) (fun i hi => by omega) k hk

theorem laws_eqInt16S_l0 (xs : List Int) (hn : xs.length ≤ 140737488355328) (d : Nat) : ∀ (j : Nat), j + d = xs.length → ∀ k, d < k → laws_eqInt16S.l0 k xs xs j = some true := by
  induction d with
  | zero =>
    intro j hj k hk
    obtain ⟨k, rfl⟩ : ∃ m, k = m + 1 := ⟨k - 1, by omega⟩
    simp only [laws_eqInt16S.l0]; rw [if_neg (by omega)]
  | succ d ih =>
    intro j hj k hk
    obtain ⟨k, rfl⟩ : ∃ m, k = m + 1 := ⟨k - 1, by omega⟩
    simp only [laws_eqInt16S.l0]
    rw [if_pos (by omega), if_pos (by omega), if_pos (by omega), if_pos trivial, zac (n := xs.length) (by omega) hn]
    exact ih (j + 1) (by omega) k (by omega)
theorem laws_eqInt16S_f (xs : List Int) (hn : xs.length ≤ 140737488355328) (k : Nat) (hk : xs.length < k) : laws_eqInt16S.f k xs xs = some true := by
  unfold laws_eqInt16S.f
  rw [if_pos rfl]
  exact laws_eqInt16S_l0 xs hn xs.length 0 (by omega) k hk

theorem i16_wf {a : Int} (h : (Lit.int .i16 a).wf = true) : -32768 ≤ a ∧ a ≤ 32767 := by simpa [Lit.wf, IntKind.min, IntKind.max, IntKind.signed, IntKind.bits] using h
theorem wn_0 : wrap64 1 = 1 := by decide +kernel
theorem wn_1 : wrap64 2 = 2 := by decide +kernel
theorem wn_2 : wrap64 3 = 3 := by decide +kernel
theorem wn_3 : wrap64 4 = 4 := by decide +kernel
theorem toWater_f (a b c d : Int) (k : Nat) (hk : 4 < k) : laws_toWater.f k a b c d = some (a, b, c, d) := by
  obtain ⟨k, rfl⟩ : ∃ m, k = m + 5 := ⟨k - 5, by omega⟩
  unfold laws_toWater.f
  simp [laws_toWater.l0, wn_0, wn_1, wn_2, wn_3, zlb, rd]
theorem eqWater_f (a b c d : Int) (k : Nat) (hk : 4 < k) : laws_eqWater.f k a b c d a b c d = some true := by
  obtain ⟨k, rfl⟩ : ∃ m, k = m + 5 := ⟨k - 5, by omega⟩
  unfold laws_eqWater.f
  simp [laws_eqWater.l0, wn_0, wn_1, wn_2, wn_3]
theorem szPuzzle_f (l : List Int) (a b c d : Int) (e : Bool) (hl : l.length ≤ maxLen) : laws_szPuzzle.f l a b c d e 1048576 = some (if 1048576 < l.length then (-1 : Int) else 1048576 - (l.length : Int)) := by
  unfold maxLen at hl
  have e : wrap64 (1048576 - (l.length : Int)) = 1048576 - l.length := by unfold wrap64; omega
  unfold laws_szPuzzle.f laws_szInt16S.f
  rw [e]
  by_cases c : 1048576 < l.length
  · rw [if_pos (by omega), if_pos c]; simp
  · rw [if_neg (by omega), if_neg c]; simp only [Option.bind_some]; rw [if_neg (by omega)]
theorem zjd (l : List Int) (a b c d : Int) (e : Bool) (hn : l.length ≤ 1048576) (k : Nat) (hk : 1048576 < k) : laws_toPuzzle.f k l a b c d e = some (l, a, b, c, d, e) := by
  unfold laws_toPuzzle.f
  rw [laws_toInt16S_f l (by omega) k (by omega), toWater_f a b c d k (by omega)]; rfl
theorem eqPuzzle_f (l : List Int) (a b c d : Int) (e : Bool) (hn : l.length ≤ 1048576) (k : Nat) (hk : 1048576 < k) : laws_eqPuzzle.f k l a b c d e l a b c d e = some true := by
  unfold laws_eqPuzzle.f
  rw [laws_eqInt16S_f l (by omega) k (by omega)]
  simp only [Option.bind_some, if_true]
  rw [eqWater_f a b c d k (by omega)]
  simp
/-- How many waters. -/
def PR : List Int → Int
  | [] => 1
  | x :: xs => (x + 1) * PR xs
def jug (x : Int) : Prop := 1 ≤ x ∧ x ≤ 60
instance (x : Int) : Decidable (jug x) := inferInstanceAs (Decidable (_ ∧ _))
theorem PR_pos : ∀ {l : List Int}, (∀ x ∈ l, jug x) → 1 ≤ PR l
  | [], _ => by simp [PR]
  | x :: xs, h => by
    have h1 := PR_pos (fun y hy => h y (List.mem_cons_of_mem _ hy))
    have h2 := h x List.mem_cons_self
    unfold jug at h2
    have h3 : 1 * PR xs ≤ (x + 1) * PR xs := Int.mul_le_mul_of_nonneg_right (by omega) (by omega)
    simp only [PR]
    omega
theorem ztd (l : List Int) (j : Nat) (h : j < l.length) : l.drop j = rd l j :: l.drop (j + 1) := by rw [rd_at]; exact drop_at l j h
theorem rd_mem (l : List Int) (j : Nat) (h : j < l.length) : rd l j ∈ l := by
  rw [rd_at, List.getD_eq_getElem?_getD, List.getElem?_eq_getElem h, Option.getD_some]
  exact List.getElem_mem h
theorem pow_step (p x : Int) (d : Nat) (hp : 0 ≤ p) (hx : jug x) (hb : p * 61 ^ (d + 1) ≤ 13845841) : 0 ≤ p * (x + 1) ∧ p * (x + 1) * 61 ^ d ≤ 13845841 := by
  unfold jug at hx
  have h0 : (0 : Int) ≤ 61 ^ d := Int.pow_nonneg (by decide)
  have h1 : p * (x + 1) ≤ p * 61 := Int.mul_le_mul_of_nonneg_left (by omega) hp
  refine ⟨Int.mul_nonneg hp (by omega), ?_⟩
  have h2 := Int.mul_le_mul_of_nonneg_right h1 h0
  have h3 : p * 61 * 61 ^ d = p * 61 ^ (d + 1) := by rw [Int.pow_succ, Int.mul_assoc, Int.mul_comm (61 : Int) (61 ^ d)]
  omega
theorem pow_le (p : Int) (d : Nat) (hp : 0 ≤ p) (hb : p * 61 ^ d ≤ 13845841) : p ≤ 13845841 := by
  have h0 : (1 : Int) ≤ 61 ^ d := by have := Int.pow_pos (n := 61) (m := d) (by decide); omega
  have h1 : p * 1 ≤ p * 61 ^ d := Int.mul_le_mul_of_nonneg_left h0 hp
  omega
theorem sp_l0 (l : List Int) (hn : l.length ≤ 4) (d : Nat) : ∀ (j : Nat) (p : Int), j + d = l.length → 0 ≤ p → p * 61 ^ d ≤ 13845841 → ∀ k, d < k →
    ((∀ x ∈ l.drop j, jug x) → spec_l02States.l0 k l p j = some (if p * PR (l.drop j) > 5000 then 0 else p * PR (l.drop j)) ∧ impl_Puzzle_states.l0 k p l l.length j = some (p * PR (l.drop j))) ∧
    ((¬ ∀ x ∈ l.drop j, jug x) → spec_l02States.l0 k l p j = some 0) := by
  induction d with
  | zero =>
    intro j p hj hp hb k hk
    obtain ⟨k, rfl⟩ : ∃ m, k = m + 1 := ⟨k - 1, by omega⟩
    have e : l.drop j = [] := List.drop_eq_nil_of_le (by omega)
    have nj : ¬ ((j : Int) < (l.length : Int)) := by omega
    rw [e]
    refine ⟨fun _ => ⟨?_, ?_⟩, fun h => absurd (by simp) h⟩
    · simp only [spec_l02States.l0, PR, Int.mul_one]
      rw [if_neg nj]
      split <;> rfl
    · simp only [impl_Puzzle_states.l0, PR, Int.mul_one]
      rw [if_neg nj]
  | succ d ih =>
    intro j p hj hp hb k hk
    obtain ⟨k, rfl⟩ : ∃ m, k = m + 1 := ⟨k - 1, by omega⟩
    rw [ztd l j (by omega)]
    simp only [List.mem_cons, forall_eq_or_imp]
    have pj : (j : Int) < (l.length : Int) := by omega
    have p0 : 0 ≤ (j : Int) := by omega
    have hle := pow_le p (d + 1) hp hb
    by_cases hx : jug (rd l j)
    · obtain ⟨h1, h2⟩ := pow_step p (rd l j) d hp hx hb
      have h3 := pow_le _ d h1 h2
      have hj' := hx
      unfold jug at hj'
      have e1 : wrap64 (wrap64 (rd l j) + 1) = rd l j + 1 := by unfold wrap64; omega
      have e2 : wrap64 (p * (rd l j + 1)) = p * (rd l j + 1) := by generalize p * (rd l j + 1) = z at h1 h3 ⊢; unfold wrap64; omega
      have b1 : ¬ (rd l (j : Int) < 1) := by omega
      have b2 : ¬ (rd l (j : Int) > 60) := by omega
      have s : spec_l02States.l0 (k + 1) l p j = spec_l02States.l0 k l (p * (rd l j + 1)) ((j + 1 : Nat) : Int) := by
        simp only [spec_l02States.l0]
        rw [if_pos pj, if_pos p0, if_neg b1, if_neg b2, zac (n := l.length) (by omega) (by omega), e1, e2]
      have i : impl_Puzzle_states.l0 (k + 1) p l l.length j = impl_Puzzle_states.l0 k (p * (rd l j + 1)) l l.length ((j + 1 : Nat) : Int) := by
        simp only [impl_Puzzle_states.l0]
        rw [if_pos pj, if_pos p0, if_pos pj, zac (n := l.length) (by omega) (by omega), e1, e2]
      have := ih (j + 1) _ (by omega) h1 h2 k (by omega)
      rw [s, i]
      simp only [PR, ← Int.mul_assoc]
      exact ⟨fun h => this.1 h.2, fun h => this.2 (fun h' => h ⟨hx, h'⟩)⟩
    · refine ⟨fun h => absurd h.1 hx, fun _ => ?_⟩
      simp only [spec_l02States.l0]
      rw [if_pos pj, if_pos p0]
      unfold jug at hx
      by_cases c : rd l j < 1
      · rw [if_pos c]
      · rw [if_neg c, if_pos (by omega)]
theorem bad_f (x : Int) : impl_ValidPuzzle_1.f x = some (decide (¬ jug x)) := by
  unfold impl_ValidPuzzle_1.f jug
  by_cases h : x < 1
  · rw [if_pos h]
    congr 1
    exact (decide_eq_true (by omega)).symm
  · rw [if_neg h]
    congr 1
    by_cases h2 : x > 60
    · rw [decide_eq_true h2, decide_eq_true (by omega)]
    · rw [decide_eq_false h2, decide_eq_false (by omega)]
theorem idx_l0 (l : List Int) (hn : l.length ≤ 4) (d : Nat) : ∀ (j : Nat), j + d = l.length → ∀ k, d < k →
    ((∀ x ∈ l.drop j, jug x) → slices_IndexFunc_int16_int16_88.l0 k l l.length j = some (-1)) ∧ ((¬ ∀ x ∈ l.drop j, jug x) → ∃ v : Nat, slices_IndexFunc_int16_int16_88.l0 k l l.length j = some (v : Int)) := by
  induction d with
  | zero =>
    intro j hj k hk
    obtain ⟨k, rfl⟩ : ∃ m, k = m + 1 := ⟨k - 1, by omega⟩
    have e : l.drop j = [] := List.drop_eq_nil_of_le (by omega)
    rw [e]
    simp only [slices_IndexFunc_int16_int16_88.l0]
    rw [if_neg (by omega)]
    exact ⟨fun _ => rfl, fun h => absurd (by simp) h⟩
  | succ d ih =>
    intro j hj k hk
    obtain ⟨k, rfl⟩ : ∃ m, k = m + 1 := ⟨k - 1, by omega⟩
    rw [ztd l j (by omega)]
    simp only [slices_IndexFunc_int16_int16_88.l0, List.mem_cons, forall_eq_or_imp]
    rw [if_pos (by omega), if_pos (by omega), if_pos (by omega), bad_f]
    simp only [Option.bind_some]
    by_cases hx : jug (rd l j)
    · rw [if_neg (by simpa using hx), zac (n := l.length) (by omega) (by omega)]
      have := ih (j + 1) (by omega) k (by omega)
      exact ⟨fun h => this.1 h.2, fun h => this.2 (fun h' => h ⟨hx, h'⟩)⟩
    · rw [if_pos (by simpa using hx)]
      exact ⟨fun h => absurd h.1 hx, fun _ => ⟨j, rfl⟩⟩
/-- Water that the jugs can hold. -/
def wat (l : List Int) (a b c d : Int) : Prop := ∀ j : Nat, j < 4 → 0 ≤ rd [a, b, c, d] j ∧ rd [a, b, c, d] j ≤ rd l j
theorem zgf (l : List Int) (j : Nat) (h : l.length ≤ j) : rd l j = 0 := by
  rw [rd_at, List.getD_eq_getElem?_getD, List.getElem?_eq_none h]; rfl
theorem wat_l0 (l : List Int) (hn : l.length ≤ 4) (s0 s1 s2 s3 : Int) (tap : Bool) (a b c e : Int) (d : Nat) : ∀ (j : Nat), j + d = 4 → ∃ v : Bool, (v = true → ∀ i, j ≤ i → i < 4 → 0 ≤ rd [a, b, c, e] (i : Int) ∧ rd [a, b, c, e] (i : Int) ≤ rd l (i : Int)) ∧ ∀ k, d < k →
    spec_l02Water.l0 k l j a b c e = some v ∧ impl_Puzzle_holds.l0 k j l s0 s1 s2 s3 tap a b c e = some v := by
  induction d with
  | zero =>
    intro j hj
    refine ⟨true, fun _ i h1 h2 => by omega, fun k hk => ?_⟩
    obtain ⟨k, rfl⟩ : ∃ m, k = m + 1 := ⟨k - 1, by omega⟩
    simp only [spec_l02Water.l0, impl_Puzzle_holds.l0]
    rw [if_neg (by omega), if_neg (by omega)]
    exact ⟨rfl, rfl⟩
  | succ d ih =>
    intro j hj
    obtain ⟨v, hv, hk⟩ := ih (j + 1) (by omega)
    have hm : (if (j : Int) < l.length then rd l j else 0) = rd l j := by
      by_cases h : (j : Int) < l.length
      · rw [if_pos h]
      · rw [if_neg h, zgf l j (by omega)]
    have p4 : (j : Int) < 4 := by omega
    have p0 : 0 ≤ (j : Int) := by omega
    have nx : wrap64 ((j : Int) + 1) = ((j + 1 : Nat) : Int) := zac (n := 4) (by omega) (by omega)
    by_cases c1 : rd [a, b, c, e] (j : Int) < 0
    · refine ⟨false, fun h => (by cases h), fun k hk => ?_⟩
      obtain ⟨k, rfl⟩ : ∃ m, k = m + 1 := ⟨k - 1, by omega⟩
      by_cases h : (j : Int) < l.length
      · refine ⟨?_, ?_⟩ <;> simp only [spec_l02Water.l0, impl_Puzzle_holds.l0, if_pos p4, if_pos p0, if_pos c1, if_pos h]
      · refine ⟨?_, ?_⟩ <;> simp only [spec_l02Water.l0, impl_Puzzle_holds.l0, if_pos p4, if_pos p0, if_pos c1, if_neg h]
    · by_cases c2 : rd [a, b, c, e] (j : Int) > rd l (j : Int)
      · refine ⟨false, fun h => (by cases h), fun k hk => ?_⟩
        obtain ⟨k, rfl⟩ : ∃ m, k = m + 1 := ⟨k - 1, by omega⟩
        by_cases h : (j : Int) < l.length
        · refine ⟨?_, ?_⟩ <;> simp only [spec_l02Water.l0, impl_Puzzle_holds.l0, if_pos p4, if_pos p0, if_neg c1, if_pos h, if_pos c2]
        · rw [zgf l j (by omega)] at c2
          refine ⟨?_, ?_⟩ <;> simp only [spec_l02Water.l0, impl_Puzzle_holds.l0, if_pos p4, if_pos p0, if_neg c1, if_neg h, if_pos c2]
      · refine ⟨v, fun h i h1 h2 => ?_, fun k hk' => ?_⟩
        · by_cases e1 : i = j
          · subst e1; omega
          · exact hv h i (by omega) h2
        · obtain ⟨k, rfl⟩ : ∃ m, k = m + 1 := ⟨k - 1, by omega⟩
          have := hk k (by omega)
          by_cases h : (j : Int) < l.length
          · refine ⟨?_, ?_⟩ <;> simp only [spec_l02Water.l0, impl_Puzzle_holds.l0, if_pos p4, if_pos p0, if_neg c1, if_pos h, if_neg c2, nx]
            · exact this.1
            · exact this.2
          · rw [zgf l j (by omega)] at c2
            refine ⟨?_, ?_⟩ <;> simp only [spec_l02Water.l0, impl_Puzzle_holds.l0, if_pos p4, if_pos p0, if_neg c1, if_neg h, if_neg c2, nx]
            · exact this.1
            · exact this.2
/-- A puzzle that is one. -/
def okP (l : List Int) (a b c d : Int) : Prop := 1 ≤ l.length ∧ l.length ≤ 4 ∧ (∀ x ∈ l, jug x) ∧ PR l ≤ 5000 ∧ wat l a b c d
theorem ok_f (l : List Int) (a b c d : Int) (tap : Bool) (hl : l.length ≤ 1048576) : ∃ v : Bool, (v = true → okP l a b c d) ∧ ∀ k, 10 < k →
    spec_l02Ok.f k l a b c d tap = some v ∧ impl_ValidPuzzle.f k l a b c d tap = some v ∧ (v = true → spec_l02States.f k l = some (PR l)) := by
  by_cases h1 : 1 ≤ l.length ∧ l.length ≤ 4
  · have i1 : spec_l00In.f (l.length : Int) 1 4 = some true := by
      unfold spec_l00In.f
      rw [if_pos (by omega), decide_eq_true (by omega)]
    have i2 : impl_within.f (l.length : Int) 1 4 = some true := by
      unfold impl_within.f
      rw [if_pos (by omega), decide_eq_true (by omega)]
    have hp : (1 : Int) * 61 ^ l.length ≤ 13845841 := by
      have : l.length = 1 ∨ l.length = 2 ∨ l.length = 3 ∨ l.length = 4 := by omega
      rcases this with h | h | h | h <;> rw [h] <;> decide
    by_cases h2 : ∀ x ∈ l, jug x
    · have e2 : ∀ k, 10 < k → slices_ContainsFunc_int16_int16_88.f k l = some false := by
        intro k hk
        unfold slices_ContainsFunc_int16_int16_88.f slices_IndexFunc_int16_int16_88.f
        have := ((idx_l0 l h1.2 l.length 0 (by omega) k (by omega)).1 (by simpa using h2))
        rw [show ((0 : Nat) : Int) = 0 from rfl] at this
        rw [this]
        rfl
      have e1 := fun k (hk : 10 < k) => (sp_l0 l h1.2 l.length 0 1 (by omega) (by omega) hp k (by omega)).1 (by simpa using h2)
      simp only [List.drop_zero, Int.one_mul] at e1
      by_cases h3 : PR l ≤ 5000
      · obtain ⟨v, hv, hw⟩ := wat_l0 l h1.2 a b c d tap a b c d 4 0 (by omega)
        refine ⟨v, fun h => ⟨h1.1, h1.2, h2, h3, fun j hj => hv h j (by omega) hj⟩, fun k hk => ?_⟩
        have s1 : spec_l02States.f k l = some (PR l) := by
          unfold spec_l02States.f
          rw [i1]
          simp only [Option.bind_some, if_true]
          have := (e1 k hk).1
          rw [if_neg (by omega)] at this
          exact this
        have pp := PR_pos h2
        refine ⟨?_, ?_, fun _ => s1⟩
        · unfold spec_l02Ok.f spec_l02Water.f
          rw [s1]
          simp only [Option.bind_some]
          rw [if_pos (by omega)]
          have := (hw k (by omega)).1
          rw [show ((0 : Nat) : Int) = 0 from rfl] at this
          rw [this]
          rfl
        · unfold impl_ValidPuzzle.f impl_size_int16.f impl_Puzzle_states.f impl_Puzzle_holds.f
          simp only [Option.bind_some]
          rw [i2]
          simp only [Option.bind_some, if_true]
          rw [e2 k hk]
          simp only [Option.bind_some, Bool.false_eq_true, if_false]
          have t1 := (e1 k hk).2
          rw [show ((0 : Nat) : Int) = 0 from rfl] at t1
          rw [t1]
          simp only [Option.bind_some]
          rw [if_pos h3]
          have := (hw k (by omega)).2
          rw [show ((0 : Nat) : Int) = 0 from rfl] at this
          rw [this]
          rfl
      · refine ⟨false, fun h => (by cases h), fun k hk => ⟨?_, ?_, fun h => (by cases h)⟩⟩
        · unfold spec_l02Ok.f spec_l02States.f
          rw [i1]
          simp only [Option.bind_some, if_true]
          have := (e1 k hk).1
          rw [if_pos (by omega), show ((0 : Nat) : Int) = 0 from rfl] at this
          rw [this]
          rfl
        · unfold impl_ValidPuzzle.f impl_size_int16.f impl_Puzzle_states.f
          simp only [Option.bind_some]
          rw [i2]
          simp only [Option.bind_some, if_true]
          rw [e2 k hk]
          simp only [Option.bind_some, Bool.false_eq_true, if_false]
          have t1 := (e1 k hk).2
          rw [show ((0 : Nat) : Int) = 0 from rfl] at t1
          rw [t1]
          simp only [Option.bind_some]
          rw [if_neg h3]
    · refine ⟨false, fun h => (by cases h), fun k hk => ⟨?_, ?_, fun h => (by cases h)⟩⟩
      · unfold spec_l02Ok.f spec_l02States.f
        rw [i1]
        simp only [Option.bind_some, if_true]
        have := (sp_l0 l h1.2 l.length 0 1 (by omega) (by omega) hp k (by omega)).2 (by simpa using h2)
        rw [show ((0 : Nat) : Int) = 0 from rfl] at this
        rw [this]
        rfl
      · unfold impl_ValidPuzzle.f impl_size_int16.f slices_ContainsFunc_int16_int16_88.f slices_IndexFunc_int16_int16_88.f
        simp only [Option.bind_some]
        rw [i2]
        simp only [Option.bind_some, if_true]
        obtain ⟨v, hv⟩ := ((idx_l0 l h1.2 l.length 0 (by omega) k (by omega)).2 (by simpa using h2))
        rw [show ((0 : Nat) : Int) = 0 from rfl] at hv
        rw [hv]
        simp only [Option.bind_some]
        rw [if_pos (decide_eq_true (by omega))]
  · refine ⟨false, fun h => (by cases h), fun k hk => ⟨?_, ?_, fun h => (by cases h)⟩⟩
    · have i1 : spec_l00In.f (l.length : Int) 1 4 = some false := by
        unfold spec_l00In.f
        by_cases c : (l.length : Int) ≥ 1
        · rw [if_pos c, decide_eq_false (by omega)]
        · rw [if_neg c]
      unfold spec_l02Ok.f spec_l02States.f
      rw [i1]
      rfl
    · have i2 : impl_within.f (l.length : Int) 1 4 = some false := by
        unfold impl_within.f
        by_cases c : (1 : Int) ≤ l.length
        · rw [if_pos c, decide_eq_false (by omega)]
        · rw [if_neg c]
      unfold impl_ValidPuzzle.f impl_size_int16.f
      simp only [Option.bind_some]
      rw [i2]
      rfl

end Go.Proofs.Yteciomagemjjaaa.J
