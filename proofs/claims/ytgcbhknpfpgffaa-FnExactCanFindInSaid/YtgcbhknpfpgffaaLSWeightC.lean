/- The weight of a state: both sides' sums of binomials. -/
import Derived.Test.YtgcbhknpfpgffaaCx2
import Derived.Test.YtgcbhknpfpgffaaCx6
import Derived.Test.YtgcbhknpfpgffaaLSBaseC
namespace Go.Proofs.Ytgcbhknpfpgffaa.C
open Go.RowKit Go.Proofs.YtgcbhknpfpgffaaW.PrintWords Go.Proofs.YtgcbhknpfpgffaaW.PrintLast Go.Proofs.YtgcbhknpfpgffaaW.PrintMore
set_option linter.unusedVariables false
set_option linter.unusedSimpArgs false

/-- The partial sum of binomials, round by round. -/
def chS (n : Int) : Nat → Int → Int → Int → Int
  | 0, _, acc, _ => acc
  | r + 1, term, acc, i => chS n r (wrap64 (Int.tdiv (wrap64 (term * wrap64 (n - i))) (wrap64 (i + 1)))) (wrap64 (acc + term)) (i + 1)
theorem zib {x : Int} (h : -9223372036854775808 ≤ x) (h2 : x ≤ 9223372036854775807) : wrap64 x = x := by unfold wrap64; omega
theorem zsb (x : Int) : wrap64 (wrap64 x) = wrap64 x := by unfold wrap64; omega
theorem chS_zero (n : Int) : ∀ (r : Nat) (acc i : Int), wrap64 acc = acc → chS n r 0 acc i = acc := by
  intro r
  induction r with
  | zero => intro acc i _; rfl
  | succ r ih =>
    intro acc i h
    simp only [chS]
    have e : Int.tdiv (wrap64 (0 * wrap64 (n - i))) (wrap64 (i + 1)) = 0 := by
      rw [Int.zero_mul, show wrap64 0 = 0 by unfold wrap64; omega, Int.zero_tdiv]
    rw [e, show wrap64 0 = 0 by unfold wrap64; omega, Int.add_zero, h]
    exact ih acc (i + 1) h
theorem choose_l0 (n m : Int) (hm : m ≤ 10) (hn : n ≤ 100) (r : Nat) : ∀ (term acc i : Int), 0 ≤ i → i + r = m + 1 → (i ≤ n ∨ term = 0) → wrap64 acc = acc → ∀ k, r < k →
    spec_l06Choose.l0 k n m acc term i = some (chS n r term acc i) := by
  induction r with
  | zero =>
    intro term acc i h0 hi _ _ k hk
    obtain ⟨k, rfl⟩ : ∃ m, k = m + 1 := ⟨k - 1, by omega⟩
    simp only [spec_l06Choose.l0]; rw [if_neg (by omega)]; rfl
  | succ r ih =>
    intro term acc i h0 hi ht ha k hk
    obtain ⟨k, rfl⟩ : ∃ m, k = m + 1 := ⟨k - 1, by omega⟩
    simp only [spec_l06Choose.l0]
    rw [if_pos (by omega)]
    by_cases c : i ≤ n
    · rw [if_pos c, if_neg (by unfold wrap64; omega)]
      simp only [chS]
      have ei : wrap64 (i + 1) = i + 1 := zib (by omega) (by omega)
      rw [ei]
      refine ih _ _ (i + 1) (by omega) (by omega) ?_ (zsb _) k (by omega)
      by_cases e : i + 1 ≤ n
      · exact .inl e
      · right
        rw [show n - i = 0 by omega, show wrap64 0 = 0 by unfold wrap64; omega, Int.mul_zero, show wrap64 0 = 0 by unfold wrap64; omega, Int.zero_tdiv]
        unfold wrap64; omega
    · rw [if_neg c]
      rcases ht with h | h
      · exact absurd h c
      · subst h; rw [chS_zero n (r + 1) acc i ha]
theorem choose_f (n m : Int) (h0 : 0 ≤ n) (hm0 : 0 ≤ m) (hm : m ≤ 10) (hn : n ≤ 100) (k : Nat) (hk : 12 < k) : spec_l06Choose.f k n m = some (chS n (m + 1).toNat 1 0 0) := by
  unfold spec_l06Choose.f
  exact choose_l0 n m hm hn (m + 1).toNat 1 0 0 (by omega) (by omega) (.inl h0) (by unfold wrap64; omega) k (by omega)
theorem inner_l1 (x0 n x7 j v : Int) (h0 : 0 ≤ x0) (h3 : x0 ≤ 3) (hj : 0 ≤ j) (hj2 : j ≤ 3) (a b c d : Int) (r : Nat) : ∀ (term acc i : Int), 0 ≤ i → i ≤ 10 → i + r = x0 - j + 1 → ∀ k, r < k →
    impl_weight.l1 k x0 n x7 j v term acc i j a b c d = impl_weight.l0 (k - r - 1) x0 n (wrap64 (x7 + wrap64 (v * chS n r term acc i))) (wrap64 (j + 1)) a b c d := by
  have ej : wrap64 (x0 - j) = x0 - j := zib (by omega) (by omega)
  induction r with
  | zero =>
    intro term acc i hi0 hi10 hi k hk
    obtain ⟨k, rfl⟩ : ∃ m, k = m + 1 := ⟨k - 1, by omega⟩
    simp only [impl_weight.l1]; rw [ej, if_neg (by omega)]; rfl
  | succ r ih =>
    intro term acc i hi0 hi10 hi k hk
    obtain ⟨k, rfl⟩ : ∃ m, k = m + 1 := ⟨k - 1, by omega⟩
    simp only [impl_weight.l1]
    have ei : wrap64 (i + 1) = i + 1 := zib (by omega) (by omega)
    rw [ej, if_pos (by omega), if_neg (by omega), ei, ih _ _ (i + 1) (by omega) (by omega) (by omega) k (by omega)]
    rw [show k + 1 - (r + 1) - 1 = k - r - 1 by omega]
    simp only [chS]
    rw [ei]
/-- One summand of the weight. -/
def zic (x0 n j v : Int) : Int := wrap64 (v * chS n (x0 - j + 1).toNat 1 0 0)
theorem spec_round {x0 n : Int} (h0 : 0 ≤ x0) (h3 : x0 ≤ 3) (n0 : 0 ≤ n) (n40 : n ≤ 40) {j j' v acc a b c d : Int} (hj : 0 ≤ j) (hj2 : j < 4) (hv : rd [a, b, c, d] j = v) (hjj : wrap64 (j + 1) = j') (hz : x0 < j → v = 0) (k : Nat) (hk : 20 < k) (hacc : wrap64 acc = acc) :
    spec_l06Weight.l0 (k + 1) x0 n acc j a b c d = if j ≤ x0 then spec_l06Weight.l0 k x0 n (wrap64 (acc + zic x0 n j v)) j' a b c d else some acc := by
  simp only [spec_l06Weight.l0]
  by_cases cj : j ≤ x0
  · rw [if_pos cj, if_pos cj, if_pos hj, if_pos hj2, show wrap64 (x0 - j) = x0 - j from zib (by omega) (by omega), choose_f n (x0 - j) n0 (by omega) (by omega) (by omega) k (by omega), hv, hjj]
    rfl
  · rw [if_neg cj, if_neg cj]
theorem impl_round {x0 n : Int} (h0 : 0 ≤ x0) (h3 : x0 ≤ 3) {j j' v acc a b c d : Int} (hj : 0 ≤ j) (hj2 : j < 4) (hv : rd [a, b, c, d] j = v) (hjj : wrap64 (j + 1) = j') (hz : x0 < j → v = 0) (k : Nat) (hk : 20 < k) (hacc : wrap64 acc = acc) :
    ∃ k', k ≤ k' + 6 ∧ impl_weight.l0 (k + 1) x0 n acc j a b c d = impl_weight.l0 k' x0 n (if j ≤ x0 then wrap64 (acc + zic x0 n j v) else acc) j' a b c d := by
  simp only [impl_weight.l0]
  rw [if_pos hj2, if_pos hj, hv]
  by_cases cj : j ≤ x0
  · refine ⟨k - (x0 - j + 1).toNat - 1, by omega, ?_⟩
    rw [if_pos cj, inner_l1 x0 n acc j v h0 h3 hj (by omega) a b c d (x0 - j + 1).toNat 1 0 0 (by omega) (by omega) (by omega) k (by omega), hjj]
    rfl
  · refine ⟨k - 1, by omega, ?_⟩
    rw [if_neg cj]
    obtain ⟨k, rfl⟩ : ∃ m, k = m + 1 := ⟨k - 1, by omega⟩
    simp only [impl_weight.l1]
    rw [show wrap64 (x0 - j) = x0 - j from zib (by omega) (by omega), if_neg (by omega), hjj, hz (by omega), Int.zero_mul, show wrap64 0 = 0 by unfold wrap64; omega, Int.add_zero, hacc]
    rfl
def zjc (x0 n a b c d : Int) : Int :=
  let s0 := wrap64 (0 + zic x0 n 0 a)
  let s1 := if 1 ≤ x0 then wrap64 (s0 + zic x0 n 1 b) else s0
  let s2 := if 2 ≤ x0 then wrap64 (s1 + zic x0 n 2 c) else s1
  if 3 ≤ x0 then wrap64 (s2 + zic x0 n 3 d) else s2
theorem zte (p : Prop) [Decidable p] (x y : Int) (hy : wrap64 y = y) : wrap64 (if p then wrap64 x else y) = if p then wrap64 x else y := by
  split
  · exact zsb x
  · exact hy
theorem zsd {x0 n a b c d : Int} (g : zec x0 a b c d) (n0 : 0 ≤ n) (n40 : n ≤ 40) (k : Nat) (hk : 100 < k) : spec_l06Weight.f k x0 a b c d n = some (zjc x0 n a b c d) := by
  obtain ⟨k, rfl⟩ : ∃ m, k = m + 1 + 1 + 1 + 1 + 1 := ⟨k - 5, by omega⟩
  unfold spec_l06Weight.f
  rw [spec_round g.n0 g.n3 n0 n40 (by omega) (by omega) (rd0 a b c d) w01 (fun h => by have := g.n0; omega) (k + 1 + 1 + 1 + 1) (by omega) (by unfold wrap64; omega), if_pos g.n0]
  have g3 := g.n3
  have q0 := zsb (0 + zic x0 n 0 a)
  rw [spec_round g.n0 g.n3 n0 n40 (by omega) (by omega) (rd1 a b c d) w12 (fun h => g.zb h) (k + 1 + 1 + 1) (by omega) q0]
  unfold zjc
  by_cases c1 : 1 ≤ x0
  · rw [if_pos c1]
    rw [spec_round g.n0 g.n3 n0 n40 (by omega) (by omega) (rd2 a b c d) w23 (fun h => g.zc h) (k + 1 + 1) (by omega) (zsb _)]
    by_cases c2 : 2 ≤ x0
    · rw [if_pos c2]
      rw [spec_round g.n0 g.n3 n0 n40 (by omega) (by omega) (rd3 a b c d) w34 (fun h => g.zd h) (k + 1) (by omega) (zsb _)]
      by_cases c3 : 3 ≤ x0
      · rw [if_pos c3]
        simp only [spec_l06Weight.l0]
        rw [if_neg (by omega)]
        simp only [if_pos c1, if_pos c2, if_pos c3]
      · rw [if_neg c3]; simp only [if_pos c1, if_pos c2, if_neg c3]
    · rw [if_neg c2]; simp only [if_pos c1, if_neg c2, if_neg (show ¬ 3 ≤ x0 by omega)]
  · rw [if_neg c1]; simp only [if_neg c1, if_neg (show ¬ 2 ≤ x0 by omega), if_neg (show ¬ 3 ≤ x0 by omega)]
theorem zpd {x0 n a b c d : Int} (g : zec x0 a b c d) (k : Nat) (hk : 100 < k) : impl_weight.f k x0 a b c d n = some (zjc x0 n a b c d) := by
  obtain ⟨k, rfl⟩ : ∃ m, k = m + 1 := ⟨k - 1, by omega⟩
  have q0 := zsb (0 + zic x0 n 0 a)
  have q1 := zte (1 ≤ x0) (wrap64 (0 + zic x0 n 0 a) + zic x0 n 1 b) _ q0
  have q2 := zte (2 ≤ x0) ((if 1 ≤ x0 then wrap64 (wrap64 (0 + zic x0 n 0 a) + zic x0 n 1 b) else wrap64 (0 + zic x0 n 0 a)) + zic x0 n 2 c) _ q1
  unfold impl_weight.f
  obtain ⟨k1, l1, e1⟩ := impl_round (n := n) (acc := 0) g.n0 g.n3 (by omega) (by omega) (rd0 a b c d) w01 (fun h => by have := g.n0; omega) k (by omega) (by unfold wrap64; omega)
  rw [if_pos g.n0] at e1
  obtain ⟨k1, rfl⟩ : ∃ m, k1 = m + 1 := ⟨k1 - 1, by omega⟩
  obtain ⟨k2, l2, e2⟩ := impl_round (n := n) g.n0 g.n3 (by omega) (by omega) (rd1 a b c d) w12 (fun h => g.zb h) k1 (by omega) q0
  obtain ⟨k2, rfl⟩ : ∃ m, k2 = m + 1 := ⟨k2 - 1, by omega⟩
  obtain ⟨k3, l3, e3⟩ := impl_round (n := n) g.n0 g.n3 (by omega) (by omega) (rd2 a b c d) w23 (fun h => g.zc h) k2 (by omega) q1
  obtain ⟨k3, rfl⟩ : ∃ m, k3 = m + 1 := ⟨k3 - 1, by omega⟩
  obtain ⟨k4, l4, e4⟩ := impl_round (n := n) g.n0 g.n3 (by omega) (by omega) (rd3 a b c d) w34 (fun h => g.zd h) k3 (by omega) q2
  obtain ⟨k4, rfl⟩ : ∃ m, k4 = m + 1 := ⟨k4 - 1, by omega⟩
  rw [e1, e2, e3, e4]
  simp only [impl_weight.l0]
  rw [if_neg (by omega)]
  rfl

end Go.Proofs.Ytgcbhknpfpgffaa.C
