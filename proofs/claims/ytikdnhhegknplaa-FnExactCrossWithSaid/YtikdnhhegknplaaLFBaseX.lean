/- What the copying, comparing and measuring of ferries come to. -/
import Derived.Test.YtikdnhhegknplaaXx1
import Derived.Test.YtikdnhhegknplaaXx2
namespace Go.Proofs.Ytikdnhhegknplaa.X
open Go.RowKit Go.Proofs.YtikdnhhegknplaaW.PrintWords Go.Proofs.YtikdnhhegknplaaW.PrintLast Go.Proofs.YtikdnhhegknplaaW.PrintMore
set_option linter.unusedVariables false
set_option linter.unusedSimpArgs false

theorem next_i {j n : Nat} (h : j < n) (hn : n ≤ 140737488355328) : wrap64 ((j : Int) + 1) = ((j + 1 : Nat) : Int) := by
  unfold wrap64; omega
theorem rd_at (xs : List Int) (j : Nat) : rd xs (j : Int) = xs.getD j 0 := by unfold rd; rw [Int.toNat_natCast]
theorem getD_at (xs : List Int) (j : Nat) (h : j < xs.length) : xs[j]? = some (xs.getD j 0) := by
  rw [List.getD_eq_getElem?_getD, List.getElem?_eq_getElem h]; rfl
theorem drop_at (xs : List Int) (j : Nat) (h : j < xs.length) : xs.drop j = xs.getD j 0 :: xs.drop (j + 1) := by
  rw [List.getD_eq_getElem?_getD, List.getElem?_eq_getElem h, Option.getD_some]
  exact List.drop_eq_getElem_cons h

theorem laws_toUint16S_l0 (xs : List Int) (hn : xs.length ≤ 140737488355328) (d : Nat) : ∀ (j : Nat) (ys : List Int), j + d = xs.length → ys.length = xs.length → (∀ i, i < j → ys[i]? = xs[i]?) →
    ∀ k, d < k → laws_toUint16S.l0 k xs ys j = some xs := by
  induction d with
  | zero =>
    intro j ys hj hl he k hk
    obtain ⟨k, rfl⟩ : ∃ m, k = m + 1 := ⟨k - 1, by omega⟩
    simp only [laws_toUint16S.l0]; rw [if_neg (by omega)]
    congr 1
    refine List.ext_getElem? fun i => ?_
    by_cases hi : i < j
    · exact he i hi
    · rw [List.getElem?_eq_none (by omega), List.getElem?_eq_none (by omega)]
  | succ d ih =>
    intro j ys hj hl he k hk
    obtain ⟨k, rfl⟩ : ∃ m, k = m + 1 := ⟨k - 1, by omega⟩
    simp only [laws_toUint16S.l0]
    rw [if_pos (by omega), if_pos (by omega), if_pos (by omega), next_i (n := xs.length) (by omega) hn, Int.toNat_natCast, rd_at]
    refine ih (j + 1) _ (by omega) (by rw [List.length_set]; exact hl) (fun i hi => ?_) k (by omega)
    by_cases e : i = j
    · subst e
      rw [List.getElem?_set_self (by omega), getD_at xs i (by omega)]
    · rw [List.getElem?_set_ne (by omega)]
      exact he i (by omega)
theorem laws_toUint16S_f (xs : List Int) (hn : xs.length ≤ 140737488355328) (k : Nat) (hk : xs.length < k) : laws_toUint16S.f k xs = some xs := by
  unfold laws_toUint16S.f
  rw [if_pos (by omega), if_pos (by omega), Int.toNat_natCast]
  exact laws_toUint16S_l0 xs hn xs.length 0 _ (by omega) (by simp) (fun i hi => by omega) k hk

theorem laws_eqUint16S_l0 (xs : List Int) (hn : xs.length ≤ 140737488355328) (d : Nat) : ∀ (j : Nat), j + d = xs.length → ∀ k, d < k → laws_eqUint16S.l0 k xs xs j = some true := by
  induction d with
  | zero =>
    intro j hj k hk
    obtain ⟨k, rfl⟩ : ∃ m, k = m + 1 := ⟨k - 1, by omega⟩
    simp only [laws_eqUint16S.l0]; rw [if_neg (by omega)]
  | succ d ih =>
    intro j hj k hk
    obtain ⟨k, rfl⟩ : ∃ m, k = m + 1 := ⟨k - 1, by omega⟩
    simp only [laws_eqUint16S.l0]
    rw [if_pos (by omega), if_pos (by omega), if_pos (by omega), if_pos trivial, next_i (n := xs.length) (by omega) hn]
    exact ih (j + 1) (by omega) k (by omega)
theorem laws_eqUint16S_f (xs : List Int) (hn : xs.length ≤ 140737488355328) (k : Nat) (hk : xs.length < k) : laws_eqUint16S.f k xs xs = some true := by
  unfold laws_eqUint16S.f
  rw [if_pos rfl]
  exact laws_eqUint16S_l0 xs hn xs.length 0 (by omega) k hk

theorem szFerry_f (a b : Int) (l : List Int) (n : Int) (h0 : 0 ≤ n) (h1 : n ≤ 1048576) (hl : l.length ≤ maxLen) : laws_szFerry.f a b l n = some (if n < l.length then -1 else n - l.length) := by
  unfold maxLen at hl
  have e : wrap64 (n - (l.length : Int)) = n - l.length := by unfold wrap64; omega
  unfold laws_szFerry.f laws_szUint16S.f
  rw [e]
  by_cases c : n < l.length
  · rw [if_pos (by omega), if_pos c]; simp
  · rw [if_neg (by omega), if_neg c]; simp only [Option.bind_some]; rw [if_neg (by omega)]
theorem toFerry_f (a b : Int) (l : List Int) (hn : l.length ≤ 1048576) (k : Nat) (hk : 1048576 < k) : laws_toFerry.f k a b l = some (a, b, l) := by
  unfold laws_toFerry.f
  rw [laws_toUint16S_f l (by omega) k (by omega)]; rfl
theorem eqFerry_f (a b : Int) (l : List Int) (hn : l.length ≤ 1048576) (k : Nat) (hk : 1048576 < k) : laws_eqFerry.f k a b l a b l = some true := by
  unfold laws_eqFerry.f
  rw [if_pos rfl, if_pos rfl, laws_eqUint16S_f l (by omega) k (by omega)]; rfl
theorem set_wf {a : Int} (h : (Lit.int .u16 a).wf = true) : 0 ≤ a ∧ a ≤ 65535 := by simpa [Lit.wf, IntKind.min, IntKind.max, IntKind.signed, IntKind.bits] using h
theorem i8_wf {a : Int} (h : (Lit.int .i8 a).wf = true) : -128 ≤ a ∧ a ≤ 127 := by simpa [Lit.wf, IntKind.min, IntKind.max, IntKind.signed, IntKind.bits] using h
theorem i64_wf {a : Int} (h : (Lit.int .i64 a).wf = true) : -9223372036854775808 ≤ a ∧ a ≤ 9223372036854775807 := by simpa [Lit.wf, IntKind.min, IntKind.max, IntKind.signed, IntKind.bits] using h

end Go.Proofs.Ytikdnhhegknplaa.X
