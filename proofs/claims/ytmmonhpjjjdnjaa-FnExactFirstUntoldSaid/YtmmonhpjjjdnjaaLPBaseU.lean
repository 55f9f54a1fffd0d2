/- Plans: copying and comparing. -/
import Derived.Test.YtmmonhpjjjdnjaaUx1
import Derived.Test.YtmmonhpjjjdnjaaUx5
import Derived.Test.YtmmonhpjjjdnjaaUx6
import Derived.Test.YtmmonhpjjjdnjaaUx8
import Derived.Test.YtmmonhpjjjdnjaaUx9
namespace Go.Proofs.Ytmmonhpjjjdnjaa.U
open Go.RowKit Go.Proofs.YtmmonhpjjjdnjaaW.PrintWords Go.Proofs.YtmmonhpjjjdnjaaW.PrintLast Go.Proofs.YtmmonhpjjjdnjaaW.PrintMore
set_option linter.unusedVariables false
set_option linter.unusedSimpArgs false

theorem next_i {j n : Nat} (h : j < n) (hn : n ≤ 140737488355328) : wrap64 ((j : Int) + 1) = ((j + 1 : Nat) : Int) := by
  unfold wrap64; omega
theorem rd_at (xs : List Int) (j : Nat) : rd xs (j : Int) = xs.getD j 0 := by unfold rd; rw [Int.toNat_natCast]
theorem getD_at (xs : List Int) (j : Nat) (h : j < xs.length) : xs[j]? = some (xs.getD j 0) := by
  rw [List.getD_eq_getElem?_getD, List.getElem?_eq_getElem h]; rfl
theorem drop_at (xs : List Int) (j : Nat) (h : j < xs.length) : xs.drop j = xs.getD j 0 :: xs.drop (j + 1) := by
  rw [List.getD_eq_getElem?_getD, List.getElem?_eq_getElem h, Option.getD_some]
  exact List.drop_eq_getElem_cons h

theorem i8_wf {a : Int} (h : (Lit.int .i8 a).wf = true) : -128 ≤ a ∧ a ≤ 127 := by simpa [Lit.wf, IntKind.min, IntKind.max, IntKind.signed, IntKind.bits] using h
theorem i16_wf {a : Int} (h : (Lit.int .i16 a).wf = true) : -32768 ≤ a ∧ a ≤ 32767 := by simpa [Lit.wf, IntKind.min, IntKind.max, IntKind.signed, IntKind.bits] using h
theorem wn_0 : wrap64 (0 + 1) = 1 := by decide +kernel
theorem wn_1 : wrap64 (1 + 1) = 2 := by decide +kernel
theorem wn_2 : wrap64 (2 + 1) = 3 := by decide +kernel
theorem wn_3 : wrap64 (3 + 1) = 4 := by decide +kernel
theorem wn_4 : wrap64 (4 + 1) = 5 := by decide +kernel
theorem wn_5 : wrap64 (5 + 1) = 6 := by decide +kernel
theorem wn_6 : wrap64 (6 + 1) = 7 := by decide +kernel
theorem wn_7 : wrap64 (7 + 1) = 8 := by decide +kernel
theorem wn_8 : wrap64 (8 + 1) = 9 := by decide +kernel
theorem wn_9 : wrap64 (9 + 1) = 10 := by decide +kernel
theorem wn_10 : wrap64 (10 + 1) = 11 := by decide +kernel
theorem wn_11 : wrap64 (11 + 1) = 12 := by decide +kernel
theorem wn_12 : wrap64 (12 + 1) = 13 := by decide +kernel
theorem wn_13 : wrap64 (13 + 1) = 14 := by decide +kernel
theorem wn_14 : wrap64 (14 + 1) = 15 := by decide +kernel
theorem tw_0 (k : Nat) (a0 a1 a2 a3 a4 a5 a6 a7 a8 a9 a10 a11 a12 a13 : Int) : laws_toWeighing.l0 (k + 1) 0 a0 a1 a2 a3 a4 a5 a6 a7 a8 a9 a10 a11 a12 a13 0 0 0 0 0 0 0 0 0 0 0 0 0 0 = laws_toWeighing.l0 k 1 a0 a1 a2 a3 a4 a5 a6 a7 a8 a9 a10 a11 a12 a13 a0 0 0 0 0 0 0 0 0 0 0 0 0 0 := by
  simp only [laws_toWeighing.l0]
  rw [if_pos (by decide), if_pos (by decide), wn_0]
  rfl
theorem tw_1 (k : Nat) (a0 a1 a2 a3 a4 a5 a6 a7 a8 a9 a10 a11 a12 a13 : Int) : laws_toWeighing.l0 (k + 1) 1 a0 a1 a2 a3 a4 a5 a6 a7 a8 a9 a10 a11 a12 a13 a0 0 0 0 0 0 0 0 0 0 0 0 0 0 = laws_toWeighing.l0 k 2 a0 a1 a2 a3 a4 a5 a6 a7 a8 a9 a10 a11 a12 a13 a0 a1 0 0 0 0 0 0 0 0 0 0 0 0 := by
  simp only [laws_toWeighing.l0]
  rw [if_pos (by decide), if_pos (by decide), wn_1]
  rfl
theorem tw_2 (k : Nat) (a0 a1 a2 a3 a4 a5 a6 a7 a8 a9 a10 a11 a12 a13 : Int) : laws_toWeighing.l0 (k + 1) 2 a0 a1 a2 a3 a4 a5 a6 a7 a8 a9 a10 a11 a12 a13 a0 a1 0 0 0 0 0 0 0 0 0 0 0 0 = laws_toWeighing.l0 k 3 a0 a1 a2 a3 a4 a5 a6 a7 a8 a9 a10 a11 a12 a13 a0 a1 a2 0 0 0 0 0 0 0 0 0 0 0 := by
  simp only [laws_toWeighing.l0]
  rw [if_pos (by decide), if_pos (by decide), wn_2]
  rfl
theorem tw_3 (k : Nat) (a0 a1 a2 a3 a4 a5 a6 a7 a8 a9 a10 a11 a12 a13 : Int) : laws_toWeighing.l0 (k + 1) 3 a0 a1 a2 a3 a4 a5 a6 a7 a8 a9 a10 a11 a12 a13 a0 a1 a2 0 0 0 0 0 0 0 0 0 0 0 = laws_toWeighing.l0 k 4 a0 a1 a2 a3 a4 a5 a6 a7 a8 a9 a10 a11 a12 a13 a0 a1 a2 a3 0 0 0 0 0 0 0 0 0 0 := by
  simp only [laws_toWeighing.l0]
  rw [if_pos (by decide), if_pos (by decide), wn_3]
  rfl
theorem tw_4 (k : Nat) (a0 a1 a2 a3 a4 a5 a6 a7 a8 a9 a10 a11 a12 a13 : Int) : laws_toWeighing.l0 (k + 1) 4 a0 a1 a2 a3 a4 a5 a6 a7 a8 a9 a10 a11 a12 a13 a0 a1 a2 a3 0 0 0 0 0 0 0 0 0 0 = laws_toWeighing.l0 k 5 a0 a1 a2 a3 a4 a5 a6 a7 a8 a9 a10 a11 a12 a13 a0 a1 a2 a3 a4 0 0 0 0 0 0 0 0 0 := by
  simp only [laws_toWeighing.l0]
  rw [if_pos (by decide), if_pos (by decide), wn_4]
  rfl
theorem tw_5 (k : Nat) (a0 a1 a2 a3 a4 a5 a6 a7 a8 a9 a10 a11 a12 a13 : Int) : laws_toWeighing.l0 (k + 1) 5 a0 a1 a2 a3 a4 a5 a6 a7 a8 a9 a10 a11 a12 a13 a0 a1 a2 a3 a4 0 0 0 0 0 0 0 0 0 = laws_toWeighing.l0 k 6 a0 a1 a2 a3 a4 a5 a6 a7 a8 a9 a10 a11 a12 a13 a0 a1 a2 a3 a4 a5 0 0 0 0 0 0 0 0 := by
  simp only [laws_toWeighing.l0]
  rw [if_pos (by decide), if_pos (by decide), wn_5]
  rfl
theorem tw_6 (k : Nat) (a0 a1 a2 a3 a4 a5 a6 a7 a8 a9 a10 a11 a12 a13 : Int) : laws_toWeighing.l0 (k + 1) 6 a0 a1 a2 a3 a4 a5 a6 a7 a8 a9 a10 a11 a12 a13 a0 a1 a2 a3 a4 a5 0 0 0 0 0 0 0 0 = laws_toWeighing.l0 k 7 a0 a1 a2 a3 a4 a5 a6 a7 a8 a9 a10 a11 a12 a13 a0 a1 a2 a3 a4 a5 a6 0 0 0 0 0 0 0 := by
  simp only [laws_toWeighing.l0]
  rw [if_pos (by decide), if_pos (by decide), wn_6]
  rfl
theorem tw_7 (k : Nat) (a0 a1 a2 a3 a4 a5 a6 a7 a8 a9 a10 a11 a12 a13 : Int) : laws_toWeighing.l0 (k + 1) 7 a0 a1 a2 a3 a4 a5 a6 a7 a8 a9 a10 a11 a12 a13 a0 a1 a2 a3 a4 a5 a6 0 0 0 0 0 0 0 = laws_toWeighing.l0 k 8 a0 a1 a2 a3 a4 a5 a6 a7 a8 a9 a10 a11 a12 a13 a0 a1 a2 a3 a4 a5 a6 a7 0 0 0 0 0 0 := by
  simp only [laws_toWeighing.l0]
  rw [if_pos (by decide), if_pos (by decide), wn_7]
  rfl
theorem tw_8 (k : Nat) (a0 a1 a2 a3 a4 a5 a6 a7 a8 a9 a10 a11 a12 a13 : Int) : laws_toWeighing.l0 (k + 1) 8 a0 a1 a2 a3 a4 a5 a6 a7 a8 a9 a10 a11 a12 a13 a0 a1 a2 a3 a4 a5 a6 a7 0 0 0 0 0 0 = laws_toWeighing.l0 k 9 a0 a1 a2 a3 a4 a5 a6 a7 a8 a9 a10 a11 a12 a13 a0 a1 a2 a3 a4 a5 a6 a7 a8 0 0 0 0 0 := by
  simp only [laws_toWeighing.l0]
  rw [if_pos (by decide), if_pos (by decide), wn_8]
  rfl
theorem tw_9 (k : Nat) (a0 a1 a2 a3 a4 a5 a6 a7 a8 a9 a10 a11 a12 a13 : Int) : laws_toWeighing.l0 (k + 1) 9 a0 a1 a2 a3 a4 a5 a6 a7 a8 a9 a10 a11 a12 a13 a0 a1 a2 a3 a4 a5 a6 a7 a8 0 0 0 0 0 = laws_toWeighing.l0 k 10 a0 a1 a2 a3 a4 a5 a6 a7 a8 a9 a10 a11 a12 a13 a0 a1 a2 a3 a4 a5 a6 a7 a8 a9 0 0 0 0 := by
  simp only [laws_toWeighing.l0]
  rw [if_pos (by decide), if_pos (by decide), wn_9]
  rfl
theorem tw_10 (k : Nat) (a0 a1 a2 a3 a4 a5 a6 a7 a8 a9 a10 a11 a12 a13 : Int) : laws_toWeighing.l0 (k + 1) 10 a0 a1 a2 a3 a4 a5 a6 a7 a8 a9 a10 a11 a12 a13 a0 a1 a2 a3 a4 a5 a6 a7 a8 a9 0 0 0 0 = laws_toWeighing.l0 k 11 a0 a1 a2 a3 a4 a5 a6 a7 a8 a9 a10 a11 a12 a13 a0 a1 a2 a3 a4 a5 a6 a7 a8 a9 a10 0 0 0 := by
  simp only [laws_toWeighing.l0]
  rw [if_pos (by decide), if_pos (by decide), wn_10]
  rfl
theorem tw_11 (k : Nat) (a0 a1 a2 a3 a4 a5 a6 a7 a8 a9 a10 a11 a12 a13 : Int) : laws_toWeighing.l0 (k + 1) 11 a0 a1 a2 a3 a4 a5 a6 a7 a8 a9 a10 a11 a12 a13 a0 a1 a2 a3 a4 a5 a6 a7 a8 a9 a10 0 0 0 = laws_toWeighing.l0 k 12 a0 a1 a2 a3 a4 a5 a6 a7 a8 a9 a10 a11 a12 a13 a0 a1 a2 a3 a4 a5 a6 a7 a8 a9 a10 a11 0 0 := by
  simp only [laws_toWeighing.l0]
  rw [if_pos (by decide), if_pos (by decide), wn_11]
  rfl
theorem tw_12 (k : Nat) (a0 a1 a2 a3 a4 a5 a6 a7 a8 a9 a10 a11 a12 a13 : Int) : laws_toWeighing.l0 (k + 1) 12 a0 a1 a2 a3 a4 a5 a6 a7 a8 a9 a10 a11 a12 a13 a0 a1 a2 a3 a4 a5 a6 a7 a8 a9 a10 a11 0 0 = laws_toWeighing.l0 k 13 a0 a1 a2 a3 a4 a5 a6 a7 a8 a9 a10 a11 a12 a13 a0 a1 a2 a3 a4 a5 a6 a7 a8 a9 a10 a11 a12 0 := by
  simp only [laws_toWeighing.l0]
  rw [if_pos (by decide), if_pos (by decide), wn_12]
  rfl
theorem tw_13 (k : Nat) (a0 a1 a2 a3 a4 a5 a6 a7 a8 a9 a10 a11 a12 a13 : Int) : laws_toWeighing.l0 (k + 1) 13 a0 a1 a2 a3 a4 a5 a6 a7 a8 a9 a10 a11 a12 a13 a0 a1 a2 a3 a4 a5 a6 a7 a8 a9 a10 a11 a12 0 = laws_toWeighing.l0 k 14 a0 a1 a2 a3 a4 a5 a6 a7 a8 a9 a10 a11 a12 a13 a0 a1 a2 a3 a4 a5 a6 a7 a8 a9 a10 a11 a12 a13 := by
  simp only [laws_toWeighing.l0]
  rw [if_pos (by decide), if_pos (by decide), wn_13]
  rfl
theorem toWeighing_f (a0 a1 a2 a3 a4 a5 a6 a7 a8 a9 a10 a11 a12 a13 : Int) (k : Nat) (hk : 14 < k) : laws_toWeighing.f k a0 a1 a2 a3 a4 a5 a6 a7 a8 a9 a10 a11 a12 a13 = some (a0, a1, a2, a3, a4, a5, a6, a7, a8, a9, a10, a11, a12, a13) := by
  obtain ⟨k, rfl⟩ : ∃ m, k = m + 15 := ⟨k - 15, by omega⟩
  unfold laws_toWeighing.f
  rw [tw_0, tw_1, tw_2, tw_3, tw_4, tw_5, tw_6, tw_7, tw_8, tw_9, tw_10, tw_11, tw_12, tw_13]
  simp only [laws_toWeighing.l0]
  rw [if_neg (by decide)]
theorem ew_0 (k : Nat) (a0 a1 a2 a3 a4 a5 a6 a7 a8 a9 a10 a11 a12 a13 : Int) : laws_eqWeighing.l0 (k + 1) 0 a0 a1 a2 a3 a4 a5 a6 a7 a8 a9 a10 a11 a12 a13 a0 a1 a2 a3 a4 a5 a6 a7 a8 a9 a10 a11 a12 a13 = laws_eqWeighing.l0 k 1 a0 a1 a2 a3 a4 a5 a6 a7 a8 a9 a10 a11 a12 a13 a0 a1 a2 a3 a4 a5 a6 a7 a8 a9 a10 a11 a12 a13 := by
  simp only [laws_eqWeighing.l0]
  rw [if_pos (by decide), if_pos (by decide), if_pos trivial, wn_0]
theorem ew_1 (k : Nat) (a0 a1 a2 a3 a4 a5 a6 a7 a8 a9 a10 a11 a12 a13 : Int) : laws_eqWeighing.l0 (k + 1) 1 a0 a1 a2 a3 a4 a5 a6 a7 a8 a9 a10 a11 a12 a13 a0 a1 a2 a3 a4 a5 a6 a7 a8 a9 a10 a11 a12 a13 = laws_eqWeighing.l0 k 2 a0 a1 a2 a3 a4 a5 a6 a7 a8 a9 a10 a11 a12 a13 a0 a1 a2 a3 a4 a5 a6 a7 a8 a9 a10 a11 a12 a13 := by
  simp only [laws_eqWeighing.l0]
  rw [if_pos (by decide), if_pos (by decide), if_pos trivial, wn_1]
theorem ew_2 (k : Nat) (a0 a1 a2 a3 a4 a5 a6 a7 a8 a9 a10 a11 a12 a13 : Int) : laws_eqWeighing.l0 (k + 1) 2 a0 a1 a2 a3 a4 a5 a6 a7 a8 a9 a10 a11 a12 a13 a0 a1 a2 a3 a4 a5 a6 a7 a8 a9 a10 a11 a12 a13 = laws_eqWeighing.l0 k 3 a0 a1 a2 a3 a4 a5 a6 a7 a8 a9 a10 a11 a12 a13 a0 a1 a2 a3 a4 a5 a6 a7 a8 a9 a10 a11 a12 a13 := by
  simp only [laws_eqWeighing.l0]
  rw [if_pos (by decide), if_pos (by decide), if_pos trivial, wn_2]
theorem ew_3 (k : Nat) (a0 a1 a2 a3 a4 a5 a6 a7 a8 a9 a10 a11 a12 a13 : Int) : laws_eqWeighing.l0 (k + 1) 3 a0 a1 a2 a3 a4 a5 a6 a7 a8 a9 a10 a11 a12 a13 a0 a1 a2 a3 a4 a5 a6 a7 a8 a9 a10 a11 a12 a13 = laws_eqWeighing.l0 k 4 a0 a1 a2 a3 a4 a5 a6 a7 a8 a9 a10 a11 a12 a13 a0 a1 a2 a3 a4 a5 a6 a7 a8 a9 a10 a11 a12 a13 := by
  simp only [laws_eqWeighing.l0]
  rw [if_pos (by decide), if_pos (by decide), if_pos trivial, wn_3]
theorem ew_4 (k : Nat) (a0 a1 a2 a3 a4 a5 a6 a7 a8 a9 a10 a11 a12 a13 : Int) : laws_eqWeighing.l0 (k + 1) 4 a0 a1 a2 a3 a4 a5 a6 a7 a8 a9 a10 a11 a12 a13 a0 a1 a2 a3 a4 a5 a6 a7 a8 a9 a10 a11 a12 a13 = laws_eqWeighing.l0 k 5 a0 a1 a2 a3 a4 a5 a6 a7 a8 a9 a10 a11 a12 a13 a0 a1 a2 a3 a4 a5 a6 a7 a8 a9 a10 a11 a12 a13 := by
  simp only [laws_eqWeighing.l0]
  rw [if_pos (by decide), if_pos (by decide), if_pos trivial, wn_4]
theorem ew_5 (k : Nat) (a0 a1 a2 a3 a4 a5 a6 a7 a8 a9 a10 a11 a12 a13 : Int) : laws_eqWeighing.l0 (k + 1) 5 a0 a1 a2 a3 a4 a5 a6 a7 a8 a9 a10 a11 a12 a13 a0 a1 a2 a3 a4 a5 a6 a7 a8 a9 a10 a11 a12 a13 = laws_eqWeighing.l0 k 6 a0 a1 a2 a3 a4 a5 a6 a7 a8 a9 a10 a11 a12 a13 a0 a1 a2 a3 a4 a5 a6 a7 a8 a9 a10 a11 a12 a13 := by
  simp only [laws_eqWeighing.l0]
  rw [if_pos (by decide), if_pos (by decide), if_pos trivial, wn_5]
theorem ew_6 (k : Nat) (a0 a1 a2 a3 a4 a5 a6 a7 a8 a9 a10 a11 a12 a13 : Int) : laws_eqWeighing.l0 (k + 1) 6 a0 a1 a2 a3 a4 a5 a6 a7 a8 a9 a10 a11 a12 a13 a0 a1 a2 a3 a4 a5 a6 a7 a8 a9 a10 a11 a12 a13 = laws_eqWeighing.l0 k 7 a0 a1 a2 a3 a4 a5 a6 a7 a8 a9 a10 a11 a12 a13 a0 a1 a2 a3 a4 a5 a6 a7 a8 a9 a10 a11 a12 a13 := by
  simp only [laws_eqWeighing.l0]
  rw [if_pos (by decide), if_pos (by decide), if_pos trivial, wn_6]
theorem ew_7 (k : Nat) (a0 a1 a2 a3 a4 a5 a6 a7 a8 a9 a10 a11 a12 a13 : Int) : laws_eqWeighing.l0 (k + 1) 7 a0 a1 a2 a3 a4 a5 a6 a7 a8 a9 a10 a11 a12 a13 a0 a1 a2 a3 a4 a5 a6 a7 a8 a9 a10 a11 a12 a13 = laws_eqWeighing.l0 k 8 a0 a1 a2 a3 a4 a5 a6 a7 a8 a9 a10 a11 a12 a13 a0 a1 a2 a3 a4 a5 a6 a7 a8 a9 a10 a11 a12 a13 := by
  simp only [laws_eqWeighing.l0]
  rw [if_pos (by decide), if_pos (by decide), if_pos trivial, wn_7]
theorem ew_8 (k : Nat) (a0 a1 a2 a3 a4 a5 a6 a7 a8 a9 a10 a11 a12 a13 : Int) : laws_eqWeighing.l0 (k + 1) 8 a0 a1 a2 a3 a4 a5 a6 a7 a8 a9 a10 a11 a12 a13 a0 a1 a2 a3 a4 a5 a6 a7 a8 a9 a10 a11 a12 a13 = laws_eqWeighing.l0 k 9 a0 a1 a2 a3 a4 a5 a6 a7 a8 a9 a10 a11 a12 a13 a0 a1 a2 a3 a4 a5 a6 a7 a8 a9 a10 a11 a12 a13 := by
  simp only [laws_eqWeighing.l0]
  rw [if_pos (by decide), if_pos (by decide), if_pos trivial, wn_8]
theorem ew_9 (k : Nat) (a0 a1 a2 a3 a4 a5 a6 a7 a8 a9 a10 a11 a12 a13 : Int) : laws_eqWeighing.l0 (k + 1) 9 a0 a1 a2 a3 a4 a5 a6 a7 a8 a9 a10 a11 a12 a13 a0 a1 a2 a3 a4 a5 a6 a7 a8 a9 a10 a11 a12 a13 = laws_eqWeighing.l0 k 10 a0 a1 a2 a3 a4 a5 a6 a7 a8 a9 a10 a11 a12 a13 a0 a1 a2 a3 a4 a5 a6 a7 a8 a9 a10 a11 a12 a13 := by
  simp only [laws_eqWeighing.l0]
  rw [if_pos (by decide), if_pos (by decide), if_pos trivial, wn_9]
theorem ew_10 (k : Nat) (a0 a1 a2 a3 a4 a5 a6 a7 a8 a9 a10 a11 a12 a13 : Int) : laws_eqWeighing.l0 (k + 1) 10 a0 a1 a2 a3 a4 a5 a6 a7 a8 a9 a10 a11 a12 a13 a0 a1 a2 a3 a4 a5 a6 a7 a8 a9 a10 a11 a12 a13 = laws_eqWeighing.l0 k 11 a0 a1 a2 a3 a4 a5 a6 a7 a8 a9 a10 a11 a12 a13 a0 a1 a2 a3 a4 a5 a6 a7 a8 a9 a10 a11 a12 a13 := by
  simp only [laws_eqWeighing.l0]
  rw [if_pos (by decide), if_pos (by decide), if_pos trivial, wn_10]
theorem ew_11 (k : Nat) (a0 a1 a2 a3 a4 a5 a6 a7 a8 a9 a10 a11 a12 a13 : Int) : laws_eqWeighing.l0 (k + 1) 11 a0 a1 a2 a3 a4 a5 a6 a7 a8 a9 a10 a11 a12 a13 a0 a1 a2 a3 a4 a5 a6 a7 a8 a9 a10 a11 a12 a13 = laws_eqWeighing.l0 k 12 a0 a1 a2 a3 a4 a5 a6 a7 a8 a9 a10 a11 a12 a13 a0 a1 a2 a3 a4 a5 a6 a7 a8 a9 a10 a11 a12 a13 := by
  simp only [laws_eqWeighing.l0]
  rw [if_pos (by decide), if_pos (by decide), if_pos trivial, wn_11]
theorem ew_12 (k : Nat) (a0 a1 a2 a3 a4 a5 a6 a7 a8 a9 a10 a11 a12 a13 : Int) : laws_eqWeighing.l0 (k + 1) 12 a0 a1 a2 a3 a4 a5 a6 a7 a8 a9 a10 a11 a12 a13 a0 a1 a2 a3 a4 a5 a6 a7 a8 a9 a10 a11 a12 a13 = laws_eqWeighing.l0 k 13 a0 a1 a2 a3 a4 a5 a6 a7 a8 a9 a10 a11 a12 a13 a0 a1 a2 a3 a4 a5 a6 a7 a8 a9 a10 a11 a12 a13 := by
  simp only [laws_eqWeighing.l0]
  rw [if_pos (by decide), if_pos (by decide), if_pos trivial, wn_12]
theorem ew_13 (k : Nat) (a0 a1 a2 a3 a4 a5 a6 a7 a8 a9 a10 a11 a12 a13 : Int) : laws_eqWeighing.l0 (k + 1) 13 a0 a1 a2 a3 a4 a5 a6 a7 a8 a9 a10 a11 a12 a13 a0 a1 a2 a3 a4 a5 a6 a7 a8 a9 a10 a11 a12 a13 = laws_eqWeighing.l0 k 14 a0 a1 a2 a3 a4 a5 a6 a7 a8 a9 a10 a11 a12 a13 a0 a1 a2 a3 a4 a5 a6 a7 a8 a9 a10 a11 a12 a13 := by
  simp only [laws_eqWeighing.l0]
  rw [if_pos (by decide), if_pos (by decide), if_pos trivial, wn_13]
theorem eqWeighing_f (a0 a1 a2 a3 a4 a5 a6 a7 a8 a9 a10 a11 a12 a13 : Int) (k : Nat) (hk : 14 < k) : laws_eqWeighing.f k a0 a1 a2 a3 a4 a5 a6 a7 a8 a9 a10 a11 a12 a13 a0 a1 a2 a3 a4 a5 a6 a7 a8 a9 a10 a11 a12 a13 = some true := by
  obtain ⟨k, rfl⟩ : ∃ m, k = m + 15 := ⟨k - 15, by omega⟩
  unfold laws_eqWeighing.f
  rw [ew_0, ew_1, ew_2, ew_3, ew_4, ew_5, ew_6, ew_7, ew_8, ew_9, ew_10, ew_11, ew_12, ew_13]
  simp only [laws_eqWeighing.l0]
  rw [if_neg (by decide)]
theorem tn_0 (k : Nat) (a b c : Int) : laws_toInt16A3.l0 (k + 1) 0 a b c 0 0 0 = laws_toInt16A3.l0 k 1 a b c a 0 0 := by
  simp only [laws_toInt16A3.l0]
  rw [if_pos (by decide), if_pos (by decide), wn_0]
  rfl
theorem tn_1 (k : Nat) (a b c : Int) : laws_toInt16A3.l0 (k + 1) 1 a b c a 0 0 = laws_toInt16A3.l0 k 2 a b c a b 0 := by
  simp only [laws_toInt16A3.l0]
  rw [if_pos (by decide), if_pos (by decide), wn_1]
  rfl
theorem tn_2 (k : Nat) (a b c : Int) : laws_toInt16A3.l0 (k + 1) 2 a b c a b 0 = laws_toInt16A3.l0 k 3 a b c a b c := by
  simp only [laws_toInt16A3.l0]
  rw [if_pos (by decide), if_pos (by decide), wn_2]
  rfl
theorem toNext_f (a b c : Int) (k : Nat) (hk : 14 < k) : laws_toInt16A3.f k a b c = some (a, b, c) := by
  obtain ⟨k, rfl⟩ : ∃ m, k = m + 4 := ⟨k - 4, by omega⟩
  unfold laws_toInt16A3.f
  rw [tn_0, tn_1, tn_2]
  simp only [laws_toInt16A3.l0]
  rw [if_neg (by decide)]
theorem eqNext_f (a b c : Int) (k : Nat) (hk : 14 < k) : laws_eqInt16A3.f k a b c a b c = some true := by
  obtain ⟨k, rfl⟩ : ∃ m, k = m + 4 := ⟨k - 4, by omega⟩
  unfold laws_eqInt16A3.f
  simp only [laws_eqInt16A3.l0]
  rw [if_pos (by decide), if_pos (by decide), if_pos trivial, wn_0, if_pos (by decide), if_pos (by decide), if_pos trivial, wn_1, if_pos (by decide), if_pos (by decide), if_pos trivial, wn_2, if_neg (by decide)]
def cv (x : S58) : S54 := ⟨⟨x.f0.f0, x.f0.f1, x.f0.f2, x.f0.f3, x.f0.f4, x.f0.f5, x.f0.f6, x.f0.f7, x.f0.f8, x.f0.f9, x.f0.f10, x.f0.f11, x.f0.f12, x.f0.f13⟩, ⟨x.f1.f0, x.f1.f1, x.f1.f2⟩, ⟨x.f2.f0, x.f2.f1⟩, x.f3⟩
theorem rd54_at (xs : List S54) (j : Nat) : rd_T54 xs (j : Int) = xs.getD j z54 := by unfold rd_T54; rw [Int.toNat_natCast]
theorem rd58_at (xs : List S58) (j : Nat) : rd_T58 xs (j : Int) = xs.getD j z58 := by unfold rd_T58; rw [Int.toNat_natCast]
theorem rd46_at (xs : List S46) (j : Nat) : rd_T46 xs (j : Int) = xs.getD j z46 := by unfold rd_T46; rw [Int.toNat_natCast]
theorem getD54_mem (xs : List S54) (j : Nat) (h : j < xs.length) : xs.getD j z54 ∈ xs := by
  rw [List.getD_eq_getElem?_getD, List.getElem?_eq_getElem h, Option.getD_some]; exact List.getElem_mem h
theorem getD46_mem (xs : List S46) (j : Nat) (h : j < xs.length) : xs.getD j z46 ∈ xs := by
  rw [List.getD_eq_getElem?_getD, List.getElem?_eq_getElem h, Option.getD_some]; exact List.getElem_mem h
theorem sz_f (l : List S58) (n : Int) (h0 : 0 ≤ n) (h1 : n ≤ 1048576) (hl : l.length ≤ maxLen) : laws_szNodeS.f l n = some (if n < l.length then -1 else n - l.length) := by
  unfold maxLen at hl
  have e : wrap64 (n - (l.length : Int)) = n - l.length := by unfold wrap64; omega
  unfold laws_szNodeS.f
  rw [e]
  by_cases c : n < l.length
  · rw [if_pos (by omega), if_pos c]
  · rw [if_neg (by omega), if_neg c]

theorem toNode_f (x : S58) (k : Nat) (hk : 14 < k) : laws_toNode.f k x.f0.f0 x.f0.f1 x.f0.f2 x.f0.f3 x.f0.f4 x.f0.f5 x.f0.f6 x.f0.f7 x.f0.f8 x.f0.f9 x.f0.f10 x.f0.f11 x.f0.f12 x.f0.f13 x.f1.f0 x.f1.f1 x.f1.f2 x.f2.f0 x.f2.f1 x.f3 = some (x.f0.f0, x.f0.f1, x.f0.f2, x.f0.f3, x.f0.f4, x.f0.f5, x.f0.f6, x.f0.f7, x.f0.f8, x.f0.f9, x.f0.f10, x.f0.f11, x.f0.f12, x.f0.f13, x.f1.f0, x.f1.f1, x.f1.f2, x.f2.f0, x.f2.f1, x.f3) := by
  unfold laws_toNode.f laws_toCase.f
  rw [toWeighing_f _ _ _ _ _ _ _ _ _ _ _ _ _ _ k hk, toNext_f _ _ _ k hk]
  rfl
theorem eqNode_f (x : S54) (k : Nat) (hk : 14 < k) : laws_eqNode.f k x.f0.f0 x.f0.f1 x.f0.f2 x.f0.f3 x.f0.f4 x.f0.f5 x.f0.f6 x.f0.f7 x.f0.f8 x.f0.f9 x.f0.f10 x.f0.f11 x.f0.f12 x.f0.f13 x.f1.f0 x.f1.f1 x.f1.f2 x.f2.f0 x.f2.f1 x.f3 x.f0.f0 x.f0.f1 x.f0.f2 x.f0.f3 x.f0.f4 x.f0.f5 x.f0.f6 x.f0.f7 x.f0.f8 x.f0.f9 x.f0.f10 x.f0.f11 x.f0.f12 x.f0.f13 x.f1.f0 x.f1.f1 x.f1.f2 x.f2.f0 x.f2.f1 x.f3 = some true := by
  unfold laws_eqNode.f laws_eqCase.f
  rw [eqWeighing_f _ _ _ _ _ _ _ _ _ _ _ _ _ _ k hk, eqNext_f _ _ _ k hk]
  simp only [Option.bind_some, if_true, bne_self_eq_false, Bool.false_eq_true, if_false]
theorem toNodeS_l0 (xs : List S58) (hn : xs.length ≤ 140737488355328) (d : Nat) : ∀ (j : Nat) (ys : List S54), j + d = xs.length → ys.length = xs.length → (∀ i, i < j → ys[i]? = (xs.map cv)[i]?) →
    ∀ k, d + 20 < k → laws_toNodeS.l0 k xs ys j = some (xs.map cv) := by
  induction d with
  | zero =>
    intro j ys hj hl he k hk
    obtain ⟨k, rfl⟩ : ∃ m, k = m + 1 := ⟨k - 1, by omega⟩
    simp only [laws_toNodeS.l0]; rw [if_neg (by omega)]
    congr 1
    refine List.ext_getElem? fun i => ?_
    by_cases hi : i < j
    · exact he i hi
    · rw [List.getElem?_eq_none (by omega), List.getElem?_eq_none (by rw [List.length_map]; omega)]
  | succ d ih =>
    intro j ys hj hl he k hk
    obtain ⟨k, rfl⟩ : ∃ m, k = m + 1 := ⟨k - 1, by omega⟩
    simp only [laws_toNodeS.l0]
    rw [if_pos (by omega), if_pos (by omega), rd58_at, toNode_f _ k (by omega)]
    simp only [Option.bind_some]
    rw [if_pos (by omega), next_i (n := xs.length) (by omega) hn, Int.toNat_natCast]
    refine ih (j + 1) _ (by omega) (by rw [List.length_set]; exact hl) (fun i hi => ?_) k (by omega)
    by_cases e : i = j
    · subst e
      rw [List.getElem?_set_self (by omega), List.getElem?_map, List.getD_eq_getElem?_getD, List.getElem?_eq_getElem (show i < xs.length by omega)]
      rfl
    · rw [List.getElem?_set_ne (by omega)]; exact he i (by omega)
theorem toNodeS_f (l : List S58) (hn : l.length ≤ 1048576) (k : Nat) (hk : 1048600 < k) : laws_toNodeS.f k l = some (l.map cv) := by
  unfold laws_toNodeS.f
  rw [if_pos (by omega), if_pos (by omega)]
  exact toNodeS_l0 l (by omega) l.length 0 (List.replicate ((l.length : Int)).toNat z54) (by omega) (by simp) (fun i h => absurd h (by omega)) k (by omega)
theorem eqNodeS_l0 (xs : List S54) (hn : xs.length ≤ 140737488355328) (d : Nat) : ∀ (j : Nat), j + d = xs.length → ∀ k, d + 20 < k → laws_eqNodeS.l0 k xs xs j = some true := by
  induction d with
  | zero =>
    intro j hj k hk
    obtain ⟨k, rfl⟩ : ∃ m, k = m + 1 := ⟨k - 1, by omega⟩
    simp only [laws_eqNodeS.l0]; rw [if_neg (by omega)]
  | succ d ih =>
    intro j hj k hk
    obtain ⟨k, rfl⟩ : ∃ m, k = m + 1 := ⟨k - 1, by omega⟩
    simp only [laws_eqNodeS.l0]
    rw [if_pos (by omega), if_pos (by omega), if_pos (by omega), eqNode_f _ k (by omega)]
    simp only [Option.bind_some, if_true]
    rw [next_i (n := xs.length) (by omega) hn, ih (j + 1) (by omega) k (by omega)]
theorem eqNodeS_f (l : List S54) (hn : l.length ≤ 1048576) (k : Nat) (hk : 1048600 < k) : laws_eqNodeS.f k l l = some true := by
  unfold laws_eqNodeS.f
  rw [if_pos rfl]
  exact eqNodeS_l0 l (by omega) l.length 0 (by omega) k (by omega)

end Go.Proofs.Ytmmonhpjjjdnjaa.U
