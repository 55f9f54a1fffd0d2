/- Fixed plans: copying and comparing. -/
import Derived.Test.YtmfbcklaomigaaaMx22
import Derived.Test.YtmfbcklaomigaaaMx26
namespace Go.Proofs.Ytmfbcklaomigaaa.M
open Go.RowKit Go.Proofs.YtmfbcklaomigaaaW.PrintWords Go.Proofs.YtmfbcklaomigaaaW.PrintLast Go.Proofs.YtmfbcklaomigaaaW.PrintMore
set_option linter.unusedVariables false
set_option linter.unusedSimpArgs false
theorem zpb {j n : Nat} (h : j < n) (hn : n ≤ 140737488355328) : wrap64 ((j : Int) + 1) = ((j + 1 : Nat) : Int) := by
  unfold wrap64; omega
theorem rd_at (xs : List Int) (j : Nat) : rd xs (j : Int) = xs.getD j 0 := by unfold rd; rw [Int.toNat_natCast]
theorem getD_at (xs : List Int) (j : Nat) (h : j < xs.length) : xs[j]? = some (xs.getD j 0) := by
  rw [List.getD_eq_getElem?_getD, List.getElem?_eq_getElem h]; rfl
theorem drop_at (xs : List Int) (j : Nat) (h : j < xs.length) : xs.drop j = xs.getD j 0 :: xs.drop (j + 1) := by
  rw [List.getD_eq_getElem?_getD, List.getElem?_eq_getElem h, Option.getD_some]
  exact List.drop_eq_getElem_cons h
theorem i8_wf {a : Int} (h : (Lit.int .i8 a).wf = true) : -128 ≤ a ∧ a ≤ 127 := by simpa [Lit.wf, IntKind.min, IntKind.max, IntKind.signed, IntKind.bits] using h
theorem i16_wf {a : Int} (h : (Lit.int .i16 a).wf = true) : -32768 ≤ a ∧ a ≤ 32767 := by simpa [Lit.wf, IntKind.min, IntKind.max, IntKind.signed, IntKind.bits] using h
theorem wn_0 : wrap64 (0 + 1) = 1 := by decide +kernel
theorem wn_1 : wrap64 (1 + 1) = 2 := by decide +kernel
theorem wn_2 : wrap64 (2 + 1) = 3 := by decide +kernel
theorem wn_3 : wrap64 (3 + 1) = 4 := by decide +kernel
theorem wn_4 : wrap64 (4 + 1) = 5 := by decide +kernel
theorem wn_5 : wrap64 (5 + 1) = 6 := by decide +kernel
theorem wn_6 : wrap64 (6 + 1) = 7 := by decide +kernel
theorem wn_7 : wrap64 (7 + 1) = 8 := by decide +kernel
theorem wn_8 : wrap64 (8 + 1) = 9 := by decide +kernel
theorem wn_9 : wrap64 (9 + 1) = 10 := by decide +kernel
theorem wn_10 : wrap64 (10 + 1) = 11 := by decide +kernel
theorem wn_11 : wrap64 (11 + 1) = 12 := by decide +kernel
theorem wn_12 : wrap64 (12 + 1) = 13 := by decide +kernel
theorem wn_13 : wrap64 (13 + 1) = 14 := by decide +kernel
theorem wn_14 : wrap64 (14 + 1) = 15 := by decide +kernel
theorem ew_0 (k : Nat) (a0 a1 a2 a3 a4 a5 a6 a7 a8 a9 a10 a11 a12 a13 : Int) : laws_eqWeighing.l0 (k + 1) 0 a0 a1 a2 a3 a4 a5 a6 a7 a8 a9 a10 a11 a12 a13 a0 a1 a2 a3 a4 a5 a6 a7 a8 a9 a10 a11 a12 a13 = laws_eqWeighing.l0 k 1 a0 a1 a2 a3 a4 a5 a6 a7 a8 a9 a10 a11 a12 a13 a0 a1 a2 a3 a4 a5 a6 a7 a8 a9 a10 a11 a12 a13 := by
  simp only [laws_eqWeighing.l0]
  rw [if_pos (by decide), if_pos (by decide), if_pos trivial, wn_0]
theorem ew_1 (k : Nat) (a0 a1 a2 a3 a4 a5 a6 a7 a8 a9 a10 a11 a12 a13 : Int) : laws_eqWeighing.l0 (k + 1) 1 a0 a1 a2 a3 a4 a5 a6 a7 a8 a9 a10 a11 a12 a13 a0 a1 a2 a3 a4 a5 a6 a7 a8 a9 a10 a11 a12 a13 = laws_eqWeighing.l0 k 2 a0 a1 a2 a3 a4 a5 a6 a7 a8 a9 a10 a11 a12 a13 a0 a1 a2 a3 a4 a5 a6 a7 a8 a9 a10 a11 a12 a13 := by
  simp only [laws_eqWeighing.l0]
  rw [if_pos (by decide), if_pos (by decide), if_pos trivial, wn_1]
theorem ew_2 (k : Nat) (a0 a1 a2 a3 a4 a5 a6 a7 a8 a9 a10 a11 a12 a13 : Int) : laws_eqWeighing.l0 (k + 1) 2 a0 a1 a2 a3 a4 a5 a6 a7 a8 a9 a10 a11 a12 a13 a0 a1 a2 a3 a4 a5 a6 a7 a8 a9 a10 a11 a12 a13 = laws_eqWeighing.l0 k 3 a0 a1 a2 a3 a4 a5 a6 a7 a8 a9 a10 a11 a12 a13 a0 a1 a2 a3 a4 a5 a6 a7 a8 a9 a10 a11 a12 a13 := by
  simp only [laws_eqWeighing.l0]
  rw [if_pos (by decide), if_pos (by decide), if_pos trivial, wn_2]
theorem ew_3 (k : Nat) (a0 a1 a2 a3 a4 a5 a6 a7 a8 a9 a10 a11 a12 a13 : Int) : laws_eqWeighing.l0 (k + 1) 3 a0 a1 a2 a3 a4 a5 a6 a7 a8 a9 a10 a11 a12 a13 a0 a1 a2 a3 a4 a5 a6 a7 a8 a9 a10 a11 a12 a13 = laws_eqWeighing.l0 k 4 a0 a1 a2 a3 a4 a5 a6 a7 a8 a9 a10 a11 a12 a13 a0 a1 a2 a3 a4 a5 a6 a7 a8 a9 a10 a11 a12 a13 := by
  simp only [laws_eqWeighing.l0]
  rw [if_pos (by decide), if_pos (by decide), if_pos trivial, wn_3]
theorem ew_4 (k : Nat) (a0 a1 a2 a3 a4 a5 a6 a7 a8 a9 a10 a11 a12 a13 : Int) : laws_eqWeighing.l0 (k + 1) 4 a0 a1 a2 a3 a4 a5 a6 a7 a8 a9 a10 a11 a12 a13 a0 a1 a2 a3 a4 a5 a6 a7 a8 a9 a10 a11 a12 a13 = laws_eqWeighing.l0 k 5 a0 a1 a2 a3 a4 a5 a6 a7 a8 a9 a10 a11 a12 a13 a0 a1 a2 a3 a4 a5 a6 a7 a8 a9 a10 a11 a12 a13 := by
  simp only [laws_eqWeighing.l0]
  rw [if_pos (by decide), if_pos (by decide), if_pos trivial, wn_4]
theorem ew_5 (k : Nat) (a0 a1 a2 a3 a4 a5 a6 a7 a8 a9 a10 a11 a12 a13 : Int) : laws_eqWeighing.l0 (k + 1) 5 a0 a1 a2 a3 a4 a5 a6 a7 a8 a9 a10 a11 a12 a13 a0 a1 a2 a3 a4 a5 a6 a7 a8 a9 a10 a11 a12 a13 = laws_eqWeighing.l0 k 6 a0 a1 a2 a3 a4 a5 a6 a7 a8 a9 a10 a11 a12 a13 a0 a1 a2 a3 a4 a5 a6 a7 a8 a9 a10 a11 a12 a13 := by
  simp only [laws_eqWeighing.l0]
  rw [if_pos (by decide), if_pos (by decide), if_pos trivial, wn_5]
theorem ew_6 (k : Nat) (a0 a1 a2 a3 a4 a5 a6 a7 a8 a9 a10 a11 a12 a13 : Int) : laws_eqWeighing.l0 (k + 1) 6 a0 a1 a2 a3 a4 a5 a6 a7 a8 a9 a10 a11 a12 a13 a0 a1 a2 a3 a4 a5 a6 a7 a8 a9 a10 a11 a12 a13 = laws_eqWeighing.l0 k 7 a0 a1 a2 a3 a4 a5 a6 a7 a8 a9 a10 a11 a12 a13 a0 a1 a2 a3 a4 a5 a6 a7 a8 a9 a10 a11 a12 a13 := by
  simp only [laws_eqWeighing.l0]
  rw [if_pos (by decide), if_pos (by decide), if_pos trivial, wn_6]
theorem ew_7 (k : Nat) (a0 a1 a2 a3 a4 a5 a6 a7 a8 a9 a10 a11 a12 a13 : Int) : laws_eqWeighing.l0 (k + 1) 7 a0 a1 a2 a3 a4 a5 a6 a7 a8 a9 a10 a11 a12 a13 a0 a1 a2 a3 a4 a5 a6 a7 a8 a9 a10 a11 a12 a13 = laws_eqWeighing.l0 k 8 a0 a1 a2 a3 a4 a5 a6 a7 a8 a9 a10 a11 a12 a13 a0 a1 a2 a3 a4 a5 a6 a7 a8 a9 a10 a11 a12 a13 := by
  simp only [laws_eqWeighing.l0]
  rw [if_pos (by decide), if_pos (by decide), if_pos trivial, wn_7]
theorem ew_8 (k : Nat) (a0 a1 a2 a3 a4 a5 a6 a7 a8 a9 a10 a11 a12 a13 : Int) : laws_eqWeighing.l0 (k + 1) 8 a0 a1 a2 a3 a4 a5 a6 a7 a8 a9 a10 a11 a12 a13 a0 a1 a2 a3 a4 a5 a6 a7 a8 a9 a10 a11 a12 a13 = laws_eqWeighing.l0 k 9 a0 a1 a2 a3 a4 a5 a6 a7 a8 a9 a10 a11 a12 a13 a0 a1 a2 a3 a4 a5 a6 a7 a8 a9 a10 a11 a12 a13 := by
  simp only [laws_eqWeighing.l0]
  rw [if_pos (by decide), if_pos (by decide), if_pos trivial, wn_8]
theorem ew_9 (k : Nat) (a0 a1 a2 a3 a4 a5 a6 a7 a8 a9 a10 a11 a12 a13 : Int) : laws_eqWeighing.l0 (k + 1) 9 a0 a1 a2 a3 a4 a5 a6 a7 a8 a9 a10 a11 a12 a13 a0 a1 a2 a3 a4 a5 a6 a7 a8 a9 a10 a11 a12 a13 = laws_eqWeighing.l0 k 10 a0 a1 a2 a3 a4 a5 a6 a7 a8 a9 a10 a11 a12 a13 a0 a1 a2 a3 a4 a5 a6 a7 a8 a9 a10 a11 a12 a13 := by
  simp only [laws_eqWeighing.l0]
  rw [if_pos (by decide), if_pos (by decide), if_pos trivial, wn_9]
theorem ew_10 (k : Nat) (a0 a1 a2 a3 a4 a5 a6 a7 a8 a9 a10 a11 a12 a13 : Int) : laws_eqWeighing.l0 (k + 1) 10 a0 a1 a2 a3 a4 a5 a6 a7 a8 a9 a10 a11 a12 a13 a0 a1 a2 a3 a4 a5 a6 a7 a8 a9 a10 a11 a12 a13 = laws_eqWeighing.l0 k 11 a0 a1 a2 a3 a4 a5 a6 a7 a8 a9 a10 a11 a12 a13 a0 a1 a2 a3 a4 a5 a6 a7 a8 a9 a10 a11 a12 a13 := by
  simp only [laws_eqWeighing.l0]
  rw [if_pos (by decide), if_pos (by decide), if_pos trivial, wn_10]
theorem ew_11 (k : Nat) (a0 a1 a2 a3 a4 a5 a6 a7 a8 a9 a10 a11 a12 a13 : Int) : laws_eqWeighing.l0 (k + 1) 11 a0 a1 a2 a3 a4 a5 a6 a7 a8 a9 a10 a11 a12 a13 a0 a1 a2 a3 a4 a5 a6 a7 a8 a9 a10 a11 a12 a13 = laws_eqWeighing.l0 k 12 a0 a1 a2 a3 a4 a5 a6 a7 a8 a9 a10 a11 a12 a13 a0 a1 a2 a3 a4 a5 a6 a7 a8 a9 a10 a11 a12 a13 := by
  simp only [laws_eqWeighing.l0]
  rw [if_pos (by decide), if_pos (by decide), if_pos trivial, wn_11]
theorem ew_12 (k : Nat) (a0 a1 a2 a3 a4 a5 a6 a7 a8 a9 a10 a11 a12 a13 : Int) : laws_eqWeighing.l0 (k + 1) 12 a0 a1 a2 a3 a4 a5 a6 a7 a8 a9 a10 a11 a12 a13 a0 a1 a2 a3 a4 a5 a6 a7 a8 a9 a10 a11 a12 a13 = laws_eqWeighing.l0 k 13 a0 a1 a2 a3 a4 a5 a6 a7 a8 a9 a10 a11 a12 a13 a0 a1 a2 a3 a4 a5 a6 a7 a8 a9 a10 a11 a12 a13 := by
  simp only [laws_eqWeighing.l0]
  rw [if_pos (by decide), if_pos (by decide), if_pos trivial, wn_12]
theorem ew_13 (k : Nat) (a0 a1 a2 a3 a4 a5 a6 a7 a8 a9 a10 a11 a12 a13 : Int) : laws_eqWeighing.l0 (k + 1) 13 a0 a1 a2 a3 a4 a5 a6 a7 a8 a9 a10 a11 a12 a13 a0 a1 a2 a3 a4 a5 a6 a7 a8 a9 a10 a11 a12 a13 = laws_eqWeighing.l0 k 14 a0 a1 a2 a3 a4 a5 a6 a7 a8 a9 a10 a11 a12 a13 a0 a1 a2 a3 a4 a5 a6 a7 a8 a9 a10 a11 a12 a13 := by
  simp only [laws_eqWeighing.l0]
  rw [if_pos (by decide), if_pos (by decide), if_pos trivial, wn_13]
theorem zme (a0 a1 a2 a3 a4 a5 a6 a7 a8 a9 a10 a11 a12 a13 : Int) (k : Nat) (hk : 14 < k) : laws_eqWeighing.f k a0 a1 a2 a3 a4 a5 a6 a7 a8 a9 a10 a11 a12 a13 a0 a1 a2 a3 a4 a5 a6 a7 a8 a9 a10 a11 a12 a13 = some true := by
  obtain ⟨k, rfl⟩ : ∃ m, k = m + 15 := ⟨k - 15, by omega⟩
  unfold laws_eqWeighing.f
  rw [ew_0, ew_1, ew_2, ew_3, ew_4, ew_5, ew_6, ew_7, ew_8, ew_9, ew_10, ew_11, ew_12, ew_13]
  simp only [laws_eqWeighing.l0]
  rw [if_neg (by decide)]
theorem eqNext_f (a b c : Int) (k : Nat) (hk : 14 < k) : laws_eqInt16A3.f k a b c a b c = some true := by
  obtain ⟨k, rfl⟩ : ∃ m, k = m + 4 := ⟨k - 4, by omega⟩
  unfold laws_eqInt16A3.f
  simp only [laws_eqInt16A3.l0]
  rw [if_pos (by decide), if_pos (by decide), if_pos trivial, wn_0, if_pos (by decide), if_pos (by decide), if_pos trivial, wn_1, if_pos (by decide), if_pos (by decide), if_pos trivial, wn_2, if_neg (by decide)]
theorem zje (xs : List S102) (j : Nat) : zh xs (j : Int) = xs.getD j z102 := by unfold zh; rw [Int.toNat_natCast]
theorem rd38_at (xs : List S38) (j : Nat) : zha xs (j : Int) = xs.getD j z38 := by unfold zha; rw [Int.toNat_natCast]
theorem getD102_mem (xs : List S102) (j : Nat) (h : j < xs.length) : xs.getD j z102 ∈ xs := by
  rw [List.getD_eq_getElem?_getD, List.getElem?_eq_getElem h, Option.getD_some]; exact List.getElem_mem h
theorem getD38_mem (xs : List S38) (j : Nat) (h : j < xs.length) : xs.getD j z38 ∈ xs := by
  rw [List.getD_eq_getElem?_getD, List.getElem?_eq_getElem h, Option.getD_some]; exact List.getElem_mem h
theorem eqNode_f (x : S102) (k : Nat) (hk : 14 < k) : laws_eqNode.f k x.f0.f0 x.f0.f1 x.f0.f2 x.f0.f3 x.f0.f4 x.f0.f5 x.f0.f6 x.f0.f7 x.f0.f8 x.f0.f9 x.f0.f10 x.f0.f11 x.f0.f12 x.f0.f13 x.f1.f0 x.f1.f1 x.f1.f2 x.f2.f0 x.f2.f1 x.f3 x.f0.f0 x.f0.f1 x.f0.f2 x.f0.f3 x.f0.f4 x.f0.f5 x.f0.f6 x.f0.f7 x.f0.f8 x.f0.f9 x.f0.f10 x.f0.f11 x.f0.f12 x.f0.f13 x.f1.f0 x.f1.f1 x.f1.f2 x.f2.f0 x.f2.f1 x.f3 = some true := by
  unfold laws_eqNode.f laws_eqCase.f
  rw [zme _ _ _ _ _ _ _ _ _ _ _ _ _ _ k hk, eqNext_f _ _ _ k hk]
  simp only [Option.bind_some, if_true, bne_self_eq_false, Bool.false_eq_true, if_false]
theorem eqNodeS_l0 (xs : List S102) (hn : xs.length ≤ 140737488355328) (d : Nat) : ∀ (j : Nat), j + d = xs.length → ∀ k, d + 20 < k → laws_eqNodeS.l0 k xs xs j = some true := by
  induction d with
  | zero =>
    intro j hj k hk
    obtain ⟨k, rfl⟩ : ∃ m, k = m + 1 := ⟨k - 1, by omega⟩
    simp only [laws_eqNodeS.l0]; rw [if_neg (by omega)]
  | succ d ih =>
    intro j hj k hk
    obtain ⟨k, rfl⟩ : ∃ m, k = m + 1 := ⟨k - 1, by omega⟩
    simp only [laws_eqNodeS.l0]
    rw [if_pos (by omega), if_pos (by omega), if_pos (by omega), eqNode_f _ k (by omega)]
    simp only [Option.bind_some, if_true]
    rw [zpb (n := xs.length) (by omega) hn, ih (j + 1) (by omega) k (by omega)]
theorem zld (l : List S102) (hn : l.length ≤ 1048576) (k : Nat) (hk : 1048600 < k) : laws_eqNodeS.f k l l = some true := by
  unfold laws_eqNodeS.f
  rw [if_pos rfl]
  exact eqNodeS_l0 l (by omega) l.length 0 (by omega) k (by omega)
def cw (x : S42) : S43 := ⟨x.f0, x.f1, x.f2, x.f3⟩
theorem zhe (xs : List S43) (j : Nat) : zj xs (j : Int) = xs.getD j z43 := by unfold zj; rw [Int.toNat_natCast]
theorem rd42_at (xs : List S42) (j : Nat) : zua xs (j : Int) = xs.getD j z42 := by unfold zua; rw [Int.toNat_natCast]
theorem zud (xs : List S43) (j : Nat) (h : j < xs.length) : xs.getD j z43 ∈ xs := by
  rw [List.getD_eq_getElem?_getD, List.getElem?_eq_getElem h, Option.getD_some]; exact List.getElem_mem h
theorem szFixed_f (a b : Int) (l : List S42) (n : Int) (h0 : 0 ≤ n) (h1 : n ≤ 1048576) (hl : l.length ≤ maxLen) : laws_szFixed.f a b l n = some (if n < l.length then -1 else n - l.length) := by
  unfold maxLen at hl
  have e : wrap64 (n - (l.length : Int)) = n - l.length := by unfold wrap64; omega
  unfold laws_szFixed.f laws_szWordS.f
  rw [e]
  by_cases c : n < l.length
  · rw [if_pos (by omega), if_pos c]; simp
  · rw [if_neg (by omega), if_neg c]; simp only [Option.bind_some]; rw [if_neg (by omega)]
theorem toWord_f (a b c d : Int) (k : Nat) (hk : 5 < k) : laws_toWord.f k a b c d = some (a, b, c, d) := by
  obtain ⟨k, rfl⟩ : ∃ m, k = m + 1 + 1 + 1 + 1 + 1 := ⟨k - 5, by omega⟩
  unfold laws_toWord.f
  rw [laws_toWord.l0.eq_2, if_pos (by decide), if_pos (by decide), wn_0, laws_toWord.l0.eq_2, if_pos (by decide), if_pos (by decide), wn_1, laws_toWord.l0.eq_2, if_pos (by decide), if_pos (by decide), wn_2, laws_toWord.l0.eq_2, if_pos (by decide), if_pos (by decide), wn_3, laws_toWord.l0.eq_2, if_neg (by decide)]
  rfl
theorem eqWord_f (a b c d : Int) (k : Nat) (hk : 5 < k) : laws_eqWord.f k a b c d a b c d = some true := by
  obtain ⟨k, rfl⟩ : ∃ m, k = m + 1 + 1 + 1 + 1 + 1 := ⟨k - 5, by omega⟩
  unfold laws_eqWord.f
  rw [laws_eqWord.l0.eq_2, if_pos (by decide), if_pos (by decide), if_pos rfl, wn_0, laws_eqWord.l0.eq_2, if_pos (by decide), if_pos (by decide), if_pos rfl, wn_1, laws_eqWord.l0.eq_2, if_pos (by decide), if_pos (by decide), if_pos rfl, wn_2, laws_eqWord.l0.eq_2, if_pos (by decide), if_pos (by decide), if_pos rfl, wn_3, laws_eqWord.l0.eq_2, if_neg (by decide)]
theorem toWordS_l0 (xs : List S42) (hn : xs.length ≤ 140737488355328) (d : Nat) : ∀ (j : Nat) (ys : List S43), j + d = xs.length → ys.length = xs.length → (∀ i, i < j → ys[i]? = (xs.map cw)[i]?) →
    ∀ k, d + 6 < k → laws_toWordS.l0 k xs ys j = some (xs.map cw) := by
  induction d with
  | zero =>
    intro j ys hj hl he k hk
    obtain ⟨k, rfl⟩ : ∃ m, k = m + 1 := ⟨k - 1, by omega⟩
    simp only [laws_toWordS.l0]; rw [if_neg (by omega)]
    congr 1
    refine List.ext_getElem? fun i => ?_
    by_cases hi : i < j
    · exact he i hi
    · rw [List.getElem?_eq_none (by omega), List.getElem?_eq_none (by rw [List.length_map]; omega)]
  | succ d ih =>
    intro j ys hj hl he k hk
    obtain ⟨k, rfl⟩ : ∃ m, k = m + 1 := ⟨k - 1, by omega⟩
    rw [laws_toWordS.l0.eq_2, if_pos (by omega), if_pos (by omega), toWord_f _ _ _ _ k (by omega)]
    simp only [Option.bind_some]
    rw [if_pos (by omega), zpb (n := xs.length) (by omega) hn, Int.toNat_natCast, rd42_at]
    refine ih (j + 1) _ (by omega) (by rw [List.length_set]; exact hl) (fun i hi => ?_) k (by omega)
    by_cases e : i = j
    · subst e
      rw [List.getElem?_set_self (by omega), List.getElem?_map, List.getD_eq_getElem?_getD, List.getElem?_eq_getElem (show i < xs.length by omega)]
      rfl
    · rw [List.getElem?_set_ne (by omega)]; exact he i (by omega)
theorem zhd (a b : Int) (l : List S42) (hn : l.length ≤ 1048576) (k : Nat) (hk : 1048590 < k) : laws_toFixed.f k a b l = some (a, b, l.map cw) := by
  unfold laws_toFixed.f laws_toWordS.f
  rw [if_pos (by omega), if_pos (by omega)]
  have := toWordS_l0 l (by omega) l.length 0 (List.replicate ((l.length : Int)).toNat z43) (by omega) (by simp) (fun i h => absurd h (by omega)) k (by omega)
  have e : laws_toWordS.l0 k l (List.replicate ((l.length : Int)).toNat z43) 0 = some (l.map cw) := this
  rw [e]; rfl
theorem eqWordS_l0 (xs : List S43) (hn : xs.length ≤ 140737488355328) (d : Nat) : ∀ (j : Nat), j + d = xs.length → ∀ k, d + 6 < k → laws_eqWordS.l0 k xs xs j = some true := by
  induction d with
  | zero =>
    intro j hj k hk
    obtain ⟨k, rfl⟩ : ∃ m, k = m + 1 := ⟨k - 1, by omega⟩
    simp only [laws_eqWordS.l0]; rw [if_neg (by omega)]
  | succ d ih =>
    intro j hj k hk
    obtain ⟨k, rfl⟩ : ∃ m, k = m + 1 := ⟨k - 1, by omega⟩
    rw [laws_eqWordS.l0.eq_2, if_pos (by omega), if_pos (by omega), if_pos (by omega), eqWord_f _ _ _ _ k (by omega)]
    simp only [Option.bind_some, if_true]
    rw [zpb (n := xs.length) (by omega) hn, ih (j + 1) (by omega) k (by omega)]
theorem eqFixed_f (a b : Int) (l : List S43) (hn : l.length ≤ 1048576) (k : Nat) (hk : 1048590 < k) : laws_eqFixed.f k a b l a b l = some true := by
  unfold laws_eqFixed.f laws_eqWordS.f
  rw [if_pos rfl, if_pos rfl, if_pos rfl]
  have e : laws_eqWordS.l0 k l l 0 = some true := eqWordS_l0 l (by omega) l.length 0 (by omega) k (by omega)
  rw [e]; rfl
end Go.Proofs.Ytmfbcklaomigaaa.M
