/- Fixed plans: small words. -/
import Derived.Test.YtmfbcklaomigaaaDoorDx10
import Derived.Test.YtmfbcklaomigaaaDoorDx12
import Derived.Test.YtmfbcklaomigaaaDoorDx13
import Derived.Test.YtmfbcklaomigaaaDoorDx14
import Derived.Test.YtmfbcklaomigaaaDoorDx2
namespace Go.Proofs.YtmfbcklaomigaaaDoor.D
open Go.RowKit Go.Proofs.YtmfbcklaomigaaaDoorW.PrintWords Go.Proofs.YtmfbcklaomigaaaDoorW.PrintLast Go.Proofs.YtmfbcklaomigaaaDoorW.PrintMore
set_option linter.unusedVariables false
set_option linter.unusedSimpArgs false

theorem next_i {j n : Nat} (h : j < n) (hn : n ≤ 140737488355328) : wrap64 ((j : Int) + 1) = ((j + 1 : Nat) : Int) := by
  unfold wrap64; omega
theorem rd_at (xs : List Int) (j : Nat) : rd xs (j : Int) = xs.getD j 0 := by unfold rd; rw [Int.toNat_natCast]
theorem getD_at (xs : List Int) (j : Nat) (h : j < xs.length) : xs[j]? = some (xs.getD j 0) := by
  rw [List.getD_eq_getElem?_getD, List.getElem?_eq_getElem h]; rfl
theorem drop_at (xs : List Int) (j : Nat) (h : j < xs.length) : xs.drop j = xs.getD j 0 :: xs.drop (j + 1) := by
  rw [List.getD_eq_getElem?_getD, List.getElem?_eq_getElem h, Option.getD_some]
  exact List.drop_eq_getElem_cons h

theorem i8_wf {a : Int} (h : (Lit.int .i8 a).wf = true) : -128 ≤ a ∧ a ≤ 127 := by simpa [Lit.wf, IntKind.min, IntKind.max, IntKind.signed, IntKind.bits] using h
theorem i16_wf {a : Int} (h : (Lit.int .i16 a).wf = true) : -32768 ≤ a ∧ a ≤ 32767 := by simpa [Lit.wf, IntKind.min, IntKind.max, IntKind.signed, IntKind.bits] using h
theorem wn_0 : wrap64 (0 + 1) = 1 := by decide +kernel
theorem wn_1 : wrap64 (1 + 1) = 2 := by decide +kernel
theorem wn_2 : wrap64 (2 + 1) = 3 := by decide +kernel
theorem wn_3 : wrap64 (3 + 1) = 4 := by decide +kernel
theorem wn_4 : wrap64 (4 + 1) = 5 := by decide +kernel
theorem wn_5 : wrap64 (5 + 1) = 6 := by decide +kernel
theorem wn_6 : wrap64 (6 + 1) = 7 := by decide +kernel
theorem wn_7 : wrap64 (7 + 1) = 8 := by decide +kernel
theorem wn_8 : wrap64 (8 + 1) = 9 := by decide +kernel
theorem wn_9 : wrap64 (9 + 1) = 10 := by decide +kernel
theorem wn_10 : wrap64 (10 + 1) = 11 := by decide +kernel
theorem wn_11 : wrap64 (11 + 1) = 12 := by decide +kernel
theorem wn_12 : wrap64 (12 + 1) = 13 := by decide +kernel
theorem wn_13 : wrap64 (13 + 1) = 14 := by decide +kernel
theorem wn_14 : wrap64 (14 + 1) = 15 := by decide +kernel
theorem rd35_at (xs : List S35) (j : Nat) : rd_T35 xs (j : Int) = xs.getD j z35 := by unfold rd_T35; rw [Int.toNat_natCast]
theorem getD35_mem (xs : List S35) (j : Nat) (h : j < xs.length) : xs.getD j z35 ∈ xs := by
  rw [List.getD_eq_getElem?_getD, List.getElem?_eq_getElem h, Option.getD_some]; exact List.getElem_mem h
theorem eqWord_f (a b c d : Int) (k : Nat) (hk : 5 < k) : laws_eqWord.f k a b c d a b c d = some true := by
  obtain ⟨k, rfl⟩ : ∃ m, k = m + 1 + 1 + 1 + 1 + 1 := ⟨k - 5, by omega⟩
  unfold laws_eqWord.f
  rw [laws_eqWord.l0.eq_2, if_pos (by decide), if_pos (by decide), if_pos rfl, wn_0, laws_eqWord.l0.eq_2, if_pos (by decide), if_pos (by decide), if_pos rfl, wn_1, laws_eqWord.l0.eq_2, if_pos (by decide), if_pos (by decide), if_pos rfl, wn_2, laws_eqWord.l0.eq_2, if_pos (by decide), if_pos (by decide), if_pos rfl, wn_3, laws_eqWord.l0.eq_2, if_neg (by decide)]
theorem eqWordS_l0 (xs : List S35) (hn : xs.length ≤ 140737488355328) (d : Nat) : ∀ (j : Nat), j + d = xs.length → ∀ k, d + 6 < k → laws_eqWordS.l0 k xs xs j = some true := by
  induction d with
  | zero =>
    intro j hj k hk
    obtain ⟨k, rfl⟩ : ∃ m, k = m + 1 := ⟨k - 1, by omega⟩
    simp only [laws_eqWordS.l0]; rw [if_neg (by omega)]
  | succ d ih =>
    intro j hj k hk
    obtain ⟨k, rfl⟩ : ∃ m, k = m + 1 := ⟨k - 1, by omega⟩
    rw [laws_eqWordS.l0.eq_2, if_pos (by omega), if_pos (by omega), if_pos (by omega), eqWord_f _ _ _ _ k (by omega)]
    simp only [Option.bind_some, if_true]
    rw [next_i (n := xs.length) (by omega) hn, ih (j + 1) (by omega) k (by omega)]
theorem eqFixed_f (a b : Int) (l : List S35) (hn : l.length ≤ 1048576) (k : Nat) (hk : 1048590 < k) : laws_eqFixed.f k a b l a b l = some true := by
  unfold laws_eqFixed.f laws_eqWordS.f
  rw [if_pos rfl, if_pos rfl, if_pos rfl]
  have e : laws_eqWordS.l0 k l l 0 = some true := eqWordS_l0 l (by omega) l.length 0 (by omega) k (by omega)
  rw [e]; rfl

end Go.Proofs.YtmfbcklaomigaaaDoor.D
