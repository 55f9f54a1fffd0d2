/- Games: measuring, copying and comparing. -/
import Derived.Test.YtidblojobcgkjaaMx1
import Derived.Test.YtidblojobcgkjaaMx11
import Derived.Test.YtidblojobcgkjaaMx4
namespace Go.Proofs.Ytidblojobcgkjaa.M
open Go.RowKit Go.Proofs.YtidblojobcgkjaaW.PrintWords Go.Proofs.YtidblojobcgkjaaW.PrintLast Go.Proofs.YtidblojobcgkjaaW.PrintMore
set_option linter.unusedVariables false
set_option linter.unusedSimpArgs false

theorem next_i {j n : Nat} (h : j < n) (hn : n ≤ 140737488355328) : wrap64 ((j : Int) + 1) = ((j + 1 : Nat) : Int) := by
  unfold wrap64; omega
theorem rd_at (xs : List Int) (j : Nat) : rd xs (j : Int) = xs.getD j 0 := by unfold rd; rw [Int.toNat_natCast]
theorem getD_at (xs : List Int) (j : Nat) (h : j < xs.length) : xs[j]? = some (xs.getD j 0) := by
  rw [List.getD_eq_getElem?_getD, List.getElem?_eq_getElem h]; rfl
theorem drop_at (xs : List Int) (j : Nat) (h : j < xs.length) : xs.drop j = xs.getD j 0 :: xs.drop (j + 1) := by
  rw [List.getD_eq_getElem?_getD, List.getElem?_eq_getElem h, Option.getD_some]
  exact List.drop_eq_getElem_cons h

theorem i8_wf {a : Int} (h : (Lit.int .i8 a).wf = true) : -128 ≤ a ∧ a ≤ 127 := by simpa [Lit.wf, IntKind.min, IntKind.max, IntKind.signed, IntKind.bits] using h
theorem i64_wf {a : Int} (h : (Lit.int .i64 a).wf = true) : -9223372036854775808 ≤ a ∧ a ≤ 9223372036854775807 := by simpa [Lit.wf, IntKind.min, IntKind.max, IntKind.signed, IntKind.bits] using h
def cv (x : S64) : S60 := ⟨x.f0, x.f1⟩
theorem rd60_at (xs : List S60) (j : Nat) : rd_T60 xs (j : Int) = xs.getD j z60 := by unfold rd_T60; rw [Int.toNat_natCast]
theorem rd64_at (xs : List S64) (j : Nat) : rd_T64 xs (j : Int) = xs.getD j z64 := by unfold rd_T64; rw [Int.toNat_natCast]
theorem drop60_at (xs : List S60) (j : Nat) (h : j < xs.length) : xs.drop j = xs.getD j z60 :: xs.drop (j + 1) := by
  rw [List.getD_eq_getElem?_getD, List.getElem?_eq_getElem h, Option.getD_some]
  exact List.drop_eq_getElem_cons h
theorem szGame_f (a b : Int) (l : List S64) (n : Int) (h0 : 0 ≤ n) (h1 : n ≤ 1048576) (hl : l.length ≤ maxLen) : laws_szGame.f a b l n = some (if n < l.length then -1 else n - l.length) := by
  unfold maxLen at hl
  have e : wrap64 (n - (l.length : Int)) = n - l.length := by unfold wrap64; omega
  unfold laws_szGame.f laws_szAskS.f
  rw [e]
  by_cases c : n < l.length
  · rw [if_pos (by omega), if_pos c]; simp
  · rw [if_neg (by omega), if_neg c]; simp only [Option.bind_some]; rw [if_neg (by omega)]
theorem toAsk_l0 (xs : List S64) (hn : xs.length ≤ 140737488355328) (d : Nat) : ∀ (j : Nat) (ys : List S60), j + d = xs.length → ys.length = xs.length → (∀ i, i < j → ys[i]? = (xs.map cv)[i]?) →
    ∀ k, d < k → laws_toAskS.l0 k xs ys j = some (xs.map cv) := by
  induction d with
  | zero =>
    intro j ys hj hl he k hk
    obtain ⟨k, rfl⟩ : ∃ m, k = m + 1 := ⟨k - 1, by omega⟩
    simp only [laws_toAskS.l0]; rw [if_neg (by omega)]
    congr 1
    refine List.ext_getElem? fun i => ?_
    by_cases hi : i < j
    · exact he i hi
    · rw [List.getElem?_eq_none (by omega), List.getElem?_eq_none (by rw [List.length_map]; omega)]
  | succ d ih =>
    intro j ys hj hl he k hk
    obtain ⟨k, rfl⟩ : ∃ m, k = m + 1 := ⟨k - 1, by omega⟩
    simp only [laws_toAskS.l0, laws_toAsk.f, Option.bind_some]
    rw [if_pos (by omega), if_pos (by omega), if_pos (by omega), next_i (n := xs.length) (by omega) hn, Int.toNat_natCast, rd64_at]
    refine ih (j + 1) _ (by omega) (by rw [List.length_set]; exact hl) (fun i hi => ?_) k (by omega)
    by_cases e : i = j
    · subst e
      rw [List.getElem?_set_self (by omega), List.getElem?_map, List.getD_eq_getElem?_getD, List.getElem?_eq_getElem (show i < xs.length by omega)]
      rfl
    · rw [List.getElem?_set_ne (by omega)]; exact he i (by omega)
theorem toGame_f (a b : Int) (l : List S64) (hn : l.length ≤ 1048576) (k : Nat) (hk : 1048576 < k) : laws_toGame.f k a b l = some (a, b, l.map cv) := by
  unfold laws_toGame.f laws_toAskS.f
  rw [if_pos (by omega), if_pos (by omega)]
  have := toAsk_l0 l (by omega) l.length 0 (List.replicate ((l.length : Int)).toNat z60) (by omega) (by simp) (fun i h => absurd h (by omega)) k (by omega)
  have e : laws_toAskS.l0 k l (List.replicate ((l.length : Int)).toNat z60) 0 = some (l.map cv) := this
  rw [e]; rfl
theorem eqAsk_l0 (xs : List S60) (hn : xs.length ≤ 140737488355328) (d : Nat) : ∀ (j : Nat), j + d = xs.length → ∀ k, d < k → laws_eqAskS.l0 k xs xs j = some true := by
  induction d with
  | zero =>
    intro j hj k hk
    obtain ⟨k, rfl⟩ : ∃ m, k = m + 1 := ⟨k - 1, by omega⟩
    simp only [laws_eqAskS.l0]; rw [if_neg (by omega)]
  | succ d ih =>
    intro j hj k hk
    obtain ⟨k, rfl⟩ : ∃ m, k = m + 1 := ⟨k - 1, by omega⟩
    simp only [laws_eqAskS.l0, laws_eqAsk.f, bne_self_eq_false, Bool.false_eq_true, if_false, if_true, Option.bind_some]
    rw [if_pos (by omega), if_pos (by omega), if_pos (by omega), next_i (n := xs.length) (by omega) hn, ih (j + 1) (by omega) k (by omega)]
theorem eqGame_f (a b : Int) (l : List S60) (hn : l.length ≤ 1048576) (k : Nat) (hk : 1048576 < k) : laws_eqGame.f k a b l a b l = some true := by
  unfold laws_eqGame.f laws_eqAskS.f
  rw [if_pos rfl, if_pos rfl, if_pos rfl]
  have e : laws_eqAskS.l0 k l l 0 = some true := eqAsk_l0 l (by omega) l.length 0 (by omega) k (by omega)
  rw [e]; rfl

end Go.Proofs.Ytidblojobcgkjaa.M
