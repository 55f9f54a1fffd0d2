/- Proved: the reference's and the program's text of a set of things are the same, for every set of 16 bits. No conditions. -/
import Derived.Test.YtonhinbblofpaaaPFnExactThingsTextx1
namespace Go.Proofs.Ytonhinbblofpaaa.Pure
open Go.RowKit Go.Proofs.Ytonhinbblofpaaa.PFnExactThingsText Go.Proofs.YtonhinbblofpaaaW.PrintWords Go.Proofs.YtonhinbblofpaaaW.PrintLast Go.Proofs.YtonhinbblofpaaaW.PrintMore

theorem bit_same : ∀ (x : Fin 256) (j : Fin 8), (Int.tmod (shr .u16 (x.val : Int) (IntKind.u64.wrap (j.val : Int))) 2 = 1) ↔ (Go.bits .and .u64 (shr .u64 (x.val : Int) (j.val : Int)) 1 = 1) := by decide +kernel
theorem lett_same : ∀ (j : Fin 8), (wrap64 (97 + (j.val : Int))) % 256 = (IntKind.i8.wrap (97 + (j.val : Int))) % 256 := by decide +kernel
theorem u64_j : ∀ (j : Fin 8), 0 ≤ IntKind.u64.wrap (j.val : Int) := by decide +kernel
theorem next64 : ∀ (j : Fin 8), wrap64 ((j.val : Int) + 1) = ((j.val + 1 : Nat) : Int) := by decide +kernel
theorem next8 : ∀ (j : Fin 64), IntKind.i8.wrap ((j.val : Int) + 1) = ((j.val + 1 : Nat) : Int) := by decide +kernel
theorem bit_high (x : Fin 256) (j : Nat) (hj : 8 ≤ j) (hj2 : j < 64) : ¬ Go.bits .and .u64 (shr .u64 (x.val : Int) (j : Int)) 1 = 1 := by
  have h : shr .u64 (x.val : Int) (j : Int) = 0 := by
    unfold shr
    refine Int.ediv_eq_zero_of_lt (by omega) ?_
    have e : min ((j : Int)).toNat IntKind.u64.bits = j := by
      have : IntKind.u64.bits = 64 := rfl
      omega
    rw [e]
    have h2 : (2 : Int) ^ 8 ≤ 2 ^ j := by exact_mod_cast Nat.pow_le_pow_right (by decide) hj
    have := x.isLt
    omega
  rw [h]
  decide +kernel

theorem txt_tail (x : Fin 256) (s : ByteArray) (d : Nat) : ∀ (j : Nat), j + d = 64 → 8 ≤ j → ∀ k, d < k → impl_setText.l0 k x.val s j = some s := by
  induction d with
  | zero =>
    intro j hj _ k hk
    obtain ⟨k, rfl⟩ : ∃ m, k = m + 1 := ⟨k - 1, by omega⟩
    simp only [impl_setText.l0]; rw [if_neg (by omega)]
  | succ d ih =>
    intro j hj h8 k hk
    obtain ⟨k, rfl⟩ : ∃ m, k = m + 1 := ⟨k - 1, by omega⟩
    simp only [impl_setText.l0]
    rw [if_pos (by omega), if_pos (by omega), if_neg (bit_high x j h8 (by omega)), next8 ⟨j, by omega⟩]
    exact ih (j + 1) (by omega) (by omega) k (by omega)

theorem txt_both (x : Fin 256) (d : Nat) : ∀ (j : Nat) (s : ByteArray), j + d = 8 → s.size ≤ j →
    ∃ r : ByteArray, (∀ k, d < k → spec_l05Text.l0 k x.val s j = some r) ∧ (∀ k, d + 56 < k → impl_setText.l0 k x.val s j = some r) := by
  induction d with
  | zero =>
    intro j s hj hs
    obtain rfl : j = 8 := by omega
    refine ⟨s, fun k hk => ?_, fun k hk => txt_tail x s 56 8 rfl (by omega) k (by omega)⟩
    obtain ⟨k, rfl⟩ : ∃ m, k = m + 1 := ⟨k - 1, by omega⟩
    simp only [spec_l05Text.l0]; rw [if_neg (by omega)]
  | succ d ih =>
    intro j s hj hs
    have hb := bit_same x ⟨j, by omega⟩
    have hl := lett_same ⟨j, by omega⟩
    have hu := u64_j ⟨j, by omega⟩
    have hn := next64 ⟨j, by omega⟩
    have hn8 := next8 ⟨j, by omega⟩
    simp only at hb hl hu hn hn8
    have hsz : (strOfNums [(wrap64 (97 + (j : Int))) % 256]).size = 1 := rfl
    by_cases c : Go.bits .and .u64 (shr .u64 (x.val : Int) (j : Int)) 1 = 1
    · obtain ⟨r, h1, h2⟩ := ih (j + 1) (s ++ strOfNums [(wrap64 (97 + (j : Int))) % 256]) (by omega) (by rw [ByteArray.size_append, hsz]; omega)
      refine ⟨r, fun k hk => ?_, fun k hk => ?_⟩
      · obtain ⟨k, rfl⟩ : ∃ m, k = m + 1 := ⟨k - 1, by omega⟩
        simp only [spec_l05Text.l0]
        rw [if_pos (by omega), if_pos hu, if_pos (hb.2 c)]
        simp only [Option.bind_some]
        rw [if_pos (by rw [hsz]; omega), hn]
        exact h1 k (by omega)
      · obtain ⟨k, rfl⟩ : ∃ m, k = m + 1 := ⟨k - 1, by omega⟩
        simp only [impl_setText.l0]
        rw [if_pos (by omega), if_pos (by omega), if_pos c]
        simp only [impl_letter.f, Option.bind_some]
        rw [← hl, if_pos (by rw [hsz]; omega), hn8]
        exact h2 k (by omega)
    · obtain ⟨r, h1, h2⟩ := ih (j + 1) s (by omega) (by omega)
      refine ⟨r, fun k hk => ?_, fun k hk => ?_⟩
      · obtain ⟨k, rfl⟩ : ∃ m, k = m + 1 := ⟨k - 1, by omega⟩
        simp only [spec_l05Text.l0]
        rw [if_pos (by omega), if_pos hu, if_neg (fun h => c (hb.1 h)), hn]
        exact h1 k (by omega)
      · obtain ⟨k, rfl⟩ : ∃ m, k = m + 1 := ⟨k - 1, by omega⟩
        simp only [impl_setText.l0]
        rw [if_pos (by omega), if_pos (by omega), if_neg c, hn8]
        exact h2 k (by omega)

theorem FnExactThingsText : laws_FnExactThingsText.Pure := by
  intro a w
  have hw : 0 ≤ a ∧ a ≤ 65535 := by simpa [Lit.wf, IntKind.min, IntKind.max, IntKind.signed, IntKind.bits] using w
  refine ⟨65, ?_⟩
  unfold laws_FnExactThingsText.f spec_ThingsText.f impl_ThingsText.f
  by_cases h : a < 256
  · obtain ⟨n, rfl⟩ := Int.eq_ofNat_of_zero_le hw.1
    have hn : n < 256 := by omega
    have e : IntKind.u64.wrap (n : Int) = n := by simp [IntKind.wrap, IntKind.bits, IntKind.signed]; omega
    rw [if_pos (by omega), if_neg (by omega), e]
    unfold spec_l05Text.f impl_setText.f
    by_cases h0 : (n : Int) = 0
    · rw [if_pos h0, if_pos h0]; simp
    · rw [if_neg h0, if_neg h0]
      obtain ⟨r, h1, h2⟩ := txt_both ⟨n, hn⟩ 8 0 ⟨#[]⟩ rfl (Nat.le_refl 0)
      have h1' := h1 65 (by omega)
      have h2' := h2 65 (by omega)
      have e1 : spec_l05Text.l0 65 (n : Int) ⟨#[]⟩ 0 = some r := h1'
      have e2 : impl_setText.l0 65 (n : Int) ⟨#[]⟩ 0 = some r := h2'
      rw [e1, e2]; simp
  · rw [if_neg (by omega), if_pos (by omega)]; simp

end Go.Proofs.Ytonhinbblofpaaa.Pure
