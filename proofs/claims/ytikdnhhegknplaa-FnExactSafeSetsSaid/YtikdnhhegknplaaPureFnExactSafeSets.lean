/- Proved: the program's SafeSets answers as the reference's for every ferry, and leaves the ferry as it was. No conditions. -/
import Derived.Test.YtikdnhhegknplaaLFSafe
import Derived.Test.YtikdnhhegknplaaSFnExactSafeSets
namespace Go.Proofs.Ytikdnhhegknplaa.Pure
open Go.RowKit Go.Proofs.Ytikdnhhegknplaa.M Go.Proofs.YtikdnhhegknplaaW.PrintWords Go.Proofs.YtikdnhhegknplaaW.PrintLast Go.Proofs.YtikdnhhegknplaaW.PrintMore
set_option linter.unusedVariables false
set_option linter.unusedSimpArgs false

theorem u16_next {s : Nat} (h : s ≤ 300) : IntKind.u16.wrap ((s : Int) + 1) = ((s + 1 : Nat) : Int) := by rw [u16_wrap (by omega) (by omega)]; omega
def sumF (l : List Int) : Nat → Nat → Int → Int
  | 0, _, c => c
  | d + 1, s, c => sumF l d (s + 1) (if safe l (s : Int) = true then wrap64 (c + 1) else c)
theorem spec_l0 {a b : Int} {l : List Int} (o : okF a b l = true) (d : Nat) : ∀ (s : Nat) (c : Int), s + d = (full a + 1).toNat → ∀ k, d + 30 < k →
    spec_SafeSets.l0 k c s a b l = some (sumF l d s c, 0) := by
  have w := okF_small o
  have m := full_le w.1 w.2.1
  induction d with
  | zero =>
    intro s c hs k hk
    obtain ⟨k, rfl⟩ : ∃ m, k = m + 1 := ⟨k - 1, by omega⟩
    simp only [spec_SafeSets.l0]; rw [specAll_f w.1 w.2.1]; simp only [Option.bind_some]; rw [if_neg (by omega)]; rfl
  | succ d ih =>
    intro s c hs k hk
    obtain ⟨k, rfl⟩ : ∃ m, k = m + 1 := ⟨k - 1, by omega⟩
    simp only [spec_SafeSets.l0]; rw [specAll_f w.1 w.2.1]; simp only [Option.bind_some]
    rw [if_pos (by omega), specSafe_f a b l _ (by omega) k (by omega), u16_next (by omega)]
    simp only [Option.bind_some, sumF]
    by_cases q : safe l (s : Int) = true
    · rw [if_pos q, if_pos q, ih (s + 1) _ (by omega) k (by omega)]
    · rw [if_neg q, if_neg q, ih (s + 1) _ (by omega) k (by omega)]
theorem impl_l0 {a b : Int} {l : List Int} (o : okF a b l = true) (d : Nat) : ∀ (s : Nat) (c : Int), s + d = (full a + 1).toNat → ∀ k, d + 30 < k →
    impl_SafeSets.l0 k c (full a + 1) s a b l = some (sumF l d s c, 0) := by
  have w := okF_small o
  have m := full_le w.1 w.2.1
  induction d with
  | zero =>
    intro s c hs k hk
    obtain ⟨k, rfl⟩ : ∃ m, k = m + 1 := ⟨k - 1, by omega⟩
    simp only [impl_SafeSets.l0]; rw [if_neg (by omega)]; rfl
  | succ d ih =>
    intro s c hs k hk
    obtain ⟨k, rfl⟩ : ∃ m, k = m + 1 := ⟨k - 1, by omega⟩
    simp only [impl_SafeSets.l0]
    rw [if_pos (by omega), implSafe_f a b l _ (by omega) k (by omega), u16_next (by omega)]
    simp only [Option.bind_some, sumF]
    by_cases q : safe l (s : Int) = true
    · rw [if_pos q, if_pos q, ih (s + 1) _ (by omega) k (by omega)]
    · rw [if_neg q, if_neg q, ih (s + 1) _ (by omega) k (by omega)]
def answer (a b : Int) (l : List Int) : Int × Int := if okF a b l = true then (sumF l (full a + 1).toNat 0 0, 0) else (0, 1)
theorem spec_f {a b : Int} {l : List Int} (hl : ∀ x ∈ l, (Lit.int .u16 x).wf = true) (ha : -128 ≤ a ∧ a ≤ 127) (hb : -128 ≤ b ∧ b ≤ 127) (hn : l.length ≤ 1048576) (k : Nat) (hk : 500 < k) :
    spec_SafeSets.f k a b l = some (answer a b l) := by
  unfold spec_SafeSets.f answer
  rw [specOk_f hl ha hb hn k (by omega)]
  simp only [Option.bind_some]
  by_cases o : okF a b l = true
  · have m := full_le (okF_small o).1 (okF_small o).2.1
    rw [if_pos o, if_pos o]; exact spec_l0 o _ 0 0 (by omega) k (by omega)
  · rw [if_neg o, if_neg o]
theorem impl_f {a b : Int} {l : List Int} (hl : ∀ x ∈ l, (Lit.int .u16 x).wf = true) (ha : -128 ≤ a ∧ a ≤ 127) (hb : -128 ≤ b ∧ b ≤ 127) (hn : l.length ≤ 1048576) (k : Nat) (hk : 500 < k) :
    impl_SafeSets.f k a b l = some (answer a b l) := by
  unfold impl_SafeSets.f answer
  rw [implOk_f hl ha hb hn k (by omega)]
  simp only [Option.bind_some]
  by_cases o : okF a b l = true
  · have m := full_le (okF_small o).1 (okF_small o).2.1
    rw [if_pos o, if_pos o, implAll_f (okF_small o).1 (okF_small o).2.1]
    simp only [Option.bind_some]
    rw [u16_wrap (by omega) (by omega)]
    exact impl_l0 o _ 0 0 (by omega) k (by omega)
  · rw [if_neg o, if_neg o]
theorem FnExactSafeSets : laws_FnExactSafeSets.Pure := by
  intro a b xs ha hb hx hw
  obtain ⟨k, hk⟩ : ∃ k : Nat, 1048580 ≤ k := ⟨1048580, by omega⟩
  refine ⟨k + 1, ?_⟩
  unfold laws_FnExactSafeSets.f
  rw [szFerry_f a b xs _ (by omega) (by omega) hx]
  by_cases q : (1048576 : Int) < xs.length
  · rw [if_pos q]; simp
  · rw [if_neg q]
    simp only [Option.bind_some]
    rw [if_neg (by omega), toFerry_f a b xs (by omega) _ (by omega)]
    simp only [Option.bind_some]
    rw [spec_f hw (i8_wf ha) (i8_wf hb) (by omega) _ (by omega), impl_f hw (i8_wf ha) (i8_wf hb) (by omega) _ (by omega)]
    simp only [Option.bind_some, bne_self_eq_false, Bool.false_eq_true, if_false, if_true, laws_FnExactSafeSets.j0]
    rw [toFerry_f a b xs (by omega) _ (by omega)]
    simp only [Option.bind_some]
    rw [eqFerry_f a b xs (by omega) _ (by omega)]
    rfl

end Go.Proofs.Ytikdnhhegknplaa.Pure
