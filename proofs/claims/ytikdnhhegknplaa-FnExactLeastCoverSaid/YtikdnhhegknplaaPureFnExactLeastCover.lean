/- Proved: the program's LeastCover answers as the reference's for every ferry, and leaves the ferry as it was. No conditions. -/
import Derived.Test.YtikdnhhegknplaaLFSafe
import Derived.Test.YtikdnhhegknplaaSFnExactLeastCover
namespace Go.Proofs.Ytikdnhhegknplaa.Pure
open Go.RowKit Go.Proofs.Ytikdnhhegknplaa.M Go.Proofs.YtikdnhhegknplaaW.PrintWords Go.Proofs.YtikdnhhegknplaaW.PrintLast Go.Proofs.YtikdnhhegknplaaW.PrintMore
set_option linter.unusedVariables false
set_option linter.unusedSimpArgs false

theorem u16_next {s : Nat} (h : s ≤ 300) : IntKind.u16.wrap ((s : Int) + 1) = ((s + 1 : Nat) : Int) := by rw [u16_wrap (by omega) (by omega)]; omega
def coverF (a : Int) (l : List Int) (t : Nat) : Bool := safe l (Go.bits .andNot .u16 (full a) t)
def bestF (a : Int) (l : List Int) : Nat → Nat → Nat → Nat
  | 0, _, c => c
  | d + 1, s, c => bestF a l d (s + 1) (if coverF a l s = true ∧ ones 16 s < ones 16 c then s else c)
theorem ones_full : ∀ a : Fin 9, ∀ s : Fin 256, s.val < 2 ^ a.val - 1 → ones 16 s.val < ones 16 (2 ^ a.val - 1) := by decide +kernel
theorem ones_lt {a : Int} {s : Nat} (h1 : 1 ≤ a) (h8 : a ≤ 8) (h : s < (full a).toNat) : ones 16 s < ones 16 (full a).toNat := by
  have m := full_le h1 h8
  have e : (full a).toNat = 2 ^ a.toNat - 1 := by rcases eight h1 h8 with rfl | rfl | rfl | rfl | rfl | rfl | rfl | rfl <;> rfl
  rw [e] at h ⊢
  exact ones_full ⟨a.toNat, by omega⟩ ⟨s, by omega⟩ h
theorem sizeN (r : Nat) (h2 : r ≤ 255) (k : Nat) (hk : 16 < k) : spec_l05Size.f k (r : Int) = some ((ones 16 r : Nat) : Int) := by
  have := size_f (r := (r : Int)) (by omega) (by omega) k hk
  simpa using this
theorem countN (r : Nat) (h2 : r ≤ 255) : bits_OnesCount16.f (r : Int) = some ((ones 16 r : Nat) : Int) := by
  have := count_f (r := (r : Int)) (by omega) (by omega)
  simpa using this
theorem spec_l0 {a b : Int} {l : List Int} (o : okF a b l = true) (d : Nat) : ∀ (s c : Nat), s + d = (full a + 1).toNat → c ≤ 255 → ∀ k, d + 30 < k →
    spec_LeastCover.l0 k c s a b l = some (((bestF a l d s c : Nat) : Int), (0 : Int)) := by
  have w := okF_small o
  have m := full_le w.1 w.2.1
  induction d with
  | zero =>
    intro s c hs hc k hk
    obtain ⟨k, rfl⟩ : ∃ m, k = m + 1 := ⟨k - 1, by omega⟩
    simp only [spec_LeastCover.l0]; rw [specAll_f w.1 w.2.1]; simp only [Option.bind_some]; rw [if_neg (by omega)]; rfl
  | succ d ih =>
    intro s c hs hc k hk
    obtain ⟨k, rfl⟩ : ∃ m, k = m + 1 := ⟨k - 1, by omega⟩
    simp only [spec_LeastCover.l0]; rw [specAll_f w.1 w.2.1]; simp only [Option.bind_some]
    rw [if_pos (by omega), specCover_f _ o k (by omega), u16_next (by omega)]
    simp only [Option.bind_some, bestF]
    rw [show safe l (Go.bits .andNot .u16 (full a) (s : Int)) = coverF a l s from rfl]
    by_cases q : coverF a l s = true
    · rw [if_pos q, sizeN s (by omega) k (by omega), sizeN c (by omega) k (by omega)]
      simp only [Option.bind_some]
      by_cases q2 : ones 16 s < ones 16 c
      · rw [if_pos (by omega), if_pos ⟨q, q2⟩, ih (s + 1) s (by omega) (by omega) k (by omega)]
      · rw [if_neg (by omega), if_neg (fun h => q2 h.2), ih (s + 1) c (by omega) (by omega) k (by omega)]
    · rw [if_neg q, if_neg (fun h => q h.1), ih (s + 1) c (by omega) (by omega) k (by omega)]
theorem impl_l0 {a b : Int} {l : List Int} (o : okF a b l = true) (d : Nat) : ∀ (s c : Nat), s + d = (full a).toNat → (c = (full a).toNat ∨ c < s) → c ≤ (full a).toNat → ∀ k, d + 30 < k →
    impl_LeastCover.l0 k c (full a) s a b l = some (((bestF a l (d + 1) s c : Nat) : Int), (0 : Int)) := by
  have w := okF_small o
  have m := full_le w.1 w.2.1
  induction d with
  | zero =>
    intro s c hs hc hc2 k hk
    obtain ⟨k, rfl⟩ : ∃ m, k = m + 1 := ⟨k - 1, by omega⟩
    simp only [impl_LeastCover.l0, bestF]
    rw [if_neg (by omega), if_neg]
    intro h
    have e : s = (full a).toNat := by omega
    rw [e] at h
    by_cases c1 : c = (full a).toNat
    · rw [c1] at h; omega
    · have := ones_lt w.1 w.2.1 (s := c) (by omega); omega
  | succ d ih =>
    intro s c hs hc hc2 k hk
    obtain ⟨k, rfl⟩ : ∃ m, k = m + 1 := ⟨k - 1, by omega⟩
    simp only [impl_LeastCover.l0]
    rw [if_pos (by omega), implCover_f a b l (full a) _ (by omega) (okF_inn o) k (by omega), u16_next (by omega)]
    rw [bestF]
    simp only [Option.bind_some]
    rw [show safe l (Go.bits .andNot .u16 (full a) (s : Int)) = coverF a l s from rfl]
    by_cases q : coverF a l s = true
    · rw [if_pos q, countN s (by omega), countN c (by omega)]
      simp only [Option.bind_some]
      by_cases q2 : ones 16 s < ones 16 c
      · rw [if_pos (by omega), if_pos ⟨q, q2⟩, ih (s + 1) s (by omega) (by omega) (by omega) k (by omega)]
      · rw [if_neg (by omega), show (if coverF a l s = true ∧ ones 16 s < ones 16 c then s else c) = c from if_neg (fun h => q2 h.2)]
        by_cases q3 : ones 16 s = ones 16 c
        · have hlt : ¬ (s : Int) < c := by
            intro h
            rcases hc with hc | hc
            · have := ones_lt w.1 w.2.1 (s := s) (by omega); rw [hc] at q3; omega
            · omega
          have hc3 : c ≠ (full a).toNat := by
            intro h
            have := ones_lt w.1 w.2.1 (s := s) (by omega); rw [h] at q3; omega
          rw [if_pos (by omega), if_neg hlt, ih (s + 1) c (by omega) (by omega) (by omega) k (by omega)]
        · rw [if_neg (by omega), ih (s + 1) c (by omega) (by omega) (by omega) k (by omega)]
    · rw [if_neg q, if_neg (fun h => q h.1), ih (s + 1) c (by omega) (by omega) (by omega) k (by omega)]
def answer (a b : Int) (l : List Int) : Int × Int := if okF a b l = true then (((bestF a l ((full a).toNat + 1) 0 (full a).toNat : Nat) : Int), 0) else (0, 1)
theorem spec_f {a b : Int} {l : List Int} (hl : ∀ x ∈ l, (Lit.int .u16 x).wf = true) (ha : -128 ≤ a ∧ a ≤ 127) (hb : -128 ≤ b ∧ b ≤ 127) (hn : l.length ≤ 1048576) (k : Nat) (hk : 500 < k) :
    spec_LeastCover.f k a b l = some (answer a b l) := by
  unfold spec_LeastCover.f answer
  rw [specOk_f hl ha hb hn k (by omega)]
  simp only [Option.bind_some]
  by_cases o : okF a b l = true
  · have m := full_le (okF_small o).1 (okF_small o).2.1
    rw [if_pos o, if_pos o, specAll_f (okF_small o).1 (okF_small o).2.1]
    simp only [Option.bind_some]
    have := spec_l0 o ((full a).toNat + 1) 0 (full a).toNat (by omega) (by omega) k (by omega)
    rw [show (((full a).toNat : Nat) : Int) = full a by omega] at this
    exact this
  · rw [if_neg o, if_neg o]
theorem impl_f {a b : Int} {l : List Int} (hl : ∀ x ∈ l, (Lit.int .u16 x).wf = true) (ha : -128 ≤ a ∧ a ≤ 127) (hb : -128 ≤ b ∧ b ≤ 127) (hn : l.length ≤ 1048576) (k : Nat) (hk : 500 < k) :
    impl_LeastCover.f k a b l = some (answer a b l) := by
  unfold impl_LeastCover.f answer
  rw [implOk_f hl ha hb hn k (by omega)]
  simp only [Option.bind_some]
  by_cases o : okF a b l = true
  · have m := full_le (okF_small o).1 (okF_small o).2.1
    rw [if_pos o, if_pos o, implAll_f (okF_small o).1 (okF_small o).2.1]
    simp only [Option.bind_some]
    have := impl_l0 o ((full a).toNat) 0 (full a).toNat (by omega) (by omega) (by omega) k (by omega)
    rw [show (((full a).toNat : Nat) : Int) = full a by omega] at this
    exact this
  · rw [if_neg o, if_neg o]
theorem FnExactLeastCover : laws_FnExactLeastCover.Pure := by
  intro a b xs ha hb hx hw
  obtain ⟨k, hk⟩ : ∃ k : Nat, 1048580 ≤ k := ⟨1048580, by omega⟩
  refine ⟨k + 1, ?_⟩
  unfold laws_FnExactLeastCover.f
  rw [szFerry_f a b xs _ (by omega) (by omega) hx]
  by_cases q : (1048576 : Int) < xs.length
  · rw [if_pos q]; simp
  · rw [if_neg q]
    simp only [Option.bind_some]
    rw [if_neg (by omega), toFerry_f a b xs (by omega) _ (by omega)]
    simp only [Option.bind_some]
    rw [spec_f hw (i8_wf ha) (i8_wf hb) (by omega) _ (by omega), impl_f hw (i8_wf ha) (i8_wf hb) (by omega) _ (by omega)]
    simp only [Option.bind_some, bne_self_eq_false, Bool.false_eq_true, if_false, if_true, laws_FnExactLeastCover.j0]
    rw [toFerry_f a b xs (by omega) _ (by omega)]
    simp only [Option.bind_some]
    rw [eqFerry_f a b xs (by omega) _ (by omega)]
    rfl

end Go.Proofs.Ytikdnhhegknplaa.Pure
