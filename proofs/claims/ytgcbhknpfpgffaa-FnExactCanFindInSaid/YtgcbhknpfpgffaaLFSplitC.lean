/- States behind answers, on both sides; the asks in their order. -/
import Derived.Test.YtgcbhknpfpgffaaCx3
import Derived.Test.YtgcbhknpfpgffaaCx7
import Derived.Test.YtgcbhknpfpgffaaLSBaseC
namespace Go.Proofs.Ytgcbhknpfpgffaa.C
open Go.RowKit Go.Proofs.YtgcbhknpfpgffaaW.PrintWords Go.Proofs.YtgcbhknpfpgffaaW.PrintLast Go.Proofs.YtgcbhknpfpgffaaW.PrintMore
set_option linter.unusedVariables false
set_option linter.unusedSimpArgs false

abbrev T4 := Int × Int × Int × Int
def GS (n : Int) (x : T4) : Prop := 0 ≤ n ∧ n ≤ 3 ∧ 0 ≤ x.1 ∧ 0 ≤ x.2.1 ∧ 0 ≤ x.2.2.1 ∧ 0 ≤ x.2.2.2 ∧ x.1 + x.2.1 + x.2.2.1 + x.2.2.2 ≤ 8 ∧ (n < 1 → x.2.1 = 0) ∧ (n < 2 → x.2.2.1 = 0) ∧ (n < 3 → x.2.2.2 = 0)
def GA (x a : T4) : Prop := (0 ≤ a.1 ∧ a.1 ≤ x.1) ∧ (0 ≤ a.2.1 ∧ a.2.1 ≤ x.2.1) ∧ (0 ≤ a.2.2.1 ∧ a.2.2.1 ≤ x.2.2.1) ∧ (0 ≤ a.2.2.2 ∧ a.2.2.2 ≤ x.2.2.2)
def zlb (n : Int) (x a : T4) : T4 := (a.1, if 1 ≤ n then a.2.1 + (x.1 - a.1) else 0, if 2 ≤ n then a.2.2.1 + (x.2.1 - a.2.1) else 0, if 3 ≤ n then a.2.2.2 + (x.2.2.1 - a.2.2.1) else 0)
def noOf (n : Int) (x a : T4) : T4 := (x.1 - a.1, if 1 ≤ n then (x.2.1 - a.2.1) + a.1 else 0, if 2 ≤ n then (x.2.2.1 - a.2.2.1) + a.2.1 else 0, if 3 ≤ n then (x.2.2.2 - a.2.2.2) + a.2.2.1 else 0)
theorem zce {n : Int} {x a : T4} (h : GS n x) (g : GA x a) : GS n (zlb n x a) := by
  obtain ⟨n0, n3, a0, b0, c0, d0, s8, zb, zc, zd⟩ := h
  obtain ⟨⟨p0, p1⟩, ⟨q0, q1⟩, ⟨r0, r1⟩, ⟨s0, s1⟩⟩ := g
  have hn : n = 0 ∨ n = 1 ∨ n = 2 ∨ n = 3 := by omega
  unfold GS zlb
  rcases hn with rfl | rfl | rfl | rfl <;> simp at * <;> omega
theorem zff {n : Int} {x a : T4} (h : GS n x) (g : GA x a) : GS n (noOf n x a) := by
  obtain ⟨n0, n3, a0, b0, c0, d0, s8, zb, zc, zd⟩ := h
  obtain ⟨⟨p0, p1⟩, ⟨q0, q1⟩, ⟨r0, r1⟩, ⟨s0, s1⟩⟩ := g
  have hn : n = 0 ∨ n = 1 ∨ n = 2 ∨ n = 3 := by omega
  unfold GS noOf
  rcases hn with rfl | rfl | rfl | rfl <;> simp at * <;> omega
def znc (y z : T4) : Int × Int × Int × Int × Int × Int × Int × Int := (y.1, y.2.1, y.2.2.1, y.2.2.2, z.1, z.2.1, z.2.2.1, z.2.2.2)
theorem zxe (n a b c d p q r s : Int) (h : GS n (a, b, c, d)) (g : GA (a, b, c, d) (p, q, r, s)) (k : Nat) (hk : 4 < k) :
    spec_l06Split.f k n a b c d p q r s = some (znc (zlb n (a, b, c, d) (p, q, r, s)) (noOf n (a, b, c, d) (p, q, r, s))) ∧ impl_State_split.f k a b c d n p q r s = some (znc (zlb n (a, b, c, d) (p, q, r, s)) (noOf n (a, b, c, d) (p, q, r, s))) := by
  obtain ⟨k, rfl⟩ : ∃ m, k = m + 1 + 1 + 1 + 1 + 1 := ⟨k - 5, by omega⟩
  obtain ⟨n0, n3, a0, b0, c0, d0, s8, zb, zc, zd⟩ := h
  obtain ⟨⟨p0, p1⟩, ⟨q0, q1⟩, ⟨r0, r1⟩, ⟨s0, s1⟩⟩ := g
  unfold spec_l06Split.f impl_State_split.f
  have hn : n = 0 ∨ n = 1 ∨ n = 2 ∨ n = 3 := by omega
  simp only at *
  rcases hn with rfl | rfl | rfl | rfl
  · constructor
    · simp [spec_l06Split.l0, w1, znc, zlb, noOf] <;> (repeat' apply And.intro) <;> (unfold wrap64; omega)
    · simp [impl_State_split.l0, w1, znc, zlb, noOf] <;> (repeat' apply And.intro) <;> (unfold wrap64; omega)
  · constructor
    · simp [spec_l06Split.l0, w1, w2, znc, zlb, noOf] <;> (repeat' apply And.intro) <;> (unfold wrap64; omega)
    · simp [impl_State_split.l0, w1, w2, znc, zlb, noOf] <;> (repeat' apply And.intro) <;> (unfold wrap64; omega)
  · constructor
    · simp [spec_l06Split.l0, w1, w2, w3, znc, zlb, noOf] <;> (repeat' apply And.intro) <;> (unfold wrap64; omega)
    · simp [impl_State_split.l0, w1, w2, w3, znc, zlb, noOf] <;> (repeat' apply And.intro) <;> (unfold wrap64; omega)
  · constructor
    · simp [spec_l06Split.l0, w1, w2, w3, w4, znc, zlb, noOf] <;> (repeat' apply And.intro) <;> (unfold wrap64; omega)
    · simp [impl_State_split.l0, w1, w2, w3, w4, znc, zlb, noOf] <;> (repeat' apply And.intro) <;> (unfold wrap64; omega)
section
variable (x0 x1 x2 x3 : Int) (T : Int → Int → Int → Int → Prop)
def P0 (a0 : Int) : Prop := ∃ b0 b1 b2 b3, a0 ≤ b0 ∧ b0 ≤ x0 ∧ 0 ≤ b1 ∧ b1 ≤ x1 ∧ 0 ≤ b2 ∧ b2 ≤ x2 ∧ 0 ≤ b3 ∧ b3 ≤ x3 ∧ T b0 b1 b2 b3
def P1 (a0 a1 : Int) : Prop := (∃ b1 b2 b3, a1 ≤ b1 ∧ b1 ≤ x1 ∧ 0 ≤ b2 ∧ b2 ≤ x2 ∧ 0 ≤ b3 ∧ b3 ≤ x3 ∧ T a0 b1 b2 b3) ∨ P0 x0 x1 x2 x3 T (a0 + 1)
def P2 (a0 a1 a2 : Int) : Prop := (∃ b2 b3, a2 ≤ b2 ∧ b2 ≤ x2 ∧ 0 ≤ b3 ∧ b3 ≤ x3 ∧ T a0 a1 b2 b3) ∨ P1 x0 x1 x2 x3 T a0 (a1 + 1)
def P3 (a0 a1 a2 a3 : Int) : Prop := (∃ b3, a3 ≤ b3 ∧ b3 ≤ x3 ∧ T a0 a1 a2 b3) ∨ P2 x0 x1 x2 x3 T a0 a1 (a2 + 1)
theorem zxd {a0 : Int} (h : a0 ≤ x0) : P0 x0 x1 x2 x3 T a0 ↔ P1 x0 x1 x2 x3 T a0 0 := by
  constructor
  · rintro ⟨b0, b1, b2, b3, h1, h2, h3, h4, h5, h6, h7, h8, ht⟩
    by_cases e : b0 = a0
    · subst e; exact .inl ⟨b1, b2, b3, h3, h4, h5, h6, h7, h8, ht⟩
    · exact .inr ⟨b0, b1, b2, b3, by omega, h2, h3, h4, h5, h6, h7, h8, ht⟩
  · rintro (⟨b1, b2, b3, h3, h4, h5, h6, h7, h8, ht⟩ | ⟨b0, b1, b2, b3, h1, h2, h3, h4, h5, h6, h7, h8, ht⟩)
    · exact ⟨a0, b1, b2, b3, Int.le_refl _, h, h3, h4, h5, h6, h7, h8, ht⟩
    · exact ⟨b0, b1, b2, b3, by omega, h2, h3, h4, h5, h6, h7, h8, ht⟩
theorem P0_end {a0 : Int} (h : x0 < a0) : ¬ P0 x0 x1 x2 x3 T a0 := by
  rintro ⟨b0, b1, b2, b3, h1, h2, _⟩; omega
theorem zjd {a0 a1 : Int} (h : a1 ≤ x1) : P1 x0 x1 x2 x3 T a0 a1 ↔ P2 x0 x1 x2 x3 T a0 a1 0 := by
  constructor
  · rintro (⟨b1, b2, b3, h3, h4, h5, h6, h7, h8, ht⟩ | h0)
    · by_cases e : b1 = a1
      · subst e; exact .inl ⟨b2, b3, h5, h6, h7, h8, ht⟩
      · exact .inr (.inl ⟨b1, b2, b3, by omega, h4, h5, h6, h7, h8, ht⟩)
    · exact .inr (.inr h0)
  · rintro (⟨b2, b3, h5, h6, h7, h8, ht⟩ | ⟨b1, b2, b3, h3, h4, h5, h6, h7, h8, ht⟩ | h0)
    · exact .inl ⟨a1, b2, b3, Int.le_refl _, h, h5, h6, h7, h8, ht⟩
    · exact .inl ⟨b1, b2, b3, by omega, h4, h5, h6, h7, h8, ht⟩
    · exact .inr h0
theorem P1_end {a0 a1 : Int} (h : x1 < a1) : P1 x0 x1 x2 x3 T a0 a1 ↔ P0 x0 x1 x2 x3 T (a0 + 1) := by
  constructor
  · rintro (⟨b1, b2, b3, h3, h4, _⟩ | h0)
    · omega
    · exact h0
  · exact .inr
theorem ztc {a0 a1 a2 : Int} (h : a2 ≤ x2) : P2 x0 x1 x2 x3 T a0 a1 a2 ↔ P3 x0 x1 x2 x3 T a0 a1 a2 0 := by
  constructor
  · rintro (⟨b2, b3, h5, h6, h7, h8, ht⟩ | h0)
    · by_cases e : b2 = a2
      · subst e; exact .inl ⟨b3, h7, h8, ht⟩
      · exact .inr (.inl ⟨b2, b3, by omega, h6, h7, h8, ht⟩)
    · exact .inr (.inr h0)
  · rintro (⟨b3, h7, h8, ht⟩ | ⟨b2, b3, h5, h6, h7, h8, ht⟩ | h0)
    · exact .inl ⟨a2, b3, Int.le_refl _, h, h7, h8, ht⟩
    · exact .inl ⟨b2, b3, by omega, h6, h7, h8, ht⟩
    · exact .inr h0
theorem P2_end {a0 a1 a2 : Int} (h : x2 < a2) : P2 x0 x1 x2 x3 T a0 a1 a2 ↔ P1 x0 x1 x2 x3 T a0 (a1 + 1) := by
  constructor
  · rintro (⟨b2, b3, h5, h6, _⟩ | h0)
    · omega
    · exact h0
  · exact .inr
theorem P3_step {a0 a1 a2 a3 : Int} (h : a3 ≤ x3) : P3 x0 x1 x2 x3 T a0 a1 a2 a3 ↔ T a0 a1 a2 a3 ∨ P3 x0 x1 x2 x3 T a0 a1 a2 (a3 + 1) := by
  constructor
  · rintro (⟨b3, h7, h8, ht⟩ | h0)
    · by_cases e : b3 = a3
      · subst e; exact .inl ht
      · exact .inr (.inl ⟨b3, by omega, h8, ht⟩)
    · exact .inr (.inr h0)
  · rintro (ht | ⟨b3, h7, h8, ht⟩ | h0)
    · exact .inl ⟨a3, Int.le_refl _, h, ht⟩
    · exact .inl ⟨b3, by omega, h8, ht⟩
    · exact .inr h0
theorem P3_end {a0 a1 a2 a3 : Int} (h : x3 < a3) : P3 x0 x1 x2 x3 T a0 a1 a2 a3 ↔ P2 x0 x1 x2 x3 T a0 a1 (a2 + 1) := by
  constructor
  · rintro (⟨b3, h7, h8, _⟩ | h0)
    · omega
    · exact h0
  · exact .inr
end

end Go.Proofs.Ytgcbhknpfpgffaa.C
