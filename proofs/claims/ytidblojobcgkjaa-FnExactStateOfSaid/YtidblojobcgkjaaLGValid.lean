/- Games: the one test of both sides. -/
import Derived.Test.YtidblojobcgkjaaLGBase
import Derived.Test.YtidblojobcgkjaaMx1
import Derived.Test.YtidblojobcgkjaaMx2
import Derived.Test.YtidblojobcgkjaaMx4
import Derived.Test.YtidblojobcgkjaaMx6
namespace Go.Proofs.Ytidblojobcgkjaa.M
open Go.RowKit Go.Proofs.YtidblojobcgkjaaW.PrintWords Go.Proofs.YtidblojobcgkjaaW.PrintLast Go.Proofs.YtidblojobcgkjaaW.PrintMore
set_option linter.unusedVariables false
set_option linter.unusedSimpArgs false

def fullG (a : Int) : Int := IntKind.u64.wrap ((shl .u64 1 a) - 1)
def begunG (a b : Int) : Bool := decide (1 ≤ a ∧ a ≤ 60 ∧ 0 ≤ b ∧ b ≤ 3)
def asks (a : Int) (l : List S60) : Bool := l.all fun x => decide (Go.bits .andNot .u64 x.f0 (fullG a) = 0)
def okG (a b : Int) (l : List S60) : Bool := begunG a b && (decide (l.length ≤ 60) && asks a l)
theorem begin_f (a b : Int) : spec_l06Begin.f a b = some (begunG a b) ∧ impl_isGame.f a b = some (begunG a b) := by
  unfold spec_l06Begin.f impl_isGame.f spec_l00In.f impl_within.f begunG
  by_cases h1 : 1 ≤ a
  · rw [if_pos (show a ≥ 1 from h1)]
    by_cases h2 : a ≤ 60
    · by_cases h3 : 0 ≤ b
      · by_cases h4 : b ≤ 3 <;> simp [h1, h2, h3, h4]
      · simp [h1, h2, h3]
    · simp [h2]
  · rw [if_neg (show ¬ a ≥ 1 from h1)]; simp [h1]
theorem full_all : ∀ a : Fin 61, 1 ≤ a.val → shr .u64 18446744073709551615 (IntKind.u64.wrap (wrap64 (64 - ((a.val : Nat) : Int)))) = fullG ((a.val : Nat) : Int) := by decide +kernel
theorem specFull_f {a : Int} (h1 : 1 ≤ a) (h2 : a ≤ 60) : spec_l06Full.f a = some (fullG a) := by
  have := full_all ⟨a.toNat, by omega⟩ (by simp only; omega)
  simp only at this
  rw [show ((a.toNat : Nat) : Int) = a by omega] at this
  unfold spec_l06Full.f
  rw [if_pos, this]
  simp only [IntKind.wrap, IntKind.bits, IntKind.signed, Bool.false_and, Bool.false_eq_true, if_false]; omega
theorem specOk_l0 {a b : Int} (h1 : 1 ≤ a) (h2 : a ≤ 60) (l : List S60) (hn : l.length ≤ 60) (d : Nat) : ∀ j : Nat, j + d = l.length → ∀ k, d < k →
    spec_l06Ok.l0 k j a b l = some (asks a (l.drop j)) := by
  have ea : wrap64 a = a := by unfold wrap64; omega
  induction d with
  | zero =>
    intro j hj k hk
    obtain ⟨k, rfl⟩ : ∃ m, k = m + 1 := ⟨k - 1, by omega⟩
    simp only [spec_l06Ok.l0]; rw [if_neg (by omega), List.drop_of_length_le (by omega)]; rfl
  | succ d ih =>
    intro j hj k hk
    obtain ⟨k, rfl⟩ : ∃ m, k = m + 1 := ⟨k - 1, by omega⟩
    simp only [spec_l06Ok.l0]
    rw [if_pos (by omega), if_pos (by omega), ea, specFull_f h1 h2, rd60_at, drop60_at l j (by omega), next_i (n := l.length) (by omega) (by omega)]
    simp only [Option.bind_some, asks, List.all_cons]
    by_cases q : Go.bits .andNot .u64 (l.getD j z60).f0 (fullG a) = 0
    · rw [if_pos q, decide_eq_true q, Bool.true_and]; exact ih (j + 1) (by omega) k (by omega)
    · rw [if_neg q, decide_eq_false q, Bool.false_and]
theorem specOk_f {a b : Int} {l : List S60} (ha : -128 ≤ a ∧ a ≤ 127) (hb : -128 ≤ b ∧ b ≤ 127) (k : Nat) (hk : 100 < k) : spec_l06Ok.f k a b l = some (okG a b l) := by
  obtain ⟨k, rfl⟩ : ∃ m, k = m + 1 := ⟨k - 1, by omega⟩
  unfold spec_l06Ok.f okG
  rw [show wrap64 a = a by unfold wrap64; omega, show wrap64 b = b by unfold wrap64; omega, (begin_f a b).1]
  simp only [Option.bind_some, spec_l06Ok.j0]
  by_cases g : begunG a b = true
  · rw [if_pos g, g]
    have gg := of_decide_eq_true g
    by_cases h : (l.length : Int) > 60
    · rw [decide_eq_true h, if_pos rfl, decide_eq_false (show ¬ l.length ≤ 60 by omega)]; rfl
    · rw [decide_eq_false h, if_neg (by simp), decide_eq_true (show l.length ≤ 60 by omega)]
      have := specOk_l0 (b := b) gg.1 gg.2.1 l (by omega) l.length 0 (by omega) k (by omega)
      simp only [List.drop_zero] at this
      have e : spec_l06Ok.l0 k 0 a b l = some (asks a l) := this
      rw [e]; rfl
  · rw [if_neg g, if_pos trivial]
    rw [Bool.not_eq_true] at g
    rw [g]; rfl
theorem implOk_l0 {a b : Int} (h1 : 1 ≤ a) (l' l : List S60) (hn : l.length ≤ 60) (d : Nat) : ∀ j : Nat, j + d = l.length → ∀ k, d < k →
    ∃ v, impl_Ask_43_37.l0 k l l.length j a b l' = some v ∧ decide (v ≥ 0) = !(asks a (l.drop j)) := by
  induction d with
  | zero =>
    intro j hj k hk
    obtain ⟨k, rfl⟩ : ∃ m, k = m + 1 := ⟨k - 1, by omega⟩
    refine ⟨-1, ?_, ?_⟩
    · simp only [impl_Ask_43_37.l0]; rw [if_neg (by omega)]
    · rw [List.drop_of_length_le (by omega)]; rfl
  | succ d ih =>
    intro j hj k hk
    obtain ⟨k, rfl⟩ : ∃ m, k = m + 1 := ⟨k - 1, by omega⟩
    simp only [impl_Ask_43_37.l0, impl_ValidGame_1.f, impl_Game_all.f]
    rw [if_pos (by omega), if_pos (by omega), if_pos (by omega), if_pos (show 0 ≤ a by omega), rd60_at, drop60_at l j (by omega), next_i (n := l.length) (by omega) (by omega)]
    simp only [Option.bind_some, asks, List.all_cons]
    rw [show IntKind.u64.wrap ((shl .u64 1 a) - 1) = fullG a from rfl]
    by_cases q : Go.bits .andNot .u64 (l.getD j z60).f0 (fullG a) = 0
    · rw [if_neg (by rw [q]; decide), decide_eq_true q, Bool.true_and]; exact ih (j + 1) (by omega) k (by omega)
    · rw [if_pos (by simpa using q), decide_eq_false q, Bool.false_and]
      refine ⟨_, rfl, ?_⟩
      simp
theorem implOk_f {a b : Int} {l : List S60} (ha : -128 ≤ a ∧ a ≤ 127) (hb : -128 ≤ b ∧ b ≤ 127) (k : Nat) (hk : 100 < k) : impl_ValidGame.f k a b l = some (okG a b l) := by
  unfold impl_ValidGame.f okG
  rw [show wrap64 a = a by unfold wrap64; omega, show wrap64 b = b by unfold wrap64; omega, (begin_f a b).2]
  simp only [Option.bind_some]
  by_cases g : begunG a b = true
  · rw [if_pos g, g]
    have gg := of_decide_eq_true g
    by_cases h : l.length ≤ 60
    · rw [if_pos (by omega), decide_eq_true h]
      unfold impl_Ask_36_37.f impl_Ask_43_37.f
      obtain ⟨v, e1, e2⟩ := implOk_l0 (b := b) gg.1 l l h l.length 0 (by omega) k (by omega)
      simp only [List.drop_zero] at e2
      have e0 : impl_Ask_43_37.l0 k l l.length 0 a b l = some v := e1
      rw [e0]
      simp only [Option.bind_some]
      rw [e2, Bool.not_not]; rfl
    · rw [if_neg (by omega), decide_eq_false h]; rfl
  · rw [if_neg g]
    rw [Bool.not_eq_true] at g
    rw [g]; rfl
theorem okG_small {a b : Int} {l : List S60} (h : okG a b l = true) : 1 ≤ a ∧ a ≤ 60 ∧ l.length ≤ 60 := by
  unfold okG at h
  simp only [Bool.and_eq_true] at h
  have g := of_decide_eq_true h.1
  exact ⟨g.1, g.2.1, of_decide_eq_true h.2.1⟩

end Go.Proofs.Ytidblojobcgkjaa.M
