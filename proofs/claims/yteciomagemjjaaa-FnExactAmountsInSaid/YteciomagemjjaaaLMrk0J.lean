/- Marks on a slice. -/
import Derived.Test.YteciomagemjjaaaLMrkJ
import Derived.Test.YteciomagemjjaaaLSrcJ
namespace Go.Proofs.Yteciomagemjjaaa.J
open Go.RowKit Go.Proofs.YteciomagemjjaaaW.PrintWords Go.Proofs.YteciomagemjjaaaW.PrintLast Go.Proofs.YteciomagemjjaaaW.PrintMore
set_option linter.unusedVariables false
set_option linter.unusedSimpArgs false

theorem mark_l0 : ∀ (d : Nat) (xs : List Int) (j : Nat), j + d = xs.length → xs.length ≤ 1048576 → ∃ ys : List Int, ys.length = xs.length ∧ (∀ m : Nat, m < j → rd ys (m : Int) = rd xs (m : Int)) ∧ (∀ m : Nat, j ≤ m → m < xs.length → rd ys (m : Int) = IntKind.i16.wrap (1 + (m : Int))) ∧
    ∀ k, d < k → laws_markInt16S.l0 k xs (1 + (j : Int)) (j : Int) = some (1 + (xs.length : Int), ys) := by
  intro d
  induction d with
  | zero =>
    intro xs j hj hl
    refine ⟨xs, rfl, fun m _ => rfl, fun m h1 h2 => by omega, fun k hk => ?_⟩
    obtain ⟨k, rfl⟩ : ∃ m, k = m + 1 := ⟨k - 1, by omega⟩
    have e : j = xs.length := by omega
    subst e
    have n1 : ¬ ((xs.length : Int) < (xs.length : Int)) := by omega
    simp only [laws_markInt16S.l0]
    rw [if_neg n1]
  | succ d ih =>
    intro xs j hj hl
    obtain ⟨ys, y1, y2, y3, y4⟩ := ih (xs.set j (IntKind.i16.wrap (1 + (j : Int)))) (j + 1) (by rw [List.length_set]; omega) (by rw [List.length_set]; exact hl)
    rw [List.length_set] at y1 y3 y4
    have s1 := zub xs (j : Int) (IntKind.i16.wrap (1 + (j : Int))) (by omega) (by omega)
    rw [Int.toNat_natCast] at s1
    refine ⟨ys, y1, fun m hm => ?_, fun m h1 h2 => ?_, fun k hk => ?_⟩
    · rw [y2 m (by omega)]
      have := zbc xs (j : Int) (m : Int) (IntKind.i16.wrap (1 + (j : Int))) (by omega) (by omega) (by omega)
      rw [Int.toNat_natCast] at this
      exact this
    · by_cases e : m = j
      · subst e
        rw [y2 m (by omega), s1]
      · exact y3 m (by omega) h2
    · obtain ⟨k, rfl⟩ : ∃ m, k = m + 1 := ⟨k - 1, by omega⟩
      have p1 : (j : Int) < (xs.length : Int) := by omega
      have p0 : 0 ≤ (j : Int) := by omega
      have w1 : wrap64 ((1 : Int) + (j : Int) + 1) = 1 + ((j + 1 : Nat) : Int) := by unfold wrap64; omega
      have w2 : wrap64 ((j : Int) + 1) = ((j + 1 : Nat) : Int) := by unfold wrap64; omega
      have := y4 k (by omega)
      simp only [laws_markInt16S.l0]
      rw [if_pos p1, if_pos p0, w1, w2, Int.toNat_natCast]
      exact this
theorem held_l0 (ys : List Int) (hl : ys.length ≤ 1048576) (h : ∀ m : Nat, m < ys.length → rd ys (m : Int) = IntKind.i16.wrap (1 + (m : Int))) : ∀ (d j : Nat), j + d = ys.length → ∀ k, d < k → laws_heldInt16S.l0 k ys (1 + (j : Int)) (j : Int) = some (1 + (ys.length : Int)) := by
  intro d
  induction d with
  | zero =>
    intro j hj k hk
    obtain ⟨k, rfl⟩ : ∃ m, k = m + 1 := ⟨k - 1, by omega⟩
    have e : j = ys.length := by omega
    subst e
    have n1 : ¬ ((ys.length : Int) < (ys.length : Int)) := by omega
    simp only [laws_heldInt16S.l0]
    rw [if_neg n1]
  | succ d ih =>
    intro j hj k hk
    obtain ⟨k, rfl⟩ : ∃ m, k = m + 1 := ⟨k - 1, by omega⟩
    have p1 : (j : Int) < (ys.length : Int) := by omega
    have p0 : 0 ≤ (j : Int) := by omega
    have w1 : wrap64 ((1 : Int) + (j : Int) + 1) = 1 + ((j + 1 : Nat) : Int) := by unfold wrap64; omega
    have w2 : wrap64 ((j : Int) + 1) = ((j + 1 : Nat) : Int) := by unfold wrap64; omega
    have := ih (j + 1) (by omega) k (by omega)
    simp only [laws_heldInt16S.l0]
    rw [if_pos p1, if_pos p0, if_pos (h j (by omega)), w1, w2]
    exact this
theorem marked (xs : List Int) (hl : xs.length ≤ 1048576) : ∃ ys : List Int, ys.length = xs.length ∧ (∀ k, xs.length < k → laws_markInt16S.f k xs 1 = some (1 + (xs.length : Int), ys)) ∧ ∀ k, xs.length < k → laws_heldInt16S.f k ys 1 = some (1 + (xs.length : Int)) := by
  obtain ⟨ys, y1, -, y3, y4⟩ := mark_l0 xs.length xs 0 (by omega) hl
  refine ⟨ys, y1, fun k hk => ?_, fun k hk => ?_⟩
  · have := y4 k hk
    exact this
  · have := held_l0 ys (by omega) (fun m hm => y3 m (by omega) (by omega)) ys.length 0 (by omega) k (by omega)
    rw [y1] at this
    exact this

end Go.Proofs.Yteciomagemjjaaa.J
