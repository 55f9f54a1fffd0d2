/- The program's number of a water is the reference's. -/
import Derived.Test.YteciomagemjjaaaLIdxWJ
import Derived.Test.YteciomagemjjaaaLSrcJ
namespace Go.Proofs.Yteciomagemjjaaa.J
open Go.RowKit Go.Proofs.YteciomagemjjaaaW.PrintWords Go.Proofs.YteciomagemjjaaaW.PrintLast Go.Proofs.YteciomagemjjaaaW.PrintMore
set_option linter.unusedVariables false
set_option linter.unusedSimpArgs false

theorem idx_fold {l : List Int} (hn : l.length ≤ 4) (hj : ∀ x ∈ l, jug x) (w0 w1 w2 w3 : Int) (h : Ins l [w0, w1, w2, w3]) : ∀ (k : Nat), k ≤ l.length →
    (bkUp l hn k).foldl (zvc [w0, w1, w2, w3]) 0 = IX (l.drop (l.length - k)) ([w0, w1, w2, w3].drop (l.length - k)) := by
  intro k
  induction k with
  | zero =>
    intro _
    rw [Nat.sub_zero, drop_all]
    rfl
  | succ k ih =>
    intro hk
    obtain ⟨j, hj2⟩ : ∃ j, l.length = j + k + 1 := ⟨l.length - k - 1, by omega⟩
    have e0 : l.length - k = j + 1 := by omega
    have e1 : l.length - (k + 1) = j := by omega
    have e2 : l.length - 1 - k = j := by omega
    have ih := ih (by omega)
    rw [e0] at ih
    rw [zce, List.foldl_append, ih, e1, List.foldl_cons, List.foldl_nil]
    unfold zvc bk
    dsimp only
    rw [e2]
    have hx := hj _ (rd_mem l j (by omega))
    unfold jug at hx
    have hw := ins_at h j (by omega) (by simp; omega)
    have s0 := zld hn hj h j
    have s1 := zld hn hj h (j + 1)
    have st := IX_step (l := l) (W := [w0, w1, w2, w3]) j (by omega) (by simp; omega)
    have f1 : wrap64 (wrap64 (rd l j) + 1) = rd l j + 1 := by unfold wrap64; omega
    have f2 : wrap64 (rd [w0, w1, w2, w3] (j : Int)) = rd [w0, w1, w2, w3] (j : Int) := by unfold wrap64; omega
    have nn : 0 ≤ (rd l j + 1) * IX (l.drop (j + 1)) ([w0, w1, w2, w3].drop (j + 1)) := Int.mul_nonneg (by omega) s1.1
    have f3 : wrap64 (IX (l.drop (j + 1)) ([w0, w1, w2, w3].drop (j + 1)) * (rd l j + 1)) = (rd l j + 1) * IX (l.drop (j + 1)) ([w0, w1, w2, w3].drop (j + 1)) := by
      rw [Int.mul_comm]
      generalize (rd l j + 1) * IX (l.drop (j + 1)) ([w0, w1, w2, w3].drop (j + 1)) = z at st nn ⊢
      unfold wrap64
      omega
    rw [f1, f2, f3, Int.add_comm, ← st]
    unfold wrap64
    omega
theorem pindex_f {l : List Int} (J : Jugs l) (a b c d : Int) (tap : Bool) {w : S27} (hw : watS l w) : impl_Puzzle_index.f l a b c d tap w.f0 w.f1 w.f2 w.f3 = some (ix l w) := by
  unfold impl_Puzzle_index.f
  rw [dif_pos ⟨J.n1, J.n4⟩]
  have := idx_fold J.n4 J.jg w.f0 w.f1 w.f2 w.f3 (zaf J.n4 hw) l.length (Nat.le_refl _)
  rw [Nat.sub_self] at this
  unfold idxV
  rw [this]
  rfl

end Go.Proofs.Yteciomagemjjaaa.J
