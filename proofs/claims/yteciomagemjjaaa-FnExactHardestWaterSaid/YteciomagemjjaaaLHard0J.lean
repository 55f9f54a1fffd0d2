/- The hardest water on both sides. -/
import Derived.Test.YteciomagemjjaaaLHardJ
import Derived.Test.YteciomagemjjaaaLHardSJ
import Derived.Test.YteciomagemjjaaaLIdxWJ
import Derived.Test.YteciomagemjjaaaLSrcJ
namespace Go.Proofs.Yteciomagemjjaaa.J
open Go.RowKit Go.Proofs.YteciomagemjjaaaW.PrintWords Go.Proofs.YteciomagemjjaaaW.PrintLast Go.Proofs.YteciomagemjjaaaW.PrintMore
set_option linter.unusedVariables false
set_option linter.unusedSimpArgs false
theorem idx_fold {l : List Int} (hn : l.length ≤ 4) (hj : ∀ x ∈ l, jug x) (w0 w1 w2 w3 : Int) (h : Ins l [w0, w1, w2, w3]) : ∀ (k : Nat), k ≤ l.length →
    (bkUp l hn k).foldl (ztc [w0, w1, w2, w3]) 0 = IX (l.drop (l.length - k)) ([w0, w1, w2, w3].drop (l.length - k)) := by
  intro k
  induction k with
  | zero =>
    intro _
    rw [Nat.sub_zero, drop_all]
    rfl
  | succ k ih =>
    intro hk
    obtain ⟨j, hj2⟩ : ∃ j, l.length = j + k + 1 := ⟨l.length - k - 1, by omega⟩
    have e0 : l.length - k = j + 1 := by omega
    have e1 : l.length - (k + 1) = j := by omega
    have e2 : l.length - 1 - k = j := by omega
    have ih := ih (by omega)
    rw [e0] at ih
    rw [zle, List.foldl_append, ih, e1, List.foldl_cons, List.foldl_nil]
    unfold ztc bk
    dsimp only
    rw [e2]
    have hx := hj _ (rd_mem l j (by omega))
    unfold jug at hx
    have hw := ins_at h j (by omega) (by simp; omega)
    have s0 := zjd hn hj h j
    have s1 := zjd hn hj h (j + 1)
    have st := IX_step (l := l) (W := [w0, w1, w2, w3]) j (by omega) (by simp; omega)
    have f1 : wrap64 (wrap64 (rd l j) + 1) = rd l j + 1 := by unfold wrap64; omega
    have f2 : wrap64 (rd [w0, w1, w2, w3] (j : Int)) = rd [w0, w1, w2, w3] (j : Int) := by unfold wrap64; omega
    have nn : 0 ≤ (rd l j + 1) * IX (l.drop (j + 1)) ([w0, w1, w2, w3].drop (j + 1)) := Int.mul_nonneg (by omega) s1.1
    have f3 : wrap64 (IX (l.drop (j + 1)) ([w0, w1, w2, w3].drop (j + 1)) * (rd l j + 1)) = (rd l j + 1) * IX (l.drop (j + 1)) ([w0, w1, w2, w3].drop (j + 1)) := by
      rw [Int.mul_comm]
      generalize (rd l j + 1) * IX (l.drop (j + 1)) ([w0, w1, w2, w3].drop (j + 1)) = z at st nn ⊢
      unfold wrap64
      omega
    rw [f1, f2, f3, Int.add_comm, ← st]
    unfold wrap64
    omega
theorem pindex_f {l : List Int} (J : Jugs l) (a b c d : Int) (tap : Bool) {w : S27} (hw : watS l w) : impl_Puzzle_index.f l a b c d tap w.f0 w.f1 w.f2 w.f3 = some (ix l w) := by
  unfold impl_Puzzle_index.f
  rw [dif_pos ⟨J.n1, J.n4⟩]
  have := idx_fold J.n4 J.jg w.f0 w.f1 w.f2 w.f3 (zbf J.n4 hw) l.length (Nat.le_refl _)
  rw [Nat.sub_self] at this
  unfold idxV
  rw [this]
  rfl
/-- b is at least as hard as e. -/
def zfd (l : List Int) (b e : S82) : Prop := e.f3 < b.f3 ∨ (e.f3 = b.f3 ∧ ix l b.f0 ≤ ix l e.f0)
theorem zdc (l : List Int) (b : S82) : zfd l b b := Or.inr ⟨rfl, Int.le_refl _⟩
section
variable {l : List Int} {P : Nat} {s : S27} {q : List S82} {t f : List Int} {bb : List S80}
theorem hardI (J : Jugs l) (R : Rel l P s q t f bb) (hql : q.length ≤ 5000) (a b c d : Int) (tap : Bool) : ∀ (n i : Nat) (u : S82), i + n = q.length → u ∈ q → (∀ j : Nat, j < i → zfd l u (zl q (j : Int))) →
    ∃ v, v ∈ q ∧ (∀ j : Nat, j < q.length → zfd l v (zl q (j : Int))) ∧ ∀ k, n < k → impl_HardestWater.l0 k q q.length i l a b c d tap u.f0.f0 u.f0.f1 u.f0.f2 u.f0.f3 u.f1 u.f2.f0 u.f2.f1 u.f2.f2 u.f3 = some (v.f0.f0, v.f0.f1, v.f0.f2, v.f0.f3, v.f3, 0) := by
  intro n
  induction n with
  | zero =>
    intro i u hi hu h
    refine ⟨u, hu, fun j hj => h j (by omega), fun k hk => ?_⟩
    obtain ⟨k, rfl⟩ : ∃ m, k = m + 1 := ⟨k - 1, by omega⟩
    have ni : ¬ ((i : Int) < (q.length : Int)) := by omega
    simp only [impl_HardestWater.l0]
    rw [if_neg ni]
  | succ n ih =>
    intro i u hi hu h
    have pi : (i : Int) < (q.length : Int) := by omega
    have p0 : 0 ≤ (i : Int) := by omega
    have hm := zxc q i (by omega)
    have x1 := pindex_f J a b c d tap (R.val _ hm)
    have x2 := pindex_f J a b c d tap (R.val _ hu)
    have hnext : ∀ w : S82, zfd l w u → zfd l w (zl q (i : Int)) → ∀ j : Nat, j < i + 1 → zfd l w (zl q (j : Int)) := by
      intro w h1 h2 j hj
      by_cases e : j = i
      · subst e; exact h2
      · have h3 := h j (by omega)
        unfold zfd at h1 h3 ⊢
        omega
    by_cases c1 : (zl q (i : Int)).f3 > u.f3
    · obtain ⟨v, hv, hh, hk⟩ := ih (i + 1) (zl q (i : Int)) (by omega) hm (hnext _ (Or.inl (by omega)) (zdc l _))
      refine ⟨v, hv, hh, fun k hk' => ?_⟩
      obtain ⟨k, rfl⟩ : ∃ m, k = m + 1 := ⟨k - 1, by omega⟩
      simp only [impl_HardestWater.l0]
      rw [if_pos pi, if_pos p0, if_pos pi, if_pos c1, zmb (n := 100001) (by omega) (by omega)]
      exact hk k (by omega)
    · by_cases c2 : (zl q (i : Int)).f3 = u.f3
      · by_cases c3 : ix l (zl q (i : Int)).f0 < ix l u.f0
        · obtain ⟨v, hv, hh, hk⟩ := ih (i + 1) (zl q (i : Int)) (by omega) hm (hnext _ (Or.inr ⟨by omega, by omega⟩) (zdc l _))
          refine ⟨v, hv, hh, fun k hk' => ?_⟩
          obtain ⟨k, rfl⟩ : ∃ m, k = m + 1 := ⟨k - 1, by omega⟩
          simp only [impl_HardestWater.l0]
          rw [if_pos pi, if_pos p0, if_pos pi, if_neg c1, if_pos c2, x1, x2]
          simp only [Option.bind_some]
          rw [if_pos c3, zmb (n := 100001) (by omega) (by omega)]
          exact hk k (by omega)
        · obtain ⟨v, hv, hh, hk⟩ := ih (i + 1) u (by omega) hu (hnext _ (zdc l _) (Or.inr ⟨c2, by omega⟩))
          refine ⟨v, hv, hh, fun k hk' => ?_⟩
          obtain ⟨k, rfl⟩ : ∃ m, k = m + 1 := ⟨k - 1, by omega⟩
          simp only [impl_HardestWater.l0]
          rw [if_pos pi, if_pos p0, if_pos pi, if_neg c1, if_pos c2, x1, x2]
          simp only [Option.bind_some]
          rw [if_neg c3, zmb (n := 100001) (by omega) (by omega)]
          exact hk k (by omega)
      · obtain ⟨v, hv, hh, hk⟩ := ih (i + 1) u (by omega) hu (hnext _ (zdc l _) (Or.inl (by omega)))
        refine ⟨v, hv, hh, fun k hk' => ?_⟩
        obtain ⟨k, rfl⟩ : ∃ m, k = m + 1 := ⟨k - 1, by omega⟩
        simp only [impl_HardestWater.l0]
        rw [if_pos pi, if_pos p0, if_pos pi, if_neg c1, if_neg c2, zmb (n := 100001) (by omega) (by omega)]
        exact hk k (by omega)
end
/-- Number at holds the greatest entry, and is the least such. -/
def top (t : List Int) (m at_ j : Nat) : Prop := rd t (j : Int) < rd t (at_ : Int) ∨ (rd t (j : Int) = rd t (at_ : Int) ∧ at_ ≤ j)
theorem hardS (l : List Int) (a b c d : Int) (tap : Bool) (t : List Int) (ht : t.length ≤ 100000) : ∀ (n i u : Nat), i + n = t.length → u < i → (∀ j : Nat, j < i → top t 0 u j) →
    ∃ v : Nat, v < t.length ∧ (∀ j : Nat, j < t.length → top t 0 v j) ∧ ∀ k, spec_HardestWater.l0 (k + n) u i t l a b c d tap = spec_HardestWater.l0 k v t.length t l a b c d tap := by
  intro n
  induction n with
  | zero =>
    intro i u hi hu h
    have e : i = t.length := by omega
    subst e
    exact ⟨u, hu, h, fun k => rfl⟩
  | succ n ih =>
    intro i u hi hu h
    have p1 : (i : Int) < (t.length : Int) := by omega
    have p0 : 0 ≤ (i : Int) := by omega
    have u0 : 0 ≤ (u : Int) := by omega
    have u1 : (u : Int) < (t.length : Int) := by omega
    by_cases c1 : rd t (i : Int) > rd t (u : Int)
    · obtain ⟨v, v1, v2, v3⟩ := ih (i + 1) i (by omega) (by omega) (fun j hj => by
        by_cases e : j = i
        · subst e; exact Or.inr ⟨rfl, Nat.le_refl _⟩
        · have := h j (by omega)
          unfold top at this ⊢
          omega)
      refine ⟨v, v1, v2, fun k => ?_⟩
      rw [← v3 k, show k + (n + 1) = (k + n) + 1 from rfl]
      simp only [spec_HardestWater.l0]
      rw [if_pos p1, if_pos p0, if_pos u0, if_pos u1, if_pos c1, zmb (n := 100001) (by omega) (by omega)]
    · obtain ⟨v, v1, v2, v3⟩ := ih (i + 1) u (by omega) (by omega) (fun j hj => by
        by_cases e : j = i
        · subst e
          unfold top
          omega
        · exact h j (by omega))
      refine ⟨v, v1, v2, fun k => ?_⟩
      rw [← v3 k, show k + (n + 1) = (k + n) + 1 from rfl]
      simp only [spec_HardestWater.l0]
      rw [if_pos p1, if_pos p0, if_pos u0, if_pos u1, if_neg c1, zmb (n := 100001) (by omega) (by omega)]
theorem hard_f (l : List Int) (a b c d : Int) (tap : Bool) (hl : l.length ≤ 1048576) : ∃ v : Int × Int × Int × Int × Int × Int, ∀ k, 2100000 < k → spec_HardestWater.f k l a b c d tap = some v ∧ impl_HardestWater.f k l a b c d tap = some v := by
  obtain ⟨v, hv, hk⟩ := ok_f l a b c d tap hl
  cases v with
  | false =>
    refine ⟨(0, 0, 0, 0, 0, 1), fun k h => ?_⟩
    obtain ⟨h1, h2, -⟩ := hk k (by omega)
    unfold spec_HardestWater.f impl_HardestWater.f
    rw [h1, h2]
    exact ⟨rfl, rfl⟩
  | true =>
    obtain ⟨o1, o2, o3, o4, o5⟩ := hv rfl
    have J : Jugs l := ⟨o1, o2, o3, o4⟩
    obtain ⟨P, q, t, f, bb, hP, R, hF⟩ := both_f J a b c d tap o5 (fun k h => (hk k h).2.2 rfl)
    have hql := R.len J hP
    have htl := R.tl
    have hq0 := R.hd
    -- the one side
    have z0 : zl q ((0 : Nat) : Int) ∈ q := zxc q 0 hq0.1
    obtain ⟨g, g1, g2, g3⟩ := hardI J R (by omega) a b c d tap (q.length - 1) 1 (zl q ((0 : Nat) : Int)) (by omega) z0 (fun j hj => by
      have : j = 0 := by omega
      subst this
      exact zdc l _)
    have hall : ∀ e ∈ q, zfd l g e := by
      intro e he
      obtain ⟨j, hj, rfl⟩ := List.getElem_of_mem he
      have := g2 j hj
      unfold zl at this
      rw [Int.toNat_natCast, List.getD_eq_getElem?_getD, List.getElem?_eq_getElem hj, Option.getD_some] at this
      exact this
    -- the other
    obtain ⟨u, u1, u2, u3⟩ := hardS l a b c d tap t (by omega) (t.length - 1) 1 0 (by omega) (by omega) (fun j hj => by
      have : j = 0 := by omega
      subst this
      exact Or.inr ⟨rfl, Nat.le_refl _⟩)
    have gx := zff J (R.val g g1)
    have gt := R.tab g g1
    have gp := R.pos g g1
    obtain ⟨m, hm⟩ := Int.eq_ofNat_of_zero_le gx.1
    have hum := u2 m (by omega)
    unfold top at hum
    rw [← hm, gt] at hum
    have eu : (u : Int) = ix l g.f0 := by
      rcases R.neg u (by omega) with h | ⟨e, he, h⟩
      · omega
      · have h2 := hall e he
        have h3 := R.tab e he
        rw [h] at h3
        unfold zfd at h2
        omega
    refine ⟨(g.f0.f0, g.f0.f1, g.f0.f2, g.f0.f3, g.f3, 0), fun k h => ?_⟩
    obtain ⟨h1, h2, -⟩ := hk k (by omega)
    obtain ⟨f1, f2⟩ := hF k (by omega)
    refine ⟨?_, ?_⟩
    · unfold spec_HardestWater.f spec_l02FindS.f
      rw [h1]
      simp only [Option.bind_some, if_true]
      rw [f2]
      simp only [Option.map_some, Option.bind_some]
      obtain ⟨k, rfl⟩ : ∃ m, k = (m + 1) + (t.length - 1) := ⟨k - (t.length - 1) - 1, by omega⟩
      have e3 := u3 (k + 1)
      rw [show ((0 : Nat) : Int) = 0 from rfl, show ((1 : Nat) : Int) = 1 from rfl] at e3
      rw [e3]
      have nt : ¬ ((t.length : Int) < (t.length : Int)) := by omega
      have ea := at_f J a b c d tap (R.val g g1) k (by omega)
      rw [show IX l [g.f0.f0, g.f0.f1, g.f0.f2, g.f0.f3] = ix l g.f0 from rfl, ← eu] at ea
      simp only [spec_HardestWater.l0]
      rw [if_neg nt, ea]
      simp only [Option.bind_some]
      rw [if_pos (by omega), if_pos (by omega), eu, gt]
      have ew : wrap64 g.f3 = g.f3 := by unfold wrap64; omega
      rw [ew]
    · unfold impl_HardestWater.f
      rw [h2]
      simp only [Option.bind_some, if_true]
      rw [f1]
      simp only [Option.bind_some]
      obtain ⟨k, rfl⟩ : ∃ m, k = m + 1 := ⟨k - 1, by omega⟩
      have p1 : (0 : Int) < (q.length : Int) := by omega
      have q3 : (zl q 0).f3 > (-1 : Int) := by rw [hq0.2]; show (0 : Int) > -1; decide
      simp only [impl_HardestWater.l0]
      rw [if_pos p1, if_pos (Int.le_refl 0), if_pos p1, if_pos q3, show wrap64 ((0 : Int) + 1) = ((1 : Nat) : Int) from by decide +kernel]
      exact g3 k (by omega)
end Go.Proofs.Yteciomagemjjaaa.J
