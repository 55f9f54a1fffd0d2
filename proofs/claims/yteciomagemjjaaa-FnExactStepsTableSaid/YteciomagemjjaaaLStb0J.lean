/- The table of steps on both sides; marks. -/
import Derived.Test.YteciomagemjjaaaLMrkJ
import Derived.Test.YteciomagemjjaaaLPixJ
import Derived.Test.YteciomagemjjaaaLStbJ
import Derived.Test.YteciomagemjjaaaLStbSJ
namespace Go.Proofs.Yteciomagemjjaaa.J
open Go.RowKit Go.Proofs.YteciomagemjjaaaW.PrintWords Go.Proofs.YteciomagemjjaaaW.PrintLast Go.Proofs.YteciomagemjjaaaW.PrintMore
set_option linter.unusedVariables false
set_option linter.unusedSimpArgs false

theorem states_f {l : List Int} (J : Jugs l) (a b c d : Int) (tap : Bool) (k : Nat) (hk : 10 < k) : impl_Puzzle_states.f k l a b c d tap = some (PR l) := by
  have hp : (1 : Int) * 61 ^ l.length ≤ 13845841 := by
    have := J.n1
    have := J.n4
    have : l.length = 1 ∨ l.length = 2 ∨ l.length = 3 ∨ l.length = 4 := by omega
    rcases this with h | h | h | h <;> rw [h] <;> decide
  have h := (sp_l0 l J.n4 l.length 0 1 (by omega) (by decide) hp k (by have := J.n4; omega)).1 (by rw [List.drop_zero]; exact J.jg)
  unfold impl_Puzzle_states.f
  have h2 := h.2
  rw [List.drop_zero, Int.one_mul] at h2
  exact h2
theorem rd_ext {u t : List Int} (hl : u.length = t.length) (h : ∀ m : Nat, m < t.length → rd u (m : Int) = rd t (m : Int)) : u = t := by
  refine List.ext_getElem hl (fun m h1 h2 => ?_)
  have := h m h2
  unfold rd at this
  simpa [List.getD_eq_getElem?_getD, h1, h2] using this
section
variable {l : List Int} {P : Nat} {s : S27} {q : List S82} {t f : List Int} {bb : List S80}
/-- The table has the entries of the first i waters. -/
def Part (l : List Int) (q : List S82) (t : List Int) (P i : Nat) (u : List Int) : Prop := u.length = P ∧ ∀ m : Nat, m < P → (rd u (m : Int) = rd t (m : Int)) ∨ (rd u (m : Int) = -1 ∧ ∀ j : Nat, j < i → ix l (zo q (j : Int)).f0 ≠ (m : Int))
theorem stb_l0 (J : Jugs l) (hP : (P : Int) = PR l) (R : Rel l P s q t f bb) (hq : q.length ≤ 5000) (a b c d : Int) (tap : Bool) : ∀ (n i : Nat) (u : List Int), i + n = q.length → Part l q t P i u →
    ∀ k, n < k → impl_StepsTable.l0 k u q q.length i l a b c d tap = some (t, 0) := by
  intro n
  induction n with
  | zero =>
    intro i u hi hu k hk
    obtain ⟨k, rfl⟩ : ∃ m, k = m + 1 := ⟨k - 1, by omega⟩
    have ni : ¬ ((i : Int) < (q.length : Int)) := by omega
    have e : u = t := by
      refine rd_ext (by rw [hu.1, R.tl]) (fun m hm => ?_)
      have hmP : m < P := by rw [R.tl] at hm; exact hm
      rcases hu.2 m hmP with h | ⟨h1, h2⟩
      · exact h
      · rcases R.neg m hmP with h3 | ⟨e, he, h3⟩
        · rw [h1, h3]
        · obtain ⟨j, hj, rfl⟩ := List.getElem_of_mem he
          refine absurd ?_ (h2 j (by omega))
          unfold zo
          rw [Int.toNat_natCast, List.getD_eq_getElem?_getD, List.getElem?_eq_getElem hj, Option.getD_some]
          exact h3
    simp only [impl_StepsTable.l0]
    rw [if_neg ni, e]
  | succ n ih =>
    intro i u hi hu k hk
    obtain ⟨k, rfl⟩ : ∃ m, k = m + 1 := ⟨k - 1, by omega⟩
    have pi : (i : Int) < (q.length : Int) := by omega
    have p0 : 0 ≤ (i : Int) := by omega
    have hm := zcd q i (by omega)
    have x1 := pindex_f J a b c d tap (R.val _ hm)
    have x2 := ix_lt J (R.val _ hm)
    have x3 := R.pos _ hm
    have x4 := R.tab _ hm
    have u1 := hu.1
    have y1 : ix l (zo q (i : Int)).f0 < (u.length : Int) := by omega
    have ew : IntKind.i16.wrap (zo q (i : Int)).f3 = (zo q (i : Int)).f3 := zlc (by omega)
    simp only [impl_StepsTable.l0]
    rw [if_pos pi, if_pos p0, if_pos pi, x1]
    simp only [Option.bind_some]
    rw [if_pos x2.1, if_pos y1, zac (n := 100001) (by omega) (by omega), ew]
    refine ih (i + 1) _ (by omega) ⟨by rw [List.length_set]; exact u1, fun m hmP => ?_⟩ k (by omega)
    by_cases e : ix l (zo q (i : Int)).f0 = (m : Int)
    · left
      rw [← e, zvb _ _ _ x2.1 y1, x4]
    · rw [zec _ _ _ _ x2.1 (by omega) e]
      rcases hu.2 m hmP with h | ⟨h1, h2⟩
      · exact Or.inl h
      · refine Or.inr ⟨h1, fun j hj => ?_⟩
        by_cases ej : j = i
        · subst ej; exact e
        · exact h2 j (by omega)
end
theorem stb_f (l : List Int) (a b c d : Int) (tap : Bool) (hl : l.length ≤ 1048576) : ∃ v : List Int × Int, v.1.length ≤ 5000 ∧ ∀ k, 2100000 < k → spec_StepsTable.f k l a b c d tap = some v ∧ impl_StepsTable.f k l a b c d tap = some v := by
  obtain ⟨v, hv, hk⟩ := ok_f l a b c d tap hl
  cases v with
  | false =>
    refine ⟨([], 1), by simp, fun k h => ?_⟩
    obtain ⟨h1, h2, -⟩ := hk k (by omega)
    unfold spec_StepsTable.f impl_StepsTable.f
    rw [h1, h2]
    exact ⟨rfl, rfl⟩
  | true =>
    obtain ⟨o1, o2, o3, o4, o5⟩ := hv rfl
    have J : Jugs l := ⟨o1, o2, o3, o4⟩
    obtain ⟨P, q, t, f, bb, hP, R, hF⟩ := both_f J a b c d tap o5 (fun k h => (hk k h).2.2 rfl)
    have hql := R.len J hP
    have htl := R.tl
    have pp := PR_pos o3
    refine ⟨(t, 0), by rw [htl]; omega, fun k h => ?_⟩
    obtain ⟨h1, h2, -⟩ := hk k (by omega)
    obtain ⟨f1, f2⟩ := hF k (by omega)
    refine ⟨?_, ?_⟩
    · unfold spec_StepsTable.f
      rw [h1]
      simp only [Option.bind_some, if_true]
      rw [f2]
      rfl
    · unfold impl_StepsTable.f
      rw [h2]
      simp only [Option.bind_some, if_true]
      rw [states_f J a b c d tap k (by omega)]
      simp only [Option.bind_some]
      have er : slices_Repeat.f [-1] (PR l) = some (List.replicate P (-1)) := by
        unfold slices_Repeat.f
        rw [if_pos ⟨rfl, by omega, by omega⟩, ← hP, Int.toNat_natCast]
        rfl
      rw [er]
      simp only [Option.bind_some]
      rw [f1]
      simp only [Option.bind_some]
      refine stb_l0 J hP R (by omega) a b c d tap q.length 0 _ (by omega) ⟨by simp, fun m hm => Or.inr ⟨?_, fun j hj => by omega⟩⟩ k (by omega)
      unfold rd
      simp [List.getD_eq_getElem?_getD, hm]
theorem mark_l0 : ∀ (d : Nat) (xs : List Int) (j : Nat), j + d = xs.length → xs.length ≤ 1048576 → ∃ ys : List Int, ys.length = xs.length ∧ (∀ m : Nat, m < j → rd ys (m : Int) = rd xs (m : Int)) ∧ (∀ m : Nat, j ≤ m → m < xs.length → rd ys (m : Int) = IntKind.i16.wrap (1 + (m : Int))) ∧
    ∀ k, d < k → laws_markInt16S.l0 k xs (1 + (j : Int)) (j : Int) = some (1 + (xs.length : Int), ys) := by
  intro d
  induction d with
  | zero =>
    intro xs j hj hl
    refine ⟨xs, rfl, fun m _ => rfl, fun m h1 h2 => by omega, fun k hk => ?_⟩
    obtain ⟨k, rfl⟩ : ∃ m, k = m + 1 := ⟨k - 1, by omega⟩
    have e : j = xs.length := by omega
    subst e
    have n1 : ¬ ((xs.length : Int) < (xs.length : Int)) := by omega
    simp only [laws_markInt16S.l0]
    rw [if_neg n1]
  | succ d ih =>
    intro xs j hj hl
    obtain ⟨ys, y1, y2, y3, y4⟩ := ih (xs.set j (IntKind.i16.wrap (1 + (j : Int)))) (j + 1) (by rw [List.length_set]; omega) (by rw [List.length_set]; exact hl)
    rw [List.length_set] at y1 y3 y4
    have s1 := zvb xs (j : Int) (IntKind.i16.wrap (1 + (j : Int))) (by omega) (by omega)
    rw [Int.toNat_natCast] at s1
    refine ⟨ys, y1, fun m hm => ?_, fun m h1 h2 => ?_, fun k hk => ?_⟩
    · rw [y2 m (by omega)]
      have := zec xs (j : Int) (m : Int) (IntKind.i16.wrap (1 + (j : Int))) (by omega) (by omega) (by omega)
      rw [Int.toNat_natCast] at this
      exact this
    · by_cases e : m = j
      · subst e
        rw [y2 m (by omega), s1]
      · exact y3 m (by omega) h2
    · obtain ⟨k, rfl⟩ : ∃ m, k = m + 1 := ⟨k - 1, by omega⟩
      have p1 : (j : Int) < (xs.length : Int) := by omega
      have p0 : 0 ≤ (j : Int) := by omega
      have w1 : wrap64 ((1 : Int) + (j : Int) + 1) = 1 + ((j + 1 : Nat) : Int) := by unfold wrap64; omega
      have w2 : wrap64 ((j : Int) + 1) = ((j + 1 : Nat) : Int) := by unfold wrap64; omega
      have := y4 k (by omega)
      simp only [laws_markInt16S.l0]
      rw [if_pos p1, if_pos p0, w1, w2, Int.toNat_natCast]
      exact this
theorem held_l0 (ys : List Int) (hl : ys.length ≤ 1048576) (h : ∀ m : Nat, m < ys.length → rd ys (m : Int) = IntKind.i16.wrap (1 + (m : Int))) : ∀ (d j : Nat), j + d = ys.length → ∀ k, d < k → laws_heldInt16S.l0 k ys (1 + (j : Int)) (j : Int) = some (1 + (ys.length : Int)) := by
  intro d
  induction d with
  | zero =>
    intro j hj k hk
    obtain ⟨k, rfl⟩ : ∃ m, k = m + 1 := ⟨k - 1, by omega⟩
    have e : j = ys.length := by omega
    subst e
    have n1 : ¬ ((ys.length : Int) < (ys.length : Int)) := by omega
    simp only [laws_heldInt16S.l0]
    rw [if_neg n1]
  | succ d ih =>
    intro j hj k hk
    obtain ⟨k, rfl⟩ : ∃ m, k = m + 1 := ⟨k - 1, by omega⟩
    have p1 : (j : Int) < (ys.length : Int) := by omega
    have p0 : 0 ≤ (j : Int) := by omega
    have w1 : wrap64 ((1 : Int) + (j : Int) + 1) = 1 + ((j + 1 : Nat) : Int) := by unfold wrap64; omega
    have w2 : wrap64 ((j : Int) + 1) = ((j + 1 : Nat) : Int) := by unfold wrap64; omega
    have := ih (j + 1) (by omega) k (by omega)
    simp only [laws_heldInt16S.l0]
    rw [if_pos p1, if_pos p0, if_pos (h j (by omega)), w1, w2]
    exact this
theorem marked (xs : List Int) (hl : xs.length ≤ 1048576) : ∃ ys : List Int, ys.length = xs.length ∧ (∀ k, xs.length < k → laws_markInt16S.f k xs 1 = some (1 + (xs.length : Int), ys)) ∧ ∀ k, xs.length < k → laws_heldInt16S.f k ys 1 = some (1 + (xs.length : Int)) := by
  obtain ⟨ys, y1, -, y3, y4⟩ := mark_l0 xs.length xs 0 (by omega) hl
  refine ⟨ys, y1, fun k hk => ?_, fun k hk => ?_⟩
  · have := y4 k hk
    exact this
  · have := held_l0 ys (by omega) (fun m hm => y3 m (by omega) (by omega)) ys.length 0 (by omega) k (by omega)
    rw [y1] at this
    exact this

end Go.Proofs.Yteciomagemjjaaa.J
