/- WayToAmount on both sides. -/
import Derived.Test.YteciomagemjjaaaLWasJ
import Derived.Test.YteciomagemjjaaaLWay0J
import Derived.Test.YteciomagemjjaaaLWtaJ
namespace Go.Proofs.Yteciomagemjjaaa.J
open Go.RowKit Go.Proofs.YteciomagemjjaaaW.PrintWords Go.Proofs.YteciomagemjjaaaW.PrintLast Go.Proofs.YteciomagemjjaaaW.PrintMore
set_option linter.unusedVariables false
set_option linter.unusedSimpArgs false

theorem at_S {l : List Int} (J : Jugs l) (a b c d : Int) (tap : Bool) {w : S27} (h : watS l w) (k : Nat) (hk : 4 < k) : spec_l02At.f k l a b c d tap (ix l w) = some (w.f0, w.f1, w.f2, w.f3) := at_f J a b c d tap h k hk
theorem has_l0 (l : List Int) (hl : l.length ≤ 4) (a b c d : Int) (tap : Bool) (n : Int) (x : S27) (e : Nat) : ∀ (j : Nat), j + e = l.length → ∀ k, e < k → spec_l02Has.l0 k n (j : Int) l a b c d tap x.f0 x.f1 x.f2 x.f3 = some ((([x.f0, x.f1, x.f2, x.f3].take l.length).drop j).any fun v => wrap64 v == n) := by
  have hlen : ([x.f0, x.f1, x.f2, x.f3].take l.length).length = l.length := by rw [List.length_take]; exact Nat.min_eq_left hl
  induction e with
  | zero =>
    intro j hj k hk
    obtain ⟨k, rfl⟩ : ∃ m, k = m + 1 := ⟨k - 1, by omega⟩
    have n1 : ¬ ((j : Int) < (l.length : Int)) := by omega
    simp only [spec_l02Has.l0]
    rw [if_neg n1, List.drop_eq_nil_of_le (by omega)]
    rfl
  | succ e ih =>
    intro j hj k hk
    obtain ⟨k, rfl⟩ : ∃ m, k = m + 1 := ⟨k - 1, by omega⟩
    have p1 : (j : Int) < (l.length : Int) := by omega
    have p0 : 0 ≤ (j : Int) := by omega
    have p4 : (j : Int) < 4 := by omega
    have w2 : wrap64 ((j : Int) + 1) = ((j + 1 : Nat) : Int) := by unfold wrap64; omega
    have dr : ([x.f0, x.f1, x.f2, x.f3].take l.length).drop j = rd [x.f0, x.f1, x.f2, x.f3] (j : Int) :: ([x.f0, x.f1, x.f2, x.f3].take l.length).drop (j + 1) := by
      rw [List.drop_eq_getElem_cons (by omega)]
      congr 1
      rw [List.getElem_take]
      unfold rd
      rw [Int.toNat_natCast, List.getD_eq_getElem?_getD, List.getElem?_eq_getElem (show j < [x.f0, x.f1, x.f2, x.f3].length by simp; omega), Option.getD_some]
    rw [dr, List.any_cons]
    simp only [spec_l02Has.l0]
    rw [if_pos p1, if_pos p0, if_pos p4, w2]
    by_cases c : wrap64 (rd [x.f0, x.f1, x.f2, x.f3] (j : Int)) = n
    · rw [if_pos c, c]
      simp
    · rw [if_neg c, show (wrap64 (rd [x.f0, x.f1, x.f2, x.f3] (j : Int)) == n) = false from beq_eq_false_iff_ne.mpr c, Bool.false_or]
      exact ih (j + 1) (by omega) k (by omega)
theorem has_f (l : List Int) (hl : l.length ≤ 4) (a b c d : Int) (tap : Bool) (n : Int) (x : S27) (k : Nat) (hk : 4 < k) : spec_l02Has.f k l a b c d tap x.f0 x.f1 x.f2 x.f3 n = some (pA l n x) := by
  have h := has_l0 l hl a b c d tap n x l.length 0 (Nat.zero_add _) k (by omega)
  unfold spec_l02Has.f pA
  rw [show ((0 : Nat) : Int) = 0 from rfl, List.drop_zero] at h
  exact h
section
variable {l : List Int} {P : Nat} {s : S27} {q : List S82} {t f : List Int} {bb : List S80}
theorem wam_none (R : Rel l P s q t f bb) (J : Jugs l) (hq : q.length ≤ 5000) (a b c d : Int) (tap : Bool) (n : Int) (hn : ∀ e ∈ q, pA l n e.f0 = false) : ∀ (e j : Nat), j + e = q.length → ∀ k, e + 10 < k → spec_WayToAmount.l0 k n (t, f, bb, ords l q) (j : Int) l a b c d tap = some ([], 6) := by
  have hol : (ords l q).length = q.length := by simp [ords]
  intro e
  induction e with
  | zero =>
    intro j hj k hk
    obtain ⟨k, rfl⟩ : ∃ m, k = m + 1 := ⟨k - 1, by omega⟩
    have n1 : ¬ ((j : Int) < ((ords l q).length : Int)) := by omega
    simp only [spec_WayToAmount.l0]
    rw [if_neg n1]
  | succ e ih =>
    intro j hj k hk
    obtain ⟨k, rfl⟩ : ∃ m, k = m + 1 := ⟨k - 1, by omega⟩
    have p1 : (j : Int) < ((ords l q).length : Int) := by omega
    have p0 : 0 ≤ (j : Int) := by omega
    have w2 : wrap64 ((j : Int) + 1) = ((j + 1 : Nat) : Int) := by unfold wrap64; omega
    have hm := zec q j (by omega)
    simp only [spec_WayToAmount.l0]
    rw [if_pos p1, if_pos p0, ords_rd l q j (by omega), at_S J a b c d tap (R.val _ hm) k (by omega)]
    simp only [Option.bind_some]
    rw [has_f l J.n4 a b c d tap n _ k (by omega), hn _ hm]
    simp only [Option.bind_some, Bool.false_eq_true, if_false]
    rw [w2]
    exact ih (j + 1) (by omega) k (by omega)
theorem wam_some (R : Rel l P s q t f bb) (J : Jugs l) (hP : (P : Int) = PR l) (hq : q.length ≤ 5000) (a b c d : Int) (tap : Bool) (n : Int) (i : Nat) (hi : i < q.length) (h1 : pA l n (zq q (i : Int)).f0 = true) (h0 : ∀ j : Nat, j < i → pA l n (zq q (j : Int)).f0 = false) : ∀ (e j : Nat), j + e = i → ∀ k, e + q.length + 20 < k → spec_WayToAmount.l0 k n (t, f, bb, ords l q) (j : Int) l a b c d tap = some ((back q q.length i).reverse, 0) := by
  have hol : (ords l q).length = q.length := by simp [ords]
  intro e
  induction e with
  | zero =>
    intro j hj k hk
    obtain rfl : j = i := by omega
    obtain ⟨k, rfl⟩ : ∃ m, k = m + 1 := ⟨k - 1, by omega⟩
    have p1 : (j : Int) < ((ords l q).length : Int) := by omega
    have p0 : 0 ≤ (j : Int) := by omega
    have hm := zec q j hi
    have ws := way_s R J hP hq q.length j [] hi (by omega) (by simp; omega) k (by omega)
    simp only [spec_WayToAmount.l0]
    rw [if_pos p1, if_pos p0, ords_rd l q j hi, at_S J a b c d tap (R.val _ hm) k (by omega)]
    simp only [Option.bind_some]
    rw [has_f l J.n4 a b c d tap n _ k (by omega), h1]
    simp only [Option.bind_some, if_true]
    unfold spec_l02Way.f
    rw [ws, List.append_nil]
    rfl
  | succ e ih =>
    intro j hj k hk
    obtain ⟨k, rfl⟩ : ∃ m, k = m + 1 := ⟨k - 1, by omega⟩
    have p1 : (j : Int) < ((ords l q).length : Int) := by omega
    have p0 : 0 ≤ (j : Int) := by omega
    have w2 : wrap64 ((j : Int) + 1) = ((j + 1 : Nat) : Int) := by unfold wrap64; omega
    have hm := zec q j (by omega)
    simp only [spec_WayToAmount.l0]
    rw [if_pos p1, if_pos p0, ords_rd l q j (by omega), at_S J a b c d tap (R.val _ hm) k (by omega)]
    simp only [Option.bind_some]
    rw [has_f l J.n4 a b c d tap n _ k (by omega), h0 j (by omega)]
    simp only [Option.bind_some, Bool.false_eq_true, if_false]
    rw [w2]
    exact ih (j + 1) (by omega) k (by omega)
end
theorem wayAm_f (l : List Int) (a b c d : Int) (tap : Bool) (n : Int) (hl : l.length ≤ 1048576) : ∃ v : List S80 × Int, v.1.length ≤ 5000 ∧ ∀ k, 2100000 < k → spec_WayToAmount.f k l a b c d tap n = some v ∧ impl_WayToAmount.f k l a b c d tap n = some v := by
  obtain ⟨v, hv, hk⟩ := ok_f l a b c d tap hl
  cases v with
  | false =>
    refine ⟨([], 1), by simp, fun k h => ?_⟩
    obtain ⟨h1, h2, -⟩ := hk k (by omega)
    unfold spec_WayToAmount.f impl_WayToAmount.f spec_l02Amount.f
    rw [h1, h2]
    exact ⟨rfl, rfl⟩
  | true =>
    obtain ⟨o1, o2, o3, o4, o5⟩ := hv rfl
    have J : Jugs l := ⟨o1, o2, o3, o4⟩
    by_cases rg : 0 ≤ n ∧ n ≤ 60
    · have i1 : spec_l00In.f n 0 60 = some true := by
        unfold spec_l00In.f
        rw [if_pos (by omega), decide_eq_true rg.2]
      have i2 : impl_within.f n 0 60 = some true := by
        unfold impl_within.f
        rw [if_pos (by omega), decide_eq_true rg.2]
      obtain ⟨P, q, t, f, bb, hP, R, hF⟩ := both_f J a b c d tap o5 (fun k h => (hk k h).2.2 rfl)
      have hql := R.len J hP
      have pre : ∀ k, 2100000 < k → ∀ v, (spec_WayToAmount.l0 k n (t, f, bb, ords l q) 0 l a b c d tap = some v → spec_WayToAmount.f k l a b c d tap n = some v) ∧ (impl_Puzzle_wayTo.f k l a b c d tap (pA l n) = some v → impl_WayToAmount.f k l a b c d tap n = some v) := fun k h v => by
        obtain ⟨h1, h2, -⟩ := hk k (by omega)
        obtain ⟨f1, f2⟩ := hF k (by omega)
        unfold spec_WayToAmount.f impl_WayToAmount.f spec_l02Amount.f wayA.f
        rw [h1, h2]
        simp only [Option.bind_some, if_true]
        rw [i1, i2, f2, if_pos ⟨o2, by omega⟩]
        simp only [Option.bind_some, if_true]
        exact ⟨id, fun hh => by rw [hh]; rfl⟩
      have hidx : idxG.f (pA l n) q = some (fIdx (pA l n) q 0) := by
        unfold idxG.f
        rw [if_pos (by omega)]
      rcases fIdx_f (pA l n) q 0 with ⟨h1, h2⟩ | ⟨i, h1, h2, h3, h4⟩
      · refine ⟨([], 6), by simp, fun k h => ⟨(pre k h _).1 ?_, (pre k h _).2 ?_⟩⟩
        · exact wam_none R J (by omega) a b c d tap n h2 q.length 0 (by omega) k (by omega)
        · obtain ⟨f1, f2⟩ := hF k (by omega)
          unfold impl_Puzzle_wayTo.f
          rw [f1]
          simp only [Option.bind_some]
          rw [hidx]
          simp only [Option.bind_some]
          rw [h1, if_pos (by decide)]
      · refine ⟨((back q q.length i).reverse, 0), by have := back_len q q.length i; rw [List.length_reverse]; omega, fun k h => ⟨(pre k h _).1 ?_, (pre k h _).2 ?_⟩⟩
        · exact wam_some R J hP (by omega) a b c d tap n i h1 h3 h4 i 0 (by omega) k (by omega)
        · obtain ⟨f1, f2⟩ := hF k (by omega)
          have wi := way_i R (by omega) q.length i [] h1 (by omega) (by simp; omega) k (by simp; omega)
          rw [Nat.zero_add] at h2
          have ng : ¬ ((i : Int) < 0) := by omega
          unfold impl_Puzzle_wayTo.f
          rw [f1]
          simp only [Option.bind_some]
          rw [hidx]
          simp only [Option.bind_some]
          rw [h2, if_neg ng, wi, List.nil_append]
    · have i1 : spec_l00In.f n 0 60 = some false := by
        unfold spec_l00In.f
        by_cases c : n ≥ 0
        · rw [if_pos c, decide_eq_false (by omega)]
        · rw [if_neg c]
      have i2 : impl_within.f n 0 60 = some false := by
        unfold impl_within.f
        by_cases c : 0 ≤ n
        · rw [if_pos c, decide_eq_false (by omega)]
        · rw [if_neg c]
      refine ⟨([], 2), by simp, fun k h => ?_⟩
      obtain ⟨h1, h2, -⟩ := hk k (by omega)
      unfold spec_WayToAmount.f impl_WayToAmount.f spec_l02Amount.f
      rw [h1, h2]
      simp only [Option.bind_some, if_true]
      rw [i1, i2]
      exact ⟨rfl, rfl⟩

end Go.Proofs.Yteciomagemjjaaa.J
