/- WayTo on both sides. -/
import Derived.Test.YteciomagemjjaaaLWay0J
import Derived.Test.YteciomagemjjaaaLWtoJ
import Derived.Test.YteciomagemjjaaaLWtsJ
namespace Go.Proofs.Yteciomagemjjaaa.J
open Go.RowKit Go.Proofs.YteciomagemjjaaaW.PrintWords Go.Proofs.YteciomagemjjaaaW.PrintLast Go.Proofs.YteciomagemjjaaaW.PrintMore
set_option linter.unusedVariables false
set_option linter.unusedSimpArgs false

theorem water_f (l : List Int) (hn : l.length ≤ 4) (s0 s1 s2 s3 : Int) (tap : Bool) (a b c e : Int) : ∃ v : Bool, (v = true → wat l a b c e) ∧ ∀ k, 4 < k → spec_l02Water.f k l a b c e = some v ∧ impl_Puzzle_holds.f k l s0 s1 s2 s3 tap a b c e = some v := by
  obtain ⟨v, hv, hk⟩ := wat_l0 l hn s0 s1 s2 s3 tap a b c e 4 0 (by omega)
  refine ⟨v, fun h j hj => hv h j (by omega) hj, fun k h => ?_⟩
  have := hk k h
  unfold spec_l02Water.f impl_Puzzle_holds.f
  exact this
theorem eqW_iff (x y : S27) : eqW x y = true ↔ x = y := by
  obtain ⟨x0, x1, x2, x3⟩ := x
  obtain ⟨y0, y1, y2, y3⟩ := y
  simp [eqW]
theorem wayTo_f (l : List Int) (a b c d : Int) (tap : Bool) (w0 w1 w2 w3 : Int) (hl : l.length ≤ 1048576) : ∃ v : List S80 × Int, v.1.length ≤ 5000 ∧ ∀ k, 2100000 < k → spec_WayTo.f k l a b c d tap w0 w1 w2 w3 = some v ∧ impl_WayTo.f k l a b c d tap w0 w1 w2 w3 = some v := by
  obtain ⟨v, hv, hk⟩ := ok_f l a b c d tap hl
  cases v with
  | false =>
    refine ⟨([], 1), by simp, fun k h => ?_⟩
    obtain ⟨h1, h2, -⟩ := hk k (by omega)
    obtain ⟨k, rfl⟩ : ∃ m, k = m + 1 := ⟨k - 1, by omega⟩
    unfold spec_WayTo.f impl_WayTo.f impl_ValidWater.f
    rw [h1, h2]
    exact ⟨rfl, rfl⟩
  | true =>
    obtain ⟨o1, o2, o3, o4, o5⟩ := hv rfl
    have J : Jugs l := ⟨o1, o2, o3, o4⟩
    obtain ⟨u, hu, hw⟩ := water_f l o2 a b c d tap w0 w1 w2 w3
    cases u with
    | false =>
      refine ⟨([], 1), by simp, fun k h => ?_⟩
      obtain ⟨h1, h2, -⟩ := hk k (by omega)
      obtain ⟨g1, g2⟩ := hw k (by omega)
      unfold spec_WayTo.f impl_WayTo.f impl_ValidWater.f
      rw [h1, h2]
      simp only [Option.bind_some, if_true]
      rw [g1, g2]
      simp only [Option.bind_some, Bool.not_false]
      obtain ⟨k, rfl⟩ : ∃ m, k = m + 1 := ⟨k - 1, by omega⟩
      exact ⟨rfl, rfl⟩
    | true =>
      obtain ⟨P, q, t, f, bb, hP, R, hF⟩ := both_f J a b c d tap o5 (fun k h => (hk k h).2.2 rfl)
      have hql := R.len J hP
      have htl := R.tl
      have pp := PR_pos o3
      have hwv : watS l (⟨w0, w1, w2, w3⟩ : S27) := hu rfl
      have hix := zte J hwv
      have g1 : ix l (⟨w0, w1, w2, w3⟩ : S27) < (t.length : Int) := by omega
      have pre : ∀ k, 2100000 < k → ∀ v, (spec_WayTo.j0 k false l a b c d tap w0 w1 w2 w3 = some v → spec_WayTo.f k l a b c d tap w0 w1 w2 w3 = some v) ∧ (impl_Puzzle_wayTo.f k l a b c d tap (fun x => eqW x ⟨w0, w1, w2, w3⟩) = some v → impl_WayTo.f k l a b c d tap w0 w1 w2 w3 = some v) := fun k h v => by
        obtain ⟨h1, h2, -⟩ := hk k (by omega)
        obtain ⟨i1, i2⟩ := hw k (by omega)
        unfold spec_WayTo.f impl_WayTo.f impl_ValidWater.f
        rw [h1, h2]
        simp only [Option.bind_some, if_true]
        rw [i1, i2]
        simp only [Option.bind_some, Bool.not_true, if_true]
        exact ⟨id, fun hh => by rw [hh]; rfl⟩
      have hidx : idxG.f (fun x => eqW x ⟨w0, w1, w2, w3⟩) q = some (fIdx (fun x => eqW x ⟨w0, w1, w2, w3⟩) q 0) := by
        unfold idxG.f
        rw [if_pos (by omega)]
      rcases fIdx_f (fun x => eqW x ⟨w0, w1, w2, w3⟩) q 0 with ⟨h1, h2⟩ | ⟨i, h1, h2, h3, -⟩
      · refine ⟨([], 6), by simp, fun k h => ⟨(pre k h _).1 ?_, (pre k h _).2 ?_⟩⟩
        · obtain ⟨k, rfl⟩ : ∃ m, k = m + 1 := ⟨k - 1, by omega⟩
          obtain ⟨f1, f2⟩ := hF k (by omega)
          have ng : rd t (ix l (⟨w0, w1, w2, w3⟩ : S27)) < 0 := by
            have := R.seen J hP hwv
            rw [inQ_iff] at this
            by_cases c : rd t (ix l (⟨w0, w1, w2, w3⟩ : S27)) ≥ 0
            · obtain ⟨e, he, h4⟩ := this.mp c
              have h5 : eqW e.f0 (⟨w0, w1, w2, w3⟩ : S27) = false := h2 e he
              rw [(eqW_iff _ _).mpr h4] at h5
              cases h5
            · omega
          have ei := index_f J a b c d tap hwv k (by omega)
          rw [show IX l [w0, w1, w2, w3] = ix l (⟨w0, w1, w2, w3⟩ : S27) from rfl] at ei
          simp only [spec_WayTo.j0]
          rw [if_neg (by decide), f2]
          simp only [Option.bind_some]
          rw [ei]
          simp only [Option.bind_some]
          rw [if_pos hix.1, if_pos g1, if_pos ng]
        · obtain ⟨f1, f2⟩ := hF k (by omega)
          unfold impl_Puzzle_wayTo.f
          rw [f1]
          simp only [Option.bind_some]
          rw [hidx]
          simp only [Option.bind_some]
          rw [h1, if_pos (by decide)]
      · have h3' := (eqW_iff _ _).mp h3
        refine ⟨((back q q.length i).reverse, 0), by have := back_len q q.length i; rw [List.length_reverse]; omega, fun k h => ⟨(pre k h _).1 ?_, (pre k h _).2 ?_⟩⟩
        · obtain ⟨k, rfl⟩ : ∃ m, k = m + 1 := ⟨k - 1, by omega⟩
          obtain ⟨f1, f2⟩ := hF k (by omega)
          have hm := zqc q i h1
          have tb := R.tab _ hm
          have ps := R.pos _ hm
          have ng : ¬ (rd t (ix l (⟨w0, w1, w2, w3⟩ : S27)) < 0) := by
            rw [← h3', tb]; omega
          have ei := index_f J a b c d tap hwv k (by omega)
          rw [show IX l [w0, w1, w2, w3] = ix l (⟨w0, w1, w2, w3⟩ : S27) from rfl] at ei
          have ws := way_s R J hP (by omega) q.length i [] h1 (by omega) (by simp; omega) k (by omega)
          simp only [spec_WayTo.j0]
          rw [if_neg (by decide), f2]
          simp only [Option.bind_some]
          rw [ei]
          simp only [Option.bind_some]
          rw [if_pos hix.1, if_pos g1, if_neg ng]
          unfold spec_l02Way.f
          rw [← h3', ws, List.append_nil]
          rfl
        · obtain ⟨f1, f2⟩ := hF k (by omega)
          have wi := way_i R (by omega) q.length i [] h1 (by omega) (by simp; omega) k (by simp; omega)
          rw [Nat.zero_add] at h2
          have ng : ¬ ((i : Int) < 0) := by omega
          unfold impl_Puzzle_wayTo.f
          rw [f1]
          simp only [Option.bind_some]
          rw [hidx]
          simp only [Option.bind_some]
          rw [h2, if_neg ng, wi, List.nil_append]

end Go.Proofs.Yteciomagemjjaaa.J
