/- Plans: weighings, cases and their finding on both sides. -/
import Derived.Test.YtmmonhpjjjdnjaaLPBaseU
import Derived.Test.YtmmonhpjjjdnjaaUx9
import Derived.Test.YtmmonhpjjjdnjaaUx12
import Derived.Test.YtmmonhpjjjdnjaaUx18
import Derived.Test.YtmmonhpjjjdnjaaUx20
namespace Go.Proofs.Ytmmonhpjjjdnjaa.U
open Go.RowKit Go.Proofs.YtmmonhpjjjdnjaaW.PrintWords Go.Proofs.YtmmonhpjjjdnjaaW.PrintLast Go.Proofs.YtmmonhpjjjdnjaaW.PrintMore
set_option linter.unusedVariables false
set_option linter.unusedSimpArgs false

theorem task_some {c kd : Int} {n g : Bool} (hc : -128 ≤ c ∧ c ≤ 127) (hk : -128 ≤ kd ∧ kd ≤ 127) : ∃ v, spec_l03Ok.f c kd n g = some v ∧ impl_ValidTask.f c kd n g = some v ∧ (v = true → 1 ≤ c ∧ c ≤ 13) := by
  have e : wrap64 c = c := by unfold wrap64; omega
  have e2 : wrap64 kd = kd := by unfold wrap64; omega
  unfold spec_l03Ok.f impl_ValidTask.f impl_isKind.f impl_within.f spec_l00In.f
  rw [e, e2]
  by_cases h1 : 1 ≤ c
  · by_cases h3 : c ≤ 13
    · refine ⟨decide (0 ≤ kd ∧ kd ≤ 2), ?_, ?_, fun _ => ⟨h1, h3⟩⟩
      · by_cases h2 : 0 ≤ kd <;> simp [h1, h3, h2]
      · by_cases h2 : 0 ≤ kd <;> simp [h1, h3, h2]
    · exact ⟨false, by simp [h1, h3], by simp [h1, h3], fun h => by simp at h⟩
  · exact ⟨false, by simp [h1], by simp [h1], fun h => by simp at h⟩
theorem weigh_l0 (c kd : Int) (n g : Bool) (hc : 1 ≤ c) (hc2 : c ≤ 13) (p0 p1 p2 p3 p4 p5 p6 p7 p8 p9 p10 p11 p12 p13 : Int) : ∀ (k : Nat) (s j : Int), spec_l03Weighing.l0 k s j c kd n g p0 p1 p2 p3 p4 p5 p6 p7 p8 p9 p10 p11 p12 p13 = impl_ValidWeighing.l0 k s j c kd n g p0 p1 p2 p3 p4 p5 p6 p7 p8 p9 p10 p11 p12 p13 := by
  intro k
  induction k with
  | zero => intro s j; rfl
  | succ k ih =>
    intro s j
    have e : wrap64 c = c := by unfold wrap64; omega
    have e1 : wrap64 (c + 1) = c + 1 := by unfold wrap64; omega
    simp only [spec_l03Weighing.l0, impl_ValidWeighing.l0, spec_l03There.f, impl_Task_places.f, e, e1, ih]
    by_cases h14 : j < 14
    · rw [if_pos h14, if_pos h14]
      by_cases h0 : 0 ≤ j
      · rw [if_pos h0, if_pos h0]
        generalize rd [p0, p1, p2, p3, p4, p5, p6, p7, p8, p9, p10, p11, p12, p13] j = v
        generalize impl_ValidWeighing.l0 k (wrap64 (s + wrap64 v)) (wrap64 (j + 1)) c kd n g p0 p1 p2 p3 p4 p5 p6 p7 p8 p9 p10 p11 p12 p13 = L
        by_cases a1 : v < -1
        · rw [if_pos a1, if_pos a1]
        rw [if_neg a1, if_neg a1]
        by_cases a2 : v > 1
        · rw [if_pos a2, if_pos a2]
        rw [if_neg a2, if_neg a2]
        by_cases a3 : v = 0
        · rw [if_pos a3, if_pos a3]
        rw [if_neg a3, if_neg a3]
        cases g
        · by_cases b1 : j < c
          · simp [b1, show ¬ c ≤ j by omega]
          · simp [b1, show c ≤ j by omega]
        · by_cases b1 : j < c
          · simp [b1, show ¬ c + 1 ≤ j by omega]
          · by_cases b2 : j = c
            · subst b2; simp [show ¬ j + 1 ≤ j by omega]
            · simp [b1, b2, show c + 1 ≤ j by omega]
      · rw [if_neg h0, if_neg h0]
    · rw [if_neg h14, if_neg h14]
theorem weigh_some (c kd : Int) (n g : Bool) (p0 p1 p2 p3 p4 p5 p6 p7 p8 p9 p10 p11 p12 p13 : Int) : ∀ (d j : Nat) (s : Int), j + d = 14 → ∃ v, (∀ k, d < k → impl_ValidWeighing.l0 k s j c kd n g p0 p1 p2 p3 p4 p5 p6 p7 p8 p9 p10 p11 p12 p13 = some v) ∧ (v = true → ∀ i : Nat, j ≤ i → i < 14 → -1 ≤ rd [p0, p1, p2, p3, p4, p5, p6, p7, p8, p9, p10, p11, p12, p13] i ∧ rd [p0, p1, p2, p3, p4, p5, p6, p7, p8, p9, p10, p11, p12, p13] i ≤ 1) := by
  intro d
  induction d with
  | zero =>
    intro j s hj
    refine ⟨s == 0, fun k hk => ?_, fun _ i h1 h2 => by omega⟩
    obtain ⟨k, rfl⟩ : ∃ m, k = m + 1 := ⟨k - 1, by omega⟩
    simp only [impl_ValidWeighing.l0]; rw [if_neg (by omega)]
  | succ d ih =>
    intro j s hj
    have step : ∀ (m : Nat) (q : Int), (wrap64 ((j : Int) + 1)) = ((j + 1 : Nat) : Int) := fun _ _ => by unfold wrap64; omega
    obtain ⟨v, hv, hg⟩ := ih (j + 1) (wrap64 (s + wrap64 (rd [p0, p1, p2, p3, p4, p5, p6, p7, p8, p9, p10, p11, p12, p13] j))) (by omega)
    by_cases a1 : rd [p0, p1, p2, p3, p4, p5, p6, p7, p8, p9, p10, p11, p12, p13] j < -1
    · refine ⟨false, fun k hk => ?_, fun h => by simp at h⟩
      obtain ⟨k, rfl⟩ : ∃ m, k = m + 1 := ⟨k - 1, by omega⟩
      simp only [impl_ValidWeighing.l0]; rw [if_pos (by omega), if_pos (by omega), if_pos a1]
    by_cases a2 : rd [p0, p1, p2, p3, p4, p5, p6, p7, p8, p9, p10, p11, p12, p13] j > 1
    · refine ⟨false, fun k hk => ?_, fun h => by simp at h⟩
      obtain ⟨k, rfl⟩ : ∃ m, k = m + 1 := ⟨k - 1, by omega⟩
      simp only [impl_ValidWeighing.l0]; rw [if_pos (by omega), if_pos (by omega), if_neg a1, if_pos a2]
    have all : v = true → ∀ i : Nat, j ≤ i → i < 14 → -1 ≤ rd [p0, p1, p2, p3, p4, p5, p6, p7, p8, p9, p10, p11, p12, p13] i ∧ rd [p0, p1, p2, p3, p4, p5, p6, p7, p8, p9, p10, p11, p12, p13] i ≤ 1 := by
      intro e i h1 h2
      by_cases ei : i = j
      · subst ei; omega
      · exact hg e i (by omega) h2
    by_cases a3 : rd [p0, p1, p2, p3, p4, p5, p6, p7, p8, p9, p10, p11, p12, p13] j = 0
    · refine ⟨v, fun k hk => ?_, all⟩
      obtain ⟨k, rfl⟩ : ∃ m, k = m + 1 := ⟨k - 1, by omega⟩
      simp only [impl_ValidWeighing.l0]; rw [if_pos (by omega), if_pos (by omega), if_neg a1, if_neg a2, if_pos a3, step 0 0]
      exact hv k (by omega)
    obtain ⟨t, ht⟩ : ∃ t, impl_Task_places.f c kd n g = some t := by unfold impl_Task_places.f; cases g <;> exact ⟨_, rfl⟩
    by_cases a4 : (j : Int) ≥ t
    · refine ⟨false, fun k hk => ?_, fun h => by simp at h⟩
      obtain ⟨k, rfl⟩ : ∃ m, k = m + 1 := ⟨k - 1, by omega⟩
      simp only [impl_ValidWeighing.l0]; rw [if_pos (by omega), if_pos (by omega), if_neg a1, if_neg a2, if_neg a3, ht]
      simp only [Option.bind_some]; rw [if_pos a4]
    · refine ⟨v, fun k hk => ?_, all⟩
      obtain ⟨k, rfl⟩ : ∃ m, k = m + 1 := ⟨k - 1, by omega⟩
      simp only [impl_ValidWeighing.l0]; rw [if_pos (by omega), if_pos (by omega), if_neg a1, if_neg a2, if_neg a3, ht]
      simp only [Option.bind_some]; rw [if_neg a4, step 0 0]
      exact hv k (by omega)
/-- The two tests of a weighing come to one answer. -/
theorem weigh_f (c kd : Int) (n g : Bool) (hc : 1 ≤ c) (hc2 : c ≤ 13) (hv : impl_ValidTask.f c kd n g = some true) (p0 p1 p2 p3 p4 p5 p6 p7 p8 p9 p10 p11 p12 p13 : Int) : ∃ v, (∀ k, 14 < k → spec_l03Weighing.f k c kd n g p0 p1 p2 p3 p4 p5 p6 p7 p8 p9 p10 p11 p12 p13 = some v ∧ impl_ValidWeighing.f k c kd n g p0 p1 p2 p3 p4 p5 p6 p7 p8 p9 p10 p11 p12 p13 = some v) ∧ (v = true → ∀ i : Nat, i < 14 → -1 ≤ rd [p0, p1, p2, p3, p4, p5, p6, p7, p8, p9, p10, p11, p12, p13] i ∧ rd [p0, p1, p2, p3, p4, p5, p6, p7, p8, p9, p10, p11, p12, p13] i ≤ 1) := by
  obtain ⟨v, h, hg⟩ := weigh_some c kd n g p0 p1 p2 p3 p4 p5 p6 p7 p8 p9 p10 p11 p12 p13 14 0 0 (by omega)
  refine ⟨v, fun k hk => ⟨?_, ?_⟩, fun e i hi => hg e i (by omega) hi⟩
  · unfold spec_l03Weighing.f
    rw [weigh_l0 c kd n g hc hc2]
    exact h k hk
  · unfold impl_ValidWeighing.f
    rw [hv]
    simp only [Option.bind_some, if_true]
    exact h k hk
theorem i8_wrap {x : Int} (h : -128 ≤ x ∧ x ≤ 127) : IntKind.i8.wrap x = x := Go.IntWalk.i8_in x h
def GoodCase (x : S46) : Prop := -1 ≤ x.f0 ∧ x.f0 < 13
theorem cases_l0 (c kd : Int) (n g : Bool) (hc2 : c ≤ 13) : ∀ (k : Nat) (y : List S46) (j : Int), 0 ≤ j → j ≤ c → spec_l03Cases.l0 k y j c kd n g = impl_casesOf.l0 k kd y c j := by
  intro k
  induction k with
  | zero => intro y j _ _; rfl
  | succ k ih =>
    intro y j h0 h1
    simp only [spec_l03Cases.l0, impl_casesOf.l0]
    by_cases h : j < c
    · have ih' := fun y => ih y (j + 1) (by omega) (by omega)
      rw [if_pos h, if_pos h, i8_wrap (x := j) (by omega), i8_wrap (x := j + 1) (by omega), show wrap64 (j + 1) = j + 1 by unfold wrap64; omega]
      simp only [ih']
    · rw [if_neg h, if_neg h]
theorem cases_some (c kd : Int) (hc2 : c ≤ 13) : ∀ (d j : Nat) (y : List S46), (j : Int) + d = c → y.length ≤ 1 + 2 * j → (∀ x ∈ y, GoodCase x) →
    ∃ l, (∀ k, d < k → impl_casesOf.l0 k kd y c j = some l) ∧ l.length ≤ 27 ∧ ∀ x ∈ l, GoodCase x := by
  intro d
  induction d with
  | zero =>
    intro j y hj hl hg
    refine ⟨y, fun k hk => ?_, by omega, hg⟩
    obtain ⟨k, rfl⟩ : ∃ m, k = m + 1 := ⟨k - 1, by omega⟩
    simp only [impl_casesOf.l0]; rw [if_neg (by omega)]
  | succ d ih =>
    intro j y hj hl hg
    have w8 : IntKind.i8.wrap (j : Int) = j := i8_wrap (by omega)
    have w64 : wrap64 ((j : Int) + 1) = ((j + 1 : Nat) : Int) := by unfold wrap64; omega
    have gj : ∀ b, GoodCase ⟨j, b⟩ := fun b => ⟨by show -1 ≤ (j : Int); omega, by show (j : Int) < 13; omega⟩
    by_cases k1 : kd = 1
    · obtain ⟨l, e, r⟩ := ih (j + 1) (y ++ [⟨j, false⟩]) (by omega) (by simp; omega) (by intro x hx; rcases List.mem_append.mp hx with h | h; exact hg x h; simp at h; subst h; exact gj false)
      refine ⟨l, fun k hk => ?_, r⟩
      obtain ⟨k, rfl⟩ : ∃ m, k = m + 1 := ⟨k - 1, by omega⟩
      simp only [impl_casesOf.l0]
      rw [if_pos (by omega), if_pos k1, if_neg (by omega), if_pos (by omega), w8, w64]
      exact e k (by omega)
    · by_cases k0 : kd = 0
      · obtain ⟨l, e, r⟩ := ih (j + 1) (y ++ [⟨j, true⟩]) (by omega) (by simp; omega) (by intro x hx; rcases List.mem_append.mp hx with h | h; exact hg x h; simp at h; subst h; exact gj true)
        refine ⟨l, fun k hk => ?_, r⟩
        obtain ⟨k, rfl⟩ : ∃ m, k = m + 1 := ⟨k - 1, by omega⟩
        simp only [impl_casesOf.l0, Option.bind_some]
        rw [if_pos (by omega), if_neg k1, if_pos (by omega), if_pos k0, w8, w64]
        exact e k (by omega)
      · obtain ⟨l, e, r⟩ := ih (j + 1) (y ++ [⟨j, true⟩] ++ [⟨j, false⟩]) (by omega) (by simp; omega) (by
          intro x hx
          rcases List.mem_append.mp hx with h | h
          · rcases List.mem_append.mp h with h | h
            · exact hg x h
            · simp at h; subst h; exact gj true
          · simp at h; subst h; exact gj false)
        refine ⟨l, fun k hk => ?_, r⟩
        obtain ⟨k, rfl⟩ : ∃ m, k = m + 1 := ⟨k - 1, by omega⟩
        simp only [impl_casesOf.l0, Option.bind_some]
        rw [if_pos (by omega), if_neg k1, if_pos (by omega), if_neg k0, if_pos (by simp; omega), w8, w64]
        exact e k (by omega)
/-- Both sides have the same cases. -/
theorem cases_f (c kd : Int) (n g : Bool) (hc : 1 ≤ c) (hc2 : c ≤ 13) : ∃ l, (∀ k, 20 < k → spec_l03Cases.f k c kd n g = some l ∧ impl_Task_cases.f k c kd n g = some l) ∧ l.length ≤ 27 ∧ ∀ x ∈ l, GoodCase x := by
  obtain ⟨m, hm⟩ : ∃ m : Nat, (m : Int) = c := ⟨c.toNat, by omega⟩
  have ec : wrap64 c = c := by unfold wrap64; omega
  have main : ∀ y : List S46, y.length ≤ 1 → (∀ x ∈ y, GoodCase x) → ∃ l, (∀ k, 20 < k → spec_l03Cases.j0 k y c kd n g = some l ∧ impl_casesOf.j0 k c kd y = some l) ∧ l.length ≤ 27 ∧ ∀ x ∈ l, GoodCase x := by
    intro y hy hg
    obtain ⟨l, e, r⟩ := cases_some c kd hc2 m 0 y (by omega) (by omega) hg
    refine ⟨l, fun k hk => ?_, r⟩
    obtain ⟨k, rfl⟩ : ∃ m, k = m + 1 := ⟨k - 1, by omega⟩
    simp only [spec_l03Cases.j0, impl_casesOf.j0]
    rw [cases_l0 c kd n g hc2 k y 0 (by omega) (by omega)]
    exact ⟨e k (by omega), e k (by omega)⟩
  cases n
  · obtain ⟨l, e, r⟩ := main [] (by simp) (by simp)
    refine ⟨l, fun k hk => ?_, r⟩
    unfold spec_l03Cases.f impl_Task_cases.f impl_casesOf.f
    simp only [Option.bind_some, Bool.false_eq_true, if_false, ec]
    rw [(e k hk).1, (e k hk).2]
    exact ⟨rfl, rfl⟩
  · obtain ⟨l, e, r⟩ := main [⟨-1, false⟩] (by simp) (by intro x hx; simp at hx; subst hx; exact ⟨by decide, by decide⟩)
    refine ⟨l, fun k hk => ?_, r⟩
    unfold spec_l03Cases.f impl_Task_cases.f impl_casesOf.f
    simp only [Option.bind_some, if_true, ec, List.nil_append, List.length_nil]
    rw [if_pos (by decide), if_pos (by decide), (e k hk).1, (e k hk).2]
    exact ⟨rfl, rfl⟩
theorem beq_swap (x a : Int) (y b : Bool) : (x == a && (y == b)) = (a == x && (b == y)) := by
  have e1 : (x == a) = (a == x) := by
    by_cases h : x = a
    · subst h; rfl
    · rw [beq_eq_false_iff_ne.mpr h, beq_eq_false_iff_ne.mpr (Ne.symm h)]
  have e2 : (y == b) = (b == y) := by cases y <;> cases b <;> rfl
  rw [e1, e2]
theorem find_l0 (l : List S46) (hl : l.length ≤ 1000) (a : Int) (b : Bool) : ∀ (d j : Nat), j + d = l.length → ∃ v, ∀ k, d < k → spec_l03Find.l0 k l j a b = some v ∧ impl_Case_57.l0 k l l.length j a b = some v := by
  intro d
  induction d with
  | zero =>
    intro j hj
    refine ⟨-1, fun k hk => ?_⟩
    obtain ⟨k, rfl⟩ : ∃ m, k = m + 1 := ⟨k - 1, by omega⟩
    simp only [spec_l03Find.l0, impl_Case_57.l0]
    rw [if_neg (by omega), if_neg (by omega)]
    exact ⟨rfl, rfl⟩
  | succ d ih =>
    intro j hj
    obtain ⟨v, hv⟩ := ih (j + 1) (by omega)
    have w64 : wrap64 ((j : Int) + 1) = ((j + 1 : Nat) : Int) := by unfold wrap64; omega
    by_cases e : (a == (rd_T46 l j).f0 && (b == (rd_T46 l j).f1)) = true
    · refine ⟨j, fun k hk => ?_⟩
      obtain ⟨k, rfl⟩ : ∃ m, k = m + 1 := ⟨k - 1, by omega⟩
      simp only [spec_l03Find.l0, impl_Case_57.l0]
      rw [if_pos (by omega), if_pos (by omega), beq_swap, if_pos e, if_pos (by omega), if_pos (by omega), if_pos (by omega), if_pos e]
      exact ⟨rfl, rfl⟩
    · refine ⟨v, fun k hk => ?_⟩
      obtain ⟨k, rfl⟩ : ∃ m, k = m + 1 := ⟨k - 1, by omega⟩
      simp only [spec_l03Find.l0, impl_Case_57.l0]
      rw [if_pos (by omega), if_pos (by omega), beq_swap, if_neg e, if_pos (by omega), if_pos (by omega), if_pos (by omega), if_neg e, w64]
      exact hv k (by omega)
theorem find_f (c kd : Int) (n g : Bool) (l : List S46) (hl : l.length ≤ 27) (hs : ∀ k, 20 < k → spec_l03Cases.f k c kd n g = some l) (a : Int) (b : Bool) : ∃ v, ∀ k, 50 < k → spec_l03Find.f k c kd n g a b = some v ∧ impl_Case_47.f k l a b = some (decide (v ≥ 0)) := by
  obtain ⟨v, hv⟩ := find_l0 l (by omega) a b l.length 0 (by omega)
  refine ⟨v, fun k hk => ?_⟩
  have e1 : spec_l03Find.l0 k l 0 a b = some v := (hv k (by omega)).1
  have e2 : impl_Case_57.l0 k l l.length 0 a b = some v := (hv k (by omega)).2
  unfold spec_l03Find.f impl_Case_47.f impl_Case_57.f
  rw [hs k (by omega), e2]
  simp only [Option.bind_some]
  exact ⟨e1, trivial⟩

end Go.Proofs.Ytmmonhpjjjdnjaa.U
