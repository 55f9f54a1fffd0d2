/- Plans: the one test of both sides, and what a valid plan bears. -/
import Derived.Test.YtmmonhpjjjdnjaaLPBaseU
import Derived.Test.YtmmonhpjjjdnjaaLPWeighU
import Derived.Test.YtmmonhpjjjdnjaaUx14
import Derived.Test.YtmmonhpjjjdnjaaUx15
import Derived.Test.YtmmonhpjjjdnjaaUx18
import Derived.Test.YtmmonhpjjjdnjaaUx21
namespace Go.Proofs.Ytmmonhpjjjdnjaa.U
open Go.RowKit Go.Proofs.YtmmonhpjjjdnjaaW.PrintWords Go.Proofs.YtmmonhpjjjdnjaaW.PrintLast Go.Proofs.YtmmonhpjjjdnjaaW.PrintMore
set_option linter.unusedVariables false
set_option linter.unusedSimpArgs false

def pansL (x : S50) : List Int := [x.f0, x.f1, x.f2, x.f3, x.f4, x.f5, x.f6, x.f7, x.f8, x.f9, x.f10, x.f11, x.f12, x.f13]
def nextL (x : S52) : List Int := [x.f0, x.f1, x.f2]
/-- What a node of a valid plan bears. -/
def GoodNode (len i : Nat) (x : S54) : Prop := x.f3 = true ∨ ((∀ q : Nat, q < 14 → -1 ≤ rd (pansL x.f0) q ∧ rd (pansL x.f0) q ≤ 1) ∧ ∀ r : Nat, r < 3 → (i : Int) < rd (nextL x.f1) r ∧ rd (nextL x.f1) r < len)
def Next16 (x : S54) : Prop := (-32768 ≤ x.f1.f0 ∧ x.f1.f0 ≤ 32767) ∧ (-32768 ≤ x.f1.f1 ∧ x.f1.f1 ≤ 32767) ∧ (-32768 ≤ x.f1.f2 ∧ x.f1.f2 ≤ 32767)
theorem next16_rd {x : S54} (h : Next16 x) (r : Nat) (hr : r < 3) : wrap64 (rd (nextL x.f1) r) = rd (nextL x.f1) r := by
  obtain ⟨a, b, c⟩ := h
  have hr' : r = 0 ∨ r = 1 ∨ r = 2 := by omega
  rcases hr' with rfl | rfl | rfl
  · show wrap64 x.f1.f0 = x.f1.f0; unfold wrap64; omega
  · show wrap64 x.f1.f1 = x.f1.f1; unfold wrap64; omega
  · show wrap64 x.f1.f2 = x.f1.f2; unfold wrap64; omega
theorem next_l1 (plan : List S54) (hp : plan.length ≤ 400) (l : List S46) (c kd : Int) (n g : Bool) (j : Nat) (hj : j < plan.length) (hx : Next16 (rd_T54 plan (j : Int))) (K : Nat) (v : Bool)
    (hv : ∀ k, K < k → spec_l03Plan.l0 k plan ((j + 1 : Nat) : Int) c kd n g = some v ∧ impl_ValidPlan.l0 k plan l plan plan.length ((j + 1 : Nat) : Int) c kd n g = some v) :
    ∀ (d r : Nat), r + d = 3 → ∃ u, (∀ k, K + d < k → spec_l03Plan.l1 (k + 1) plan j r c kd n g = some u ∧ impl_ValidPlan.l1 (k + 1) plan l j plan plan.length j r c kd n g (rd_T54 plan (j : Int)).f1.f0 (rd_T54 plan (j : Int)).f1.f1 (rd_T54 plan (j : Int)).f1.f2 = some u) ∧
      (u = true → v = true ∧ ∀ q : Nat, r ≤ q → q < 3 → (j : Int) < rd (nextL (rd_T54 plan (j : Int)).f1) q ∧ rd (nextL (rd_T54 plan (j : Int)).f1) q < plan.length) := by
  have wj : wrap64 ((j : Int) + 1) = ((j + 1 : Nat) : Int) := by unfold wrap64; omega
  intro d
  induction d with
  | zero =>
    intro r hr
    refine ⟨v, fun k hk => ?_, fun h => ⟨h, fun q h1 h2 => by omega⟩⟩
    simp only [spec_l03Plan.l1, impl_ValidPlan.l1]
    rw [if_neg (by omega), if_neg (by omega), wj]
    exact hv k (by omega)
  | succ d ih =>
    intro r hr
    obtain ⟨u, hu, hg⟩ := ih (r + 1) (by omega)
    have wr : wrap64 ((r : Int) + 1) = ((r + 1 : Nat) : Int) := by unfold wrap64; omega
    have wl : wrap64 ((plan.length : Int) - 1) = (plan.length : Int) - 1 := by unfold wrap64; omega
    have e : wrap64 (rd [(rd_T54 plan (j : Int)).f1.f0, (rd_T54 plan (j : Int)).f1.f1, (rd_T54 plan (j : Int)).f1.f2] (r : Int)) = rd (nextL (rd_T54 plan (j : Int)).f1) r := next16_rd hx r (by omega)
    by_cases a1 : rd (nextL (rd_T54 plan (j : Int)).f1) r ≤ (j : Int)
    · refine ⟨false, fun k hk => ?_, fun h => by simp at h⟩
      simp only [spec_l03Plan.l1, impl_ValidPlan.l1, impl_Node.f, impl_within.f, Option.bind_some]
      rw [if_pos (by omega), if_pos (by omega), e, if_pos a1, if_pos (by omega), if_pos (by omega), wj, if_neg (by omega)]
      exact ⟨rfl, rfl⟩
    by_cases a2 : rd (nextL (rd_T54 plan (j : Int)).f1) r ≥ (plan.length : Int)
    · refine ⟨false, fun k hk => ?_, fun h => by simp at h⟩
      simp only [spec_l03Plan.l1, impl_ValidPlan.l1, impl_Node.f, impl_within.f, Option.bind_some]
      rw [if_pos (by omega), if_pos (by omega), e, if_neg a1, if_pos a2, if_pos (by omega), if_pos (by omega), wj, if_pos (by omega), wl]
      simp only [Option.bind_some]
      rw [decide_eq_false (by omega)]
      simp
    · refine ⟨u, fun k hk => ?_, fun h => ⟨(hg h).1, fun q h1 h2 => ?_⟩⟩
      · obtain ⟨k, rfl⟩ : ∃ m, k = m + 1 := ⟨k - 1, by omega⟩
        rw [spec_l03Plan.l1.eq_2, impl_ValidPlan.l1.eq_2]
        simp only [impl_Node.f, impl_within.f, Option.bind_some]
        rw [if_pos (by omega), if_pos (by omega), e, if_neg a1, if_neg a2, if_pos (by omega), if_pos (by omega), wj, if_pos (by omega), wl, wr]
        simp only [Option.bind_some]
        rw [decide_eq_true (by omega), if_pos rfl]
        exact hu k (by omega)
      · by_cases eq : q = r
        · subst eq; omega
        · exact (hg h).2 q (by omega) h2
theorem plan_l0 (plan : List S54) (hp : plan.length ≤ 400) (hw : ∀ x ∈ plan, Next16 x) (l : List S46) (hl : l.length ≤ 27) (c kd : Int) (n g : Bool) (hc : 1 ≤ c) (hc2 : c ≤ 13) (hs : ∀ k, 20 < k → spec_l03Cases.f k c kd n g = some l) (ht : impl_ValidTask.f c kd n g = some true) :
    ∀ (d j : Nat), j + d = plan.length → ∃ v, (∀ k, 6 * d + 60 < k → spec_l03Plan.l0 k plan (j : Int) c kd n g = some v ∧ impl_ValidPlan.l0 k plan l plan plan.length (j : Int) c kd n g = some v) ∧
      (v = true → ∀ i : Nat, j ≤ i → i < plan.length → GoodNode plan.length i (rd_T54 plan (i : Int))) := by
  intro d
  induction d with
  | zero =>
    intro j hj
    refine ⟨true, fun k hk => ?_, fun _ i h1 h2 => by omega⟩
    obtain ⟨k, rfl⟩ : ∃ m, k = m + 1 := ⟨k - 1, by omega⟩
    simp only [spec_l03Plan.l0, impl_ValidPlan.l0]
    rw [if_neg (by omega), if_neg (by omega)]
    exact ⟨rfl, rfl⟩
  | succ d ih =>
    intro j hj
    obtain ⟨v, hv, hg⟩ := ih (j + 1) (by omega)
    have wj : wrap64 ((j : Int) + 1) = ((j + 1 : Nat) : Int) := by unfold wrap64; omega
    have hx : Next16 (rd_T54 plan (j : Int)) := by rw [rd54_at]; exact hw _ (getD54_mem plan j (by omega))
    by_cases leaf : (rd_T54 plan (j : Int)).f3 = true
    · by_cases a1 : (!((rd_T54 plan (j : Int)).f0.f0 == 0) || (!((rd_T54 plan (j : Int)).f0.f1 == 0) || (!((rd_T54 plan (j : Int)).f0.f2 == 0) || (!((rd_T54 plan (j : Int)).f0.f3 == 0) || (!((rd_T54 plan (j : Int)).f0.f4 == 0) || (!((rd_T54 plan (j : Int)).f0.f5 == 0) || (!((rd_T54 plan (j : Int)).f0.f6 == 0) || (!((rd_T54 plan (j : Int)).f0.f7 == 0) || (!((rd_T54 plan (j : Int)).f0.f8 == 0) || (!((rd_T54 plan (j : Int)).f0.f9 == 0) || (!((rd_T54 plan (j : Int)).f0.f10 == 0) || (!((rd_T54 plan (j : Int)).f0.f11 == 0) || (!((rd_T54 plan (j : Int)).f0.f12 == 0) || (!((rd_T54 plan (j : Int)).f0.f13 == 0))))))))))))))) = true
      · refine ⟨false, fun k hk => ?_, fun h => by simp at h⟩
        obtain ⟨k, rfl⟩ : ∃ m, k = m + 1 := ⟨k - 1, by omega⟩
        simp only [spec_l03Plan.l0, impl_ValidPlan.l0]
        rw [if_pos (by omega), if_pos (by omega), if_pos leaf, if_pos a1, if_pos (by omega), if_pos (by omega), if_pos (by omega), if_pos leaf, if_pos a1]
        exact ⟨rfl, rfl⟩
      by_cases a2 : (!((rd_T54 plan (j : Int)).f1.f0 == 0) || (!((rd_T54 plan (j : Int)).f1.f1 == 0) || !((rd_T54 plan (j : Int)).f1.f2 == 0))) = true
      · refine ⟨false, fun k hk => ?_, fun h => by simp at h⟩
        obtain ⟨k, rfl⟩ : ∃ m, k = m + 1 := ⟨k - 1, by omega⟩
        simp only [spec_l03Plan.l0, impl_ValidPlan.l0]
        rw [if_pos (by omega), if_pos (by omega), if_pos leaf, if_neg a1, if_pos a2, if_pos (by omega), if_pos (by omega), if_pos (by omega), if_pos leaf, if_neg a1, if_pos a2]
        exact ⟨rfl, rfl⟩
      obtain ⟨u, hu⟩ := find_f c kd n g l hl hs (rd_T54 plan (j : Int)).f2.f0 (rd_T54 plan (j : Int)).f2.f1
      by_cases a3 : u < 0
      · refine ⟨false, fun k hk => ?_, fun h => by simp at h⟩
        obtain ⟨k, rfl⟩ : ∃ m, k = m + 1 := ⟨k - 1, by omega⟩
        simp only [spec_l03Plan.l0, impl_ValidPlan.l0]
        rw [if_pos (by omega), if_pos (by omega), if_pos leaf, if_neg a1, if_neg a2, if_pos (by omega), if_pos (by omega), if_pos (by omega), if_pos leaf, if_neg a1, if_neg a2, (hu k (by omega)).1, (hu k (by omega)).2]
        simp only [Option.bind_some]
        rw [if_pos a3, decide_eq_false (by omega)]
        exact ⟨rfl, rfl⟩
      · refine ⟨v, fun k hk => ?_, fun h i h1 h2 => ?_⟩
        · obtain ⟨k, rfl⟩ : ∃ m, k = m + 1 := ⟨k - 1, by omega⟩
          simp only [spec_l03Plan.l0, impl_ValidPlan.l0]
          rw [if_pos (by omega), if_pos (by omega), if_pos leaf, if_neg a1, if_neg a2, if_pos (by omega), if_pos (by omega), if_pos (by omega), if_pos leaf, if_neg a1, if_neg a2, (hu k (by omega)).1, (hu k (by omega)).2]
          simp only [Option.bind_some]
          rw [if_neg a3, decide_eq_true (by omega), if_pos rfl, wj]
          exact hv k (by omega)
        · by_cases ei : i = j
          · subst ei; exact Or.inl leaf
          · exact hg h i (by omega) h2
    · by_cases b1 : ((rd_T54 plan (j : Int)).f0.f0 == 0 && ((rd_T54 plan (j : Int)).f0.f1 == 0 && ((rd_T54 plan (j : Int)).f0.f2 == 0 && ((rd_T54 plan (j : Int)).f0.f3 == 0 && ((rd_T54 plan (j : Int)).f0.f4 == 0 && ((rd_T54 plan (j : Int)).f0.f5 == 0 && ((rd_T54 plan (j : Int)).f0.f6 == 0 && ((rd_T54 plan (j : Int)).f0.f7 == 0 && ((rd_T54 plan (j : Int)).f0.f8 == 0 && ((rd_T54 plan (j : Int)).f0.f9 == 0 && ((rd_T54 plan (j : Int)).f0.f10 == 0 && ((rd_T54 plan (j : Int)).f0.f11 == 0 && ((rd_T54 plan (j : Int)).f0.f12 == 0 && ((rd_T54 plan (j : Int)).f0.f13 == 0)))))))))))))) = true
      · refine ⟨false, fun k hk => ?_, fun h => by simp at h⟩
        obtain ⟨k, rfl⟩ : ∃ m, k = m + 1 + 1 := ⟨k - 2, by omega⟩
        rw [spec_l03Plan.l0.eq_2, impl_ValidPlan.l0.eq_2]
        rw [if_pos (by omega), if_pos (by omega), if_neg leaf, if_pos b1, if_pos (by omega), if_pos (by omega), if_pos (by omega), if_neg leaf]
        simp only [spec_l03Plan.j1, impl_ValidPlan.j2, if_true]
        refine ⟨trivial, ?_⟩
        by_cases t1 : (!((rd_T54 plan (j : Int)).f2.f0 == 0) || (rd_T54 plan (j : Int)).f2.f1) = true
        · rw [if_pos t1]
        · rw [if_neg t1, if_pos b1]
      obtain ⟨u, hu, hug⟩ := weigh_f c kd n g hc hc2 ht (rd_T54 plan (j : Int)).f0.f0 (rd_T54 plan (j : Int)).f0.f1 (rd_T54 plan (j : Int)).f0.f2 (rd_T54 plan (j : Int)).f0.f3 (rd_T54 plan (j : Int)).f0.f4 (rd_T54 plan (j : Int)).f0.f5 (rd_T54 plan (j : Int)).f0.f6 (rd_T54 plan (j : Int)).f0.f7 (rd_T54 plan (j : Int)).f0.f8 (rd_T54 plan (j : Int)).f0.f9 (rd_T54 plan (j : Int)).f0.f10 (rd_T54 plan (j : Int)).f0.f11 (rd_T54 plan (j : Int)).f0.f12 (rd_T54 plan (j : Int)).f0.f13
      by_cases t1 : (!((rd_T54 plan (j : Int)).f2.f0 == 0) || (rd_T54 plan (j : Int)).f2.f1) = true
      · refine ⟨false, fun k hk => ?_, fun h => by simp at h⟩
        obtain ⟨k, rfl⟩ : ∃ m, k = m + 1 + 1 := ⟨k - 2, by omega⟩
        rw [spec_l03Plan.l0.eq_2, impl_ValidPlan.l0.eq_2]
        rw [if_pos (by omega), if_pos (by omega), if_neg leaf, if_neg b1, if_pos (by omega), if_pos (by omega), if_pos (by omega), if_neg leaf, if_pos t1, (hu (k + 1) (by omega)).1, t1]
        simp only [Option.bind_some, spec_l03Plan.j1, impl_ValidPlan.j2, if_true]
        cases u <;> simp
      cases u with
      | false =>
        refine ⟨false, fun k hk => ?_, fun h => by simp at h⟩
        obtain ⟨k, rfl⟩ : ∃ m, k = m + 1 + 1 := ⟨k - 2, by omega⟩
        rw [spec_l03Plan.l0.eq_2, impl_ValidPlan.l0.eq_2]
        rw [if_pos (by omega), if_pos (by omega), if_neg leaf, if_neg b1, if_pos (by omega), if_pos (by omega), if_pos (by omega), if_neg leaf, if_neg t1, if_neg b1, (hu (k + 1) (by omega)).1, (hu (k + 1) (by omega)).2]
        simp only [Option.bind_some, spec_l03Plan.j1, impl_ValidPlan.j2, if_true, Bool.not_false, Bool.false_eq_true, if_false]
        exact ⟨trivial, trivial⟩
      | true =>
        obtain ⟨w, hw2, hwg⟩ := next_l1 plan hp l c kd n g j (by omega) hx (6 * d + 60) v hv 3 0 (by omega)
        refine ⟨w, fun k hk => ?_, fun h i h1 h2 => ?_⟩
        · obtain ⟨k, rfl⟩ : ∃ m, k = m + 1 + 1 + 1 := ⟨k - 3, by omega⟩
          rw [spec_l03Plan.l0.eq_2, impl_ValidPlan.l0.eq_2]
          rw [if_pos (by omega), if_pos (by omega), if_neg leaf, if_neg b1, if_pos (by omega), if_pos (by omega), if_pos (by omega), if_neg leaf, if_neg t1, if_neg b1, (hu (k + 1 + 1) (by omega)).1, (hu (k + 1 + 1) (by omega)).2]
          have t2 : (!((rd_T54 plan (j : Int)).f2.f0 == 0) || (rd_T54 plan (j : Int)).f2.f1) = false := Bool.eq_false_iff.mpr t1
          rw [t2]
          simp only [Option.bind_some, if_true]
          rw [spec_l03Plan.j1.eq_2, impl_ValidPlan.j2.eq_2]
          simp only [Bool.not_true, Bool.false_eq_true, if_false]
          exact hw2 k (by omega)
        · obtain ⟨r1, r2⟩ := hwg h
          by_cases ei : i = j
          · subst ei
            exact Or.inr ⟨fun q hq => hug rfl q hq, fun r hr => r2 r (by omega) hr⟩
          · exact hg r1 i (by omega) h2
/-- Both sides' test of a plan comes to one answer. -/
theorem plan_f (plan : List S54) (hw : ∀ x ∈ plan, Next16 x) (hlen : plan.length ≤ 1048576) (c kd : Int) (n g : Bool) (hc : -128 ≤ c ∧ c ≤ 127) (hk : -128 ≤ kd ∧ kd ≤ 127) :
    ∃ v, (∀ k, 3000 < k → spec_ValidPlan.f k c kd n g plan = some v ∧ impl_ValidPlan.f k c kd n g plan = some v) ∧
      (v = true → 1 ≤ c ∧ c ≤ 13 ∧ 1 ≤ plan.length ∧ plan.length ≤ 400 ∧ ∀ i : Nat, i < plan.length → GoodNode plan.length i (rd_T54 plan (i : Int))) := by
  obtain ⟨t, t1, t2, tg⟩ := task_some (n := n) (g := g) hc hk
  cases t with
  | false =>
    refine ⟨false, fun k hk => ?_, fun h => by simp at h⟩
    obtain ⟨k, rfl⟩ : ∃ m, k = m + 1 := ⟨k - 1, by omega⟩
    unfold spec_ValidPlan.f impl_ValidPlan.f
    rw [t1, t2]
    simp [impl_ValidPlan.j0]
  | true =>
    obtain ⟨c1, c2⟩ := tg rfl
    by_cases l1 : 1 ≤ plan.length ∧ plan.length ≤ 400
    · obtain ⟨l, hl, hl2, _⟩ := cases_f c kd n g c1 c2
      obtain ⟨v, hv, hg⟩ := plan_l0 plan l1.2 hw l hl2 c kd n g c1 c2 (fun k hk => (hl k hk).1) t2 plan.length 0 (by omega)
      refine ⟨v, fun k hk => ?_, fun h => ⟨c1, c2, l1.1, l1.2, fun i hi => hg h i (by omega) hi⟩⟩
      obtain ⟨k, rfl⟩ : ∃ m, k = m + 1 := ⟨k - 1, by omega⟩
      unfold spec_ValidPlan.f impl_ValidPlan.f spec_l03Plan.f spec_l00In.f impl_Node.f impl_within.f
      rw [t1, t2]
      simp only [Option.bind_some, if_true]
      rw [if_pos (show (plan.length : Int) ≥ 1 by omega), decide_eq_true (show (plan.length : Int) ≤ 400 by omega)]
      simp only [Option.bind_some, if_true, Bool.not_true, impl_ValidPlan.j0, Bool.false_eq_true, if_false]
      have h1 : spec_l03Plan.l0 (k + 1) plan 0 c kd n g = some v := (hv (k + 1) (by omega)).1
      have h2 : impl_ValidPlan.l0 k plan l plan plan.length 0 c kd n g = some v := (hv k (by omega)).2
      rw [h1, (hl k (by omega)).2]
      simp only [Option.bind_some]
      exact ⟨trivial, h2⟩
    · refine ⟨false, fun k hk => ?_, fun h => by simp at h⟩
      obtain ⟨k, rfl⟩ : ∃ m, k = m + 1 := ⟨k - 1, by omega⟩
      unfold spec_ValidPlan.f impl_ValidPlan.f spec_l03Plan.f spec_l00In.f impl_Node.f impl_within.f
      rw [t1, t2]
      simp only [Option.bind_some, if_true]
      by_cases z : 1 ≤ plan.length
      · rw [if_pos (show (plan.length : Int) ≥ 1 by omega), decide_eq_false (show ¬ (plan.length : Int) ≤ 400 by omega)]
        simp [impl_ValidPlan.j0]
      · rw [if_neg (show ¬ (plan.length : Int) ≥ 1 by omega)]
        simp [impl_ValidPlan.j0]

end Go.Proofs.Ytmmonhpjjjdnjaa.U
