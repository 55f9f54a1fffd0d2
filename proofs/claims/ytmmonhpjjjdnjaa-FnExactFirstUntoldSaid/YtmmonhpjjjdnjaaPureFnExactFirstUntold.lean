/- Proved: the program's FirstUntold answers as the reference's for every task and plan. No conditions. -/
import Derived.Test.YtmmonhpjjjdnjaaLPBaseU
import Derived.Test.YtmmonhpjjjdnjaaLPPlanU
import Derived.Test.YtmmonhpjjjdnjaaLPRunU
import Derived.Test.YtmmonhpjjjdnjaaLPWeighU
import Derived.Test.YtmmonhpjjjdnjaaSFnExactFirstUntold
namespace Go.Proofs.Ytmmonhpjjjdnjaa.Pure
open Go.RowKit Go.Proofs.Ytmmonhpjjjdnjaa.U Go.Proofs.YtmmonhpjjjdnjaaW.PrintWords Go.Proofs.YtmmonhpjjjdnjaaW.PrintLast Go.Proofs.YtmmonhpjjjdnjaaW.PrintMore
set_option linter.unusedVariables false
set_option linter.unusedSimpArgs false

theorem toTask_f (a b : Int) (c d : Bool) : laws_toTask.f a b c d = some (a, b, c, d) := rfl
def ans (v : Int) : Int × Int := if v < 0 then (0, 6) else (v, 0)
theorem ans_neg {v : Int} (h : v < 0) : ans v = (0, 6) := if_pos h
theorem ans_pos {v : Int} (h : ¬ v < 0) : ans v = (v, 0) := if_neg h
theorem untold_l0 (plan : List S54) (h1 : 1 ≤ plan.length) (h2 : plan.length ≤ 400) (hg : ∀ i : Nat, i < plan.length → GoodNode plan.length i (rd_T54 plan (i : Int))) (l : List S46) (hl : l.length ≤ 27) (hc : ∀ x ∈ l, GoodCase x) :
    ∀ (d j : Nat), j + d = l.length → ∃ v : Int, -1 ≤ v ∧ ∀ k, d + 500 < k → spec_FirstUntold.l0 k plan l j = some (ans v) ∧ impl_Case_34_35.l0 k l l.length j plan = some v := by
  intro d
  induction d with
  | zero =>
    intro j hj
    refine ⟨-1, by omega, fun k hk => ?_⟩
    obtain ⟨k, rfl⟩ : ∃ m, k = m + 1 := ⟨k - 1, by omega⟩
    simp only [spec_FirstUntold.l0, impl_Case_34_35.l0]
    have n1 : ¬ ((j : Int) < (l.length : Int)) := by omega
    rw [if_neg n1]
    exact ⟨rfl, if_neg n1⟩
  | succ d ih =>
    intro j hj
    have wj : wrap64 ((j : Int) + 1) = ((j + 1 : Nat) : Int) := by unfold wrap64; omega
    have hm : rd_T46 l (j : Int) ∈ l := by rw [rd46_at]; exact getD46_mem l j (by omega)
    obtain ⟨⟨v0, v1, v2⟩, hv⟩ := run_f plan h1 h2 hg (rd_T46 l (j : Int)) (hc _ hm)
    obtain ⟨u, hu1, hu⟩ := ih (j + 1) (by omega)
    by_cases t : (!(v0 == (rd_T46 l (j : Int)).f0) || (!(v1 == (rd_T46 l (j : Int)).f1))) = true
    · refine ⟨j, by omega, fun k hk => ?_⟩
      obtain ⟨k, rfl⟩ : ∃ m, k = m + 1 := ⟨k - 1, by omega⟩
      have e1 := (hv k (by omega)).1
      have e2 := (hv k (by omega)).2
      simp only [spec_FirstUntold.l0, impl_Case_34_35.l0, impl_FirstUntold_1.f]
      rw [if_pos (by omega), if_pos (by omega), if_pos (by omega), if_pos (by omega), if_pos (by omega), e1, e2]
      simp only [Option.bind_some]
      rw [if_pos t, if_pos t, ans_pos (show ¬ ((j : Int) < 0) by omega)]
      exact ⟨rfl, rfl⟩
    · refine ⟨u, hu1, fun k hk => ?_⟩
      obtain ⟨k, rfl⟩ : ∃ m, k = m + 1 := ⟨k - 1, by omega⟩
      have e1 := (hv k (by omega)).1
      have e2 := (hv k (by omega)).2
      simp only [spec_FirstUntold.l0, impl_Case_34_35.l0, impl_FirstUntold_1.f]
      rw [if_pos (by omega), if_pos (by omega), if_pos (by omega), if_pos (by omega), if_pos (by omega), e1, e2]
      simp only [Option.bind_some]
      rw [if_neg t, if_neg t, wj]
      exact hu k (by omega)
theorem untold_f (plan : List S54) (hw : ∀ x ∈ plan, Next16 x) (hlen : plan.length ≤ 1048576) (c kd : Int) (n g : Bool) (hc : -128 ≤ c ∧ c ≤ 127) (hk : -128 ≤ kd ∧ kd ≤ 127) :
    ∃ v, ∀ k, 3000 < k → spec_FirstUntold.f k c kd n g plan = some v ∧ impl_FirstUntold.f k c kd n g plan = some v := by
  obtain ⟨v, hv, hg⟩ := plan_f plan hw hlen c kd n g hc hk
  cases v with
  | false =>
    refine ⟨(0, 1), fun k hk => ?_⟩
    unfold spec_FirstUntold.f impl_FirstUntold.f
    rw [(hv k hk).1, (hv k hk).2]
    exact ⟨rfl, rfl⟩
  | true =>
    obtain ⟨c1, c2, l1, l2, gn⟩ := hg rfl
    obtain ⟨l, hl, hl2, hgc⟩ := cases_f c kd n g c1 c2
    obtain ⟨u, -, hu⟩ := untold_l0 plan l1 l2 gn l hl2 hgc l.length 0 (by omega)
    refine ⟨ans u, fun k hk => ?_⟩
    unfold spec_FirstUntold.f impl_FirstUntold.f
    rw [(hv k hk).1, (hv k hk).2, (hl k (by omega)).1, (hl k (by omega)).2]
    simp only [Option.bind_some, if_true]
    refine ⟨(hu k (by omega)).1, ?_⟩
    unfold impl_Case_34_35.f
    have e := (hu k (by omega)).2
    rw [show ((0 : Nat) : Int) = 0 from rfl] at e
    rw [e]
    simp only [Option.bind_some]
    by_cases b : u < 0
    · rw [if_pos b, ans_neg b]
    · rw [if_neg b, ans_pos b]
theorem FnExactFirstUntold : laws_FnExactFirstUntold.Pure := by
  intro c kd n g l hc hk hl hw
  obtain ⟨k, hK⟩ : ∃ k : Nat, 1048700 ≤ k := ⟨1048700, Nat.le_refl _⟩
  refine ⟨k + 1, ?_⟩
  unfold laws_FnExactFirstUntold.f
  rw [sz_f l 1048576 (by omega) (by omega) hl]
  simp only [Option.bind_some]
  by_cases big : (1048576 : Int) < l.length
  · rw [if_pos big, if_pos (by omega)]
  rw [if_neg big, if_neg (by omega)]
  rw [toTask_f, toNodeS_f l (by omega) (k + 1) (by omega)]
  simp only [Option.bind_some]
  have hn : ∀ x ∈ l.map cv, Next16 x := by
    intro x hx
    obtain ⟨y, hy, rfl⟩ := List.mem_map.mp hx
    have h := hw y hy
    obtain ⟨-, -, -, -, -, -, -, -, -, -, -, -, -, -, b0, b1, b2, -⟩ := h
    exact ⟨i16_wf b0, i16_wf b1, i16_wf b2⟩
  obtain ⟨⟨v0, v1⟩, hv⟩ := untold_f (l.map cv) hn (by rw [List.length_map]; omega) c kd n g (i8_wf hc) (i8_wf hk)
  rw [(hv (k + 1) (by omega)).1, (hv (k + 1) (by omega)).2]
  simp only [Option.bind_some, if_true, bne_self_eq_false, laws_FnExactFirstUntold.j0, Bool.false_eq_true, if_false]
  rw [toNodeS_f l (by omega) k (by omega)]
  simp only [Option.bind_some]
  rw [eqNodeS_f (l.map cv) (by rw [List.length_map]; omega) k (by omega)]
  rfl

end Go.Proofs.Ytmmonhpjjjdnjaa.Pure
