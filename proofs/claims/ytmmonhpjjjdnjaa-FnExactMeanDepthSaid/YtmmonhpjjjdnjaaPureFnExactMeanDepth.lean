/- Proved: the program's MeanDepth answers as the reference's for every task and plan. No conditions. -/
import Derived.Test.YtmmonhpjjjdnjaaLPBase
import Derived.Test.YtmmonhpjjjdnjaaLPPlan
import Derived.Test.YtmmonhpjjjdnjaaLPRun
import Derived.Test.YtmmonhpjjjdnjaaLPWeigh
import Derived.Test.YtmmonhpjjjdnjaaSFnExactMeanDepth
namespace Go.Proofs.Ytmmonhpjjjdnjaa.Pure
open Go.RowKit Go.Proofs.Ytmmonhpjjjdnjaa.M Go.Proofs.YtmmonhpjjjdnjaaW.PrintWords Go.Proofs.YtmmonhpjjjdnjaaW.PrintLast Go.Proofs.YtmmonhpjjjdnjaaW.PrintMore
set_option linter.unusedVariables false
set_option linter.unusedSimpArgs false

theorem toTask_f (a b : Int) (c d : Bool) : laws_toTask.f a b c d = some (a, b, c, d) := rfl
theorem specMean_l0 (plan : List S54) (h1 : 1 ≤ plan.length) (h2 : plan.length ≤ 400) (hg : ∀ i : Nat, i < plan.length → GoodNode plan.length i (rd_T54 plan (i : Int))) (l : List S46) (hl : l.length ≤ 27) (hc : ∀ x ∈ l, GoodCase x)
    (c kd : Int) (n g : Bool) (ht : ∀ k, 20 < k → impl_Task_cases.f k c kd n g = some l) :
    ∀ (d j : Nat) (s : Int), j + d = l.length → ∃ v, ∀ k, d + 500 < k → spec_MeanDepth.l0 k plan l s j = some v ∧ impl_MeanDepth.l0 k plan s l l.length j c kd n g = some v := by
  intro d
  induction d with
  | zero =>
    intro j s hj
    refine ⟨(s, (l.length : Int), 0), fun k hk => ?_⟩
    obtain ⟨k, rfl⟩ : ∃ m, k = m + 1 := ⟨k - 1, by omega⟩
    simp only [spec_MeanDepth.l0, impl_MeanDepth.l0]
    rw [if_neg (by omega), if_neg (by omega), ht k (by omega)]
    exact ⟨rfl, rfl⟩
  | succ d ih =>
    intro j s hj
    have wj : wrap64 ((j : Int) + 1) = ((j + 1 : Nat) : Int) := by unfold wrap64; omega
    have hm : rd_T46 l (j : Int) ∈ l := by rw [rd46_at]; exact getD46_mem l j (by omega)
    obtain ⟨⟨v0, v1, v2⟩, hv⟩ := run_f plan h1 h2 hg (rd_T46 l (j : Int)) (hc _ hm)
    obtain ⟨u, hu⟩ := ih (j + 1) (wrap64 (s + v2)) (by omega)
    refine ⟨u, fun k hk => ?_⟩
    obtain ⟨k, rfl⟩ : ∃ m, k = m + 1 := ⟨k - 1, by omega⟩
    simp only [spec_MeanDepth.l0, impl_MeanDepth.l0]
    rw [if_pos (by omega), if_pos (by omega), if_pos (by omega), if_pos (by omega), if_pos (by omega), (hv k (by omega)).1, (hv k (by omega)).2]
    simp only [Option.bind_some]
    rw [wj]
    exact hu k (by omega)
theorem mean_f (plan : List S54) (hw : ∀ x ∈ plan, Next16 x) (hlen : plan.length ≤ 1048576) (c kd : Int) (n g : Bool) (hc : -128 ≤ c ∧ c ≤ 127) (hk : -128 ≤ kd ∧ kd ≤ 127) :
    ∃ v, ∀ k, 3000 < k → spec_MeanDepth.f k c kd n g plan = some v ∧ impl_MeanDepth.f k c kd n g plan = some v := by
  obtain ⟨v, hv, hg⟩ := plan_f plan hw hlen c kd n g hc hk
  cases v with
  | false =>
    refine ⟨(0, 0, 1), fun k hk => ?_⟩
    unfold spec_MeanDepth.f impl_MeanDepth.f
    rw [(hv k hk).1, (hv k hk).2]
    exact ⟨rfl, rfl⟩
  | true =>
    obtain ⟨c1, c2, l1, l2, gn⟩ := hg rfl
    obtain ⟨l, hl, hl2, hgc⟩ := cases_f c kd n g c1 c2
    obtain ⟨u, hu⟩ := specMean_l0 plan l1 l2 gn l hl2 hgc c kd n g (fun k hk => (hl k hk).2) l.length 0 0 (by omega)
    refine ⟨u, fun k hk => ?_⟩
    unfold spec_MeanDepth.f impl_MeanDepth.f
    rw [(hv k hk).1, (hv k hk).2, (hl k (by omega)).1, (hl k (by omega)).2]
    simp only [Option.bind_some, if_true]
    exact hu k (by omega)
theorem FnExactMeanDepth : laws_FnExactMeanDepth.Pure := by
  intro c kd n g l hc hk hl hw
  obtain ⟨k, hK⟩ : ∃ k : Nat, 1048700 ≤ k := ⟨1048700, Nat.le_refl _⟩
  refine ⟨k + 1, ?_⟩
  unfold laws_FnExactMeanDepth.f
  rw [sz_f l 1048576 (by omega) (by omega) hl]
  simp only [Option.bind_some]
  by_cases big : (1048576 : Int) < l.length
  · rw [if_pos big, if_pos (by omega)]
  rw [if_neg big, if_neg (by omega)]
  rw [toTask_f, toNodeS_f l (by omega) (k + 1) (by omega)]
  simp only [Option.bind_some]
  have hn : ∀ x ∈ l.map cv, Next16 x := by
    intro x hx
    obtain ⟨y, hy, rfl⟩ := List.mem_map.mp hx
    have h := hw y hy
    obtain ⟨-, -, -, -, -, -, -, -, -, -, -, -, -, -, b0, b1, b2, -⟩ := h
    exact ⟨i16_wf b0, i16_wf b1, i16_wf b2⟩
  obtain ⟨⟨v0, v1, v2⟩, hv⟩ := mean_f (l.map cv) hn (by rw [List.length_map]; omega) c kd n g (i8_wf hc) (i8_wf hk)
  rw [(hv (k + 1) (by omega)).1, (hv (k + 1) (by omega)).2]
  simp only [Option.bind_some, if_true, bne_self_eq_false, laws_FnExactMeanDepth.j0, Bool.false_eq_true, if_false]
  rw [toNodeS_f l (by omega) k (by omega)]
  simp only [Option.bind_some]
  rw [eqNodeS_f (l.map cv) (by rw [List.length_map]; omega) k (by omega)]
  rfl

end Go.Proofs.Ytmmonhpjjjdnjaa.Pure
