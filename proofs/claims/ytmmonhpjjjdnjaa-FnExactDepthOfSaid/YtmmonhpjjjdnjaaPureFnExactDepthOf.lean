/- Proved: the program's DepthOf answers as the reference's for every task and plan. No conditions. -/
import Derived.Test.YtmmonhpjjjdnjaaLPBase
import Derived.Test.YtmmonhpjjjdnjaaLPPlan
import Derived.Test.YtmmonhpjjjdnjaaLPRun
import Derived.Test.YtmmonhpjjjdnjaaLPWeigh
import Derived.Test.YtmmonhpjjjdnjaaSFnExactDepthOf
namespace Go.Proofs.Ytmmonhpjjjdnjaa.Pure
open Go.RowKit Go.Proofs.Ytmmonhpjjjdnjaa.M Go.Proofs.YtmmonhpjjjdnjaaW.PrintWords Go.Proofs.YtmmonhpjjjdnjaaW.PrintLast Go.Proofs.YtmmonhpjjjdnjaaW.PrintMore
set_option linter.unusedVariables false
set_option linter.unusedSimpArgs false

theorem toTask_f (a b : Int) (c d : Bool) : laws_toTask.f a b c d = some (a, b, c, d) := rfl
theorem max_f (a b : Int) : spec_l00Max.f a b = some (mx a b) := by
  unfold spec_l00Max.f mx
  by_cases h : a > b
  · rw [if_pos h, if_neg (by omega)]
  · by_cases h2 : a < b
    · rw [if_neg h, if_pos h2]
    · rw [if_neg h, if_neg h2]; congr 1; omega
theorem depth_l0 (plan : List S54) (h1 : 1 ≤ plan.length) (h2 : plan.length ≤ 400) (hg : ∀ i : Nat, i < plan.length → GoodNode plan.length i (rd_T54 plan (i : Int))) (l : List S46) (hl : l.length ≤ 27) (hc : ∀ x ∈ l, GoodCase x) :
    ∀ (d j : Nat) (s : Int), j + d = l.length → ∃ v, ∀ k, d + 500 < k → spec_DepthOf.l0 k plan l s j = some v ∧ impl_DepthOf.l0 k plan s l l.length j = some v := by
  intro d
  induction d with
  | zero =>
    intro j s hj
    refine ⟨(s, 0), fun k hk => ?_⟩
    obtain ⟨k, rfl⟩ : ∃ m, k = m + 1 := ⟨k - 1, by omega⟩
    simp only [spec_DepthOf.l0, impl_DepthOf.l0]
    rw [if_neg (by omega), if_neg (by omega)]
    exact ⟨rfl, rfl⟩
  | succ d ih =>
    intro j s hj
    have wj : wrap64 ((j : Int) + 1) = ((j + 1 : Nat) : Int) := by unfold wrap64; omega
    have hm : rd_T46 l (j : Int) ∈ l := by rw [rd46_at]; exact getD46_mem l j (by omega)
    obtain ⟨⟨v0, v1, v2⟩, hv⟩ := run_f plan h1 h2 hg (rd_T46 l (j : Int)) (hc _ hm)
    obtain ⟨u, hu⟩ := ih (j + 1) (mx s v2) (by omega)
    refine ⟨u, fun k hk => ?_⟩
    obtain ⟨k, rfl⟩ : ∃ m, k = m + 1 := ⟨k - 1, by omega⟩
    simp only [spec_DepthOf.l0, impl_DepthOf.l0]
    rw [if_pos (by omega), if_pos (by omega), if_pos (by omega), if_pos (by omega), if_pos (by omega), (hv k (by omega)).1, (hv k (by omega)).2]
    simp only [Option.bind_some, max_f]
    rw [wj]
    exact hu k (by omega)
theorem depth_f (plan : List S54) (hw : ∀ x ∈ plan, Next16 x) (hlen : plan.length ≤ 1048576) (c kd : Int) (n g : Bool) (hc : -128 ≤ c ∧ c ≤ 127) (hk : -128 ≤ kd ∧ kd ≤ 127) :
    ∃ v, ∀ k, 3000 < k → spec_DepthOf.f k c kd n g plan = some v ∧ impl_DepthOf.f k c kd n g plan = some v := by
  obtain ⟨v, hv, hg⟩ := plan_f plan hw hlen c kd n g hc hk
  cases v with
  | false =>
    refine ⟨(0, 1), fun k hk => ?_⟩
    unfold spec_DepthOf.f impl_DepthOf.f
    rw [(hv k hk).1, (hv k hk).2]
    exact ⟨rfl, rfl⟩
  | true =>
    obtain ⟨c1, c2, l1, l2, gn⟩ := hg rfl
    obtain ⟨l, hl, hl2, hgc⟩ := cases_f c kd n g c1 c2
    obtain ⟨u, hu⟩ := depth_l0 plan l1 l2 gn l hl2 hgc l.length 0 0 (by omega)
    refine ⟨u, fun k hk => ?_⟩
    unfold spec_DepthOf.f impl_DepthOf.f
    rw [(hv k hk).1, (hv k hk).2, (hl k (by omega)).1, (hl k (by omega)).2]
    simp only [Option.bind_some, if_true]
    exact hu k (by omega)
theorem FnExactDepthOf : laws_FnExactDepthOf.Pure := by
  intro c kd n g l hc hk hl hw
  obtain ⟨k, hK⟩ : ∃ k : Nat, 1048700 ≤ k := ⟨1048700, Nat.le_refl _⟩
  refine ⟨k + 1, ?_⟩
  unfold laws_FnExactDepthOf.f
  rw [sz_f l 1048576 (by omega) (by omega) hl]
  simp only [Option.bind_some]
  by_cases big : (1048576 : Int) < l.length
  · rw [if_pos big, if_pos (by omega)]
  rw [if_neg big, if_neg (by omega)]
  rw [toTask_f, toNodeS_f l (by omega) (k + 1) (by omega)]
  simp only [Option.bind_some]
  have hn : ∀ x ∈ l.map cv, Next16 x := by
    intro x hx
    obtain ⟨y, hy, rfl⟩ := List.mem_map.mp hx
    have h := hw y hy
    obtain ⟨-, -, -, -, -, -, -, -, -, -, -, -, -, -, b0, b1, b2, -⟩ := h
    exact ⟨i16_wf b0, i16_wf b1, i16_wf b2⟩
  obtain ⟨⟨v0, v1⟩, hv⟩ := depth_f (l.map cv) hn (by rw [List.length_map]; omega) c kd n g (i8_wf hc) (i8_wf hk)
  rw [(hv (k + 1) (by omega)).1, (hv (k + 1) (by omega)).2]
  simp only [Option.bind_some, if_true, bne_self_eq_false, laws_FnExactDepthOf.j0, Bool.false_eq_true, if_false]
  rw [toNodeS_f l (by omega) k (by omega)]
  simp only [Option.bind_some]
  rw [eqNodeS_f (l.map cv) (by rw [List.length_map]; omega) k (by omega)]
  rfl

end Go.Proofs.Ytmmonhpjjjdnjaa.Pure
