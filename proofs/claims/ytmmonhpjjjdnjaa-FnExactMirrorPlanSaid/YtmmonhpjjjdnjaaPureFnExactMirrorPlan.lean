/- Proved: the program's MirrorPlan answers as the reference's for every task and plan. No conditions. -/
import Derived.Test.YtmmonhpjjjdnjaaLPBaseY
import Derived.Test.YtmmonhpjjjdnjaaLPMirrorY
import Derived.Test.YtmmonhpjjjdnjaaLPPlanY
import Derived.Test.YtmmonhpjjjdnjaaLPWeighY
import Derived.Test.YtmmonhpjjjdnjaaSFnExactMirrorPlan
namespace Go.Proofs.Ytmmonhpjjjdnjaa.Pure
open Go.RowKit Go.Proofs.Ytmmonhpjjjdnjaa.Y Go.Proofs.YtmmonhpjjjdnjaaW.PrintWords Go.Proofs.YtmmonhpjjjdnjaaW.PrintLast Go.Proofs.YtmmonhpjjjdnjaaW.PrintMore
set_option linter.unusedVariables false
set_option linter.unusedSimpArgs false

theorem toTask_f (a b : Int) (c d : Bool) : laws_toTask.f a b c d = some (a, b, c, d) := rfl
theorem FnExactMirrorPlan : laws_FnExactMirrorPlan.Pure := by
  intro c kd n g l hc hk hl hw
  obtain ⟨k, hK⟩ : ∃ k : Nat, 30000000 ≤ k := ⟨30000000, Nat.le_refl _⟩
  refine ⟨k + 1 + 1 + 1, ?_⟩
  unfold laws_FnExactMirrorPlan.f
  rw [sz_f l 1048576 (by omega) (by omega) hl]
  simp only [Option.bind_some]
  by_cases big : (1048576 : Int) < l.length
  · rw [if_pos big, if_pos (by omega)]
  rw [if_neg big, if_neg (by omega)]
  rw [toTask_f, toNodeS_f l (by omega) (k + 1 + 1 + 1) (by omega)]
  simp only [Option.bind_some]
  have hn : ∀ x ∈ l.map cv, Next16 x := by
    intro x hx
    obtain ⟨y, hy, rfl⟩ := List.mem_map.mp hx
    have h := hw y hy
    obtain ⟨-, -, -, -, -, -, -, -, -, -, -, -, -, -, b0, b1, b2, -⟩ := h
    exact ⟨i16_wf b0, i16_wf b1, i16_wf b2⟩
  obtain ⟨⟨m, v1⟩, hm, hv⟩ := mirror_f (l.map cv) hn (by rw [List.length_map]; omega) c kd n g (i8_wf hc) (i8_wf hk)
  have hm' : m.length ≤ 400 := hm
  have hL : (l.map cv).length ≤ 1048576 := by rw [List.length_map]; omega
  rw [(hv (k + 1 + 1 + 1) (by omega)).1, (hv (k + 1 + 1 + 1) (by omega)).2]
  simp only [Option.bind_some]
  rw [eqNodeS_f m (by omega) (k + 1 + 1 + 1) (by omega)]
  simp only [Option.bind_some, if_true, bne_self_eq_false, laws_FnExactMirrorPlan.j0, Bool.false_eq_true, if_false]
  rw [toNodeS_f l (by omega) (k + 1 + 1) (by omega)]
  simp only [Option.bind_some]
  rw [eqNodeS_f (l.map cv) hL (k + 1 + 1) (by omega)]
  simp only [Option.bind_some, if_true]
  rw [mark_f (l.map cv) (by omega) (k + 1 + 1) (by omega)]
  simp only [Option.bind_some]
  rw [if_neg (by omega), eqNodeS_f m (by omega) (k + 1 + 1) (by omega)]
  simp only [Option.bind_some, if_true, laws_FnExactMirrorPlan.j1, Bool.false_eq_true, if_false]
  rw [mark_f m (by omega) (k + 1) (by omega)]
  simp only [Option.bind_some]
  rw [held_f m.length (by omega) (k + 1) (by omega)]
  simp only [Option.bind_some]
  rw [if_neg (by omega), if_pos trivial, toTask_f, toNodeS_f l (by omega) (k + 1) (by omega)]
  simp only [Option.bind_some]
  rw [(hv (k + 1) (by omega)).2]
  simp only [Option.bind_some]
  rw [eqNodeS_f m (by omega) (k + 1) (by omega)]
  simp only [Option.bind_some, if_true, bne_self_eq_false, laws_FnExactMirrorPlan.j2, Bool.false_eq_true, if_false]
  rw [held_f m.length (by omega) k (by omega)]
  simp only [Option.bind_some]
  rw [if_neg (by omega), if_pos trivial]

end Go.Proofs.Ytmmonhpjjjdnjaa.Pure
