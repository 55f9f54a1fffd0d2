/- Proved: the program's SwapInPlan answers as the reference's for every task, plan and two coins. No conditions. -/
import Derived.Test.YtmmonhpjjjdnjaaLPBaseV
import Derived.Test.YtmmonhpjjjdnjaaLPPlanV
import Derived.Test.YtmmonhpjjjdnjaaLPSwapV
import Derived.Test.YtmmonhpjjjdnjaaLPWeighV
import Derived.Test.YtmmonhpjjjdnjaaSFnExactSwapInPlan
namespace Go.Proofs.Ytmmonhpjjjdnjaa.Pure
open Go.RowKit Go.Proofs.Ytmmonhpjjjdnjaa.V Go.Proofs.YtmmonhpjjjdnjaaW.PrintWords Go.Proofs.YtmmonhpjjjdnjaaW.PrintLast Go.Proofs.YtmmonhpjjjdnjaaW.PrintMore
set_option linter.unusedVariables false
set_option linter.unusedSimpArgs false
theorem zie (a b : Int) (c d : Bool) : laws_toTask.f a b c d = some (a, b, c, d) := rfl
theorem FnExactSwapInPlan : laws_FnExactSwapInPlan.Pure := by
  intro c kd n g l i q hc hk hl hw hi hq
  obtain ⟨k, hK⟩ : ∃ k : Nat, 30000000 ≤ k := ⟨30000000, Nat.le_refl _⟩
  refine ⟨k + 1 + 1 + 1, ?_⟩
  unfold laws_FnExactSwapInPlan.f
  rw [sz_f l 1048576 (by omega) (by omega) hl]
  simp only [Option.bind_some]
  by_cases big : (1048576 : Int) < l.length
  · rw [if_pos big, if_pos (by omega)]
  rw [if_neg big, if_neg (by omega)]
  rw [zie, zdd l (by omega) (k + 1 + 1 + 1) (by omega)]
  simp only [Option.bind_some]
  have hn : ∀ x ∈ l.map cv, zxc x := by
    intro x hx
    obtain ⟨y, hy, rfl⟩ := List.mem_map.mp hx
    have h := hw y hy
    obtain ⟨-, -, -, -, -, -, -, -, -, -, -, -, -, -, b0, b1, b2, -⟩ := h
    exact ⟨i16_wf b0, i16_wf b1, i16_wf b2⟩
  obtain ⟨⟨m, v1⟩, hm, hv⟩ := swap_f (l.map cv) hn (by rw [List.length_map]; omega) c kd n g (i8_wf hc) (i8_wf hk) i q
  have hm' : m.length ≤ 400 := hm
  have hL : (l.map cv).length ≤ 1048576 := by rw [List.length_map]; omega
  rw [(hv (k + 1 + 1 + 1) (by omega)).1, (hv (k + 1 + 1 + 1) (by omega)).2]
  simp only [Option.bind_some]
  rw [zoc m (by omega) (k + 1 + 1 + 1) (by omega)]
  simp only [Option.bind_some, if_true, bne_self_eq_false, laws_FnExactSwapInPlan.j0, Bool.false_eq_true, if_false]
  rw [zdd l (by omega) (k + 1 + 1) (by omega)]
  simp only [Option.bind_some]
  rw [zoc (l.map cv) hL (k + 1 + 1) (by omega)]
  simp only [Option.bind_some, if_true]
  rw [mark_f (l.map cv) (by omega) (k + 1 + 1) (by omega)]
  simp only [Option.bind_some]
  rw [if_neg (by omega), zoc m (by omega) (k + 1 + 1) (by omega)]
  simp only [Option.bind_some, if_true, laws_FnExactSwapInPlan.j1, Bool.false_eq_true, if_false]
  rw [mark_f m (by omega) (k + 1) (by omega)]
  simp only [Option.bind_some]
  rw [held_f m.length (by omega) (k + 1) (by omega)]
  simp only [Option.bind_some]
  rw [if_neg (by omega), if_pos trivial, zie, zdd l (by omega) (k + 1) (by omega)]
  simp only [Option.bind_some]
  rw [(hv (k + 1) (by omega)).2]
  simp only [Option.bind_some]
  rw [zoc m (by omega) (k + 1) (by omega)]
  simp only [Option.bind_some, if_true, bne_self_eq_false, laws_FnExactSwapInPlan.j2, Bool.false_eq_true, if_false]
  rw [held_f m.length (by omega) k (by omega)]
  simp only [Option.bind_some]
  rw [if_neg (by omega), if_pos trivial]
end Go.Proofs.Ytmmonhpjjjdnjaa.Pure
