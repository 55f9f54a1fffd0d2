/- Proved: the program's TreeOf answers as the reference's for every fixed plan; what it gives back is its own. No conditions. -/
import Derived.Test.YtmfbcklaomigaaaLTBase
import Derived.Test.YtmfbcklaomigaaaLTMark
import Derived.Test.YtmfbcklaomigaaaLTOk
import Derived.Test.YtmfbcklaomigaaaLTTree
import Derived.Test.YtmfbcklaomigaaaSFnExactTreeOf
namespace Go.Proofs.Ytmfbcklaomigaaa.Pure
open Go.RowKit Go.Proofs.Ytmfbcklaomigaaa.M Go.Proofs.YtmfbcklaomigaaaW.PrintWords Go.Proofs.YtmfbcklaomigaaaW.PrintLast Go.Proofs.YtmfbcklaomigaaaW.PrintMore
set_option linter.unusedVariables false
set_option linter.unusedSimpArgs false
theorem FnExactTreeOf : laws_FnExactTreeOf.Pure := by
  intro a kd l hc hk hl _
  obtain ⟨k, hK⟩ : ∃ k : Nat, 30000000 ≤ k := ⟨30000000, Nat.le_refl _⟩
  refine ⟨k + 1 + 1 + 1, ?_⟩
  unfold laws_FnExactTreeOf.f
  rw [szFixed_f a kd l 1048576 (by omega) (by omega) hl]
  simp only [Option.bind_some]
  by_cases big : (1048576 : Int) < l.length
  · rw [if_pos big, if_pos (by omega)]
  rw [if_neg big, if_neg (by omega)]
  rw [zhd a kd l (by omega) (k + 1 + 1 + 1) (by omega)]
  simp only [Option.bind_some]
  obtain ⟨⟨m, v1⟩, hm, hv⟩ := tree_f (i8_wf hc) (i8_wf hk) (l.map cw)
  have hm' : m.length ≤ 3000 := hm
  have hL : (l.map cw).length ≤ 1048576 := by rw [List.length_map]; omega
  rw [(hv (k + 1 + 1 + 1) (by omega)).1, (hv (k + 1 + 1 + 1) (by omega)).2]
  simp only [Option.bind_some]
  rw [zld m (by omega) (k + 1 + 1 + 1) (by omega)]
  simp only [Option.bind_some, if_true, bne_self_eq_false, laws_FnExactTreeOf.j0, Bool.false_eq_true, if_false]
  rw [zhd a kd l (by omega) (k + 1 + 1) (by omega)]
  simp only [Option.bind_some]
  rw [eqFixed_f a kd (l.map cw) hL (k + 1 + 1) (by omega)]
  simp only [Option.bind_some, if_true]
  obtain ⟨l', ml⟩ := zve a kd (l.map cw) (by omega) (k + 1 + 1) (by omega)
  rw [ml]
  simp only [Option.bind_some]
  rw [if_neg (by omega), zld m (by omega) (k + 1 + 1) (by omega)]
  simp only [Option.bind_some, if_true, laws_FnExactTreeOf.j1, Bool.false_eq_true, if_false]
  rw [mark_f m (by omega) (k + 1) (by omega)]
  simp only [Option.bind_some]
  rw [held_f m.length (by omega) (k + 1) (by omega)]
  simp only [Option.bind_some]
  rw [if_neg (by omega), if_pos trivial, zhd a kd l (by omega) (k + 1) (by omega)]
  simp only [Option.bind_some]
  rw [(hv (k + 1) (by omega)).2]
  simp only [Option.bind_some]
  rw [zld m (by omega) (k + 1) (by omega)]
  simp only [Option.bind_some, if_true, bne_self_eq_false, laws_FnExactTreeOf.j2, Bool.false_eq_true, if_false]
  rw [held_f m.length (by omega) k (by omega)]
  simp only [Option.bind_some]
  rw [if_neg (by omega), if_pos trivial]
end Go.Proofs.Ytmfbcklaomigaaa.Pure
