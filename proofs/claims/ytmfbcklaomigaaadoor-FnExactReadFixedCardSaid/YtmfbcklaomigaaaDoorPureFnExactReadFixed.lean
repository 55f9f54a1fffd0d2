/- Proved: the program's ReadFixed answers as the reference's for every text; what it gives back is its own. No conditions. -/
import Derived.Test.YtmfbcklaomigaaaDoorDx16
import Derived.Test.YtmfbcklaomigaaaDoorLRBaseD
import Derived.Test.YtmfbcklaomigaaaDoorLRKindD
import Derived.Test.YtmfbcklaomigaaaDoorLRMarkD
import Derived.Test.YtmfbcklaomigaaaDoorLROkD
import Derived.Test.YtmfbcklaomigaaaDoorLRReadD
import Derived.Test.YtmfbcklaomigaaaDoorLRSplitD
import Derived.Test.YtmfbcklaomigaaaDoorWSized
namespace Go.Proofs.YtmfbcklaomigaaaDoor.Pure
open Go.RowKit Go.Proofs.YtmfbcklaomigaaaDoor.D Go.Proofs.YtmfbcklaomigaaaDoorW.PrintWords Go.Proofs.YtmfbcklaomigaaaDoorW.PrintLast Go.Proofs.YtmfbcklaomigaaaDoorW.PrintMore
set_option linter.unusedVariables false
set_option linter.unusedSimpArgs false

theorem FnExactReadFixed : laws_FnExactReadFixed.Pure := by
  intro s _
  obtain ⟨k, hK⟩ : ∃ k : Nat, 30000000 ≤ k := ⟨30000000, Nat.le_refl _⟩
  refine ⟨k + 1 + 1, ?_⟩
  unfold laws_FnExactReadFixed.f
  by_cases big : (s.size : Int) > 1048576
  · rw [if_pos big]
  have hs : s.size ≤ 1048576 := by omega
  rw [if_neg big, sread_f s hs (k + 1 + 1) (by omega), iread_f s hs (k + 1 + 1) (by omega)]
  simp only [Option.bind_some]
  have hl : (readR s).2.2.1.length ≤ 1048576 := bodyR_len _ _ (by have := pcs_len s; rw [List.length_drop]; omega)
  obtain ⟨⟨a, kd, l, c⟩, hr⟩ : ∃ v, v = readR s := ⟨_, rfl⟩
  rw [← hr] at hl ⊢
  dsimp only at hl ⊢
  rw [eqFixed_f a kd l hl (k + 1 + 1) (by omega)]
  simp only [Option.bind_some, if_true, bne_self_eq_false, laws_FnExactReadFixed.j0, Bool.false_eq_true, if_false]
  rw [markFixed_f a kd l hl (k + 1) (by omega)]
  simp only [Option.bind_some]
  rw [heldFixed_f a kd l.length hl (k + 1) (by omega)]
  simp only [Option.bind_some]
  rw [if_neg (by omega), if_pos trivial, iread_f s hs (k + 1) (by omega), ← hr]
  simp only [Option.bind_some]
  rw [eqFixed_f a kd l hl (k + 1) (by omega)]
  simp only [Option.bind_some, if_true, bne_self_eq_false, laws_FnExactReadFixed.j1, Bool.false_eq_true, if_false]
  rw [heldFixed_f a kd l.length hl k (by omega)]
  simp only [Option.bind_some]
  rw [if_neg (by omega), if_pos trivial]

end Go.Proofs.YtmfbcklaomigaaaDoor.Pure
namespace Go.Proofs.YtmfbcklaomigaaaDoor.PrintWords
/-- The printed row names this theorem by the name that it bears outside of OWN=1. -/
abbrev sized_ints := @Go.Proofs.YtmfbcklaomigaaaDoorW.PrintWords.sized_ints
end Go.Proofs.YtmfbcklaomigaaaDoor.PrintWords
