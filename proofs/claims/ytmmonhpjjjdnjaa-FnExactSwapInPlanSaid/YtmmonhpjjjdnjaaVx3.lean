-- Written by wip/tools/myprint.py.
import Derived.Test.YtmmonhpjjjdnjaaVx0
namespace Go.Proofs.Ytmmonhpjjjdnjaa.V
open Go.RowKit Go.Proofs.YtmmonhpjjjdnjaaW.PrintWords Go.Proofs.YtmmonhpjjjdnjaaW.PrintLast Go.Proofs.YtmmonhpjjjdnjaaW.PrintMore
attribute [local go_sem] zoa zqa zwa zva zia zga zra zpa
set_option linter.unusedVariables false
set_option linter.unusedSimpArgs false
theorem eqA52 (d : Nat) (w : World) (x0 y0 : Int) (x1 y1 : Int) (x2 y2 : Int) :
  (Op.equalIn (d + 2) 52 (.agg #[.int .i16 x0, .int .i16 x1, .int .i16 x2]) (.agg #[.int .i16 y0, .int .i16 y1, .int .i16 y2])).run Try.prog w = .ok (x0 == y0 && (x1 == y1 && (x2 == y2))) w := by
 obtain ⟨i, hi⟩ : ∃ i, Try.prog.info? 51 = some i := ⟨_, rfl⟩
 rw [run_equalIn_array w (d + 1) _ _ Try.underlying52 hi, show Try.prog.cellsOf 51 = 1 by kernel_rfl, show List.range 3 = [0, 1, 2] from rfl]
 refine zbb (by go_simp; rfl) (by go_simp; rfl) (by go_simp) ?_
 refine zbb (by go_simp; rfl) (by go_simp; rfl) (by go_simp) ?_
 exact zke (by go_simp; rfl) (by go_simp; rfl) (by go_simp)
end Go.Proofs.Ytmmonhpjjjdnjaa.V
