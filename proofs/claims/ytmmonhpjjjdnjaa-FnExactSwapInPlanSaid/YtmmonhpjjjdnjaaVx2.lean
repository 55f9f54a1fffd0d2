-- Written by wip/tools/myprint.py.
import Derived.Test.YtmmonhpjjjdnjaaVx0
namespace Go.Proofs.Ytmmonhpjjjdnjaa.V
open Go.RowKit Go.Proofs.YtmmonhpjjjdnjaaW.PrintWords Go.Proofs.YtmmonhpjjjdnjaaW.PrintLast Go.Proofs.YtmmonhpjjjdnjaaW.PrintMore
attribute [local go_sem] zoa zqa zwa zva zia zga zra zpa
set_option linter.unusedVariables false
set_option linter.unusedSimpArgs false
theorem eqA50 (d : Nat) (w : World) (x0 y0 : Int) (x1 y1 : Int) (x2 y2 : Int) (x3 y3 : Int) (x4 y4 : Int) (x5 y5 : Int) (x6 y6 : Int) (x7 y7 : Int) (x8 y8 : Int) (x9 y9 : Int) (x10 y10 : Int) (x11 y11 : Int) (x12 y12 : Int) (x13 y13 : Int) :
  (Op.equalIn (d + 2) 50 (.agg #[.int .i8 x0, .int .i8 x1, .int .i8 x2, .int .i8 x3, .int .i8 x4, .int .i8 x5, .int .i8 x6, .int .i8 x7, .int .i8 x8, .int .i8 x9, .int .i8 x10, .int .i8 x11, .int .i8 x12, .int .i8 x13]) (.agg #[.int .i8 y0, .int .i8 y1, .int .i8 y2, .int .i8 y3, .int .i8 y4, .int .i8 y5, .int .i8 y6, .int .i8 y7, .int .i8 y8, .int .i8 y9, .int .i8 y10, .int .i8 y11, .int .i8 y12, .int .i8 y13])).run Try.prog w = .ok (x0 == y0 && (x1 == y1 && (x2 == y2 && (x3 == y3 && (x4 == y4 && (x5 == y5 && (x6 == y6 && (x7 == y7 && (x8 == y8 && (x9 == y9 && (x10 == y10 && (x11 == y11 && (x12 == y12 && (x13 == y13)))))))))))))) w := by
 obtain ⟨i, hi⟩ : ∃ i, Try.prog.info? 22 = some i := ⟨_, rfl⟩
 rw [run_equalIn_array w (d + 1) _ _ Try.underlying50 hi, show Try.prog.cellsOf 22 = 1 by kernel_rfl, show List.range 14 = [0, 1, 2, 3, 4, 5, 6, 7, 8, 9, 10, 11, 12, 13] from rfl]
 refine zbb (by go_simp; rfl) (by go_simp; rfl) (by go_simp) ?_
 refine zbb (by go_simp; rfl) (by go_simp; rfl) (by go_simp) ?_
 refine zbb (by go_simp; rfl) (by go_simp; rfl) (by go_simp) ?_
 refine zbb (by go_simp; rfl) (by go_simp; rfl) (by go_simp) ?_
 refine zbb (by go_simp; rfl) (by go_simp; rfl) (by go_simp) ?_
 refine zbb (by go_simp; rfl) (by go_simp; rfl) (by go_simp) ?_
 refine zbb (by go_simp; rfl) (by go_simp; rfl) (by go_simp) ?_
 refine zbb (by go_simp; rfl) (by go_simp; rfl) (by go_simp) ?_
 refine zbb (by go_simp; rfl) (by go_simp; rfl) (by go_simp) ?_
 refine zbb (by go_simp; rfl) (by go_simp; rfl) (by go_simp) ?_
 refine zbb (by go_simp; rfl) (by go_simp; rfl) (by go_simp) ?_
 refine zbb (by go_simp; rfl) (by go_simp; rfl) (by go_simp) ?_
 refine zbb (by go_simp; rfl) (by go_simp; rfl) (by go_simp) ?_
 exact zke (by go_simp; rfl) (by go_simp; rfl) (by go_simp)
end Go.Proofs.Ytmmonhpjjjdnjaa.V
