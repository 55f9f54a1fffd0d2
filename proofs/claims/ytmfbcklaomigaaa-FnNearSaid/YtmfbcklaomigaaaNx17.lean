-- Written by wip/tools/myprint.py, a program of this session, by way of the kit's print.
import Derived.Test.YtmfbcklaomigaaaNx0
import Derived.Test.YtmfbcklaomigaaaLPrN
namespace Go.Proofs.Ytmfbcklaomigaaa.N
open Go.RowKit Go.Proofs.YtmfbcklaomigaaaW.PrintWords Go.Proofs.YtmfbcklaomigaaaW.PrintLast Go.Proofs.YtmfbcklaomigaaaW.PrintMore
attribute [local go_sem] zqa zpa zwa zxa zla zka zra zta   -- for this text's walks alone
set_option linter.unusedVariables false
set_option linter.unusedSimpArgs false

/-! ### spec_l04Opposite: function 105 -/
def spec_l04Opposite.l0 : Nat → Int → Int → Int → Int → Int → Option (Int × Int × Int × Int)
 | 0, _, _, _, _, _ => none
 | k + 1, x3, x335000, x335001, x335002, x335003 => if x3 < 4 then (if 0 ≤ x3 then (spec_l04Opposite.l0 k (wrap64 (x3 + 1)) (zu x3 0 (IntKind.i8.wrap (-(rd [x335000, x335001, x335002, x335003] x3))) x335000) (zu x3 1 (IntKind.i8.wrap (-(rd [x335000, x335001, x335002, x335003] x3))) x335001) (zu x3 2 (IntKind.i8.wrap (-(rd [x335000, x335001, x335002, x335003] x3))) x335002) (zu x3 3 (IntKind.i8.wrap (-(rd [x335000, x335001, x335002, x335003] x3))) x335003)) else (none)) else (some (x335000, x335001, x335002, x335003))
def spec_l04Opposite.f (k : Nat) (a0_0 : Int) (a0_1 : Int) (a0_2 : Int) (a0_3 : Int) : Option (Int × Int × Int × Int) := spec_l04Opposite.l0 k 0 a0_0 a0_1 a0_2 a0_3
set_option maxHeartbeats 8000000 in
set_option maxRecDepth 100000 in
theorem spec_l04Opposite.calls (k : Nat) (a0_0 : Int) (a0_1 : Int) (a0_2 : Int) (a0_3 : Int) (r1 : Int) (r2 : Int) (r3 : Int) (r4 : Int) (w : World) (h : spec_l04Opposite.f k a0_0 a0_1 a0_2 a0_3 = some (r1, r2, r3, r4)) :
  Calls Try.prog 105 #[.agg #[.int .i8 a0_0, .int .i8 a0_1, .int .i8 a0_2, .int .i8 a0_3]] w fun e w' => e = .returned (.agg #[.int .i8 r1, .int .i8 r2, .int .i8 r3, .int .i8 r4]) ∧ Below w.heap.size w w' := by
 have hu43 := Try.underlying43
 have HB := za.mk (Below.refl w.heap.size w)
 have H : (spec_l04Opposite.l0 k 0 a0_0 a0_1 a0_2 a0_3) = some (r1, r2, r3, r4) := h
 clear h
 have H' := za.mk H
 clear H
 go_enter Try.func105, Try.ntmps105
 go_wp2_with (first | ((with_reducible refine zn (N := 1) rfl ?_); refine bx (N := 1) #[.int .i8 a0_0, .int .i8 a0_1, .int .i8 a0_2, .int .i8 a0_3] 43 rfl ?_; intro gb334 hg w2 hbox hb; have BK334 := za.mk hbox; have GW334 := gB hg; have GE334 := GW334; replace HB := za.mk (ze sB hb); clear hb hbox hg) | ((with_reducible refine zn (N := 2) rfl ?_); refine bx (N := 2) #[.int .i8 0, .int .i8 0, .int .i8 0, .int .i8 0] 43 rfl ?_; intro gb335 hg w3 hbox hb; have BK335 := za.mk hbox; have GW335 := gB hg; have GE335 := GW335; have NB334_335 := nK hg BK334; have NB335_334 := za.mk NB334_335.out.symm; replace BK334 := dK BK334 hb; replace HB := za.mk (ze sB hb); clear hb hbox hg))
 go_loopg [3] k (fun kq v3 w' => ∃ (x3_1 : Int) (x335000_1 : Int) (x335001_1 : Int) (x335002_1 : Int) (x335003_1 : Int), v3 = .int .i64 x3_1 ∧ za (spec_l04Opposite.l0 kq x3_1 x335000_1 x335001_1 x335002_1 x335003_1 = some (r1, r2, r3, r4)) ∧ za (kq ≤ k) ∧ za (w'.heap[gb334]? = some (.cells #[.int .i8 x335000_1, .int .i8 x335001_1, .int .i8 x335002_1, .int .i8 x335003_1] 43 (0, 0))) ∧ za (w'.heap[gb335]? = some (.cells #[.int .i8 0, .int .i8 0, .int .i8 0, .int .i8 0] 43 (0, 0))) ∧ za (Below w.heap.size w w'))
 case atStart => exact ⟨(0), (a0_0), (a0_1), (a0_2), (a0_3), (by first | rfl | (simp; done) | (simp [*]; done)), H', ⟨Nat.le_refl _⟩, ⟨uK BK334⟩, ⟨uK BK335⟩, ⟨sB⟩⟩
 case round =>
  clear H'
  try clear c1
  try clear p2
  obtain ⟨x3_1, x335000_1, x335001_1, x335002_1, x335003_1, rfl, HA, HK1, BK334, BK335, HB⟩ := hrel
  cases gk with
  | zero => exact absurd HA.out (by simp [spec_l04Opposite.l0])
  | succ k1 =>
   have H := HA.out
   clear HA
   simp only [spec_l04Opposite.l0] at H
   by_cases c4 : x3_1 < 4
   ·rw [if_pos c4] at H
    have c4b0 : decide (x3_1 < 4) = true := decide_eq_true c4
    clear c4
    by_cases c5 : 0 ≤ x3_1
    ·rw [if_pos c5] at H
     have c5b0 : decide (0 ≤ x3_1) = true := decide_eq_true c5
     clear c5
     have H' := za.mk H
     clear H
     have p6 : 0 ≤ (x3_1 : Int) := of_decide_eq_true (by first | (with_reducible assumption) | assumption)
     have q6 : x3_1 < (4 : Int) := of_decide_eq_true (by first | (with_reducible assumption) | assumption)
     replace p6 := eq_true p6
     replace q6 := eq_true q6
     have hnb7 := NB334_335.out
     have hnc7 := NB335_334.out
     obtain ⟨hcz8_0, hcz8_1, hcz8_2, hcz8_3⟩ := xc4 BK334
     obtain ⟨hfz8_0, hfz8_1, hfz8_2, hfz8_3⟩ := xf4 BK334
     have hx9_0 : wr.cell? ⟨gb334, (x3_1).toNat, none⟩ = some (.int .i8 (rd [x335000_1, x335001_1, x335002_1, x335003_1] x3_1)) := (zh BK334.out _).trans (by rcases (show (x3_1 : Int) = 0 ∨ (x3_1 : Int) = 1 ∨ (x3_1 : Int) = 2 ∨ (x3_1 : Int) = 3 by have hp_ : 0 ≤ (x3_1 : Int) := of_decide_eq_true (by first | (with_reducible assumption) | assumption); have hq_ : x3_1 < (4 : Int) := of_decide_eq_true (by first | (with_reducible assumption) | assumption); omega) with h_ | h_ | h_ | h_ <;> rw [h_] <;> rfl)
     have p10 : 0 ≤ (x3_1 : Int) := of_decide_eq_true (by first | (with_reducible assumption) | assumption)
     have q10 : x3_1 < (4 : Int) := of_decide_eq_true (by first | (with_reducible assumption) | assumption)
     replace p10 := eq_true p10
     replace q10 := eq_true q10
     go_wp2_with (first | ((with_reducible refine zbb (t := 25) (p := 13) rfl ?_); have hx11_0 : wr.cell? ⟨gb334, (x3_1).toNat, none⟩ = some (.int .i8 (rd [x335000_1, x335001_1, x335002_1, x335003_1] x3_1)) := (zh BK334.out _).trans (by rcases (show (x3_1 : Int) = 0 ∨ (x3_1 : Int) = 1 ∨ (x3_1 : Int) = 2 ∨ (x3_1 : Int) = 3 by have hp_ : 0 ≤ (x3_1 : Int) := of_decide_eq_true (by first | (with_reducible assumption) | assumption); have hq_ : x3_1 < (4 : Int) := of_decide_eq_true (by first | (with_reducible assumption) | assumption); omega) with h_ | h_ | h_ | h_ <;> rw [h_] <;> rfl); have hfz11_0 := zaa BK334.out ((x3_1).toNat); refine zza (t := 25) (p := 13) (v := ?vo_w12) (w1 := (wr.setCell ⟨gb334, (x3_1).toNat, none⟩ (.int .i8 (IntKind.i8.wrap (-(rd [x335000_1, x335001_1, x335002_1, x335003_1] x3_1)))))) ?hg ?ho ?hn ?hr ?_; (case ho => rfl); (case hg => rfl); (case hn => rfl); (case hr => first | (go_simp; done) | (go_simp; rfl)); intro w12 hw; have n0_ : za (w12.heap[gb334]? = some (.cells #[.int .i8 (zu x3_1 0 (IntKind.i8.wrap (-(rd [x335000_1, x335001_1, x335002_1, x335003_1] x3_1))) x335000_1), .int .i8 (zu x3_1 1 (IntKind.i8.wrap (-(rd [x335000_1, x335001_1, x335002_1, x335003_1] x3_1))) x335001_1), .int .i8 (zu x3_1 2 (IntKind.i8.wrap (-(rd [x335000_1, x335001_1, x335002_1, x335003_1] x3_1))) x335002_1), .int .i8 (zu x3_1 3 (IntKind.i8.wrap (-(rd [x335000_1, x335001_1, x335002_1, x335003_1] x3_1))) x335003_1)] 43 (0, 0))) := ⟨(by rw [hw]; exact (by (with_reducible repeat (first | refine zc ?_ _ | refine zd ?_ | refine zb ?_ _)); refine zl (cs := #[.int .i8 x335000_1, .int .i8 x335001_1, .int .i8 x335002_1, .int .i8 x335003_1]) ?_ ((x3_1).toNat) _ (by rcases (show (x3_1 : Int) = 0 ∨ (x3_1 : Int) = 1 ∨ (x3_1 : Int) = 2 ∨ (x3_1 : Int) = 3 by have hp_ : 0 ≤ (x3_1 : Int) := of_decide_eq_true (by first | (with_reducible assumption) | assumption); have hq_ : x3_1 < (4 : Int) := of_decide_eq_true (by first | (with_reducible assumption) | assumption); omega) with h_ | h_ | h_ | h_ <;> rw [h_] <;> rfl); (with_reducible repeat (first | refine zc ?_ _ | refine zd ?_ | refine zb ?_ _)); exact BK334.out))⟩; have n1_ : za (w12.heap[gb335]? = some (.cells #[.int .i8 0, .int .i8 0, .int .i8 0, .int .i8 0] 43 (0, 0))) := ⟨(by rw [hw]; exact (by (with_reducible repeat (first | refine zc ?_ _ | refine zd ?_ | refine zb ?_ _)); refine zm ?_ NB335_334.out _; (with_reducible repeat (first | refine zc ?_ _ | refine zd ?_ | refine zb ?_ _)); exact BK335.out))⟩; have n2_ : za (Below w.heap.size w w12) := ⟨(by rw [hw]; exact sB)⟩; clear hw; clear BK334; clear BK335; clear HB; have BK334 := n0_; have BK335 := n1_; have HB := n2_; clear n0_ n1_ n2_))
     go_roundg k1
     case measure => have := HK1.out; omega
     case rel => exact ⟨(wrap64 (x3_1 + 1)), ((zu x3_1 0 (IntKind.i8.wrap (-(rd [x335000_1, x335001_1, x335002_1, x335003_1] x3_1))) x335000_1)), ((zu x3_1 1 (IntKind.i8.wrap (-(rd [x335000_1, x335001_1, x335002_1, x335003_1] x3_1))) x335001_1)), ((zu x3_1 2 (IntKind.i8.wrap (-(rd [x335000_1, x335001_1, x335002_1, x335003_1] x3_1))) x335002_1)), ((zu x3_1 3 (IntKind.i8.wrap (-(rd [x335000_1, x335001_1, x335002_1, x335003_1] x3_1))) x335003_1)), (by first | rfl | (simp; done) | (simp [*]; done)), H', ⟨by have := HK1.out; omega⟩, ⟨uK BK334⟩, ⟨uK BK335⟩, ⟨sB⟩⟩
    rw [if_neg c5] at H
    exact absurd H (by simp)
   rw [if_neg c4] at H
   have c4b0 : decide (x3_1 < 4) = false := decide_eq_false c4
   clear c4
   simp only [Option.some.injEq, Prod.mk.injEq] at H
   obtain ⟨rfl, rfl, rfl, rfl⟩ := H
   have hnb13 := NB334_335.out
   have hnc13 := NB335_334.out
   obtain ⟨hcz14_0, hcz14_1, hcz14_2, hcz14_3⟩ := xc4 BK334
   obtain ⟨hfz14_0, hfz14_1, hfz14_2, hfz14_3⟩ := xf4 BK334
   obtain ⟨hcz15_0, hcz15_1, hcz15_2, hcz15_3⟩ := xc4 BK335
   obtain ⟨hfz15_0, hfz15_1, hfz15_2, hfz15_3⟩ := xf4 BK335
   go_wp2
   refine bodyPost_ret (results_cell_row rfl _ _ gb335 43 #[.int .i8 x335000_1, .int .i8 x335001_1, .int .i8 x335002_1, .int .i8 x335003_1] (0, 0) _ rfl (by (with_reducible repeat (first | refine zc ?_ _ | refine zd ?_ | refine zb ?_ _)); refine zl (cs := #[.int .i8 x335000_1, .int .i8 x335001_1, .int .i8 x335002_1, .int .i8 0]) ?_ 3 _ rfl; (with_reducible repeat (first | refine zc ?_ _ | refine zd ?_ | refine zb ?_ _)); refine zl (cs := #[.int .i8 x335000_1, .int .i8 x335001_1, .int .i8 0, .int .i8 0]) ?_ 2 _ rfl; (with_reducible repeat (first | refine zc ?_ _ | refine zd ?_ | refine zb ?_ _)); refine zl (cs := #[.int .i8 x335000_1, .int .i8 0, .int .i8 0, .int .i8 0]) ?_ 1 _ rfl; (with_reducible repeat (first | refine zc ?_ _ | refine zd ?_ | refine zb ?_ _)); refine zl (cs := #[.int .i8 0, .int .i8 0, .int .i8 0, .int .i8 0]) ?_ 0 _ rfl; (with_reducible repeat (first | refine zc ?_ _ | refine zd ?_ | refine zb ?_ _)); exact BK335.out) Try.underlying43 rfl (by kernel_rfl)) rfl ?_
   exact ⟨by first | rfl | (simp [zk, zj] <;> rfl) | (simp [*, zk, zj] <;> rfl), sB⟩

end Go.Proofs.Ytmfbcklaomigaaa.N
