-- Written by wip/tools/myprint.py.
import Derived.Test.YtmmonhpjjjdnjaaVx0
import Derived.Test.YtmmonhpjjjdnjaaLLoadV
namespace Go.Proofs.Ytmmonhpjjjdnjaa.V
open Go.RowKit Go.Proofs.YtmmonhpjjjdnjaaW.PrintWords Go.Proofs.YtmmonhpjjjdnjaaW.PrintLast Go.Proofs.YtmmonhpjjjdnjaaW.PrintMore
attribute [local go_sem] zoa zqa zwa zva zia zga zra zpa
set_option linter.unusedVariables false
set_option linter.unusedSimpArgs false
def laws_eqWeighing.l0 : Nat → Int → Int → Int → Int → Int → Int → Int → Int → Int → Int → Int → Int → Int → Int → Int → Int → Int → Int → Int → Int → Int → Int → Int → Int → Int → Int → Int → Int → Int → Option (Bool)
 | 0, _, _, _, _, _, _, _, _, _, _, _, _, _, _, _, _, _, _, _, _, _, _, _, _, _, _, _, _, _ => none
 | k + 1, x5, x326000, x326001, x326002, x326003, x326004, x326005, x326006, x326007, x326008, x326009, x326010, x326011, x326012, x326013, x327000, x327001, x327002, x327003, x327004, x327005, x327006, x327007, x327008, x327009, x327010, x327011, x327012, x327013 => if x5 < 14 then (if 0 ≤ x5 then (if (rd [x326000, x326001, x326002, x326003, x326004, x326005, x326006, x326007, x326008, x326009, x326010, x326011, x326012, x326013] x5) = (rd [x327000, x327001, x327002, x327003, x327004, x327005, x327006, x327007, x327008, x327009, x327010, x327011, x327012, x327013] x5) then (laws_eqWeighing.l0 k (wrap64 (x5 + 1)) x326000 x326001 x326002 x326003 x326004 x326005 x326006 x326007 x326008 x326009 x326010 x326011 x326012 x326013 x327000 x327001 x327002 x327003 x327004 x327005 x327006 x327007 x327008 x327009 x327010 x327011 x327012 x327013) else (some false)) else (none)) else (some true)
def laws_eqWeighing.f (k : Nat) (a0_0 : Int) (a0_1 : Int) (a0_2 : Int) (a0_3 : Int) (a0_4 : Int) (a0_5 : Int) (a0_6 : Int) (a0_7 : Int) (a0_8 : Int) (a0_9 : Int) (a0_10 : Int) (a0_11 : Int) (a0_12 : Int) (a0_13 : Int) (a1_0 : Int) (a1_1 : Int) (a1_2 : Int) (a1_3 : Int) (a1_4 : Int) (a1_5 : Int) (a1_6 : Int) (a1_7 : Int) (a1_8 : Int) (a1_9 : Int) (a1_10 : Int) (a1_11 : Int) (a1_12 : Int) (a1_13 : Int) : Option (Bool) := laws_eqWeighing.l0 k 0 a0_0 a0_1 a0_2 a0_3 a0_4 a0_5 a0_6 a0_7 a0_8 a0_9 a0_10 a0_11 a0_12 a0_13 a1_0 a1_1 a1_2 a1_3 a1_4 a1_5 a1_6 a1_7 a1_8 a1_9 a1_10 a1_11 a1_12 a1_13
set_option maxHeartbeats 8000000 in
set_option maxRecDepth 100000 in
theorem laws_eqWeighing.calls (k : Nat) (a0_0 : Int) (a0_1 : Int) (a0_2 : Int) (a0_3 : Int) (a0_4 : Int) (a0_5 : Int) (a0_6 : Int) (a0_7 : Int) (a0_8 : Int) (a0_9 : Int) (a0_10 : Int) (a0_11 : Int) (a0_12 : Int) (a0_13 : Int) (a1_0 : Int) (a1_1 : Int) (a1_2 : Int) (a1_3 : Int) (a1_4 : Int) (a1_5 : Int) (a1_6 : Int) (a1_7 : Int) (a1_8 : Int) (a1_9 : Int) (a1_10 : Int) (a1_11 : Int) (a1_12 : Int) (a1_13 : Int) (r : Bool) (w : World) (h : laws_eqWeighing.f k a0_0 a0_1 a0_2 a0_3 a0_4 a0_5 a0_6 a0_7 a0_8 a0_9 a0_10 a0_11 a0_12 a0_13 a1_0 a1_1 a1_2 a1_3 a1_4 a1_5 a1_6 a1_7 a1_8 a1_9 a1_10 a1_11 a1_12 a1_13 = some r) :
  Calls Try.prog 51 #[.agg #[.int .i8 a0_0, .int .i8 a0_1, .int .i8 a0_2, .int .i8 a0_3, .int .i8 a0_4, .int .i8 a0_5, .int .i8 a0_6, .int .i8 a0_7, .int .i8 a0_8, .int .i8 a0_9, .int .i8 a0_10, .int .i8 a0_11, .int .i8 a0_12, .int .i8 a0_13], .agg #[.int .i8 a1_0, .int .i8 a1_1, .int .i8 a1_2, .int .i8 a1_3, .int .i8 a1_4, .int .i8 a1_5, .int .i8 a1_6, .int .i8 a1_7, .int .i8 a1_8, .int .i8 a1_9, .int .i8 a1_10, .int .i8 a1_11, .int .i8 a1_12, .int .i8 a1_13]] w fun e w' => e = .returned (.bool r) ∧ Below w.heap.size w w' := by
 have hu50 := Try.underlying50
 have HB := zc.mk (Below.refl w.heap.size w)
 have H : (laws_eqWeighing.l0 k 0 a0_0 a0_1 a0_2 a0_3 a0_4 a0_5 a0_6 a0_7 a0_8 a0_9 a0_10 a0_11 a0_12 a0_13 a1_0 a1_1 a1_2 a1_3 a1_4 a1_5 a1_6 a1_7 a1_8 a1_9 a1_10 a1_11 a1_12 a1_13) = some r := h
 clear h
 have H' := zc.mk H
 clear H
 go_enter Try.func51, Try.ntmps51
 go_wp2_with (first | ((with_reducible refine zp (N := 2) rfl ?_); refine zr ?hg (N := 2) ?hd (cs := #[.int .i8 a0_0, .int .i8 a0_1, .int .i8 a0_2, .int .i8 a0_3, .int .i8 a0_4, .int .i8 a0_5, .int .i8 a0_6, .int .i8 a0_7, .int .i8 a0_8, .int .i8 a0_9, .int .i8 a0_10, .int .i8 a0_11, .int .i8 a0_12, .int .i8 a0_13]) (t := 50) ?hr ?_; (case hd => rfl); (case hg => rfl); (case hr => first | (go_simp; done) | (go_simp; rfl)); intro gb325 hg w3 hbox hb; obtain ⟨n0_, n2_⟩ := bx (by repeat (first | (with_reducible first | exact HB.out | apply ze | apply zb | apply zd) | exact HB.out)) hb hg; have n1_ := zc.mk (hbox); have n3_ := n2_; clear HB; have HB := n0_; have BK325 := n1_; have GW325 := n2_; have GE325 := n3_; clear n0_ n1_ n2_ n3_; clear hb hbox hg) | ((with_reducible refine zp (N := 3) rfl ?_); refine zr ?hg (N := 3) ?hd (cs := #[.int .i8 a1_0, .int .i8 a1_1, .int .i8 a1_2, .int .i8 a1_3, .int .i8 a1_4, .int .i8 a1_5, .int .i8 a1_6, .int .i8 a1_7, .int .i8 a1_8, .int .i8 a1_9, .int .i8 a1_10, .int .i8 a1_11, .int .i8 a1_12, .int .i8 a1_13]) (t := 50) ?hr ?_; (case hd => rfl); (case hg => rfl); (case hr => first | (go_simp; done) | (go_simp; rfl)); intro gb326 hg w4 hbox hb; have n0_ := zc.mk (zn (by (with_reducible repeat (first | refine zg ?_ _ | refine zi ?_ | refine zh ?_ _)); exact BK325.out) hb); obtain ⟨n1_, n3_⟩ := bx (by repeat (first | (with_reducible first | exact HB.out | apply ze | apply zb | apply zd | refine zf ?_ GE325.out) | exact HB.out)) hb hg; have n2_ := zc.mk (hbox); have n4_ := n3_; have n5_ := zc.mk ((by rw [hg]; exact Nat.ne_of_lt (zla (by (with_reducible repeat (first | refine zg ?_ _ | refine zi ?_ | refine zh ?_ _)); exact BK325.out)) : gb325 ≠ gb326)); have n6_ := zc.mk n5_.out.symm; clear BK325; clear HB; have BK325 := n0_; have HB := n1_; have BK326 := n2_; have GW326 := n3_; have GE326 := n4_; have NB325_326 := n5_; have NB326_325 := n6_; clear n0_ n1_ n2_ n3_ n4_ n5_ n6_; clear hb hbox hg))
 repeat (go_quiet (first | ((with_reducible refine zp (N := 2) rfl ?_); refine zr ?hg (N := 2) ?hd (cs := #[.int .i8 a0_0, .int .i8 a0_1, .int .i8 a0_2, .int .i8 a0_3, .int .i8 a0_4, .int .i8 a0_5, .int .i8 a0_6, .int .i8 a0_7, .int .i8 a0_8, .int .i8 a0_9, .int .i8 a0_10, .int .i8 a0_11, .int .i8 a0_12, .int .i8 a0_13]) (t := 50) ?hr ?_; (case hd => rfl); (case hg => rfl); (case hr => first | (go_simp; done) | (go_simp; rfl)); intro gb325 hg w3 hbox hb; obtain ⟨n0_, n2_⟩ := bx (by repeat (first | (with_reducible first | exact HB.out | apply ze | apply zb | apply zd) | exact HB.out)) hb hg; have n1_ := zc.mk (hbox); have n3_ := n2_; clear HB; have HB := n0_; have BK325 := n1_; have GW325 := n2_; have GE325 := n3_; clear n0_ n1_ n2_ n3_; clear hb hbox hg) | ((with_reducible refine zp (N := 3) rfl ?_); refine zr ?hg (N := 3) ?hd (cs := #[.int .i8 a1_0, .int .i8 a1_1, .int .i8 a1_2, .int .i8 a1_3, .int .i8 a1_4, .int .i8 a1_5, .int .i8 a1_6, .int .i8 a1_7, .int .i8 a1_8, .int .i8 a1_9, .int .i8 a1_10, .int .i8 a1_11, .int .i8 a1_12, .int .i8 a1_13]) (t := 50) ?hr ?_; (case hd => rfl); (case hg => rfl); (case hr => first | (go_simp; done) | (go_simp; rfl)); intro gb326 hg w4 hbox hb; have n0_ := zc.mk (zn (by (with_reducible repeat (first | refine zg ?_ _ | refine zi ?_ | refine zh ?_ _)); exact BK325.out) hb); obtain ⟨n1_, n3_⟩ := bx (by repeat (first | (with_reducible first | exact HB.out | apply ze | apply zb | apply zd | refine zf ?_ GE325.out) | exact HB.out)) hb hg; have n2_ := zc.mk (hbox); have n4_ := n3_; have n5_ := zc.mk ((by rw [hg]; exact Nat.ne_of_lt (zla (by (with_reducible repeat (first | refine zg ?_ _ | refine zi ?_ | refine zh ?_ _)); exact BK325.out)) : gb325 ≠ gb326)); have n6_ := zc.mk n5_.out.symm; clear BK325; clear HB; have BK325 := n0_; have HB := n1_; have BK326 := n2_; have GW326 := n3_; have GE326 := n4_; have NB325_326 := n5_; have NB326_325 := n6_; clear n0_ n1_ n2_ n3_ n4_ n5_ n6_; clear hb hbox hg)); try go_wp2_with (first | ((with_reducible refine zp (N := 2) rfl ?_); refine zr ?hg (N := 2) ?hd (cs := #[.int .i8 a0_0, .int .i8 a0_1, .int .i8 a0_2, .int .i8 a0_3, .int .i8 a0_4, .int .i8 a0_5, .int .i8 a0_6, .int .i8 a0_7, .int .i8 a0_8, .int .i8 a0_9, .int .i8 a0_10, .int .i8 a0_11, .int .i8 a0_12, .int .i8 a0_13]) (t := 50) ?hr ?_; (case hd => rfl); (case hg => rfl); (case hr => first | (go_simp; done) | (go_simp; rfl)); intro gb325 hg w3 hbox hb; obtain ⟨n0_, n2_⟩ := bx (by repeat (first | (with_reducible first | exact HB.out | apply ze | apply zb | apply zd) | exact HB.out)) hb hg; have n1_ := zc.mk (hbox); have n3_ := n2_; clear HB; have HB := n0_; have BK325 := n1_; have GW325 := n2_; have GE325 := n3_; clear n0_ n1_ n2_ n3_; clear hb hbox hg) | ((with_reducible refine zp (N := 3) rfl ?_); refine zr ?hg (N := 3) ?hd (cs := #[.int .i8 a1_0, .int .i8 a1_1, .int .i8 a1_2, .int .i8 a1_3, .int .i8 a1_4, .int .i8 a1_5, .int .i8 a1_6, .int .i8 a1_7, .int .i8 a1_8, .int .i8 a1_9, .int .i8 a1_10, .int .i8 a1_11, .int .i8 a1_12, .int .i8 a1_13]) (t := 50) ?hr ?_; (case hd => rfl); (case hg => rfl); (case hr => first | (go_simp; done) | (go_simp; rfl)); intro gb326 hg w4 hbox hb; have n0_ := zc.mk (zn (by (with_reducible repeat (first | refine zg ?_ _ | refine zi ?_ | refine zh ?_ _)); exact BK325.out) hb); obtain ⟨n1_, n3_⟩ := bx (by repeat (first | (with_reducible first | exact HB.out | apply ze | apply zb | apply zd | refine zf ?_ GE325.out) | exact HB.out)) hb hg; have n2_ := zc.mk (hbox); have n4_ := n3_; have n5_ := zc.mk ((by rw [hg]; exact Nat.ne_of_lt (zla (by (with_reducible repeat (first | refine zg ?_ _ | refine zi ?_ | refine zh ?_ _)); exact BK325.out)) : gb325 ≠ gb326)); have n6_ := zc.mk n5_.out.symm; clear BK325; clear HB; have BK325 := n0_; have HB := n1_; have BK326 := n2_; have GW326 := n3_; have GE326 := n4_; have NB325_326 := n5_; have NB326_325 := n6_; clear n0_ n1_ n2_ n3_ n4_ n5_ n6_; clear hb hbox hg)))
 go_loopg [5] k (fun kq v5 w' => ∃ (x5_1 : Int), v5 = .int .i64 x5_1 ∧ zc (laws_eqWeighing.l0 kq x5_1 a0_0 a0_1 a0_2 a0_3 a0_4 a0_5 a0_6 a0_7 a0_8 a0_9 a0_10 a0_11 a0_12 a0_13 a1_0 a1_1 a1_2 a1_3 a1_4 a1_5 a1_6 a1_7 a1_8 a1_9 a1_10 a1_11 a1_12 a1_13 = some r) ∧ zc (kq ≤ k) ∧ zc (w'.heap[gb325]? = some (.cells #[.int .i8 a0_0, .int .i8 a0_1, .int .i8 a0_2, .int .i8 a0_3, .int .i8 a0_4, .int .i8 a0_5, .int .i8 a0_6, .int .i8 a0_7, .int .i8 a0_8, .int .i8 a0_9, .int .i8 a0_10, .int .i8 a0_11, .int .i8 a0_12, .int .i8 a0_13] 50 (0, 0))) ∧ zc (w'.heap[gb326]? = some (.cells #[.int .i8 a1_0, .int .i8 a1_1, .int .i8 a1_2, .int .i8 a1_3, .int .i8 a1_4, .int .i8 a1_5, .int .i8 a1_6, .int .i8 a1_7, .int .i8 a1_8, .int .i8 a1_9, .int .i8 a1_10, .int .i8 a1_11, .int .i8 a1_12, .int .i8 a1_13] 50 (0, 0))) ∧ zc (Below w.heap.size w w'))
 case atStart => exact ⟨(0), (by first | rfl | (simp; done) | (simp [*]; done)), H', ⟨Nat.le_refl _⟩, ⟨by (with_reducible repeat (first | refine zg ?_ _ | refine zi ?_ | refine zh ?_ _)); exact BK325.out⟩, ⟨by (with_reducible repeat (first | refine zg ?_ _ | refine zi ?_ | refine zh ?_ _)); exact BK326.out⟩, ⟨by repeat (first | (with_reducible first | exact HB.out | apply ze | apply zb | apply zd | refine zf ?_ GE325.out | refine zf ?_ GE326.out) | exact HB.out)⟩⟩
 case round =>
  clear H'
  try clear p2
  obtain ⟨x5_1, rfl, HA, HK1, BK325, BK326, HB⟩ := hrel
  cases gk with
  | zero => exact absurd HA.out (by simp [laws_eqWeighing.l0])
  | succ k1 =>
   have H := HA.out
   clear HA
   simp only [laws_eqWeighing.l0] at H
   by_cases c5 : x5_1 < 14
   ·rw [if_pos c5] at H
    have c5b0 : decide (x5_1 < 14) = true := decide_eq_true c5
    clear c5
    by_cases c6 : 0 ≤ x5_1
    ·rw [if_pos c6] at H
     have c6b0 : decide (0 ≤ x5_1) = true := decide_eq_true c6
     clear c6
     by_cases c7 : (rd [a0_0, a0_1, a0_2, a0_3, a0_4, a0_5, a0_6, a0_7, a0_8, a0_9, a0_10, a0_11, a0_12, a0_13] x5_1) = (rd [a1_0, a1_1, a1_2, a1_3, a1_4, a1_5, a1_6, a1_7, a1_8, a1_9, a1_10, a1_11, a1_12, a1_13] x5_1)
     ·rw [if_pos c7] at H
      have c7b0 : ((rd [a0_0, a0_1, a0_2, a0_3, a0_4, a0_5, a0_6, a0_7, a0_8, a0_9, a0_10, a0_11, a0_12, a0_13] x5_1) == (rd [a1_0, a1_1, a1_2, a1_3, a1_4, a1_5, a1_6, a1_7, a1_8, a1_9, a1_10, a1_11, a1_12, a1_13] x5_1)) = true := beq_iff_eq.mpr c7
      have c7b1 : ((rd [a0_0, a0_1, a0_2, a0_3, a0_4, a0_5, a0_6, a0_7, a0_8, a0_9, a0_10, a0_11, a0_12, a0_13] x5_1) != (rd [a1_0, a1_1, a1_2, a1_3, a1_4, a1_5, a1_6, a1_7, a1_8, a1_9, a1_10, a1_11, a1_12, a1_13] x5_1)) = false := bne_eq_false_iff_eq.mpr c7
      clear c7
      have H' := zc.mk H
      clear H
      have p8 : 0 ≤ (x5_1 : Int) := od (by first | (with_reducible assumption) | assumption)
      have q8 : x5_1 < (14 : Int) := od (by first | (with_reducible assumption) | assumption)
      replace p8 := eq_true p8
      replace q8 := eq_true q8
      have hnb9 := NB325_326.out
      have hnc9 := NB326_325.out
      obtain ⟨y1_0, y1_1, y1_2, y1_3, y1_4, y1_5, y1_6, y1_7, y1_8, y1_9, y1_10, y1_11, y1_12, y1_13⟩ := cg14 BK325.out
      have u1_0 : wr.cell? ⟨gb325, (x5_1).toNat, none⟩ = some (.int .i8 (rd [a0_0, a0_1, a0_2, a0_3, a0_4, a0_5, a0_6, a0_7, a0_8, a0_9, a0_10, a0_11, a0_12, a0_13] x5_1)) := (zv BK325.out _).trans (by rcases (show (x5_1 : Int) = 0 ∨ (x5_1 : Int) = 1 ∨ (x5_1 : Int) = 2 ∨ (x5_1 : Int) = 3 ∨ (x5_1 : Int) = 4 ∨ (x5_1 : Int) = 5 ∨ (x5_1 : Int) = 6 ∨ (x5_1 : Int) = 7 ∨ (x5_1 : Int) = 8 ∨ (x5_1 : Int) = 9 ∨ (x5_1 : Int) = 10 ∨ (x5_1 : Int) = 11 ∨ (x5_1 : Int) = 12 ∨ (x5_1 : Int) = 13 by have hp_ : 0 ≤ (x5_1 : Int) := od (by first | (with_reducible assumption) | assumption); have hq_ : x5_1 < (14 : Int) := od (by first | (with_reducible assumption) | assumption); omega) with h_ | h_ | h_ | h_ | h_ | h_ | h_ | h_ | h_ | h_ | h_ | h_ | h_ | h_ <;> rw [h_] <;> rfl)
      have p12 : 0 ≤ (x5_1 : Int) := od (by first | (with_reducible assumption) | assumption)
      have q12 : x5_1 < (14 : Int) := od (by first | (with_reducible assumption) | assumption)
      replace p12 := eq_true p12
      replace q12 := eq_true q12
      obtain ⟨y2_0, y2_1, y2_2, y2_3, y2_4, y2_5, y2_6, y2_7, y2_8, y2_9, y2_10, y2_11, y2_12, y2_13⟩ := cg14 BK326.out
      have u2_0 : wr.cell? ⟨gb326, (x5_1).toNat, none⟩ = some (.int .i8 (rd [a1_0, a1_1, a1_2, a1_3, a1_4, a1_5, a1_6, a1_7, a1_8, a1_9, a1_10, a1_11, a1_12, a1_13] x5_1)) := (zv BK326.out _).trans (by rcases (show (x5_1 : Int) = 0 ∨ (x5_1 : Int) = 1 ∨ (x5_1 : Int) = 2 ∨ (x5_1 : Int) = 3 ∨ (x5_1 : Int) = 4 ∨ (x5_1 : Int) = 5 ∨ (x5_1 : Int) = 6 ∨ (x5_1 : Int) = 7 ∨ (x5_1 : Int) = 8 ∨ (x5_1 : Int) = 9 ∨ (x5_1 : Int) = 10 ∨ (x5_1 : Int) = 11 ∨ (x5_1 : Int) = 12 ∨ (x5_1 : Int) = 13 by have hp_ : 0 ≤ (x5_1 : Int) := od (by first | (with_reducible assumption) | assumption); have hq_ : x5_1 < (14 : Int) := od (by first | (with_reducible assumption) | assumption); omega) with h_ | h_ | h_ | h_ | h_ | h_ | h_ | h_ | h_ | h_ | h_ | h_ | h_ | h_ <;> rw [h_] <;> rfl)
      go_wp2
      repeat (go_quiet (fail); try go_wp2)
      go_roundg k1
      case measure => have := HK1.out; omega
      case rel => exact ⟨(wrap64 (x5_1 + 1)), (by first | rfl | (simp; done) | (simp [*]; done)), H', ⟨by have := HK1.out; omega⟩, ⟨by (with_reducible repeat (first | refine zg ?_ _ | refine zi ?_ | refine zh ?_ _)); exact BK325.out⟩, ⟨by (with_reducible repeat (first | refine zg ?_ _ | refine zi ?_ | refine zh ?_ _)); exact BK326.out⟩, ⟨by repeat (first | (with_reducible first | exact HB.out | apply ze | apply zb | apply zd | refine zf ?_ GE325.out | refine zf ?_ GE326.out) | exact HB.out)⟩⟩
     rw [if_neg c7] at H
     have c7b0 : ((rd [a0_0, a0_1, a0_2, a0_3, a0_4, a0_5, a0_6, a0_7, a0_8, a0_9, a0_10, a0_11, a0_12, a0_13] x5_1) == (rd [a1_0, a1_1, a1_2, a1_3, a1_4, a1_5, a1_6, a1_7, a1_8, a1_9, a1_10, a1_11, a1_12, a1_13] x5_1)) = false := beq_eq_false_iff_ne.mpr c7
     have c7b1 : ((rd [a0_0, a0_1, a0_2, a0_3, a0_4, a0_5, a0_6, a0_7, a0_8, a0_9, a0_10, a0_11, a0_12, a0_13] x5_1) != (rd [a1_0, a1_1, a1_2, a1_3, a1_4, a1_5, a1_6, a1_7, a1_8, a1_9, a1_10, a1_11, a1_12, a1_13] x5_1)) = true := bne_iff_ne.mpr c7
     obtain rfl := Option.some.inj H
     have p15 : 0 ≤ (x5_1 : Int) := od (by first | (with_reducible assumption) | assumption)
     have q15 : x5_1 < (14 : Int) := od (by first | (with_reducible assumption) | assumption)
     replace p15 := eq_true p15
     replace q15 := eq_true q15
     have hnb16 := NB325_326.out
     have hnc16 := NB326_325.out
     obtain ⟨y3_0, y3_1, y3_2, y3_3, y3_4, y3_5, y3_6, y3_7, y3_8, y3_9, y3_10, y3_11, y3_12, y3_13⟩ := cg14 BK325.out
     have u3_0 : wr.cell? ⟨gb325, (x5_1).toNat, none⟩ = some (.int .i8 (rd [a0_0, a0_1, a0_2, a0_3, a0_4, a0_5, a0_6, a0_7, a0_8, a0_9, a0_10, a0_11, a0_12, a0_13] x5_1)) := (zv BK325.out _).trans (by rcases (show (x5_1 : Int) = 0 ∨ (x5_1 : Int) = 1 ∨ (x5_1 : Int) = 2 ∨ (x5_1 : Int) = 3 ∨ (x5_1 : Int) = 4 ∨ (x5_1 : Int) = 5 ∨ (x5_1 : Int) = 6 ∨ (x5_1 : Int) = 7 ∨ (x5_1 : Int) = 8 ∨ (x5_1 : Int) = 9 ∨ (x5_1 : Int) = 10 ∨ (x5_1 : Int) = 11 ∨ (x5_1 : Int) = 12 ∨ (x5_1 : Int) = 13 by have hp_ : 0 ≤ (x5_1 : Int) := od (by first | (with_reducible assumption) | assumption); have hq_ : x5_1 < (14 : Int) := od (by first | (with_reducible assumption) | assumption); omega) with h_ | h_ | h_ | h_ | h_ | h_ | h_ | h_ | h_ | h_ | h_ | h_ | h_ | h_ <;> rw [h_] <;> rfl)
     have p19 : 0 ≤ (x5_1 : Int) := od (by first | (with_reducible assumption) | assumption)
     have q19 : x5_1 < (14 : Int) := od (by first | (with_reducible assumption) | assumption)
     replace p19 := eq_true p19
     replace q19 := eq_true q19
     obtain ⟨y4_0, y4_1, y4_2, y4_3, y4_4, y4_5, y4_6, y4_7, y4_8, y4_9, y4_10, y4_11, y4_12, y4_13⟩ := cg14 BK326.out
     have u4_0 : wr.cell? ⟨gb326, (x5_1).toNat, none⟩ = some (.int .i8 (rd [a1_0, a1_1, a1_2, a1_3, a1_4, a1_5, a1_6, a1_7, a1_8, a1_9, a1_10, a1_11, a1_12, a1_13] x5_1)) := (zv BK326.out _).trans (by rcases (show (x5_1 : Int) = 0 ∨ (x5_1 : Int) = 1 ∨ (x5_1 : Int) = 2 ∨ (x5_1 : Int) = 3 ∨ (x5_1 : Int) = 4 ∨ (x5_1 : Int) = 5 ∨ (x5_1 : Int) = 6 ∨ (x5_1 : Int) = 7 ∨ (x5_1 : Int) = 8 ∨ (x5_1 : Int) = 9 ∨ (x5_1 : Int) = 10 ∨ (x5_1 : Int) = 11 ∨ (x5_1 : Int) = 12 ∨ (x5_1 : Int) = 13 by have hp_ : 0 ≤ (x5_1 : Int) := od (by first | (with_reducible assumption) | assumption); have hq_ : x5_1 < (14 : Int) := od (by first | (with_reducible assumption) | assumption); omega) with h_ | h_ | h_ | h_ | h_ | h_ | h_ | h_ | h_ | h_ | h_ | h_ | h_ | h_ <;> rw [h_] <;> rfl)
     go_wp2
     repeat (go_quiet (fail); try go_wp2)
     go_ret
     exact ⟨by first | rfl | (simp [zj, zk] <;> rfl) | (simp [*, zj, zk] <;> rfl), by repeat (first | (with_reducible first | exact HB.out | apply ze | apply zb | apply zd | refine zf ?_ GE325.out | refine zf ?_ GE326.out) | exact HB.out)⟩
    rw [if_neg c6] at H
    exact absurd H (by simp)
   rw [if_neg c5] at H
   have c5b0 : decide (x5_1 < 14) = false := decide_eq_false c5
   clear c5
   obtain rfl := Option.some.inj H
   go_wp2
   repeat (go_quiet (fail); try go_wp2)
   go_ret
   exact ⟨by first | rfl | (simp [zj, zk] <;> rfl) | (simp [*, zj, zk] <;> rfl), by repeat (first | (with_reducible first | exact HB.out | apply ze | apply zb | apply zd | refine zf ?_ GE325.out | refine zf ?_ GE326.out) | exact HB.out)⟩
end Go.Proofs.Ytmmonhpjjjdnjaa.V
