-- Written by wip/tools/myprint.py.
import Derived.Test.YtmmonhpjjjdnjaaVx0
import Derived.Test.YtmmonhpjjjdnjaaLLoadV
import Derived.Test.YtmmonhpjjjdnjaaVx14
namespace Go.Proofs.Ytmmonhpjjjdnjaa.V
open Go.RowKit Go.Proofs.YtmmonhpjjjdnjaaW.PrintWords Go.Proofs.YtmmonhpjjjdnjaaW.PrintLast Go.Proofs.YtmmonhpjjjdnjaaW.PrintMore
attribute [local go_sem] zoa zqa zwa zva zia zga zra zpa
set_option linter.unusedVariables false
set_option linter.unusedSimpArgs false
def spec_l03Weighing.l0 : Nat → Int → Int → Int → Int → Bool → Bool → Int → Int → Int → Int → Int → Int → Int → Int → Int → Int → Int → Int → Int → Int → Option (Bool)
 | 0, _, _, _, _, _, _, _, _, _, _, _, _, _, _, _, _, _, _, _, _ => none
 | k + 1, x5, x6, x128000, x128001, x128002, x128003, x129000, x129001, x129002, x129003, x129004, x129005, x129006, x129007, x129008, x129009, x129010, x129011, x129012, x129013 => if x6 < 14 then (if 0 ≤ x6 then (if (rd [x129000, x129001, x129002, x129003, x129004, x129005, x129006, x129007, x129008, x129009, x129010, x129011, x129012, x129013] x6) < (-1) then (some false) else (if (rd [x129000, x129001, x129002, x129003, x129004, x129005, x129006, x129007, x129008, x129009, x129010, x129011, x129012, x129013] x6) > 1 then (some false) else (if (rd [x129000, x129001, x129002, x129003, x129004, x129005, x129006, x129007, x129008, x129009, x129010, x129011, x129012, x129013] x6) = 0 then (spec_l03Weighing.l0 k (wrap64 (x5 + (wrap64 (rd [x129000, x129001, x129002, x129003, x129004, x129005, x129006, x129007, x129008, x129009, x129010, x129011, x129012, x129013] x6)))) (wrap64 (x6 + 1)) x128000 x128001 x128002 x128003 x129000 x129001 x129002 x129003 x129004 x129005 x129006 x129007 x129008 x129009 x129010 x129011 x129012 x129013) else ((spec_l03There.f x128000 x128001 x128002 x128003 x6).bind fun t137 => (if t137 = true then (spec_l03Weighing.l0 k (wrap64 (x5 + (wrap64 (rd [x129000, x129001, x129002, x129003, x129004, x129005, x129006, x129007, x129008, x129009, x129010, x129011, x129012, x129013] x6)))) (wrap64 (x6 + 1)) x128000 x128001 x128002 x128003 x129000 x129001 x129002 x129003 x129004 x129005 x129006 x129007 x129008 x129009 x129010 x129011 x129012 x129013) else (some false)))))) else (none)) else (some (x5 == 0))
def spec_l03Weighing.f (k : Nat) (a0_0 : Int) (a0_1 : Int) (a0_2 : Bool) (a0_3 : Bool) (a1_0 : Int) (a1_1 : Int) (a1_2 : Int) (a1_3 : Int) (a1_4 : Int) (a1_5 : Int) (a1_6 : Int) (a1_7 : Int) (a1_8 : Int) (a1_9 : Int) (a1_10 : Int) (a1_11 : Int) (a1_12 : Int) (a1_13 : Int) : Option (Bool) := spec_l03Weighing.l0 k 0 0 a0_0 a0_1 a0_2 a0_3 a1_0 a1_1 a1_2 a1_3 a1_4 a1_5 a1_6 a1_7 a1_8 a1_9 a1_10 a1_11 a1_12 a1_13
set_option maxHeartbeats 8000000 in
set_option maxRecDepth 100000 in
theorem spec_l03Weighing.calls (k : Nat) (a0_0 : Int) (a0_1 : Int) (a0_2 : Bool) (a0_3 : Bool) (a1_0 : Int) (a1_1 : Int) (a1_2 : Int) (a1_3 : Int) (a1_4 : Int) (a1_5 : Int) (a1_6 : Int) (a1_7 : Int) (a1_8 : Int) (a1_9 : Int) (a1_10 : Int) (a1_11 : Int) (a1_12 : Int) (a1_13 : Int) (r : Bool) (w : World) (h : spec_l03Weighing.f k a0_0 a0_1 a0_2 a0_3 a1_0 a1_1 a1_2 a1_3 a1_4 a1_5 a1_6 a1_7 a1_8 a1_9 a1_10 a1_11 a1_12 a1_13 = some r) :
  Calls Try.prog 55 #[.agg #[.int .i8 a0_0, .int .i8 a0_1, .bool a0_2, .bool a0_3], .agg #[.int .i8 a1_0, .int .i8 a1_1, .int .i8 a1_2, .int .i8 a1_3, .int .i8 a1_4, .int .i8 a1_5, .int .i8 a1_6, .int .i8 a1_7, .int .i8 a1_8, .int .i8 a1_9, .int .i8 a1_10, .int .i8 a1_11, .int .i8 a1_12, .int .i8 a1_13]] w fun e w' => e = .returned (.bool r) ∧ Below w.heap.size w w' := by
 have hu29 := Try.underlying29
 have hu50 := Try.underlying50
 have HB := zc.mk (Below.refl w.heap.size w)
 have H : (spec_l03Weighing.l0 k 0 0 a0_0 a0_1 a0_2 a0_3 a1_0 a1_1 a1_2 a1_3 a1_4 a1_5 a1_6 a1_7 a1_8 a1_9 a1_10 a1_11 a1_12 a1_13) = some r := h
 clear h
 have H' := zc.mk H
 clear H
 go_enter Try.func55, Try.ntmps55
 go_wp2_with (first | ((with_reducible refine zp (N := 2) rfl ?_); refine zr ?hg (N := 2) ?hd (cs := #[.int .i8 a0_0, .int .i8 a0_1, .bool a0_2, .bool a0_3]) (t := 29) ?hr ?_; (case hd => rfl); (case hg => rfl); (case hr => first | (go_simp; done) | (go_simp; rfl)); intro gb127 hg w3 hbox hb; obtain ⟨n0_, n2_⟩ := bx (by repeat (first | (with_reducible first | exact HB.out | apply ze | apply zb | apply zd) | exact HB.out)) hb hg; have n1_ := zc.mk (hbox); have n3_ := n2_; clear HB; have HB := n0_; have BK127 := n1_; have GW127 := n2_; have GE127 := n3_; clear n0_ n1_ n2_ n3_; clear hb hbox hg) | ((with_reducible refine zp (N := 3) rfl ?_); refine zr ?hg (N := 3) ?hd (cs := #[.int .i8 a1_0, .int .i8 a1_1, .int .i8 a1_2, .int .i8 a1_3, .int .i8 a1_4, .int .i8 a1_5, .int .i8 a1_6, .int .i8 a1_7, .int .i8 a1_8, .int .i8 a1_9, .int .i8 a1_10, .int .i8 a1_11, .int .i8 a1_12, .int .i8 a1_13]) (t := 50) ?hr ?_; (case hd => rfl); (case hg => rfl); (case hr => first | (go_simp; done) | (go_simp; rfl)); intro gb128 hg w4 hbox hb; have n0_ := zc.mk (zn (by (with_reducible repeat (first | refine zg ?_ _ | refine zi ?_ | refine zh ?_ _)); exact BK127.out) hb); obtain ⟨n1_, n3_⟩ := bx (by repeat (first | (with_reducible first | exact HB.out | apply ze | apply zb | apply zd | refine zf ?_ GE127.out) | exact HB.out)) hb hg; have n2_ := zc.mk (hbox); have n4_ := n3_; have n5_ := zc.mk ((by rw [hg]; exact Nat.ne_of_lt (zla (by (with_reducible repeat (first | refine zg ?_ _ | refine zi ?_ | refine zh ?_ _)); exact BK127.out)) : gb127 ≠ gb128)); have n6_ := zc.mk n5_.out.symm; clear BK127; clear HB; have BK127 := n0_; have HB := n1_; have BK128 := n2_; have GW128 := n3_; have GE128 := n4_; have NB127_128 := n5_; have NB128_127 := n6_; clear n0_ n1_ n2_ n3_ n4_ n5_ n6_; clear hb hbox hg))
 go_loopg [5, 6] k (fun kq v5 v6 w' => ∃ (x5_1 : Int) (x6_1 : Int), v5 = .int .i64 x5_1 ∧ v6 = .int .i64 x6_1 ∧ zc (spec_l03Weighing.l0 kq x5_1 x6_1 a0_0 a0_1 a0_2 a0_3 a1_0 a1_1 a1_2 a1_3 a1_4 a1_5 a1_6 a1_7 a1_8 a1_9 a1_10 a1_11 a1_12 a1_13 = some r) ∧ zc (kq ≤ k) ∧ zc (w'.heap[gb127]? = some (.cells #[.int .i8 a0_0, .int .i8 a0_1, .bool a0_2, .bool a0_3] 29 (0, 0))) ∧ zc (w'.heap[gb128]? = some (.cells #[.int .i8 a1_0, .int .i8 a1_1, .int .i8 a1_2, .int .i8 a1_3, .int .i8 a1_4, .int .i8 a1_5, .int .i8 a1_6, .int .i8 a1_7, .int .i8 a1_8, .int .i8 a1_9, .int .i8 a1_10, .int .i8 a1_11, .int .i8 a1_12, .int .i8 a1_13] 50 (0, 0))) ∧ zc (Below w.heap.size w w'))
 case atStart => exact ⟨(0), (0), (by first | rfl | (simp; done) | (simp [*]; done)), (by first | rfl | (simp; done) | (simp [*]; done)), H', ⟨Nat.le_refl _⟩, ⟨by (with_reducible repeat (first | refine zg ?_ _ | refine zi ?_ | refine zh ?_ _)); exact BK127.out⟩, ⟨by (with_reducible repeat (first | refine zg ?_ _ | refine zi ?_ | refine zh ?_ _)); exact BK128.out⟩, ⟨by repeat (first | (with_reducible first | exact HB.out | apply ze | apply zb | apply zd | refine zf ?_ GE127.out | refine zf ?_ GE128.out) | exact HB.out)⟩⟩
 case round =>
  clear H'
  try clear p2
  obtain ⟨x5_1, x6_1, rfl, rfl, HA, HK1, BK127, BK128, HB⟩ := hrel
  cases gk with
  | zero => exact absurd HA.out (by simp [spec_l03Weighing.l0])
  | succ k1 =>
   have H := HA.out
   clear HA
   simp only [spec_l03Weighing.l0] at H
   by_cases c5 : x6_1 < 14
   ·rw [if_pos c5] at H
    have c5b0 : decide (x6_1 < 14) = true := decide_eq_true c5
    clear c5
    by_cases c6 : 0 ≤ x6_1
    ·rw [if_pos c6] at H
     have c6b0 : decide (0 ≤ x6_1) = true := decide_eq_true c6
     clear c6
     by_cases c7 : (rd [a1_0, a1_1, a1_2, a1_3, a1_4, a1_5, a1_6, a1_7, a1_8, a1_9, a1_10, a1_11, a1_12, a1_13] x6_1) < (-1)
     ·rw [if_pos c7] at H
      have c7b0 : decide ((rd [a1_0, a1_1, a1_2, a1_3, a1_4, a1_5, a1_6, a1_7, a1_8, a1_9, a1_10, a1_11, a1_12, a1_13] x6_1) < (-1)) = true := decide_eq_true c7
      clear c7
      obtain rfl := Option.some.inj H
      have p8 : 0 ≤ (x6_1 : Int) := od (by first | (with_reducible assumption) | assumption)
      have q8 : x6_1 < (14 : Int) := od (by first | (with_reducible assumption) | assumption)
      replace p8 := eq_true p8
      replace q8 := eq_true q8
      have hnb9 := NB128_127.out
      have hnc9 := NB127_128.out
      obtain ⟨y1_0, y1_1, y1_2, y1_3, y1_4, y1_5, y1_6, y1_7, y1_8, y1_9, y1_10, y1_11, y1_12, y1_13⟩ := cg14 BK128.out
      have u1_0 : wr.cell? ⟨gb128, (x6_1).toNat, none⟩ = some (.int .i8 (rd [a1_0, a1_1, a1_2, a1_3, a1_4, a1_5, a1_6, a1_7, a1_8, a1_9, a1_10, a1_11, a1_12, a1_13] x6_1)) := (zv BK128.out _).trans (by rcases (show (x6_1 : Int) = 0 ∨ (x6_1 : Int) = 1 ∨ (x6_1 : Int) = 2 ∨ (x6_1 : Int) = 3 ∨ (x6_1 : Int) = 4 ∨ (x6_1 : Int) = 5 ∨ (x6_1 : Int) = 6 ∨ (x6_1 : Int) = 7 ∨ (x6_1 : Int) = 8 ∨ (x6_1 : Int) = 9 ∨ (x6_1 : Int) = 10 ∨ (x6_1 : Int) = 11 ∨ (x6_1 : Int) = 12 ∨ (x6_1 : Int) = 13 by have hp_ : 0 ≤ (x6_1 : Int) := od (by first | (with_reducible assumption) | assumption); have hq_ : x6_1 < (14 : Int) := od (by first | (with_reducible assumption) | assumption); omega) with h_ | h_ | h_ | h_ | h_ | h_ | h_ | h_ | h_ | h_ | h_ | h_ | h_ | h_ <;> rw [h_] <;> rfl)
      go_wp2
      go_ret
      exact ⟨by first | rfl | (simp [zj, zk] <;> rfl) | (simp [*, zj, zk] <;> rfl), by repeat (first | (with_reducible first | exact HB.out | apply ze | apply zb | apply zd | refine zf ?_ GE127.out | refine zf ?_ GE128.out) | exact HB.out)⟩
     rw [if_neg c7] at H
     have c7b0 : decide ((rd [a1_0, a1_1, a1_2, a1_3, a1_4, a1_5, a1_6, a1_7, a1_8, a1_9, a1_10, a1_11, a1_12, a1_13] x6_1) < (-1)) = false := decide_eq_false c7
     clear c7
     by_cases c12 : (rd [a1_0, a1_1, a1_2, a1_3, a1_4, a1_5, a1_6, a1_7, a1_8, a1_9, a1_10, a1_11, a1_12, a1_13] x6_1) > 1
     ·rw [if_pos c12] at H
      have c12b0 : decide (1 < (rd [a1_0, a1_1, a1_2, a1_3, a1_4, a1_5, a1_6, a1_7, a1_8, a1_9, a1_10, a1_11, a1_12, a1_13] x6_1)) = true := decide_eq_true c12
      clear c12
      obtain rfl := Option.some.inj H
      have p13 : 0 ≤ (x6_1 : Int) := od (by first | (with_reducible assumption) | assumption)
      have q13 : x6_1 < (14 : Int) := od (by first | (with_reducible assumption) | assumption)
      replace p13 := eq_true p13
      replace q13 := eq_true q13
      have hnb14 := NB128_127.out
      have hnc14 := NB127_128.out
      obtain ⟨y2_0, y2_1, y2_2, y2_3, y2_4, y2_5, y2_6, y2_7, y2_8, y2_9, y2_10, y2_11, y2_12, y2_13⟩ := cg14 BK128.out
      have u2_0 : wr.cell? ⟨gb128, (x6_1).toNat, none⟩ = some (.int .i8 (rd [a1_0, a1_1, a1_2, a1_3, a1_4, a1_5, a1_6, a1_7, a1_8, a1_9, a1_10, a1_11, a1_12, a1_13] x6_1)) := (zv BK128.out _).trans (by rcases (show (x6_1 : Int) = 0 ∨ (x6_1 : Int) = 1 ∨ (x6_1 : Int) = 2 ∨ (x6_1 : Int) = 3 ∨ (x6_1 : Int) = 4 ∨ (x6_1 : Int) = 5 ∨ (x6_1 : Int) = 6 ∨ (x6_1 : Int) = 7 ∨ (x6_1 : Int) = 8 ∨ (x6_1 : Int) = 9 ∨ (x6_1 : Int) = 10 ∨ (x6_1 : Int) = 11 ∨ (x6_1 : Int) = 12 ∨ (x6_1 : Int) = 13 by have hp_ : 0 ≤ (x6_1 : Int) := od (by first | (with_reducible assumption) | assumption); have hq_ : x6_1 < (14 : Int) := od (by first | (with_reducible assumption) | assumption); omega) with h_ | h_ | h_ | h_ | h_ | h_ | h_ | h_ | h_ | h_ | h_ | h_ | h_ | h_ <;> rw [h_] <;> rfl)
      have p17 : 0 ≤ (x6_1 : Int) := od (by first | (with_reducible assumption) | assumption)
      have q17 : x6_1 < (14 : Int) := od (by first | (with_reducible assumption) | assumption)
      replace p17 := eq_true p17
      replace q17 := eq_true q17
      have u3_0 : wr.cell? ⟨gb128, (x6_1).toNat, none⟩ = some (.int .i8 (rd [a1_0, a1_1, a1_2, a1_3, a1_4, a1_5, a1_6, a1_7, a1_8, a1_9, a1_10, a1_11, a1_12, a1_13] x6_1)) := (zv BK128.out _).trans (by rcases (show (x6_1 : Int) = 0 ∨ (x6_1 : Int) = 1 ∨ (x6_1 : Int) = 2 ∨ (x6_1 : Int) = 3 ∨ (x6_1 : Int) = 4 ∨ (x6_1 : Int) = 5 ∨ (x6_1 : Int) = 6 ∨ (x6_1 : Int) = 7 ∨ (x6_1 : Int) = 8 ∨ (x6_1 : Int) = 9 ∨ (x6_1 : Int) = 10 ∨ (x6_1 : Int) = 11 ∨ (x6_1 : Int) = 12 ∨ (x6_1 : Int) = 13 by have hp_ : 0 ≤ (x6_1 : Int) := od (by first | (with_reducible assumption) | assumption); have hq_ : x6_1 < (14 : Int) := od (by first | (with_reducible assumption) | assumption); omega) with h_ | h_ | h_ | h_ | h_ | h_ | h_ | h_ | h_ | h_ | h_ | h_ | h_ | h_ <;> rw [h_] <;> rfl)
      go_wp2
      go_ret
      exact ⟨by first | rfl | (simp [zj, zk] <;> rfl) | (simp [*, zj, zk] <;> rfl), by repeat (first | (with_reducible first | exact HB.out | apply ze | apply zb | apply zd | refine zf ?_ GE127.out | refine zf ?_ GE128.out) | exact HB.out)⟩
     rw [if_neg c12] at H
     have c12b0 : decide (1 < (rd [a1_0, a1_1, a1_2, a1_3, a1_4, a1_5, a1_6, a1_7, a1_8, a1_9, a1_10, a1_11, a1_12, a1_13] x6_1)) = false := decide_eq_false c12
     clear c12
     by_cases c19 : (rd [a1_0, a1_1, a1_2, a1_3, a1_4, a1_5, a1_6, a1_7, a1_8, a1_9, a1_10, a1_11, a1_12, a1_13] x6_1) = 0
     ·rw [if_pos c19] at H
      have c19b0 : ((rd [a1_0, a1_1, a1_2, a1_3, a1_4, a1_5, a1_6, a1_7, a1_8, a1_9, a1_10, a1_11, a1_12, a1_13] x6_1) == 0) = true := beq_iff_eq.mpr c19
      have c19b1 : ((rd [a1_0, a1_1, a1_2, a1_3, a1_4, a1_5, a1_6, a1_7, a1_8, a1_9, a1_10, a1_11, a1_12, a1_13] x6_1) != 0) = false := bne_eq_false_iff_eq.mpr c19
      clear c19
      have H' := zc.mk H
      clear H
      have p20 : 0 ≤ (x6_1 : Int) := od (by first | (with_reducible assumption) | assumption)
      have q20 : x6_1 < (14 : Int) := od (by first | (with_reducible assumption) | assumption)
      replace p20 := eq_true p20
      replace q20 := eq_true q20
      have hnb21 := NB128_127.out
      have hnc21 := NB127_128.out
      obtain ⟨y3_0, y3_1, y3_2, y3_3, y3_4, y3_5, y3_6, y3_7, y3_8, y3_9, y3_10, y3_11, y3_12, y3_13⟩ := cg14 BK128.out
      have u4_0 : wr.cell? ⟨gb128, (x6_1).toNat, none⟩ = some (.int .i8 (rd [a1_0, a1_1, a1_2, a1_3, a1_4, a1_5, a1_6, a1_7, a1_8, a1_9, a1_10, a1_11, a1_12, a1_13] x6_1)) := (zv BK128.out _).trans (by rcases (show (x6_1 : Int) = 0 ∨ (x6_1 : Int) = 1 ∨ (x6_1 : Int) = 2 ∨ (x6_1 : Int) = 3 ∨ (x6_1 : Int) = 4 ∨ (x6_1 : Int) = 5 ∨ (x6_1 : Int) = 6 ∨ (x6_1 : Int) = 7 ∨ (x6_1 : Int) = 8 ∨ (x6_1 : Int) = 9 ∨ (x6_1 : Int) = 10 ∨ (x6_1 : Int) = 11 ∨ (x6_1 : Int) = 12 ∨ (x6_1 : Int) = 13 by have hp_ : 0 ≤ (x6_1 : Int) := od (by first | (with_reducible assumption) | assumption); have hq_ : x6_1 < (14 : Int) := od (by first | (with_reducible assumption) | assumption); omega) with h_ | h_ | h_ | h_ | h_ | h_ | h_ | h_ | h_ | h_ | h_ | h_ | h_ | h_ <;> rw [h_] <;> rfl)
      have p24 : 0 ≤ (x6_1 : Int) := od (by first | (with_reducible assumption) | assumption)
      have q24 : x6_1 < (14 : Int) := od (by first | (with_reducible assumption) | assumption)
      replace p24 := eq_true p24
      replace q24 := eq_true q24
      have u5_0 : wr.cell? ⟨gb128, (x6_1).toNat, none⟩ = some (.int .i8 (rd [a1_0, a1_1, a1_2, a1_3, a1_4, a1_5, a1_6, a1_7, a1_8, a1_9, a1_10, a1_11, a1_12, a1_13] x6_1)) := (zv BK128.out _).trans (by rcases (show (x6_1 : Int) = 0 ∨ (x6_1 : Int) = 1 ∨ (x6_1 : Int) = 2 ∨ (x6_1 : Int) = 3 ∨ (x6_1 : Int) = 4 ∨ (x6_1 : Int) = 5 ∨ (x6_1 : Int) = 6 ∨ (x6_1 : Int) = 7 ∨ (x6_1 : Int) = 8 ∨ (x6_1 : Int) = 9 ∨ (x6_1 : Int) = 10 ∨ (x6_1 : Int) = 11 ∨ (x6_1 : Int) = 12 ∨ (x6_1 : Int) = 13 by have hp_ : 0 ≤ (x6_1 : Int) := od (by first | (with_reducible assumption) | assumption); have hq_ : x6_1 < (14 : Int) := od (by first | (with_reducible assumption) | assumption); omega) with h_ | h_ | h_ | h_ | h_ | h_ | h_ | h_ | h_ | h_ | h_ | h_ | h_ | h_ <;> rw [h_] <;> rfl)
      have p26 : 0 ≤ (x6_1 : Int) := od (by first | (with_reducible assumption) | assumption)
      have q26 : x6_1 < (14 : Int) := od (by first | (with_reducible assumption) | assumption)
      replace p26 := eq_true p26
      replace q26 := eq_true q26
      have u6_0 : wr.cell? ⟨gb128, (x6_1).toNat, none⟩ = some (.int .i8 (rd [a1_0, a1_1, a1_2, a1_3, a1_4, a1_5, a1_6, a1_7, a1_8, a1_9, a1_10, a1_11, a1_12, a1_13] x6_1)) := (zv BK128.out _).trans (by rcases (show (x6_1 : Int) = 0 ∨ (x6_1 : Int) = 1 ∨ (x6_1 : Int) = 2 ∨ (x6_1 : Int) = 3 ∨ (x6_1 : Int) = 4 ∨ (x6_1 : Int) = 5 ∨ (x6_1 : Int) = 6 ∨ (x6_1 : Int) = 7 ∨ (x6_1 : Int) = 8 ∨ (x6_1 : Int) = 9 ∨ (x6_1 : Int) = 10 ∨ (x6_1 : Int) = 11 ∨ (x6_1 : Int) = 12 ∨ (x6_1 : Int) = 13 by have hp_ : 0 ≤ (x6_1 : Int) := od (by first | (with_reducible assumption) | assumption); have hq_ : x6_1 < (14 : Int) := od (by first | (with_reducible assumption) | assumption); omega) with h_ | h_ | h_ | h_ | h_ | h_ | h_ | h_ | h_ | h_ | h_ | h_ | h_ | h_ <;> rw [h_] <;> rfl)
      have p28 : 0 ≤ (x6_1 : Int) := od (by first | (with_reducible assumption) | assumption)
      have q28 : x6_1 < (14 : Int) := od (by first | (with_reducible assumption) | assumption)
      replace p28 := eq_true p28
      replace q28 := eq_true q28
      have u7_0 : wr.cell? ⟨gb128, (x6_1).toNat, none⟩ = some (.int .i8 (rd [a1_0, a1_1, a1_2, a1_3, a1_4, a1_5, a1_6, a1_7, a1_8, a1_9, a1_10, a1_11, a1_12, a1_13] x6_1)) := (zv BK128.out _).trans (by rcases (show (x6_1 : Int) = 0 ∨ (x6_1 : Int) = 1 ∨ (x6_1 : Int) = 2 ∨ (x6_1 : Int) = 3 ∨ (x6_1 : Int) = 4 ∨ (x6_1 : Int) = 5 ∨ (x6_1 : Int) = 6 ∨ (x6_1 : Int) = 7 ∨ (x6_1 : Int) = 8 ∨ (x6_1 : Int) = 9 ∨ (x6_1 : Int) = 10 ∨ (x6_1 : Int) = 11 ∨ (x6_1 : Int) = 12 ∨ (x6_1 : Int) = 13 by have hp_ : 0 ≤ (x6_1 : Int) := od (by first | (with_reducible assumption) | assumption); have hq_ : x6_1 < (14 : Int) := od (by first | (with_reducible assumption) | assumption); omega) with h_ | h_ | h_ | h_ | h_ | h_ | h_ | h_ | h_ | h_ | h_ | h_ | h_ | h_ <;> rw [h_] <;> rfl)
      go_wp2
      go_roundg k1
      case measure => have := HK1.out; omega
      case rel => exact ⟨(wrap64 (x5_1 + (wrap64 (rd [a1_0, a1_1, a1_2, a1_3, a1_4, a1_5, a1_6, a1_7, a1_8, a1_9, a1_10, a1_11, a1_12, a1_13] x6_1)))), (wrap64 (x6_1 + 1)), (by first | rfl | (simp; done) | (simp [*]; done)), (by first | rfl | (simp; done) | (simp [*]; done)), H', ⟨by have := HK1.out; omega⟩, ⟨by (with_reducible repeat (first | refine zg ?_ _ | refine zi ?_ | refine zh ?_ _)); exact BK127.out⟩, ⟨by (with_reducible repeat (first | refine zg ?_ _ | refine zi ?_ | refine zh ?_ _)); exact BK128.out⟩, ⟨by repeat (first | (with_reducible first | exact HB.out | apply ze | apply zb | apply zd | refine zf ?_ GE127.out | refine zf ?_ GE128.out) | exact HB.out)⟩⟩
     rw [if_neg c19] at H
     have c19b0 : ((rd [a1_0, a1_1, a1_2, a1_3, a1_4, a1_5, a1_6, a1_7, a1_8, a1_9, a1_10, a1_11, a1_12, a1_13] x6_1) == 0) = false := beq_eq_false_iff_ne.mpr c19
     have c19b1 : ((rd [a1_0, a1_1, a1_2, a1_3, a1_4, a1_5, a1_6, a1_7, a1_8, a1_9, a1_10, a1_11, a1_12, a1_13] x6_1) != 0) = true := bne_iff_ne.mpr c19
     replace H := Option.bind_eq_some_iff.mp H
     obtain ⟨t137, A300, H⟩ := H
     replace H : (if t137 = true then (spec_l03Weighing.l0 k1 (wrap64 (x5_1 + (wrap64 (rd [a1_0, a1_1, a1_2, a1_3, a1_4, a1_5, a1_6, a1_7, a1_8, a1_9, a1_10, a1_11, a1_12, a1_13] x6_1)))) (wrap64 (x6_1 + 1)) a0_0 a0_1 a0_2 a0_3 a1_0 a1_1 a1_2 a1_3 a1_4 a1_5 a1_6 a1_7 a1_8 a1_9 a1_10 a1_11 a1_12 a1_13) else (some false)) = some r := H
     have A30 := zc.mk A300
     clear A300
     by_cases c31 : t137 = true
     ·subst c31
      have H1 : (spec_l03Weighing.l0 k1 (wrap64 (x5_1 + (wrap64 (rd [a1_0, a1_1, a1_2, a1_3, a1_4, a1_5, a1_6, a1_7, a1_8, a1_9, a1_10, a1_11, a1_12, a1_13] x6_1)))) (wrap64 (x6_1 + 1)) a0_0 a0_1 a0_2 a0_3 a1_0 a1_1 a1_2 a1_3 a1_4 a1_5 a1_6 a1_7 a1_8 a1_9 a1_10 a1_11 a1_12 a1_13) = some r := by rw [if_pos rfl] at H; exact H
      clear H
      have H := H1
      clear H1
      have H' := zc.mk H
      clear H
      have p32 : 0 ≤ (x6_1 : Int) := od (by first | (with_reducible assumption) | assumption)
      have q32 : x6_1 < (14 : Int) := od (by first | (with_reducible assumption) | assumption)
      replace p32 := eq_true p32
      replace q32 := eq_true q32
      have hnb33 := NB128_127.out
      have hnc33 := NB127_128.out
      obtain ⟨y4_0, y4_1, y4_2, y4_3, y4_4, y4_5, y4_6, y4_7, y4_8, y4_9, y4_10, y4_11, y4_12, y4_13⟩ := cg14 BK128.out
      have u8_0 : wr.cell? ⟨gb128, (x6_1).toNat, none⟩ = some (.int .i8 (rd [a1_0, a1_1, a1_2, a1_3, a1_4, a1_5, a1_6, a1_7, a1_8, a1_9, a1_10, a1_11, a1_12, a1_13] x6_1)) := (zv BK128.out _).trans (by rcases (show (x6_1 : Int) = 0 ∨ (x6_1 : Int) = 1 ∨ (x6_1 : Int) = 2 ∨ (x6_1 : Int) = 3 ∨ (x6_1 : Int) = 4 ∨ (x6_1 : Int) = 5 ∨ (x6_1 : Int) = 6 ∨ (x6_1 : Int) = 7 ∨ (x6_1 : Int) = 8 ∨ (x6_1 : Int) = 9 ∨ (x6_1 : Int) = 10 ∨ (x6_1 : Int) = 11 ∨ (x6_1 : Int) = 12 ∨ (x6_1 : Int) = 13 by have hp_ : 0 ≤ (x6_1 : Int) := od (by first | (with_reducible assumption) | assumption); have hq_ : x6_1 < (14 : Int) := od (by first | (with_reducible assumption) | assumption); omega) with h_ | h_ | h_ | h_ | h_ | h_ | h_ | h_ | h_ | h_ | h_ | h_ | h_ | h_ <;> rw [h_] <;> rfl)
      have p36 : 0 ≤ (x6_1 : Int) := od (by first | (with_reducible assumption) | assumption)
      have q36 : x6_1 < (14 : Int) := od (by first | (with_reducible assumption) | assumption)
      replace p36 := eq_true p36
      replace q36 := eq_true q36
      have u9_0 : wr.cell? ⟨gb128, (x6_1).toNat, none⟩ = some (.int .i8 (rd [a1_0, a1_1, a1_2, a1_3, a1_4, a1_5, a1_6, a1_7, a1_8, a1_9, a1_10, a1_11, a1_12, a1_13] x6_1)) := (zv BK128.out _).trans (by rcases (show (x6_1 : Int) = 0 ∨ (x6_1 : Int) = 1 ∨ (x6_1 : Int) = 2 ∨ (x6_1 : Int) = 3 ∨ (x6_1 : Int) = 4 ∨ (x6_1 : Int) = 5 ∨ (x6_1 : Int) = 6 ∨ (x6_1 : Int) = 7 ∨ (x6_1 : Int) = 8 ∨ (x6_1 : Int) = 9 ∨ (x6_1 : Int) = 10 ∨ (x6_1 : Int) = 11 ∨ (x6_1 : Int) = 12 ∨ (x6_1 : Int) = 13 by have hp_ : 0 ≤ (x6_1 : Int) := od (by first | (with_reducible assumption) | assumption); have hq_ : x6_1 < (14 : Int) := od (by first | (with_reducible assumption) | assumption); omega) with h_ | h_ | h_ | h_ | h_ | h_ | h_ | h_ | h_ | h_ | h_ | h_ | h_ | h_ <;> rw [h_] <;> rfl)
      have p38 : 0 ≤ (x6_1 : Int) := od (by first | (with_reducible assumption) | assumption)
      have q38 : x6_1 < (14 : Int) := od (by first | (with_reducible assumption) | assumption)
      replace p38 := eq_true p38
      replace q38 := eq_true q38
      have u10_0 : wr.cell? ⟨gb128, (x6_1).toNat, none⟩ = some (.int .i8 (rd [a1_0, a1_1, a1_2, a1_3, a1_4, a1_5, a1_6, a1_7, a1_8, a1_9, a1_10, a1_11, a1_12, a1_13] x6_1)) := (zv BK128.out _).trans (by rcases (show (x6_1 : Int) = 0 ∨ (x6_1 : Int) = 1 ∨ (x6_1 : Int) = 2 ∨ (x6_1 : Int) = 3 ∨ (x6_1 : Int) = 4 ∨ (x6_1 : Int) = 5 ∨ (x6_1 : Int) = 6 ∨ (x6_1 : Int) = 7 ∨ (x6_1 : Int) = 8 ∨ (x6_1 : Int) = 9 ∨ (x6_1 : Int) = 10 ∨ (x6_1 : Int) = 11 ∨ (x6_1 : Int) = 12 ∨ (x6_1 : Int) = 13 by have hp_ : 0 ≤ (x6_1 : Int) := od (by first | (with_reducible assumption) | assumption); have hq_ : x6_1 < (14 : Int) := od (by first | (with_reducible assumption) | assumption); omega) with h_ | h_ | h_ | h_ | h_ | h_ | h_ | h_ | h_ | h_ | h_ | h_ | h_ | h_ <;> rw [h_] <;> rfl)
      obtain ⟨y5_0, y5_1, y5_2, y5_3⟩ := cg4 BK127.out
      go_wp2_with (first | (go_at_call 59; (with_reducible refine (spec_l03There.calls a0_0 a0_1 a0_2 a0_3 x6_1 true _ A30.out).mono ?_); rintro e w41 ⟨rfl, hb⟩; have n0_ := zc.mk (zn (by (with_reducible repeat (first | refine zg ?_ _ | refine zi ?_ | refine zh ?_ _)); exact BK127.out) hb); have n1_ := zc.mk (zn (by (with_reducible repeat (first | refine zg ?_ _ | refine zi ?_ | refine zh ?_ _)); exact BK128.out) hb); have n2_ := zc.mk (zq (by repeat (first | (with_reducible first | exact HB.out | apply ze | apply zb | apply zd | refine zf ?_ GE127.out | refine zf ?_ GE128.out) | exact HB.out)) hb); clear BK127; clear BK128; clear HB; have BK127 := n0_; have BK128 := n1_; have HB := n2_; clear n0_ n1_ n2_; (try clear hb); (try clear hb2); (try clear hk); (try clear hi); have p42 : 0 ≤ (x6_1 : Int) := od (by first | (with_reducible assumption) | assumption); have q42 : x6_1 < (14 : Int) := od (by first | (with_reducible assumption) | assumption); replace p42 := eq_true p42; replace q42 := eq_true q42; obtain ⟨y6_0, y6_1, y6_2, y6_3, y6_4, y6_5, y6_6, y6_7, y6_8, y6_9, y6_10, y6_11, y6_12, y6_13⟩ := cg14 BK128.out; have u11_0 : w41.cell? ⟨gb128, (x6_1).toNat, none⟩ = some (.int .i8 (rd [a1_0, a1_1, a1_2, a1_3, a1_4, a1_5, a1_6, a1_7, a1_8, a1_9, a1_10, a1_11, a1_12, a1_13] x6_1)) := (zv BK128.out _).trans (by rcases (show (x6_1 : Int) = 0 ∨ (x6_1 : Int) = 1 ∨ (x6_1 : Int) = 2 ∨ (x6_1 : Int) = 3 ∨ (x6_1 : Int) = 4 ∨ (x6_1 : Int) = 5 ∨ (x6_1 : Int) = 6 ∨ (x6_1 : Int) = 7 ∨ (x6_1 : Int) = 8 ∨ (x6_1 : Int) = 9 ∨ (x6_1 : Int) = 10 ∨ (x6_1 : Int) = 11 ∨ (x6_1 : Int) = 12 ∨ (x6_1 : Int) = 13 by have hp_ : 0 ≤ (x6_1 : Int) := od (by first | (with_reducible assumption) | assumption); have hq_ : x6_1 < (14 : Int) := od (by first | (with_reducible assumption) | assumption); omega) with h_ | h_ | h_ | h_ | h_ | h_ | h_ | h_ | h_ | h_ | h_ | h_ | h_ | h_ <;> rw [h_] <;> rfl)))
      go_roundg k1
      case measure => have := HK1.out; omega
      case rel => exact ⟨(wrap64 (x5_1 + (wrap64 (rd [a1_0, a1_1, a1_2, a1_3, a1_4, a1_5, a1_6, a1_7, a1_8, a1_9, a1_10, a1_11, a1_12, a1_13] x6_1)))), (wrap64 (x6_1 + 1)), (by first | rfl | (simp; done) | (simp [*]; done)), (by first | rfl | (simp; done) | (simp [*]; done)), H', ⟨by have := HK1.out; omega⟩, ⟨by (with_reducible repeat (first | refine zg ?_ _ | refine zi ?_ | refine zh ?_ _)); exact BK127.out⟩, ⟨by (with_reducible repeat (first | refine zg ?_ _ | refine zi ?_ | refine zh ?_ _)); exact BK128.out⟩, ⟨by repeat (first | (with_reducible first | exact HB.out | apply ze | apply zb | apply zd | refine zf ?_ GE127.out | refine zf ?_ GE128.out) | exact HB.out)⟩⟩
     replace c31 := Bool.eq_false_iff.mpr c31
     subst c31
     have H1 : (some false) = some r := by rw [if_neg (show ¬ (false = true) by decide)] at H; exact H
     clear H
     have H := H1
     clear H1
     obtain rfl := Option.some.inj H
     have p45 : 0 ≤ (x6_1 : Int) := od (by first | (with_reducible assumption) | assumption)
     have q45 : x6_1 < (14 : Int) := od (by first | (with_reducible assumption) | assumption)
     replace p45 := eq_true p45
     replace q45 := eq_true q45
     have hnb46 := NB128_127.out
     have hnc46 := NB127_128.out
     obtain ⟨y7_0, y7_1, y7_2, y7_3, y7_4, y7_5, y7_6, y7_7, y7_8, y7_9, y7_10, y7_11, y7_12, y7_13⟩ := cg14 BK128.out
     have u12_0 : wr.cell? ⟨gb128, (x6_1).toNat, none⟩ = some (.int .i8 (rd [a1_0, a1_1, a1_2, a1_3, a1_4, a1_5, a1_6, a1_7, a1_8, a1_9, a1_10, a1_11, a1_12, a1_13] x6_1)) := (zv BK128.out _).trans (by rcases (show (x6_1 : Int) = 0 ∨ (x6_1 : Int) = 1 ∨ (x6_1 : Int) = 2 ∨ (x6_1 : Int) = 3 ∨ (x6_1 : Int) = 4 ∨ (x6_1 : Int) = 5 ∨ (x6_1 : Int) = 6 ∨ (x6_1 : Int) = 7 ∨ (x6_1 : Int) = 8 ∨ (x6_1 : Int) = 9 ∨ (x6_1 : Int) = 10 ∨ (x6_1 : Int) = 11 ∨ (x6_1 : Int) = 12 ∨ (x6_1 : Int) = 13 by have hp_ : 0 ≤ (x6_1 : Int) := od (by first | (with_reducible assumption) | assumption); have hq_ : x6_1 < (14 : Int) := od (by first | (with_reducible assumption) | assumption); omega) with h_ | h_ | h_ | h_ | h_ | h_ | h_ | h_ | h_ | h_ | h_ | h_ | h_ | h_ <;> rw [h_] <;> rfl)
     have p49 : 0 ≤ (x6_1 : Int) := od (by first | (with_reducible assumption) | assumption)
     have q49 : x6_1 < (14 : Int) := od (by first | (with_reducible assumption) | assumption)
     replace p49 := eq_true p49
     replace q49 := eq_true q49
     have u13_0 : wr.cell? ⟨gb128, (x6_1).toNat, none⟩ = some (.int .i8 (rd [a1_0, a1_1, a1_2, a1_3, a1_4, a1_5, a1_6, a1_7, a1_8, a1_9, a1_10, a1_11, a1_12, a1_13] x6_1)) := (zv BK128.out _).trans (by rcases (show (x6_1 : Int) = 0 ∨ (x6_1 : Int) = 1 ∨ (x6_1 : Int) = 2 ∨ (x6_1 : Int) = 3 ∨ (x6_1 : Int) = 4 ∨ (x6_1 : Int) = 5 ∨ (x6_1 : Int) = 6 ∨ (x6_1 : Int) = 7 ∨ (x6_1 : Int) = 8 ∨ (x6_1 : Int) = 9 ∨ (x6_1 : Int) = 10 ∨ (x6_1 : Int) = 11 ∨ (x6_1 : Int) = 12 ∨ (x6_1 : Int) = 13 by have hp_ : 0 ≤ (x6_1 : Int) := od (by first | (with_reducible assumption) | assumption); have hq_ : x6_1 < (14 : Int) := od (by first | (with_reducible assumption) | assumption); omega) with h_ | h_ | h_ | h_ | h_ | h_ | h_ | h_ | h_ | h_ | h_ | h_ | h_ | h_ <;> rw [h_] <;> rfl)
     have p51 : 0 ≤ (x6_1 : Int) := od (by first | (with_reducible assumption) | assumption)
     have q51 : x6_1 < (14 : Int) := od (by first | (with_reducible assumption) | assumption)
     replace p51 := eq_true p51
     replace q51 := eq_true q51
     have u14_0 : wr.cell? ⟨gb128, (x6_1).toNat, none⟩ = some (.int .i8 (rd [a1_0, a1_1, a1_2, a1_3, a1_4, a1_5, a1_6, a1_7, a1_8, a1_9, a1_10, a1_11, a1_12, a1_13] x6_1)) := (zv BK128.out _).trans (by rcases (show (x6_1 : Int) = 0 ∨ (x6_1 : Int) = 1 ∨ (x6_1 : Int) = 2 ∨ (x6_1 : Int) = 3 ∨ (x6_1 : Int) = 4 ∨ (x6_1 : Int) = 5 ∨ (x6_1 : Int) = 6 ∨ (x6_1 : Int) = 7 ∨ (x6_1 : Int) = 8 ∨ (x6_1 : Int) = 9 ∨ (x6_1 : Int) = 10 ∨ (x6_1 : Int) = 11 ∨ (x6_1 : Int) = 12 ∨ (x6_1 : Int) = 13 by have hp_ : 0 ≤ (x6_1 : Int) := od (by first | (with_reducible assumption) | assumption); have hq_ : x6_1 < (14 : Int) := od (by first | (with_reducible assumption) | assumption); omega) with h_ | h_ | h_ | h_ | h_ | h_ | h_ | h_ | h_ | h_ | h_ | h_ | h_ | h_ <;> rw [h_] <;> rfl)
     obtain ⟨y8_0, y8_1, y8_2, y8_3⟩ := cg4 BK127.out
     go_wp2_with (first | (go_at_call 59; (with_reducible refine (spec_l03There.calls a0_0 a0_1 a0_2 a0_3 x6_1 false _ A30.out).mono ?_); rintro e w54 ⟨rfl, hb⟩; have n0_ := zc.mk (zn (by (with_reducible repeat (first | refine zg ?_ _ | refine zi ?_ | refine zh ?_ _)); exact BK127.out) hb); have n1_ := zc.mk (zn (by (with_reducible repeat (first | refine zg ?_ _ | refine zi ?_ | refine zh ?_ _)); exact BK128.out) hb); have n2_ := zc.mk (zq (by repeat (first | (with_reducible first | exact HB.out | apply ze | apply zb | apply zd | refine zf ?_ GE127.out | refine zf ?_ GE128.out) | exact HB.out)) hb); clear BK127; clear BK128; clear HB; have BK127 := n0_; have BK128 := n1_; have HB := n2_; clear n0_ n1_ n2_; (try clear hb); (try clear hb2); (try clear hk); (try clear hi)))
     go_ret
     exact ⟨by first | rfl | (simp [zj, zk] <;> rfl) | (simp [*, zj, zk] <;> rfl), by repeat (first | (with_reducible first | exact HB.out | apply ze | apply zb | apply zd | refine zf ?_ GE127.out | refine zf ?_ GE128.out) | exact HB.out)⟩
    rw [if_neg c6] at H
    exact absurd H (by simp)
   rw [if_neg c5] at H
   have c5b0 : decide (x6_1 < 14) = false := decide_eq_false c5
   clear c5
   obtain rfl := Option.some.inj H
   go_wp2
   go_ret
   exact ⟨by first | rfl | (simp [zj, zk] <;> rfl) | (simp [*, zj, zk] <;> rfl), by repeat (first | (with_reducible first | exact HB.out | apply ze | apply zb | apply zd | refine zf ?_ GE127.out | refine zf ?_ GE128.out) | exact HB.out)⟩
end Go.Proofs.Ytmmonhpjjjdnjaa.V
