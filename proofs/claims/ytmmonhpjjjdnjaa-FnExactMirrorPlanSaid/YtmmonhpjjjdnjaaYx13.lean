-- Written by wip/tools/myprint.py, a program of this session, by way of the kit's print.
import Derived.Test.YtmmonhpjjjdnjaaYx0
import Derived.Test.YtmmonhpjjjdnjaaLLoadY
import Derived.Test.YtmmonhpjjjdnjaaYx12
namespace Go.Proofs.Ytmmonhpjjjdnjaa.Y
open Go.RowKit Go.Proofs.YtmmonhpjjjdnjaaW.PrintWords Go.Proofs.YtmmonhpjjjdnjaaW.PrintLast Go.Proofs.YtmmonhpjjjdnjaaW.PrintMore
attribute [local go_sem] zha zga zka zja zba zaa zea zfa   -- for this text's walks alone
set_option linter.unusedVariables false
set_option linter.unusedSimpArgs false

/-! ### spec_l03Weighing: function 55 -/
def spec_l03Weighing.l0 : Nat → Int → Int → Int → Int → Bool → Bool → Int → Int → Int → Int → Int → Int → Int → Int → Int → Int → Int → Int → Int → Int → Option (Bool)
 | 0, _, _, _, _, _, _, _, _, _, _, _, _, _, _, _, _, _, _, _, _ => none
 | k + 1, x5, x6, x128000, x128001, x128002, x128003, x129000, x129001, x129002, x129003, x129004, x129005, x129006, x129007, x129008, x129009, x129010, x129011, x129012, x129013 => if x6 < 14 then (if 0 ≤ x6 then (if (rd [x129000, x129001, x129002, x129003, x129004, x129005, x129006, x129007, x129008, x129009, x129010, x129011, x129012, x129013] x6) < (-1) then (some false) else (if (rd [x129000, x129001, x129002, x129003, x129004, x129005, x129006, x129007, x129008, x129009, x129010, x129011, x129012, x129013] x6) > 1 then (some false) else (if (rd [x129000, x129001, x129002, x129003, x129004, x129005, x129006, x129007, x129008, x129009, x129010, x129011, x129012, x129013] x6) = 0 then (spec_l03Weighing.l0 k (wrap64 (x5 + (wrap64 (rd [x129000, x129001, x129002, x129003, x129004, x129005, x129006, x129007, x129008, x129009, x129010, x129011, x129012, x129013] x6)))) (wrap64 (x6 + 1)) x128000 x128001 x128002 x128003 x129000 x129001 x129002 x129003 x129004 x129005 x129006 x129007 x129008 x129009 x129010 x129011 x129012 x129013) else ((spec_l03There.f x128000 x128001 x128002 x128003 x6).bind fun t137 => (if t137 = true then (spec_l03Weighing.l0 k (wrap64 (x5 + (wrap64 (rd [x129000, x129001, x129002, x129003, x129004, x129005, x129006, x129007, x129008, x129009, x129010, x129011, x129012, x129013] x6)))) (wrap64 (x6 + 1)) x128000 x128001 x128002 x128003 x129000 x129001 x129002 x129003 x129004 x129005 x129006 x129007 x129008 x129009 x129010 x129011 x129012 x129013) else (some false)))))) else (none)) else (some (x5 == 0))
def spec_l03Weighing.f (k : Nat) (a0_0 : Int) (a0_1 : Int) (a0_2 : Bool) (a0_3 : Bool) (a1_0 : Int) (a1_1 : Int) (a1_2 : Int) (a1_3 : Int) (a1_4 : Int) (a1_5 : Int) (a1_6 : Int) (a1_7 : Int) (a1_8 : Int) (a1_9 : Int) (a1_10 : Int) (a1_11 : Int) (a1_12 : Int) (a1_13 : Int) : Option (Bool) := spec_l03Weighing.l0 k 0 0 a0_0 a0_1 a0_2 a0_3 a1_0 a1_1 a1_2 a1_3 a1_4 a1_5 a1_6 a1_7 a1_8 a1_9 a1_10 a1_11 a1_12 a1_13
set_option maxHeartbeats 8000000 in
set_option maxRecDepth 100000 in
theorem spec_l03Weighing.calls (k : Nat) (a0_0 : Int) (a0_1 : Int) (a0_2 : Bool) (a0_3 : Bool) (a1_0 : Int) (a1_1 : Int) (a1_2 : Int) (a1_3 : Int) (a1_4 : Int) (a1_5 : Int) (a1_6 : Int) (a1_7 : Int) (a1_8 : Int) (a1_9 : Int) (a1_10 : Int) (a1_11 : Int) (a1_12 : Int) (a1_13 : Int) (r : Bool) (w : World) (h : spec_l03Weighing.f k a0_0 a0_1 a0_2 a0_3 a1_0 a1_1 a1_2 a1_3 a1_4 a1_5 a1_6 a1_7 a1_8 a1_9 a1_10 a1_11 a1_12 a1_13 = some r) :
  Calls Try.prog 55 #[.agg #[.int .i8 a0_0, .int .i8 a0_1, .bool a0_2, .bool a0_3], .agg #[.int .i8 a1_0, .int .i8 a1_1, .int .i8 a1_2, .int .i8 a1_3, .int .i8 a1_4, .int .i8 a1_5, .int .i8 a1_6, .int .i8 a1_7, .int .i8 a1_8, .int .i8 a1_9, .int .i8 a1_10, .int .i8 a1_11, .int .i8 a1_12, .int .i8 a1_13]] w fun e w' => e = .returned (.bool r) ∧ Below w.heap.size w w' := by
 have hu29 := Try.underlying29
 have hu50 := Try.underlying50
 have HB := zc.mk (Below.refl w.heap.size w)
 have H : (spec_l03Weighing.l0 k 0 0 a0_0 a0_1 a0_2 a0_3 a1_0 a1_1 a1_2 a1_3 a1_4 a1_5 a1_6 a1_7 a1_8 a1_9 a1_10 a1_11 a1_12 a1_13) = some r := h
 clear h
 have H' := zc.mk H
 clear H
 go_enter Try.func55, Try.ntmps55
 go_wp2_with (first | ((with_reducible refine zn (N := 2) rfl ?_); refine zo ?hg (N := 2) ?hd (cs := #[.int .i8 a0_0, .int .i8 a0_1, .bool a0_2, .bool a0_3]) (t := 29) ?hr ?_; (case hd => rfl); (case hg => rfl); (case hr => first | (go_simp; done) | (go_simp; rfl)); intro gb127 hg w3 hbox hb; obtain ⟨n0_, n2_⟩ := bx (by repeat (first | (with_reducible first | exact HB.out | apply zd | apply za | apply zb) | exact HB.out)) hb hg; have n1_ := zc.mk (hbox); have n3_ := n2_; clear HB; have HB := n0_; have BK127 := n1_; have GW127 := n2_; have GE127 := n3_; clear n0_ n1_ n2_ n3_; clear hb hbox hg) | ((with_reducible refine zn (N := 3) rfl ?_); refine zo ?hg (N := 3) ?hd (cs := #[.int .i8 a1_0, .int .i8 a1_1, .int .i8 a1_2, .int .i8 a1_3, .int .i8 a1_4, .int .i8 a1_5, .int .i8 a1_6, .int .i8 a1_7, .int .i8 a1_8, .int .i8 a1_9, .int .i8 a1_10, .int .i8 a1_11, .int .i8 a1_12, .int .i8 a1_13]) (t := 50) ?hr ?_; (case hd => rfl); (case hg => rfl); (case hr => first | (go_simp; done) | (go_simp; rfl)); intro gb128 hg w4 hbox hb; have n0_ := zc.mk (zi (by (with_reducible repeat (first | refine zf ?_ _ | refine zh ?_ | refine zg ?_ _)); exact BK127.out) hb); obtain ⟨n1_, n3_⟩ := bx (by repeat (first | (with_reducible first | exact HB.out | apply zd | apply za | apply zb | refine ze ?_ GE127.out) | exact HB.out)) hb hg; have n2_ := zc.mk (hbox); have n4_ := n3_; have n5_ := zc.mk ((by rw [hg]; exact Nat.ne_of_lt (zda (by (with_reducible repeat (first | refine zf ?_ _ | refine zh ?_ | refine zg ?_ _)); exact BK127.out)) : gb127 ≠ gb128)); have n6_ := zc.mk n5_.out.symm; clear BK127; clear HB; have BK127 := n0_; have HB := n1_; have BK128 := n2_; have GW128 := n3_; have GE128 := n4_; have NB127_128 := n5_; have NB128_127 := n6_; clear n0_ n1_ n2_ n3_ n4_ n5_ n6_; clear hb hbox hg))
 go_loopg [5, 6] k (fun kq v5 v6 w' => ∃ (x5_1 : Int) (x6_1 : Int), v5 = .int .i64 x5_1 ∧ v6 = .int .i64 x6_1 ∧ zc (spec_l03Weighing.l0 kq x5_1 x6_1 a0_0 a0_1 a0_2 a0_3 a1_0 a1_1 a1_2 a1_3 a1_4 a1_5 a1_6 a1_7 a1_8 a1_9 a1_10 a1_11 a1_12 a1_13 = some r) ∧ zc (kq ≤ k) ∧ zc (w'.heap[gb127]? = some (.cells #[.int .i8 a0_0, .int .i8 a0_1, .bool a0_2, .bool a0_3] 29 (0, 0))) ∧ zc (w'.heap[gb128]? = some (.cells #[.int .i8 a1_0, .int .i8 a1_1, .int .i8 a1_2, .int .i8 a1_3, .int .i8 a1_4, .int .i8 a1_5, .int .i8 a1_6, .int .i8 a1_7, .int .i8 a1_8, .int .i8 a1_9, .int .i8 a1_10, .int .i8 a1_11, .int .i8 a1_12, .int .i8 a1_13] 50 (0, 0))) ∧ zc (Below w.heap.size w w'))
 case atStart => exact ⟨(0), (0), (by first | rfl | (simp; done) | (simp [*]; done)), (by first | rfl | (simp; done) | (simp [*]; done)), H', ⟨Nat.le_refl _⟩, ⟨by (with_reducible repeat (first | refine zf ?_ _ | refine zh ?_ | refine zg ?_ _)); exact BK127.out⟩, ⟨by (with_reducible repeat (first | refine zf ?_ _ | refine zh ?_ | refine zg ?_ _)); exact BK128.out⟩, ⟨by repeat (first | (with_reducible first | exact HB.out | apply zd | apply za | apply zb | refine ze ?_ GE127.out | refine ze ?_ GE128.out) | exact HB.out)⟩⟩
 case round =>
  clear H'
  try clear p2
  obtain ⟨x5_1, x6_1, rfl, rfl, HA, HK1, BK127, BK128, HB⟩ := hrel
  cases gk with
  | zero => exact absurd HA.out (by simp [spec_l03Weighing.l0])
  | succ k1 =>
   have H := HA.out
   clear HA
   simp only [spec_l03Weighing.l0] at H
   by_cases c5 : x6_1 < 14
   ·rw [if_pos c5] at H
    have c5b0 : decide (x6_1 < 14) = true := decide_eq_true c5
    clear c5
    by_cases c6 : 0 ≤ x6_1
    ·rw [if_pos c6] at H
     have c6b0 : decide (0 ≤ x6_1) = true := decide_eq_true c6
     clear c6
     by_cases c7 : (rd [a1_0, a1_1, a1_2, a1_3, a1_4, a1_5, a1_6, a1_7, a1_8, a1_9, a1_10, a1_11, a1_12, a1_13] x6_1) < (-1)
     ·rw [if_pos c7] at H
      have c7b0 : decide ((rd [a1_0, a1_1, a1_2, a1_3, a1_4, a1_5, a1_6, a1_7, a1_8, a1_9, a1_10, a1_11, a1_12, a1_13] x6_1) < (-1)) = true := decide_eq_true c7
      clear c7
      obtain rfl := Option.some.inj H
      have p8 : 0 ≤ (x6_1 : Int) := of_decide_eq_true (by first | (with_reducible assumption) | assumption)
      have q8 : x6_1 < (14 : Int) := of_decide_eq_true (by first | (with_reducible assumption) | assumption)
      replace p8 := eq_true p8
      replace q8 := eq_true q8
      have hnb9 := NB128_127.out
      have hnc9 := NB127_128.out
      obtain ⟨hcz10_0, hcz10_1, hcz10_2, hcz10_3, hcz10_4, hcz10_5, hcz10_6, hcz10_7, hcz10_8, hcz10_9, hcz10_10, hcz10_11, hcz10_12, hcz10_13⟩ := cg14 BK128.out
      have hx11_0 : wr.cell? ⟨gb128, (x6_1).toNat, none⟩ = some (.int .i8 (rd [a1_0, a1_1, a1_2, a1_3, a1_4, a1_5, a1_6, a1_7, a1_8, a1_9, a1_10, a1_11, a1_12, a1_13] x6_1)) := (zr BK128.out _).trans (by rcases (show (x6_1 : Int) = 0 ∨ (x6_1 : Int) = 1 ∨ (x6_1 : Int) = 2 ∨ (x6_1 : Int) = 3 ∨ (x6_1 : Int) = 4 ∨ (x6_1 : Int) = 5 ∨ (x6_1 : Int) = 6 ∨ (x6_1 : Int) = 7 ∨ (x6_1 : Int) = 8 ∨ (x6_1 : Int) = 9 ∨ (x6_1 : Int) = 10 ∨ (x6_1 : Int) = 11 ∨ (x6_1 : Int) = 12 ∨ (x6_1 : Int) = 13 by have hp_ : 0 ≤ (x6_1 : Int) := of_decide_eq_true (by first | (with_reducible assumption) | assumption); have hq_ : x6_1 < (14 : Int) := of_decide_eq_true (by first | (with_reducible assumption) | assumption); omega) with h_ | h_ | h_ | h_ | h_ | h_ | h_ | h_ | h_ | h_ | h_ | h_ | h_ | h_ <;> rw [h_] <;> rfl)
      go_wp2
      go_ret
      exact ⟨by first | rfl | (simp [errW_none, errW_some] <;> rfl) | (simp [*, errW_none, errW_some] <;> rfl), by repeat (first | (with_reducible first | exact HB.out | apply zd | apply za | apply zb | refine ze ?_ GE127.out | refine ze ?_ GE128.out) | exact HB.out)⟩
     rw [if_neg c7] at H
     have c7b0 : decide ((rd [a1_0, a1_1, a1_2, a1_3, a1_4, a1_5, a1_6, a1_7, a1_8, a1_9, a1_10, a1_11, a1_12, a1_13] x6_1) < (-1)) = false := decide_eq_false c7
     clear c7
     by_cases c12 : (rd [a1_0, a1_1, a1_2, a1_3, a1_4, a1_5, a1_6, a1_7, a1_8, a1_9, a1_10, a1_11, a1_12, a1_13] x6_1) > 1
     ·rw [if_pos c12] at H
      have c12b0 : decide (1 < (rd [a1_0, a1_1, a1_2, a1_3, a1_4, a1_5, a1_6, a1_7, a1_8, a1_9, a1_10, a1_11, a1_12, a1_13] x6_1)) = true := decide_eq_true c12
      clear c12
      obtain rfl := Option.some.inj H
      have p13 : 0 ≤ (x6_1 : Int) := of_decide_eq_true (by first | (with_reducible assumption) | assumption)
      have q13 : x6_1 < (14 : Int) := of_decide_eq_true (by first | (with_reducible assumption) | assumption)
      replace p13 := eq_true p13
      replace q13 := eq_true q13
      have hnb14 := NB128_127.out
      have hnc14 := NB127_128.out
      obtain ⟨hcz15_0, hcz15_1, hcz15_2, hcz15_3, hcz15_4, hcz15_5, hcz15_6, hcz15_7, hcz15_8, hcz15_9, hcz15_10, hcz15_11, hcz15_12, hcz15_13⟩ := cg14 BK128.out
      have hx16_0 : wr.cell? ⟨gb128, (x6_1).toNat, none⟩ = some (.int .i8 (rd [a1_0, a1_1, a1_2, a1_3, a1_4, a1_5, a1_6, a1_7, a1_8, a1_9, a1_10, a1_11, a1_12, a1_13] x6_1)) := (zr BK128.out _).trans (by rcases (show (x6_1 : Int) = 0 ∨ (x6_1 : Int) = 1 ∨ (x6_1 : Int) = 2 ∨ (x6_1 : Int) = 3 ∨ (x6_1 : Int) = 4 ∨ (x6_1 : Int) = 5 ∨ (x6_1 : Int) = 6 ∨ (x6_1 : Int) = 7 ∨ (x6_1 : Int) = 8 ∨ (x6_1 : Int) = 9 ∨ (x6_1 : Int) = 10 ∨ (x6_1 : Int) = 11 ∨ (x6_1 : Int) = 12 ∨ (x6_1 : Int) = 13 by have hp_ : 0 ≤ (x6_1 : Int) := of_decide_eq_true (by first | (with_reducible assumption) | assumption); have hq_ : x6_1 < (14 : Int) := of_decide_eq_true (by first | (with_reducible assumption) | assumption); omega) with h_ | h_ | h_ | h_ | h_ | h_ | h_ | h_ | h_ | h_ | h_ | h_ | h_ | h_ <;> rw [h_] <;> rfl)
      have p17 : 0 ≤ (x6_1 : Int) := of_decide_eq_true (by first | (with_reducible assumption) | assumption)
      have q17 : x6_1 < (14 : Int) := of_decide_eq_true (by first | (with_reducible assumption) | assumption)
      replace p17 := eq_true p17
      replace q17 := eq_true q17
      have hx18_0 : wr.cell? ⟨gb128, (x6_1).toNat, none⟩ = some (.int .i8 (rd [a1_0, a1_1, a1_2, a1_3, a1_4, a1_5, a1_6, a1_7, a1_8, a1_9, a1_10, a1_11, a1_12, a1_13] x6_1)) := (zr BK128.out _).trans (by rcases (show (x6_1 : Int) = 0 ∨ (x6_1 : Int) = 1 ∨ (x6_1 : Int) = 2 ∨ (x6_1 : Int) = 3 ∨ (x6_1 : Int) = 4 ∨ (x6_1 : Int) = 5 ∨ (x6_1 : Int) = 6 ∨ (x6_1 : Int) = 7 ∨ (x6_1 : Int) = 8 ∨ (x6_1 : Int) = 9 ∨ (x6_1 : Int) = 10 ∨ (x6_1 : Int) = 11 ∨ (x6_1 : Int) = 12 ∨ (x6_1 : Int) = 13 by have hp_ : 0 ≤ (x6_1 : Int) := of_decide_eq_true (by first | (with_reducible assumption) | assumption); have hq_ : x6_1 < (14 : Int) := of_decide_eq_true (by first | (with_reducible assumption) | assumption); omega) with h_ | h_ | h_ | h_ | h_ | h_ | h_ | h_ | h_ | h_ | h_ | h_ | h_ | h_ <;> rw [h_] <;> rfl)
      go_wp2
      go_ret
      exact ⟨by first | rfl | (simp [errW_none, errW_some] <;> rfl) | (simp [*, errW_none, errW_some] <;> rfl), by repeat (first | (with_reducible first | exact HB.out | apply zd | apply za | apply zb | refine ze ?_ GE127.out | refine ze ?_ GE128.out) | exact HB.out)⟩
     rw [if_neg c12] at H
     have c12b0 : decide (1 < (rd [a1_0, a1_1, a1_2, a1_3, a1_4, a1_5, a1_6, a1_7, a1_8, a1_9, a1_10, a1_11, a1_12, a1_13] x6_1)) = false := decide_eq_false c12
     clear c12
     by_cases c19 : (rd [a1_0, a1_1, a1_2, a1_3, a1_4, a1_5, a1_6, a1_7, a1_8, a1_9, a1_10, a1_11, a1_12, a1_13] x6_1) = 0
     ·rw [if_pos c19] at H
      have c19b0 : ((rd [a1_0, a1_1, a1_2, a1_3, a1_4, a1_5, a1_6, a1_7, a1_8, a1_9, a1_10, a1_11, a1_12, a1_13] x6_1) == 0) = true := beq_iff_eq.mpr c19
      have c19b1 : ((rd [a1_0, a1_1, a1_2, a1_3, a1_4, a1_5, a1_6, a1_7, a1_8, a1_9, a1_10, a1_11, a1_12, a1_13] x6_1) != 0) = false := bne_eq_false_iff_eq.mpr c19
      clear c19
      have H' := zc.mk H
      clear H
      have p20 : 0 ≤ (x6_1 : Int) := of_decide_eq_true (by first | (with_reducible assumption) | assumption)
      have q20 : x6_1 < (14 : Int) := of_decide_eq_true (by first | (with_reducible assumption) | assumption)
      replace p20 := eq_true p20
      replace q20 := eq_true q20
      have hnb21 := NB128_127.out
      have hnc21 := NB127_128.out
      obtain ⟨hcz22_0, hcz22_1, hcz22_2, hcz22_3, hcz22_4, hcz22_5, hcz22_6, hcz22_7, hcz22_8, hcz22_9, hcz22_10, hcz22_11, hcz22_12, hcz22_13⟩ := cg14 BK128.out
      have hx23_0 : wr.cell? ⟨gb128, (x6_1).toNat, none⟩ = some (.int .i8 (rd [a1_0, a1_1, a1_2, a1_3, a1_4, a1_5, a1_6, a1_7, a1_8, a1_9, a1_10, a1_11, a1_12, a1_13] x6_1)) := (zr BK128.out _).trans (by rcases (show (x6_1 : Int) = 0 ∨ (x6_1 : Int) = 1 ∨ (x6_1 : Int) = 2 ∨ (x6_1 : Int) = 3 ∨ (x6_1 : Int) = 4 ∨ (x6_1 : Int) = 5 ∨ (x6_1 : Int) = 6 ∨ (x6_1 : Int) = 7 ∨ (x6_1 : Int) = 8 ∨ (x6_1 : Int) = 9 ∨ (x6_1 : Int) = 10 ∨ (x6_1 : Int) = 11 ∨ (x6_1 : Int) = 12 ∨ (x6_1 : Int) = 13 by have hp_ : 0 ≤ (x6_1 : Int) := of_decide_eq_true (by first | (with_reducible assumption) | assumption); have hq_ : x6_1 < (14 : Int) := of_decide_eq_true (by first | (with_reducible assumption) | assumption); omega) with h_ | h_ | h_ | h_ | h_ | h_ | h_ | h_ | h_ | h_ | h_ | h_ | h_ | h_ <;> rw [h_] <;> rfl)
      have p24 : 0 ≤ (x6_1 : Int) := of_decide_eq_true (by first | (with_reducible assumption) | assumption)
      have q24 : x6_1 < (14 : Int) := of_decide_eq_true (by first | (with_reducible assumption) | assumption)
      replace p24 := eq_true p24
      replace q24 := eq_true q24
      have hx25_0 : wr.cell? ⟨gb128, (x6_1).toNat, none⟩ = some (.int .i8 (rd [a1_0, a1_1, a1_2, a1_3, a1_4, a1_5, a1_6, a1_7, a1_8, a1_9, a1_10, a1_11, a1_12, a1_13] x6_1)) := (zr BK128.out _).trans (by rcases (show (x6_1 : Int) = 0 ∨ (x6_1 : Int) = 1 ∨ (x6_1 : Int) = 2 ∨ (x6_1 : Int) = 3 ∨ (x6_1 : Int) = 4 ∨ (x6_1 : Int) = 5 ∨ (x6_1 : Int) = 6 ∨ (x6_1 : Int) = 7 ∨ (x6_1 : Int) = 8 ∨ (x6_1 : Int) = 9 ∨ (x6_1 : Int) = 10 ∨ (x6_1 : Int) = 11 ∨ (x6_1 : Int) = 12 ∨ (x6_1 : Int) = 13 by have hp_ : 0 ≤ (x6_1 : Int) := of_decide_eq_true (by first | (with_reducible assumption) | assumption); have hq_ : x6_1 < (14 : Int) := of_decide_eq_true (by first | (with_reducible assumption) | assumption); omega) with h_ | h_ | h_ | h_ | h_ | h_ | h_ | h_ | h_ | h_ | h_ | h_ | h_ | h_ <;> rw [h_] <;> rfl)
      have p26 : 0 ≤ (x6_1 : Int) := of_decide_eq_true (by first | (with_reducible assumption) | assumption)
      have q26 : x6_1 < (14 : Int) := of_decide_eq_true (by first | (with_reducible assumption) | assumption)
      replace p26 := eq_true p26
      replace q26 := eq_true q26
      have hx27_0 : wr.cell? ⟨gb128, (x6_1).toNat, none⟩ = some (.int .i8 (rd [a1_0, a1_1, a1_2, a1_3, a1_4, a1_5, a1_6, a1_7, a1_8, a1_9, a1_10, a1_11, a1_12, a1_13] x6_1)) := (zr BK128.out _).trans (by rcases (show (x6_1 : Int) = 0 ∨ (x6_1 : Int) = 1 ∨ (x6_1 : Int) = 2 ∨ (x6_1 : Int) = 3 ∨ (x6_1 : Int) = 4 ∨ (x6_1 : Int) = 5 ∨ (x6_1 : Int) = 6 ∨ (x6_1 : Int) = 7 ∨ (x6_1 : Int) = 8 ∨ (x6_1 : Int) = 9 ∨ (x6_1 : Int) = 10 ∨ (x6_1 : Int) = 11 ∨ (x6_1 : Int) = 12 ∨ (x6_1 : Int) = 13 by have hp_ : 0 ≤ (x6_1 : Int) := of_decide_eq_true (by first | (with_reducible assumption) | assumption); have hq_ : x6_1 < (14 : Int) := of_decide_eq_true (by first | (with_reducible assumption) | assumption); omega) with h_ | h_ | h_ | h_ | h_ | h_ | h_ | h_ | h_ | h_ | h_ | h_ | h_ | h_ <;> rw [h_] <;> rfl)
      have p28 : 0 ≤ (x6_1 : Int) := of_decide_eq_true (by first | (with_reducible assumption) | assumption)
      have q28 : x6_1 < (14 : Int) := of_decide_eq_true (by first | (with_reducible assumption) | assumption)
      replace p28 := eq_true p28
      replace q28 := eq_true q28
      have hx29_0 : wr.cell? ⟨gb128, (x6_1).toNat, none⟩ = some (.int .i8 (rd [a1_0, a1_1, a1_2, a1_3, a1_4, a1_5, a1_6, a1_7, a1_8, a1_9, a1_10, a1_11, a1_12, a1_13] x6_1)) := (zr BK128.out _).trans (by rcases (show (x6_1 : Int) = 0 ∨ (x6_1 : Int) = 1 ∨ (x6_1 : Int) = 2 ∨ (x6_1 : Int) = 3 ∨ (x6_1 : Int) = 4 ∨ (x6_1 : Int) = 5 ∨ (x6_1 : Int) = 6 ∨ (x6_1 : Int) = 7 ∨ (x6_1 : Int) = 8 ∨ (x6_1 : Int) = 9 ∨ (x6_1 : Int) = 10 ∨ (x6_1 : Int) = 11 ∨ (x6_1 : Int) = 12 ∨ (x6_1 : Int) = 13 by have hp_ : 0 ≤ (x6_1 : Int) := of_decide_eq_true (by first | (with_reducible assumption) | assumption); have hq_ : x6_1 < (14 : Int) := of_decide_eq_true (by first | (with_reducible assumption) | assumption); omega) with h_ | h_ | h_ | h_ | h_ | h_ | h_ | h_ | h_ | h_ | h_ | h_ | h_ | h_ <;> rw [h_] <;> rfl)
      go_wp2
      go_roundg k1
      case measure => have := HK1.out; omega
      case rel => exact ⟨(wrap64 (x5_1 + (wrap64 (rd [a1_0, a1_1, a1_2, a1_3, a1_4, a1_5, a1_6, a1_7, a1_8, a1_9, a1_10, a1_11, a1_12, a1_13] x6_1)))), (wrap64 (x6_1 + 1)), (by first | rfl | (simp; done) | (simp [*]; done)), (by first | rfl | (simp; done) | (simp [*]; done)), H', ⟨by have := HK1.out; omega⟩, ⟨by (with_reducible repeat (first | refine zf ?_ _ | refine zh ?_ | refine zg ?_ _)); exact BK127.out⟩, ⟨by (with_reducible repeat (first | refine zf ?_ _ | refine zh ?_ | refine zg ?_ _)); exact BK128.out⟩, ⟨by repeat (first | (with_reducible first | exact HB.out | apply zd | apply za | apply zb | refine ze ?_ GE127.out | refine ze ?_ GE128.out) | exact HB.out)⟩⟩
     rw [if_neg c19] at H
     have c19b0 : ((rd [a1_0, a1_1, a1_2, a1_3, a1_4, a1_5, a1_6, a1_7, a1_8, a1_9, a1_10, a1_11, a1_12, a1_13] x6_1) == 0) = false := beq_eq_false_iff_ne.mpr c19
     have c19b1 : ((rd [a1_0, a1_1, a1_2, a1_3, a1_4, a1_5, a1_6, a1_7, a1_8, a1_9, a1_10, a1_11, a1_12, a1_13] x6_1) != 0) = true := bne_iff_ne.mpr c19
     replace H := Option.bind_eq_some_iff.mp H
     obtain ⟨t137, A300, H⟩ := H
     replace H : (if t137 = true then (spec_l03Weighing.l0 k1 (wrap64 (x5_1 + (wrap64 (rd [a1_0, a1_1, a1_2, a1_3, a1_4, a1_5, a1_6, a1_7, a1_8, a1_9, a1_10, a1_11, a1_12, a1_13] x6_1)))) (wrap64 (x6_1 + 1)) a0_0 a0_1 a0_2 a0_3 a1_0 a1_1 a1_2 a1_3 a1_4 a1_5 a1_6 a1_7 a1_8 a1_9 a1_10 a1_11 a1_12 a1_13) else (some false)) = some r := H
     have A30 := zc.mk A300
     clear A300
     by_cases c31 : t137 = true
     ·subst c31
      have H1 : (spec_l03Weighing.l0 k1 (wrap64 (x5_1 + (wrap64 (rd [a1_0, a1_1, a1_2, a1_3, a1_4, a1_5, a1_6, a1_7, a1_8, a1_9, a1_10, a1_11, a1_12, a1_13] x6_1)))) (wrap64 (x6_1 + 1)) a0_0 a0_1 a0_2 a0_3 a1_0 a1_1 a1_2 a1_3 a1_4 a1_5 a1_6 a1_7 a1_8 a1_9 a1_10 a1_11 a1_12 a1_13) = some r := by rw [if_pos rfl] at H; exact H
      clear H
      have H := H1
      clear H1
      have H' := zc.mk H
      clear H
      have p32 : 0 ≤ (x6_1 : Int) := of_decide_eq_true (by first | (with_reducible assumption) | assumption)
      have q32 : x6_1 < (14 : Int) := of_decide_eq_true (by first | (with_reducible assumption) | assumption)
      replace p32 := eq_true p32
      replace q32 := eq_true q32
      have hnb33 := NB128_127.out
      have hnc33 := NB127_128.out
      obtain ⟨hcz34_0, hcz34_1, hcz34_2, hcz34_3, hcz34_4, hcz34_5, hcz34_6, hcz34_7, hcz34_8, hcz34_9, hcz34_10, hcz34_11, hcz34_12, hcz34_13⟩ := cg14 BK128.out
      have hx35_0 : wr.cell? ⟨gb128, (x6_1).toNat, none⟩ = some (.int .i8 (rd [a1_0, a1_1, a1_2, a1_3, a1_4, a1_5, a1_6, a1_7, a1_8, a1_9, a1_10, a1_11, a1_12, a1_13] x6_1)) := (zr BK128.out _).trans (by rcases (show (x6_1 : Int) = 0 ∨ (x6_1 : Int) = 1 ∨ (x6_1 : Int) = 2 ∨ (x6_1 : Int) = 3 ∨ (x6_1 : Int) = 4 ∨ (x6_1 : Int) = 5 ∨ (x6_1 : Int) = 6 ∨ (x6_1 : Int) = 7 ∨ (x6_1 : Int) = 8 ∨ (x6_1 : Int) = 9 ∨ (x6_1 : Int) = 10 ∨ (x6_1 : Int) = 11 ∨ (x6_1 : Int) = 12 ∨ (x6_1 : Int) = 13 by have hp_ : 0 ≤ (x6_1 : Int) := of_decide_eq_true (by first | (with_reducible assumption) | assumption); have hq_ : x6_1 < (14 : Int) := of_decide_eq_true (by first | (with_reducible assumption) | assumption); omega) with h_ | h_ | h_ | h_ | h_ | h_ | h_ | h_ | h_ | h_ | h_ | h_ | h_ | h_ <;> rw [h_] <;> rfl)
      have p36 : 0 ≤ (x6_1 : Int) := of_decide_eq_true (by first | (with_reducible assumption) | assumption)
      have q36 : x6_1 < (14 : Int) := of_decide_eq_true (by first | (with_reducible assumption) | assumption)
      replace p36 := eq_true p36
      replace q36 := eq_true q36
      have hx37_0 : wr.cell? ⟨gb128, (x6_1).toNat, none⟩ = some (.int .i8 (rd [a1_0, a1_1, a1_2, a1_3, a1_4, a1_5, a1_6, a1_7, a1_8, a1_9, a1_10, a1_11, a1_12, a1_13] x6_1)) := (zr BK128.out _).trans (by rcases (show (x6_1 : Int) = 0 ∨ (x6_1 : Int) = 1 ∨ (x6_1 : Int) = 2 ∨ (x6_1 : Int) = 3 ∨ (x6_1 : Int) = 4 ∨ (x6_1 : Int) = 5 ∨ (x6_1 : Int) = 6 ∨ (x6_1 : Int) = 7 ∨ (x6_1 : Int) = 8 ∨ (x6_1 : Int) = 9 ∨ (x6_1 : Int) = 10 ∨ (x6_1 : Int) = 11 ∨ (x6_1 : Int) = 12 ∨ (x6_1 : Int) = 13 by have hp_ : 0 ≤ (x6_1 : Int) := of_decide_eq_true (by first | (with_reducible assumption) | assumption); have hq_ : x6_1 < (14 : Int) := of_decide_eq_true (by first | (with_reducible assumption) | assumption); omega) with h_ | h_ | h_ | h_ | h_ | h_ | h_ | h_ | h_ | h_ | h_ | h_ | h_ | h_ <;> rw [h_] <;> rfl)
      have p38 : 0 ≤ (x6_1 : Int) := of_decide_eq_true (by first | (with_reducible assumption) | assumption)
      have q38 : x6_1 < (14 : Int) := of_decide_eq_true (by first | (with_reducible assumption) | assumption)
      replace p38 := eq_true p38
      replace q38 := eq_true q38
      have hx39_0 : wr.cell? ⟨gb128, (x6_1).toNat, none⟩ = some (.int .i8 (rd [a1_0, a1_1, a1_2, a1_3, a1_4, a1_5, a1_6, a1_7, a1_8, a1_9, a1_10, a1_11, a1_12, a1_13] x6_1)) := (zr BK128.out _).trans (by rcases (show (x6_1 : Int) = 0 ∨ (x6_1 : Int) = 1 ∨ (x6_1 : Int) = 2 ∨ (x6_1 : Int) = 3 ∨ (x6_1 : Int) = 4 ∨ (x6_1 : Int) = 5 ∨ (x6_1 : Int) = 6 ∨ (x6_1 : Int) = 7 ∨ (x6_1 : Int) = 8 ∨ (x6_1 : Int) = 9 ∨ (x6_1 : Int) = 10 ∨ (x6_1 : Int) = 11 ∨ (x6_1 : Int) = 12 ∨ (x6_1 : Int) = 13 by have hp_ : 0 ≤ (x6_1 : Int) := of_decide_eq_true (by first | (with_reducible assumption) | assumption); have hq_ : x6_1 < (14 : Int) := of_decide_eq_true (by first | (with_reducible assumption) | assumption); omega) with h_ | h_ | h_ | h_ | h_ | h_ | h_ | h_ | h_ | h_ | h_ | h_ | h_ | h_ <;> rw [h_] <;> rfl)
      obtain ⟨hcz40_0, hcz40_1, hcz40_2, hcz40_3⟩ := cg4 BK127.out
      go_wp2_with (first | (go_at_call 59; (with_reducible refine (spec_l03There.calls a0_0 a0_1 a0_2 a0_3 x6_1 true _ A30.out).mono ?_); rintro e w41 ⟨rfl, hb⟩; have n0_ := zc.mk (zi (by (with_reducible repeat (first | refine zf ?_ _ | refine zh ?_ | refine zg ?_ _)); exact BK127.out) hb); have n1_ := zc.mk (zi (by (with_reducible repeat (first | refine zf ?_ _ | refine zh ?_ | refine zg ?_ _)); exact BK128.out) hb); have n2_ := zc.mk (zp (by repeat (first | (with_reducible first | exact HB.out | apply zd | apply za | apply zb | refine ze ?_ GE127.out | refine ze ?_ GE128.out) | exact HB.out)) hb); clear BK127; clear BK128; clear HB; have BK127 := n0_; have BK128 := n1_; have HB := n2_; clear n0_ n1_ n2_; (try clear hb); (try clear hb2); (try clear hk); (try clear hi); have p42 : 0 ≤ (x6_1 : Int) := of_decide_eq_true (by first | (with_reducible assumption) | assumption); have q42 : x6_1 < (14 : Int) := of_decide_eq_true (by first | (with_reducible assumption) | assumption); replace p42 := eq_true p42; replace q42 := eq_true q42; obtain ⟨hcz43_0, hcz43_1, hcz43_2, hcz43_3, hcz43_4, hcz43_5, hcz43_6, hcz43_7, hcz43_8, hcz43_9, hcz43_10, hcz43_11, hcz43_12, hcz43_13⟩ := cg14 BK128.out; have hx44_0 : w41.cell? ⟨gb128, (x6_1).toNat, none⟩ = some (.int .i8 (rd [a1_0, a1_1, a1_2, a1_3, a1_4, a1_5, a1_6, a1_7, a1_8, a1_9, a1_10, a1_11, a1_12, a1_13] x6_1)) := (zr BK128.out _).trans (by rcases (show (x6_1 : Int) = 0 ∨ (x6_1 : Int) = 1 ∨ (x6_1 : Int) = 2 ∨ (x6_1 : Int) = 3 ∨ (x6_1 : Int) = 4 ∨ (x6_1 : Int) = 5 ∨ (x6_1 : Int) = 6 ∨ (x6_1 : Int) = 7 ∨ (x6_1 : Int) = 8 ∨ (x6_1 : Int) = 9 ∨ (x6_1 : Int) = 10 ∨ (x6_1 : Int) = 11 ∨ (x6_1 : Int) = 12 ∨ (x6_1 : Int) = 13 by have hp_ : 0 ≤ (x6_1 : Int) := of_decide_eq_true (by first | (with_reducible assumption) | assumption); have hq_ : x6_1 < (14 : Int) := of_decide_eq_true (by first | (with_reducible assumption) | assumption); omega) with h_ | h_ | h_ | h_ | h_ | h_ | h_ | h_ | h_ | h_ | h_ | h_ | h_ | h_ <;> rw [h_] <;> rfl)))
      go_roundg k1
      case measure => have := HK1.out; omega
      case rel => exact ⟨(wrap64 (x5_1 + (wrap64 (rd [a1_0, a1_1, a1_2, a1_3, a1_4, a1_5, a1_6, a1_7, a1_8, a1_9, a1_10, a1_11, a1_12, a1_13] x6_1)))), (wrap64 (x6_1 + 1)), (by first | rfl | (simp; done) | (simp [*]; done)), (by first | rfl | (simp; done) | (simp [*]; done)), H', ⟨by have := HK1.out; omega⟩, ⟨by (with_reducible repeat (first | refine zf ?_ _ | refine zh ?_ | refine zg ?_ _)); exact BK127.out⟩, ⟨by (with_reducible repeat (first | refine zf ?_ _ | refine zh ?_ | refine zg ?_ _)); exact BK128.out⟩, ⟨by repeat (first | (with_reducible first | exact HB.out | apply zd | apply za | apply zb | refine ze ?_ GE127.out | refine ze ?_ GE128.out) | exact HB.out)⟩⟩
     replace c31 := Bool.eq_false_iff.mpr c31
     subst c31
     have H1 : (some false) = some r := by rw [if_neg (show ¬ (false = true) by decide)] at H; exact H
     clear H
     have H := H1
     clear H1
     obtain rfl := Option.some.inj H
     have p45 : 0 ≤ (x6_1 : Int) := of_decide_eq_true (by first | (with_reducible assumption) | assumption)
     have q45 : x6_1 < (14 : Int) := of_decide_eq_true (by first | (with_reducible assumption) | assumption)
     replace p45 := eq_true p45
     replace q45 := eq_true q45
     have hnb46 := NB128_127.out
     have hnc46 := NB127_128.out
     obtain ⟨hcz47_0, hcz47_1, hcz47_2, hcz47_3, hcz47_4, hcz47_5, hcz47_6, hcz47_7, hcz47_8, hcz47_9, hcz47_10, hcz47_11, hcz47_12, hcz47_13⟩ := cg14 BK128.out
     have hx48_0 : wr.cell? ⟨gb128, (x6_1).toNat, none⟩ = some (.int .i8 (rd [a1_0, a1_1, a1_2, a1_3, a1_4, a1_5, a1_6, a1_7, a1_8, a1_9, a1_10, a1_11, a1_12, a1_13] x6_1)) := (zr BK128.out _).trans (by rcases (show (x6_1 : Int) = 0 ∨ (x6_1 : Int) = 1 ∨ (x6_1 : Int) = 2 ∨ (x6_1 : Int) = 3 ∨ (x6_1 : Int) = 4 ∨ (x6_1 : Int) = 5 ∨ (x6_1 : Int) = 6 ∨ (x6_1 : Int) = 7 ∨ (x6_1 : Int) = 8 ∨ (x6_1 : Int) = 9 ∨ (x6_1 : Int) = 10 ∨ (x6_1 : Int) = 11 ∨ (x6_1 : Int) = 12 ∨ (x6_1 : Int) = 13 by have hp_ : 0 ≤ (x6_1 : Int) := of_decide_eq_true (by first | (with_reducible assumption) | assumption); have hq_ : x6_1 < (14 : Int) := of_decide_eq_true (by first | (with_reducible assumption) | assumption); omega) with h_ | h_ | h_ | h_ | h_ | h_ | h_ | h_ | h_ | h_ | h_ | h_ | h_ | h_ <;> rw [h_] <;> rfl)
     have p49 : 0 ≤ (x6_1 : Int) := of_decide_eq_true (by first | (with_reducible assumption) | assumption)
     have q49 : x6_1 < (14 : Int) := of_decide_eq_true (by first | (with_reducible assumption) | assumption)
     replace p49 := eq_true p49
     replace q49 := eq_true q49
     have hx50_0 : wr.cell? ⟨gb128, (x6_1).toNat, none⟩ = some (.int .i8 (rd [a1_0, a1_1, a1_2, a1_3, a1_4, a1_5, a1_6, a1_7, a1_8, a1_9, a1_10, a1_11, a1_12, a1_13] x6_1)) := (zr BK128.out _).trans (by rcases (show (x6_1 : Int) = 0 ∨ (x6_1 : Int) = 1 ∨ (x6_1 : Int) = 2 ∨ (x6_1 : Int) = 3 ∨ (x6_1 : Int) = 4 ∨ (x6_1 : Int) = 5 ∨ (x6_1 : Int) = 6 ∨ (x6_1 : Int) = 7 ∨ (x6_1 : Int) = 8 ∨ (x6_1 : Int) = 9 ∨ (x6_1 : Int) = 10 ∨ (x6_1 : Int) = 11 ∨ (x6_1 : Int) = 12 ∨ (x6_1 : Int) = 13 by have hp_ : 0 ≤ (x6_1 : Int) := of_decide_eq_true (by first | (with_reducible assumption) | assumption); have hq_ : x6_1 < (14 : Int) := of_decide_eq_true (by first | (with_reducible assumption) | assumption); omega) with h_ | h_ | h_ | h_ | h_ | h_ | h_ | h_ | h_ | h_ | h_ | h_ | h_ | h_ <;> rw [h_] <;> rfl)
     have p51 : 0 ≤ (x6_1 : Int) := of_decide_eq_true (by first | (with_reducible assumption) | assumption)
     have q51 : x6_1 < (14 : Int) := of_decide_eq_true (by first | (with_reducible assumption) | assumption)
     replace p51 := eq_true p51
     replace q51 := eq_true q51
     have hx52_0 : wr.cell? ⟨gb128, (x6_1).toNat, none⟩ = some (.int .i8 (rd [a1_0, a1_1, a1_2, a1_3, a1_4, a1_5, a1_6, a1_7, a1_8, a1_9, a1_10, a1_11, a1_12, a1_13] x6_1)) := (zr BK128.out _).trans (by rcases (show (x6_1 : Int) = 0 ∨ (x6_1 : Int) = 1 ∨ (x6_1 : Int) = 2 ∨ (x6_1 : Int) = 3 ∨ (x6_1 : Int) = 4 ∨ (x6_1 : Int) = 5 ∨ (x6_1 : Int) = 6 ∨ (x6_1 : Int) = 7 ∨ (x6_1 : Int) = 8 ∨ (x6_1 : Int) = 9 ∨ (x6_1 : Int) = 10 ∨ (x6_1 : Int) = 11 ∨ (x6_1 : Int) = 12 ∨ (x6_1 : Int) = 13 by have hp_ : 0 ≤ (x6_1 : Int) := of_decide_eq_true (by first | (with_reducible assumption) | assumption); have hq_ : x6_1 < (14 : Int) := of_decide_eq_true (by first | (with_reducible assumption) | assumption); omega) with h_ | h_ | h_ | h_ | h_ | h_ | h_ | h_ | h_ | h_ | h_ | h_ | h_ | h_ <;> rw [h_] <;> rfl)
     obtain ⟨hcz53_0, hcz53_1, hcz53_2, hcz53_3⟩ := cg4 BK127.out
     go_wp2_with (first | (go_at_call 59; (with_reducible refine (spec_l03There.calls a0_0 a0_1 a0_2 a0_3 x6_1 false _ A30.out).mono ?_); rintro e w54 ⟨rfl, hb⟩; have n0_ := zc.mk (zi (by (with_reducible repeat (first | refine zf ?_ _ | refine zh ?_ | refine zg ?_ _)); exact BK127.out) hb); have n1_ := zc.mk (zi (by (with_reducible repeat (first | refine zf ?_ _ | refine zh ?_ | refine zg ?_ _)); exact BK128.out) hb); have n2_ := zc.mk (zp (by repeat (first | (with_reducible first | exact HB.out | apply zd | apply za | apply zb | refine ze ?_ GE127.out | refine ze ?_ GE128.out) | exact HB.out)) hb); clear BK127; clear BK128; clear HB; have BK127 := n0_; have BK128 := n1_; have HB := n2_; clear n0_ n1_ n2_; (try clear hb); (try clear hb2); (try clear hk); (try clear hi)))
     go_ret
     exact ⟨by first | rfl | (simp [errW_none, errW_some] <;> rfl) | (simp [*, errW_none, errW_some] <;> rfl), by repeat (first | (with_reducible first | exact HB.out | apply zd | apply za | apply zb | refine ze ?_ GE127.out | refine ze ?_ GE128.out) | exact HB.out)⟩
    rw [if_neg c6] at H
    exact absurd H (by simp)
   rw [if_neg c5] at H
   have c5b0 : decide (x6_1 < 14) = false := decide_eq_false c5
   clear c5
   obtain rfl := Option.some.inj H
   go_wp2
   go_ret
   exact ⟨by first | rfl | (simp [errW_none, errW_some] <;> rfl) | (simp [*, errW_none, errW_some] <;> rfl), by repeat (first | (with_reducible first | exact HB.out | apply zd | apply za | apply zb | refine ze ?_ GE127.out | refine ze ?_ GE128.out) | exact HB.out)⟩

end Go.Proofs.Ytmmonhpjjjdnjaa.Y
