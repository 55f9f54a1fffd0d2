-- Written by wip/tools/myprint.py, a program of this session, by way of the kit's print.
import Derived.Test.YtgcbhknpfpgffaaCx0
namespace Go.Proofs.Ytgcbhknpfpgffaa.C
open Go.RowKit Go.Proofs.YtgcbhknpfpgffaaW.PrintWords Go.Proofs.YtgcbhknpfpgffaaW.PrintLast Go.Proofs.YtgcbhknpfpgffaaW.PrintMore
attribute [local go_sem] wl_0 wl_1 wl_2 wl_3 wl_4 zdb zcb zkb zjb zva zwa zbb zab   -- for this text's walks alone
set_option linter.unusedVariables false
set_option linter.unusedSimpArgs false

/-! ### spec_l06Choose: function 22 -/
def spec_l06Choose.l0 : Nat → Int → Int → Int → Int → Int → Option (Int)
 | 0, _, _, _, _, _ => none
 | k + 1, x0, x1, x5, x6, x7 => if x7 ≤ x1 then (if x7 ≤ x0 then (if (wrap64 (x7 + 1)) = 0 then (none) else (spec_l06Choose.l0 k x0 x1 (wrap64 (x5 + x6)) (wrap64 (Int.tdiv (wrap64 (x6 * (wrap64 (x0 - x7)))) (wrap64 (x7 + 1)))) (wrap64 (x7 + 1)))) else (some x5)) else (some x5)
def spec_l06Choose.f (k : Nat) (a0 : Int) (a1 : Int) : Option (Int) := spec_l06Choose.l0 k a0 a1 0 1 0
set_option maxHeartbeats 8000000 in
set_option maxRecDepth 100000 in
theorem spec_l06Choose.calls (k : Nat) (a0 : Int) (a1 : Int) (r : Int) (w : World) (h : spec_l06Choose.f k a0 a1 = some r) :
  Calls Try.prog 22 #[.int .i64 a0, .int .i64 a1] w fun e w' => e = .returned (.int .i64 r) ∧ zta w w' := by
 have H : (spec_l06Choose.l0 k a0 a1 0 1 0) = some r := h
 clear h
 have H' := zg.mk H
 clear H
 go_enter Try.func22, Try.ntmps22
 go_wp2
 go_loopg [5, 6, 7] k (fun kq v5 v6 v7 w' => ∃ (x5_1 : Int) (x6_1 : Int) (x7_1 : Int), v5 = .int .i64 x5_1 ∧ v6 = .int .i64 x6_1 ∧ v7 = .int .i64 x7_1 ∧ zg (spec_l06Choose.l0 kq a0 a1 x5_1 x6_1 x7_1 = some r) ∧ zg (kq ≤ k) ∧ zta w w')
 case atStart => exact ⟨(0), (1), (0), (by first | rfl | (simp; done) | (simp [*]; done)), (by first | rfl | (simp; done) | (simp [*]; done)), (by first | rfl | (simp; done) | (simp [*]; done)), H', ⟨Nat.le_refl _⟩, by repeat (first | exact zta.refl _ | apply zta.step)⟩
 case round =>
  clear H'
  try clear c2
  try clear p2
  obtain ⟨x5_1, x6_1, x7_1, rfl, rfl, rfl, HA, HK1, ⟨m1, rfl⟩⟩ := hrel
  cases gk with
  | zero => exact absurd HA.out (by simp [spec_l06Choose.l0])
  | succ k1 =>
   have H := HA.out
   clear HA
   simp only [spec_l06Choose.l0] at H
   by_cases c3 : x7_1 ≤ a1
   ·rw [if_pos c3] at H
    have c3b0 : decide (x7_1 ≤ a1) = true := decide_eq_true c3
    clear c3
    by_cases c4 : x7_1 ≤ a0
    ·rw [if_pos c4] at H
     have c4b0 : decide (x7_1 ≤ a0) = true := decide_eq_true c4
     clear c4
     by_cases c5 : (wrap64 (x7_1 + 1)) = 0
     ·rw [if_pos c5] at H
      exact absurd H (by simp)
     ·rw [if_neg c5] at H
      have c5b0 : ((wrap64 (x7_1 + 1)) == 0) = false := beq_eq_false_iff_ne.mpr c5
      have c5b1 : ((wrap64 (x7_1 + 1)) != 0) = true := bne_iff_ne.mpr c5
      (try (have c5b2 : ((IntKind.i64.wrap (x7_1 + 1)) == 0) = false := by have h_ : ((wrap64 (x7_1 + 1)) == 0) = false := beq_eq_false_iff_ne.mpr c5; simpa only [zv, zw] using h_))
      (try (have c5b3 : ((IntKind.i64.wrap (x7_1 + 1)) != 0) = true := by have h_ : ((wrap64 (x7_1 + 1)) != 0) = true := bne_iff_ne.mpr c5; simpa only [zv, zw] using h_))
      have H' := zg.mk H
      clear H
      go_wp2
      go_roundg k1
      case measure => have := HK1.out; omega
      case rel => exact ⟨(wrap64 (x5_1 + x6_1)), (wrap64 (Int.tdiv (wrap64 (x6_1 * (wrap64 (a0 - x7_1)))) (wrap64 (x7_1 + 1)))), (wrap64 (x7_1 + 1)), (by first | rfl | (simp; done) | (simp [*]; done)), (by first | rfl | (simp; done) | (simp [*]; done)), (by first | rfl | (simp; done) | (simp [*]; done)), H', ⟨by have := HK1.out; omega⟩, by repeat (first | exact zta.refl _ | apply zta.step)⟩
    ·rw [if_neg c4] at H
     have c4b0 : decide (x7_1 ≤ a0) = false := decide_eq_false c4
     clear c4
     obtain rfl := Option.some.inj H
     go_wp2
     go_ret
     exact ⟨by first | rfl | (simp; done) | (simp [*]; done), by repeat (first | exact zta.refl _ | apply zta.step)⟩
   ·rw [if_neg c3] at H
    have c3b0 : decide (x7_1 ≤ a1) = false := decide_eq_false c3
    clear c3
    obtain rfl := Option.some.inj H
    go_wp2
    go_ret
    exact ⟨by first | rfl | (simp; done) | (simp [*]; done), by repeat (first | exact zta.refl _ | apply zta.step)⟩

/-! ### spec_l06Weight: function 14 -/
def spec_l06Weight.l0 : Nat → Int → Int → Int → Int → Int → Int → Int → Int → Option (Int)
 | 0, _, _, _, _, _, _, _, _ => none
 | k + 1, x0, x2, x7, x8, x112000, x112001, x112002, x112003 => if x8 ≤ x0 then (if 0 ≤ x8 then (if x8 < 4 then ((spec_l06Choose.f k x2 (wrap64 (x0 - x8))).bind fun t114 => (spec_l06Weight.l0 k x0 x2 (wrap64 (x7 + (wrap64 ((rd [x112000, x112001, x112002, x112003] x8) * t114)))) (wrap64 (x8 + 1)) x112000 x112001 x112002 x112003)) else (none)) else (none)) else (some x7)
def spec_l06Weight.f (k : Nat) (a0 : Int) (a1_0 : Int) (a1_1 : Int) (a1_2 : Int) (a1_3 : Int) (a2 : Int) : Option (Int) := spec_l06Weight.l0 k a0 a2 0 0 a1_0 a1_1 a1_2 a1_3
set_option maxHeartbeats 8000000 in
set_option maxRecDepth 100000 in
theorem spec_l06Weight.calls (k : Nat) (a0 : Int) (a1_0 : Int) (a1_1 : Int) (a1_2 : Int) (a1_3 : Int) (a2 : Int) (r : Int) (w : World) (h : spec_l06Weight.f k a0 a1_0 a1_1 a1_2 a1_3 a2 = some r) :
  Calls Try.prog 14 #[.int .i64 a0, .agg #[.int .i64 a1_0, .int .i64 a1_1, .int .i64 a1_2, .int .i64 a1_3], .int .i64 a2] w fun e w' => e = .returned (.int .i64 r) ∧ Below w.heap.size w w' := by
 have hu25 := Try.underlying25
 have HB := zg.mk (Below.refl w.heap.size w)
 have H : (spec_l06Weight.l0 k a0 a2 0 0 a1_0 a1_1 a1_2 a1_3) = some r := h
 clear h
 have H' := zg.mk H
 clear H
 go_enter Try.func14, Try.ntmps14
 go_wp2_with (first | ((with_reducible refine zga (N := 4) rfl ?_); refine zia ?hg (N := 4) ?hd (cs := #[.int .i64 a1_0, .int .i64 a1_1, .int .i64 a1_2, .int .i64 a1_3]) (t := 25) ?hr ?_; (case hd => rfl); (case hg => rfl); (case hr => first | (go_simp; done) | (go_simp; rfl)); intro gb111 hg w4 hbox hb; have n0_ := zg.mk (zx (by repeat (first | (with_reducible first | exact HB.out | apply zq | apply zn | apply zo) | exact HB.out)) hb); have n1_ := zg.mk (hbox); have n2_ := zg.mk ((by rw [hg]; exact (zpa (by repeat (first | (with_reducible first | exact HB.out | apply zq | apply zn | apply zo) | exact HB.out))) : w.heap.size ≤ gb111)); have n3_ := zg.mk ((by rw [hg]; exact (zpa (by repeat (first | (with_reducible first | exact HB.out | apply zq | apply zn | apply zo) | exact HB.out))) : w.heap.size ≤ gb111)); clear HB; have HB := n0_; have BK111 := n1_; have GW111 := n2_; have GE111 := n3_; clear n0_ n1_ n2_ n3_; clear hb hbox hg))
 repeat (go_quiet (first | ((with_reducible refine zga (N := 4) rfl ?_); refine zia ?hg (N := 4) ?hd (cs := #[.int .i64 a1_0, .int .i64 a1_1, .int .i64 a1_2, .int .i64 a1_3]) (t := 25) ?hr ?_; (case hd => rfl); (case hg => rfl); (case hr => first | (go_simp; done) | (go_simp; rfl)); intro gb111 hg w4 hbox hb; have n0_ := zg.mk (zx (by repeat (first | (with_reducible first | exact HB.out | apply zq | apply zn | apply zo) | exact HB.out)) hb); have n1_ := zg.mk (hbox); have n2_ := zg.mk ((by rw [hg]; exact (zpa (by repeat (first | (with_reducible first | exact HB.out | apply zq | apply zn | apply zo) | exact HB.out))) : w.heap.size ≤ gb111)); have n3_ := zg.mk ((by rw [hg]; exact (zpa (by repeat (first | (with_reducible first | exact HB.out | apply zq | apply zn | apply zo) | exact HB.out))) : w.heap.size ≤ gb111)); clear HB; have HB := n0_; have BK111 := n1_; have GW111 := n2_; have GE111 := n3_; clear n0_ n1_ n2_ n3_; clear hb hbox hg)); try go_wp2_with (first | ((with_reducible refine zga (N := 4) rfl ?_); refine zia ?hg (N := 4) ?hd (cs := #[.int .i64 a1_0, .int .i64 a1_1, .int .i64 a1_2, .int .i64 a1_3]) (t := 25) ?hr ?_; (case hd => rfl); (case hg => rfl); (case hr => first | (go_simp; done) | (go_simp; rfl)); intro gb111 hg w4 hbox hb; have n0_ := zg.mk (zx (by repeat (first | (with_reducible first | exact HB.out | apply zq | apply zn | apply zo) | exact HB.out)) hb); have n1_ := zg.mk (hbox); have n2_ := zg.mk ((by rw [hg]; exact (zpa (by repeat (first | (with_reducible first | exact HB.out | apply zq | apply zn | apply zo) | exact HB.out))) : w.heap.size ≤ gb111)); have n3_ := zg.mk ((by rw [hg]; exact (zpa (by repeat (first | (with_reducible first | exact HB.out | apply zq | apply zn | apply zo) | exact HB.out))) : w.heap.size ≤ gb111)); clear HB; have HB := n0_; have BK111 := n1_; have GW111 := n2_; have GE111 := n3_; clear n0_ n1_ n2_ n3_; clear hb hbox hg)))
 go_loopg [7, 8] k (fun kq v7 v8 w' => ∃ (x7_1 : Int) (x8_1 : Int), v7 = .int .i64 x7_1 ∧ v8 = .int .i64 x8_1 ∧ zg (spec_l06Weight.l0 kq a0 a2 x7_1 x8_1 a1_0 a1_1 a1_2 a1_3 = some r) ∧ zg (kq ≤ k) ∧ zg (w'.heap[gb111]? = some (.cells #[.int .i64 a1_0, .int .i64 a1_1, .int .i64 a1_2, .int .i64 a1_3] 25 (0, 0))) ∧ zg (Below w.heap.size w w'))
 case atStart => exact ⟨(0), (0), (by first | rfl | (simp; done) | (simp [*]; done)), (by first | rfl | (simp; done) | (simp [*]; done)), H', ⟨Nat.le_refl _⟩, ⟨by (with_reducible repeat (first | refine ze ?_ _ | refine zf ?_ | refine za ?_ _)); exact BK111.out⟩, ⟨by repeat (first | (with_reducible first | exact HB.out | apply zq | apply zn | apply zo | refine zi ?_ GE111.out) | exact HB.out)⟩⟩
 case round =>
  clear H'
  try clear c1
  try clear p2
  obtain ⟨x7_1, x8_1, rfl, rfl, HA, HK1, BK111, HB⟩ := hrel
  cases gk with
  | zero => exact absurd HA.out (by simp [spec_l06Weight.l0])
  | succ k1 =>
   have H := HA.out
   clear HA
   simp only [spec_l06Weight.l0] at H
   by_cases c5 : x8_1 ≤ a0
   ·rw [if_pos c5] at H
    have c5b0 : decide (x8_1 ≤ a0) = true := decide_eq_true c5
    clear c5
    by_cases c6 : 0 ≤ x8_1
    ·rw [if_pos c6] at H
     have c6b0 : decide (0 ≤ x8_1) = true := decide_eq_true c6
     clear c6
     by_cases c7 : x8_1 < 4
     ·rw [if_pos c7] at H
      have c7b0 : decide (x8_1 < 4) = true := decide_eq_true c7
      clear c7
      replace H := Option.bind_eq_some_iff.mp H
      obtain ⟨t114, A80, H⟩ := H
      replace H : (spec_l06Weight.l0 k1 a0 a2 (wrap64 (x7_1 + (wrap64 ((rd [a1_0, a1_1, a1_2, a1_3] x8_1) * t114)))) (wrap64 (x8_1 + 1)) a1_0 a1_1 a1_2 a1_3) = some r := H
      have A8 := zg.mk A80
      clear A80
      have H' := zg.mk H
      clear H
      have p9 : 0 ≤ (x8_1 : Int) := of_decide_eq_true (by first | (with_reducible assumption) | assumption)
      have q9 : x8_1 < (4 : Int) := of_decide_eq_true (by first | (with_reducible assumption) | assumption)
      replace p9 := eq_true p9
      replace q9 := eq_true q9
      have hcz10_0 : wr.cell? ⟨gb111, 0, none⟩ = some (.int .i64 a1_0) := (zh BK111.out 0).trans rfl
      have hcz10_1 : wr.cell? ⟨gb111, 1, none⟩ = some (.int .i64 a1_1) := (zh BK111.out 1).trans rfl
      have hcz10_2 : wr.cell? ⟨gb111, 2, none⟩ = some (.int .i64 a1_2) := (zh BK111.out 2).trans rfl
      have hcz10_3 : wr.cell? ⟨gb111, 3, none⟩ = some (.int .i64 a1_3) := (zh BK111.out 3).trans rfl
      have hfz10_0 := zj BK111.out 0
      have hfz10_1 := zj BK111.out 1
      have hfz10_2 := zj BK111.out 2
      have hfz10_3 := zj BK111.out 3
      have hx11_0 : wr.cell? ⟨gb111, (x8_1).toNat, none⟩ = some (.int .i64 (rd [a1_0, a1_1, a1_2, a1_3] x8_1)) := (zh BK111.out _).trans (by rcases (show (x8_1 : Int) = 0 ∨ (x8_1 : Int) = 1 ∨ (x8_1 : Int) = 2 ∨ (x8_1 : Int) = 3 by have hp_ : 0 ≤ (x8_1 : Int) := of_decide_eq_true (by first | (with_reducible assumption) | assumption); have hq_ : x8_1 < (4 : Int) := of_decide_eq_true (by first | (with_reducible assumption) | assumption); omega) with h_ | h_ | h_ | h_ <;> rw [h_] <;> rfl)
      go_wp2_with (first | (go_at_call 22; (with_reducible refine (spec_l06Choose.calls k1 a2 (wrap64 (a0 - x8_1)) t114 _ A8.out).mono ?_); rintro e w' ⟨rfl, ⟨nd, rfl⟩⟩; (try first | exact ⟨rfl, _, World.drewN_drewN _ _ _⟩ | exact ⟨rfl, _, Eq.trans (World.drewN_drewN _ _ _) (congrArg (World.drewN _) (Nat.add_assoc _ _ _))⟩)))
      repeat (go_quiet (first | (go_at_call 22; (with_reducible refine (spec_l06Choose.calls k1 a2 (wrap64 (a0 - x8_1)) t114 _ A8.out).mono ?_); rintro e w' ⟨rfl, ⟨nd, rfl⟩⟩; (try first | exact ⟨rfl, _, World.drewN_drewN _ _ _⟩ | exact ⟨rfl, _, Eq.trans (World.drewN_drewN _ _ _) (congrArg (World.drewN _) (Nat.add_assoc _ _ _))⟩))); try go_wp2_with (first | (go_at_call 22; (with_reducible refine (spec_l06Choose.calls k1 a2 (wrap64 (a0 - x8_1)) t114 _ A8.out).mono ?_); rintro e w' ⟨rfl, ⟨nd, rfl⟩⟩; (try first | exact ⟨rfl, _, World.drewN_drewN _ _ _⟩ | exact ⟨rfl, _, Eq.trans (World.drewN_drewN _ _ _) (congrArg (World.drewN _) (Nat.add_assoc _ _ _))⟩))))
      go_roundg k1
      case measure => have := HK1.out; omega
      case rel => exact ⟨(wrap64 (x7_1 + (wrap64 ((rd [a1_0, a1_1, a1_2, a1_3] x8_1) * t114)))), (wrap64 (x8_1 + 1)), (by first | rfl | (simp; done) | (simp [*]; done)), (by first | rfl | (simp; done) | (simp [*]; done)), H', ⟨by have := HK1.out; omega⟩, ⟨by (with_reducible repeat (first | refine ze ?_ _ | refine zf ?_ | refine za ?_ _)); exact BK111.out⟩, ⟨by repeat (first | (with_reducible first | exact HB.out | apply zq | apply zn | apply zo | refine zi ?_ GE111.out) | exact HB.out)⟩⟩
     ·rw [if_neg c7] at H
      exact absurd H (by simp)
    ·rw [if_neg c6] at H
     exact absurd H (by simp)
   ·rw [if_neg c5] at H
    have c5b0 : decide (x8_1 ≤ a0) = false := decide_eq_false c5
    clear c5
    obtain rfl := Option.some.inj H
    go_wp2
    repeat (go_quiet (fail); try go_wp2)
    go_ret
    exact ⟨by first | rfl | (simp [zca, zda] <;> rfl) | (simp [*, zca, zda] <;> rfl), by repeat (first | (with_reducible first | exact HB.out | apply zq | apply zn | apply zo | refine zi ?_ GE111.out) | exact HB.out)⟩

end Go.Proofs.Ytgcbhknpfpgffaa.C
