-- Written by wip/tools/myprint.py, a program of this session, by way of the kit's print.
import Derived.Test.YtgcbhknpfpgffaaCx0
namespace Go.Proofs.Ytgcbhknpfpgffaa.C
open Go.RowKit Go.Proofs.YtgcbhknpfpgffaaW.PrintWords Go.Proofs.YtgcbhknpfpgffaaW.PrintLast Go.Proofs.YtgcbhknpfpgffaaW.PrintMore
attribute [local go_sem] wl_0 wl_1 wl_2 wl_3 wl_4 zdb zcb zkb zjb zva zwa zbb zab   -- for this text's walks alone
set_option linter.unusedVariables false
set_option linter.unusedSimpArgs false

/-! ### impl_weight: function 20 -/
mutual
def impl_weight.l0 : Nat → Int → Int → Int → Int → Int → Int → Int → Int → Option (Int)
 | 0, _, _, _, _, _, _, _, _ => none
 | k + 1, x0, x2, x7, x14, x90014000, x90014001, x90014002, x90014003 => if x14 < 4 then (if 0 ≤ x14 then (impl_weight.l1 k x0 x2 x7 x14 (rd [x90014000, x90014001, x90014002, x90014003] x14) 1 0 0 x14 x90014000 x90014001 x90014002 x90014003) else (none)) else (some x7)
def impl_weight.l1 : Nat → Int → Int → Int → Int → Int → Int → Int → Int → Int → Int → Int → Int → Int → Option (Int)
 | 0, _, _, _, _, _, _, _, _, _, _, _, _, _ => none
 | k + 1, x0, x2, x7, x8, x9, x10, x11, x12, x14, x90014000, x90014001, x90014002, x90014003 => if x12 ≤ (wrap64 (x0 - x8)) then (if (wrap64 (x12 + 1)) = 0 then (none) else (impl_weight.l1 k x0 x2 x7 x8 x9 (wrap64 (Int.tdiv (wrap64 (x10 * (wrap64 (x2 - x12)))) (wrap64 (x12 + 1)))) (wrap64 (x11 + x10)) (wrap64 (x12 + 1)) x14 x90014000 x90014001 x90014002 x90014003)) else (impl_weight.l0 k x0 x2 (wrap64 (x7 + (wrap64 (x9 * x11)))) (wrap64 (x14 + 1)) x90014000 x90014001 x90014002 x90014003)
end
def impl_weight.f (k : Nat) (a0 : Int) (a1_0 : Int) (a1_1 : Int) (a1_2 : Int) (a1_3 : Int) (a2 : Int) : Option (Int) := impl_weight.l0 k a0 a2 0 0 a1_0 a1_1 a1_2 a1_3
set_option maxHeartbeats 8000000 in
set_option maxRecDepth 100000 in
theorem impl_weight.calls (k : Nat) (a0 : Int) (a1_0 : Int) (a1_1 : Int) (a1_2 : Int) (a1_3 : Int) (a2 : Int) (r : Int) (w : World) (h : impl_weight.f k a0 a1_0 a1_1 a1_2 a1_3 a2 = some r) :
  Calls Try.prog 20 #[.int .i64 a0, .agg #[.int .i64 a1_0, .int .i64 a1_1, .int .i64 a1_2, .int .i64 a1_3], .int .i64 a2] w fun e w' => e = .returned (.int .i64 r) ∧ Below w.heap.size w w' := by
 have hu25 := Try.underlying25
 have HB := zg.mk (Below.refl w.heap.size w)
 have H : (impl_weight.l0 k a0 a2 0 0 a1_0 a1_1 a1_2 a1_3) = some r := h
 clear h
 have H' := zg.mk H
 clear H
 go_enter Try.func20, Try.ntmps20
 go_wp2_with (first | ((with_reducible refine zga (N := 4) rfl ?_); refine zia ?hg (N := 4) ?hd (cs := #[.int .i64 a1_0, .int .i64 a1_1, .int .i64 a1_2, .int .i64 a1_3]) (t := 25) ?hr ?_; (case hd => rfl); (case hg => rfl); (case hr => first | (go_simp; done) | (go_simp; rfl)); intro gb142 hg w4 hbox hb; have n0_ := zg.mk (zx (by repeat (first | (with_reducible first | exact HB.out | apply zq | apply zn | apply zo) | exact HB.out)) hb); have n1_ := zg.mk (hbox); have n2_ := zg.mk ((by rw [hg]; exact (zpa (by repeat (first | (with_reducible first | exact HB.out | apply zq | apply zn | apply zo) | exact HB.out))) : w.heap.size ≤ gb142)); have n3_ := zg.mk ((by rw [hg]; exact (zpa (by repeat (first | (with_reducible first | exact HB.out | apply zq | apply zn | apply zo) | exact HB.out))) : w.heap.size ≤ gb142)); clear HB; have HB := n0_; have BK142 := n1_; have GW142 := n2_; have GE142 := n3_; clear n0_ n1_ n2_ n3_; clear hb hbox hg; have hcz5_0 : w4.cell? ⟨gb142, 0, none⟩ = some (.int .i64 a1_0) := (zh BK142.out 0).trans rfl; have hcz5_1 : w4.cell? ⟨gb142, 1, none⟩ = some (.int .i64 a1_1) := (zh BK142.out 1).trans rfl; have hcz5_2 : w4.cell? ⟨gb142, 2, none⟩ = some (.int .i64 a1_2) := (zh BK142.out 2).trans rfl; have hcz5_3 : w4.cell? ⟨gb142, 3, none⟩ = some (.int .i64 a1_3) := (zh BK142.out 3).trans rfl; have hfz5_0 := zj BK142.out 0; have hfz5_1 := zj BK142.out 1; have hfz5_2 := zj BK142.out 2; have hfz5_3 := zj BK142.out 3))
 go_loopg [7, 14] k (fun kq v7 v14 w' => ∃ (x7_1 : Int) (x14_1 : Int), v7 = .int .i64 x7_1 ∧ v14 = .int .i64 x14_1 ∧ zg (impl_weight.l0 kq a0 a2 x7_1 x14_1 a1_0 a1_1 a1_2 a1_3 = some r) ∧ zg (kq ≤ k) ∧ zg (w'.heap[gb142]? = some (.cells #[.int .i64 a1_0, .int .i64 a1_1, .int .i64 a1_2, .int .i64 a1_3] 25 (0, 0))) ∧ zg (Below w.heap.size w w'))
 case atStart => exact ⟨(0), (0), (by first | rfl | (simp; done) | (simp [*]; done)), (by first | rfl | (simp; done) | (simp [*]; done)), H', ⟨Nat.le_refl _⟩, ⟨by (with_reducible repeat (first | refine ze ?_ _ | refine zf ?_ | refine za ?_ _)); exact BK142.out⟩, ⟨by repeat (first | (with_reducible first | exact HB.out | apply zq | apply zn | apply zo | refine zi ?_ GE142.out) | exact HB.out)⟩⟩
 case round =>
  clear H'
  try clear c2
  try clear p2
  try clear hcz5_0
  try clear hcz5_1
  try clear hcz5_2
  try clear hcz5_3
  try clear hfz5_0
  try clear hfz5_1
  try clear hfz5_2
  try clear hfz5_3
  obtain ⟨x7_1, x14_1, rfl, rfl, HA, HK1, BK142, HB⟩ := hrel
  cases gk with
  | zero => exact absurd HA.out (by simp [impl_weight.l0])
  | succ k1 =>
   have H := HA.out
   clear HA
   simp only [impl_weight.l0] at H
   by_cases c6 : x14_1 < 4
   ·rw [if_pos c6] at H
    have c6b0 : decide (x14_1 < 4) = true := decide_eq_true c6
    clear c6
    by_cases c7 : 0 ≤ x14_1
    ·rw [if_pos c7] at H
     have c7b0 : decide (0 ≤ x14_1) = true := decide_eq_true c7
     clear c7
     have H' := zg.mk H
     clear H
     have hx8_0 : ∀ W_ : World, (Instr.index 25 (.agg #[.int .i64 a1_0, .int .i64 a1_1, .int .i64 a1_2, .int .i64 a1_3]) (.int .i64 x14_1)).run Try.prog W_ = .ok (.int .i64 (rd [a1_0, a1_1, a1_2, a1_3] x14_1)) W_ := by intro W_; rcases (show (x14_1 : Int) = 0 ∨ (x14_1 : Int) = 1 ∨ (x14_1 : Int) = 2 ∨ (x14_1 : Int) = 3 by have hp_ : 0 ≤ (x14_1 : Int) := of_decide_eq_true (by first | (with_reducible assumption) | assumption); have hq_ : x14_1 < (4 : Int) := of_decide_eq_true (by first | (with_reducible assumption) | assumption); omega) with h_ | h_ | h_ | h_ <;> rw [h_] <;> kernel_rfl
     go_wp2
     go_loopg [10, 11, 12] k1 (fun kq v10 v11 v12 w' => ∃ (x10_2 : Int) (x11_2 : Int) (x12_2 : Int), v10 = .int .i64 x10_2 ∧ v11 = .int .i64 x11_2 ∧ v12 = .int .i64 x12_2 ∧ zg (impl_weight.l1 kq a0 a2 x7_1 x14_1 (rd [a1_0, a1_1, a1_2, a1_3] x14_1) x10_2 x11_2 x12_2 x14_1 a1_0 a1_1 a1_2 a1_3 = some r) ∧ zg (kq ≤ k1) ∧ zg (w'.heap[gb142]? = some (.cells #[.int .i64 a1_0, .int .i64 a1_1, .int .i64 a1_2, .int .i64 a1_3] 25 (0, 0))) ∧ zg (Below w.heap.size w w'))
     case atStart => exact ⟨(1), (0), (0), (by first | rfl | (simp; done) | (simp [*]; done)), (by first | rfl | (simp; done) | (simp [*]; done)), (by first | rfl | (simp; done) | (simp [*]; done)), H', ⟨Nat.le_refl _⟩, ⟨by (with_reducible repeat (first | refine ze ?_ _ | refine zf ?_ | refine za ?_ _)); exact BK142.out⟩, ⟨by repeat (first | (with_reducible first | exact HB.out | apply zq | apply zn | apply zo | refine zi ?_ GE142.out) | exact HB.out)⟩⟩
     case round =>
      clear H'
      try clear c2
      try clear p2
      try clear c6
      try clear c6b0
      try clear c7
      try clear c7b0
      try clear hx8
      try clear hcz5_0
      try clear hcz5_1
      try clear hcz5_2
      try clear hcz5_3
      try clear hfz5_0
      try clear hfz5_1
      try clear hfz5_2
      try clear hfz5_3
      try clear hx8_0
      try clear p2
      obtain ⟨x10_2, x11_2, x12_2, rfl, rfl, rfl, HA, HK2, BK142, HB⟩ := hrel
      cases gk with
      | zero => exact absurd HA.out (by simp [impl_weight.l1])
      | succ k2 =>
       have H := HA.out
       clear HA
       simp only [impl_weight.l1] at H
       by_cases c9 : x12_2 ≤ (wrap64 (a0 - x14_1))
       ·rw [if_pos c9] at H
        have c9b0 : decide (x12_2 ≤ (wrap64 (a0 - x14_1))) = true := decide_eq_true c9
        (try (have c9b1 : decide (x12_2 ≤ (IntKind.i64.wrap (a0 - x14_1))) = true := by have h_ : decide (x12_2 ≤ (wrap64 (a0 - x14_1))) = true := decide_eq_true c9; simpa only [zv, zw] using h_))
        clear c9
        by_cases c10 : (wrap64 (x12_2 + 1)) = 0
        ·rw [if_pos c10] at H
         exact absurd H (by simp)
        ·rw [if_neg c10] at H
         have c10b0 : ((wrap64 (x12_2 + 1)) == 0) = false := beq_eq_false_iff_ne.mpr c10
         have c10b1 : ((wrap64 (x12_2 + 1)) != 0) = true := bne_iff_ne.mpr c10
         (try (have c10b2 : ((IntKind.i64.wrap (x12_2 + 1)) == 0) = false := by have h_ : ((wrap64 (x12_2 + 1)) == 0) = false := beq_eq_false_iff_ne.mpr c10; simpa only [zv, zw] using h_))
         (try (have c10b3 : ((IntKind.i64.wrap (x12_2 + 1)) != 0) = true := by have h_ : ((wrap64 (x12_2 + 1)) != 0) = true := bne_iff_ne.mpr c10; simpa only [zv, zw] using h_))
         have H' := zg.mk H
         clear H
         go_wp2
         go_roundg k2
         case measure => have := HK1.out; have := HK2.out; omega
         case rel => exact ⟨(wrap64 (Int.tdiv (wrap64 (x10_2 * (wrap64 (a2 - x12_2)))) (wrap64 (x12_2 + 1)))), (wrap64 (x11_2 + x10_2)), (wrap64 (x12_2 + 1)), (by first | rfl | (simp; done) | (simp [*]; done)), (by first | rfl | (simp; done) | (simp [*]; done)), (by first | rfl | (simp; done) | (simp [*]; done)), H', ⟨by have := HK1.out; have := HK2.out; omega⟩, ⟨by (with_reducible repeat (first | refine ze ?_ _ | refine zf ?_ | refine za ?_ _)); exact BK142.out⟩, ⟨by repeat (first | (with_reducible first | exact HB.out | apply zq | apply zn | apply zo | refine zi ?_ GE142.out) | exact HB.out)⟩⟩
       ·rw [if_neg c9] at H
        have c9b0 : decide (x12_2 ≤ (wrap64 (a0 - x14_1))) = false := decide_eq_false c9
        (try (have c9b1 : decide (x12_2 ≤ (IntKind.i64.wrap (a0 - x14_1))) = false := by have h_ : decide (x12_2 ≤ (wrap64 (a0 - x14_1))) = false := decide_eq_false c9; simpa only [zv, zw] using h_))
        clear c9
        have H' := zg.mk H
        clear H
        go_wp2
        go_roundg k2
        case measure => have := HK1.out; have := HK2.out; omega
        case rel => exact ⟨(wrap64 (x7_1 + (wrap64 ((rd [a1_0, a1_1, a1_2, a1_3] x14_1) * x11_2)))), (wrap64 (x14_1 + 1)), (by first | rfl | (simp; done) | (simp [*]; done)), (by first | rfl | (simp; done) | (simp [*]; done)), H', ⟨by have := HK1.out; have := HK2.out; omega⟩, ⟨by (with_reducible repeat (first | refine ze ?_ _ | refine zf ?_ | refine za ?_ _)); exact BK142.out⟩, ⟨by repeat (first | (with_reducible first | exact HB.out | apply zq | apply zn | apply zo | refine zi ?_ GE142.out) | exact HB.out)⟩⟩
    ·rw [if_neg c7] at H
     exact absurd H (by simp)
   ·rw [if_neg c6] at H
    have c6b0 : decide (x14_1 < 4) = false := decide_eq_false c6
    clear c6
    obtain rfl := Option.some.inj H
    go_wp2
    go_ret
    exact ⟨by first | rfl | (simp [zca, zda] <;> rfl) | (simp [*, zca, zda] <;> rfl), by repeat (first | (with_reducible first | exact HB.out | apply zq | apply zn | apply zo | refine zi ?_ GE142.out) | exact HB.out)⟩

end Go.Proofs.Ytgcbhknpfpgffaa.C
