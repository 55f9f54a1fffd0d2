-- Written by wip/tools/myprint.py, a program of this session, by way of the kit's print.
import Derived.Test.YtmmonhpjjjdnjaaUx0
import Derived.Test.YtmmonhpjjjdnjaaLLoadU
import Derived.Test.YtmmonhpjjjdnjaaUx1
import Derived.Test.YtmmonhpjjjdnjaaUx9
namespace Go.Proofs.Ytmmonhpjjjdnjaa.U
open Go.RowKit Go.Proofs.YtmmonhpjjjdnjaaW.PrintWords Go.Proofs.YtmmonhpjjjdnjaaW.PrintLast Go.Proofs.YtmmonhpjjjdnjaaW.PrintMore
attribute [local go_sem] zba zea zha zia zy zz zda zca   -- for this text's walks alone
set_option linter.unusedVariables false
set_option linter.unusedSimpArgs false

attribute [local go_sem high] eqA46
/-! ### spec_l03Find: function 54 -/
def spec_l03Find.l0 : Nat → List (S46) → Int → Int → Bool → Option (Int)
 | 0, _, _, _, _ => none
 | k + 1, x5, x6, x122000, x122001 => if x6 < (x5.length : Int) then (if 0 ≤ x6 then (if (((rd_T46 x5 x6).f0) == x122000 && (((rd_T46 x5 x6).f1) == x122001)) = true then (some x6) else (spec_l03Find.l0 k x5 (wrap64 (x6 + 1)) x122000 x122001)) else (none)) else (some (-1))
def spec_l03Find.f (k : Nat) (a0_0 : Int) (a0_1 : Int) (a0_2 : Bool) (a0_3 : Bool) (a1_0 : Int) (a1_1 : Bool) : Option (Int) := (spec_l03Cases.f k a0_0 a0_1 a0_2 a0_3).bind fun t122 => (spec_l03Find.l0 k t122 0 a1_0 a1_1)
set_option maxHeartbeats 8000000 in
set_option maxRecDepth 100000 in
theorem spec_l03Find.calls (k : Nat) (a0_0 : Int) (a0_1 : Int) (a0_2 : Bool) (a0_3 : Bool) (a1_0 : Int) (a1_1 : Bool) (r : Int) (w : World) (h : spec_l03Find.f k a0_0 a0_1 a0_2 a0_3 a1_0 a1_1 = some r) :
  Calls Try.prog 54 #[.agg #[.int .i8 a0_0, .int .i8 a0_1, .bool a0_2, .bool a0_3], .agg #[.int .i8 a1_0, .bool a1_1]] w fun e w' => e = .returned (.int .i64 r) ∧ Below w.heap.size w w' := by
 have hu29 := Try.underlying29
 have hu46 := Try.underlying46
 have HB := zd.mk (Below.refl w.heap.size w)
 have H : ((spec_l03Cases.f k a0_0 a0_1 a0_2 a0_3).bind fun t122 => (spec_l03Find.l0 k t122 0 a1_0 a1_1)) = some r := h
 clear h
 replace H := Option.bind_eq_some_iff.mp H
 obtain ⟨t122, A30, H⟩ := H
 replace H : (spec_l03Find.l0 k t122 0 a1_0 a1_1) = some r := H
 have A3 := zd.mk A30
 clear A30
 have H' := zd.mk H
 clear H
 go_enter Try.func54, Try.ntmps54
 go_wp2_with (first | ((with_reducible refine zo (N := 2) rfl ?_); refine zn ?hg (N := 2) ?hd (cs := #[.int .i8 a0_0, .int .i8 a0_1, .bool a0_2, .bool a0_3]) (t := 29) ?hr ?_; (case hd => rfl); (case hg => rfl); (case hr => first | (go_simp; done) | (go_simp; rfl)); intro gb120 hg w4 hbox hb; obtain ⟨n0_, n2_⟩ := bx (by repeat (first | (with_reducible first | exact HB.out | apply zc | apply za | apply zb) | exact HB.out)) hb hg; have n1_ := zd.mk (hbox); have n3_ := n2_; clear HB; have HB := n0_; have BK120 := n1_; have GW120 := n2_; have GE120 := n3_; clear n0_ n1_ n2_ n3_; clear hb hbox hg) | ((with_reducible refine zo (N := 3) rfl ?_); refine zn ?hg (N := 3) ?hd (cs := #[.int .i8 a1_0, .bool a1_1]) (t := 46) ?hr ?_; (case hd => rfl); (case hg => rfl); (case hr => first | (go_simp; done) | (go_simp; rfl)); intro gb121 hg w5 hbox hb; have n0_ := zd.mk (zj (by (with_reducible repeat (first | refine zf ?_ _ | refine zh ?_ | refine zg ?_ _)); exact BK120.out) hb); obtain ⟨n1_, n3_⟩ := bx (by repeat (first | (with_reducible first | exact HB.out | apply zc | apply za | apply zb | refine ze ?_ GE120.out) | exact HB.out)) hb hg; have n2_ := zd.mk (hbox); have n4_ := n3_; have n5_ := zd.mk ((by rw [hg]; exact Nat.ne_of_lt (zv (by (with_reducible repeat (first | refine zf ?_ _ | refine zh ?_ | refine zg ?_ _)); exact BK120.out)) : gb120 ≠ gb121)); have n6_ := zd.mk n5_.out.symm; clear BK120; clear HB; have BK120 := n0_; have HB := n1_; have BK121 := n2_; have GW121 := n3_; have GE121 := n4_; have NB120_121 := n5_; have NB121_120 := n6_; clear n0_ n1_ n2_ n3_ n4_ n5_ n6_; clear hb hbox hg; have hnb6 := NB120_121.out; have hnc6 := NB121_120.out; obtain ⟨y1_0, y1_1, y1_2, y1_3, z1_0, z1_1, z1_2, z1_3⟩ := cf4 BK120.out) | (go_at_call 25; (with_reducible refine (spec_l03Cases.calls k a0_0 a0_1 a0_2 a0_3 t122 _ A3.out).mono ?_); rintro e w8 ⟨v123, rfl, ho0, hb⟩; have n0_ := zd.mk (Kd.R_lower (Kd.R_newB ho0 (g := gb121) (o := .cells #[.int .i8 a1_0, .bool a1_1] 46 (0, 0)) (by (with_reducible repeat (first | refine zf ?_ _ | refine zh ?_ | refine zg ?_ _)); exact BK121.out)) (zm (by repeat (first | (with_reducible first | exact HB.out | apply zc | apply za | apply zb | refine ze ?_ GE120.out | refine ze ?_ GE121.out) | exact HB.out)))); have n1_ := zd.mk (zj (by (with_reducible repeat (first | refine zf ?_ _ | refine zh ?_ | refine zg ?_ _)); exact BK120.out) hb); have n2_ := zd.mk (zj (by (with_reducible repeat (first | refine zf ?_ _ | refine zh ?_ | refine zg ?_ _)); exact BK121.out) hb); have n3_ := zd.mk (zk (by repeat (first | (with_reducible first | exact HB.out | apply zc | apply za | apply zb | refine ze ?_ GE120.out | refine ze ?_ GE121.out) | exact HB.out)) hb); clear BK120; clear BK121; clear HB; have HO124 := n0_; have BK120 := n1_; have BK121 := n2_; have HB := n3_; clear n0_ n1_ n2_ n3_; (try clear hb); (try clear hb2); (try clear hk); (try clear hi); (try clear ho0)))
 repeat (go_quiet (first | ((with_reducible refine zo (N := 2) rfl ?_); refine zn ?hg (N := 2) ?hd (cs := #[.int .i8 a0_0, .int .i8 a0_1, .bool a0_2, .bool a0_3]) (t := 29) ?hr ?_; (case hd => rfl); (case hg => rfl); (case hr => first | (go_simp; done) | (go_simp; rfl)); intro gb120 hg w4 hbox hb; obtain ⟨n0_, n2_⟩ := bx (by repeat (first | (with_reducible first | exact HB.out | apply zc | apply za | apply zb) | exact HB.out)) hb hg; have n1_ := zd.mk (hbox); have n3_ := n2_; clear HB; have HB := n0_; have BK120 := n1_; have GW120 := n2_; have GE120 := n3_; clear n0_ n1_ n2_ n3_; clear hb hbox hg) | ((with_reducible refine zo (N := 3) rfl ?_); refine zn ?hg (N := 3) ?hd (cs := #[.int .i8 a1_0, .bool a1_1]) (t := 46) ?hr ?_; (case hd => rfl); (case hg => rfl); (case hr => first | (go_simp; done) | (go_simp; rfl)); intro gb121 hg w5 hbox hb; have n0_ := zd.mk (zj (by (with_reducible repeat (first | refine zf ?_ _ | refine zh ?_ | refine zg ?_ _)); exact BK120.out) hb); obtain ⟨n1_, n3_⟩ := bx (by repeat (first | (with_reducible first | exact HB.out | apply zc | apply za | apply zb | refine ze ?_ GE120.out) | exact HB.out)) hb hg; have n2_ := zd.mk (hbox); have n4_ := n3_; have n5_ := zd.mk ((by rw [hg]; exact Nat.ne_of_lt (zv (by (with_reducible repeat (first | refine zf ?_ _ | refine zh ?_ | refine zg ?_ _)); exact BK120.out)) : gb120 ≠ gb121)); have n6_ := zd.mk n5_.out.symm; clear BK120; clear HB; have BK120 := n0_; have HB := n1_; have BK121 := n2_; have GW121 := n3_; have GE121 := n4_; have NB120_121 := n5_; have NB121_120 := n6_; clear n0_ n1_ n2_ n3_ n4_ n5_ n6_; clear hb hbox hg; have hnb6 := NB120_121.out; have hnc6 := NB121_120.out; obtain ⟨y1_0, y1_1, y1_2, y1_3, z1_0, z1_1, z1_2, z1_3⟩ := cf4 BK120.out) | (go_at_call 25; (with_reducible refine (spec_l03Cases.calls k a0_0 a0_1 a0_2 a0_3 t122 _ A3.out).mono ?_); rintro e w8 ⟨v123, rfl, ho0, hb⟩; have n0_ := zd.mk (Kd.R_lower (Kd.R_newB ho0 (g := gb121) (o := .cells #[.int .i8 a1_0, .bool a1_1] 46 (0, 0)) (by (with_reducible repeat (first | refine zf ?_ _ | refine zh ?_ | refine zg ?_ _)); exact BK121.out)) (zm (by repeat (first | (with_reducible first | exact HB.out | apply zc | apply za | apply zb | refine ze ?_ GE120.out | refine ze ?_ GE121.out) | exact HB.out)))); have n1_ := zd.mk (zj (by (with_reducible repeat (first | refine zf ?_ _ | refine zh ?_ | refine zg ?_ _)); exact BK120.out) hb); have n2_ := zd.mk (zj (by (with_reducible repeat (first | refine zf ?_ _ | refine zh ?_ | refine zg ?_ _)); exact BK121.out) hb); have n3_ := zd.mk (zk (by repeat (first | (with_reducible first | exact HB.out | apply zc | apply za | apply zb | refine ze ?_ GE120.out | refine ze ?_ GE121.out) | exact HB.out)) hb); clear BK120; clear BK121; clear HB; have HO124 := n0_; have BK120 := n1_; have BK121 := n2_; have HB := n3_; clear n0_ n1_ n2_ n3_; (try clear hb); (try clear hb2); (try clear hk); (try clear hi); (try clear ho0))); try go_wp2_with (first | ((with_reducible refine zo (N := 2) rfl ?_); refine zn ?hg (N := 2) ?hd (cs := #[.int .i8 a0_0, .int .i8 a0_1, .bool a0_2, .bool a0_3]) (t := 29) ?hr ?_; (case hd => rfl); (case hg => rfl); (case hr => first | (go_simp; done) | (go_simp; rfl)); intro gb120 hg w4 hbox hb; obtain ⟨n0_, n2_⟩ := bx (by repeat (first | (with_reducible first | exact HB.out | apply zc | apply za | apply zb) | exact HB.out)) hb hg; have n1_ := zd.mk (hbox); have n3_ := n2_; clear HB; have HB := n0_; have BK120 := n1_; have GW120 := n2_; have GE120 := n3_; clear n0_ n1_ n2_ n3_; clear hb hbox hg) | ((with_reducible refine zo (N := 3) rfl ?_); refine zn ?hg (N := 3) ?hd (cs := #[.int .i8 a1_0, .bool a1_1]) (t := 46) ?hr ?_; (case hd => rfl); (case hg => rfl); (case hr => first | (go_simp; done) | (go_simp; rfl)); intro gb121 hg w5 hbox hb; have n0_ := zd.mk (zj (by (with_reducible repeat (first | refine zf ?_ _ | refine zh ?_ | refine zg ?_ _)); exact BK120.out) hb); obtain ⟨n1_, n3_⟩ := bx (by repeat (first | (with_reducible first | exact HB.out | apply zc | apply za | apply zb | refine ze ?_ GE120.out) | exact HB.out)) hb hg; have n2_ := zd.mk (hbox); have n4_ := n3_; have n5_ := zd.mk ((by rw [hg]; exact Nat.ne_of_lt (zv (by (with_reducible repeat (first | refine zf ?_ _ | refine zh ?_ | refine zg ?_ _)); exact BK120.out)) : gb120 ≠ gb121)); have n6_ := zd.mk n5_.out.symm; clear BK120; clear HB; have BK120 := n0_; have HB := n1_; have BK121 := n2_; have GW121 := n3_; have GE121 := n4_; have NB120_121 := n5_; have NB121_120 := n6_; clear n0_ n1_ n2_ n3_ n4_ n5_ n6_; clear hb hbox hg; have hnb6 := NB120_121.out; have hnc6 := NB121_120.out; obtain ⟨y1_0, y1_1, y1_2, y1_3, z1_0, z1_1, z1_2, z1_3⟩ := cf4 BK120.out) | (go_at_call 25; (with_reducible refine (spec_l03Cases.calls k a0_0 a0_1 a0_2 a0_3 t122 _ A3.out).mono ?_); rintro e w8 ⟨v123, rfl, ho0, hb⟩; have n0_ := zd.mk (Kd.R_lower (Kd.R_newB ho0 (g := gb121) (o := .cells #[.int .i8 a1_0, .bool a1_1] 46 (0, 0)) (by (with_reducible repeat (first | refine zf ?_ _ | refine zh ?_ | refine zg ?_ _)); exact BK121.out)) (zm (by repeat (first | (with_reducible first | exact HB.out | apply zc | apply za | apply zb | refine ze ?_ GE120.out | refine ze ?_ GE121.out) | exact HB.out)))); have n1_ := zd.mk (zj (by (with_reducible repeat (first | refine zf ?_ _ | refine zh ?_ | refine zg ?_ _)); exact BK120.out) hb); have n2_ := zd.mk (zj (by (with_reducible repeat (first | refine zf ?_ _ | refine zh ?_ | refine zg ?_ _)); exact BK121.out) hb); have n3_ := zd.mk (zk (by repeat (first | (with_reducible first | exact HB.out | apply zc | apply za | apply zb | refine ze ?_ GE120.out | refine ze ?_ GE121.out) | exact HB.out)) hb); clear BK120; clear BK121; clear HB; have HO124 := n0_; have BK120 := n1_; have BK121 := n2_; have HB := n3_; clear n0_ n1_ n2_ n3_; (try clear hb); (try clear hb2); (try clear hk); (try clear hi); (try clear ho0))))
 go_loopg [6] k (fun kq v6 w' => ∃ (x6_1 : Int), v6 = .int .i64 x6_1 ∧ zd (spec_l03Find.l0 kq t122 x6_1 a1_0 a1_1 = some r) ∧ zd (kq ≤ k) ∧ zd (Kd.R k46 46 w' w.heap.size (fun k_ => k_ ≠ gb121) v123 t122) ∧ zd (w'.heap[gb120]? = some (.cells #[.int .i8 a0_0, .int .i8 a0_1, .bool a0_2, .bool a0_3] 29 (0, 0))) ∧ zd (w'.heap[gb121]? = some (.cells #[.int .i8 a1_0, .bool a1_1] 46 (0, 0))) ∧ zd (Below w.heap.size w w'))
 case atStart => exact ⟨(0), (by first | rfl | (simp; done) | (simp [*]; done)), H', ⟨Nat.le_refl _⟩, ⟨by (with_reducible repeat (first | apply Kd.R_alloc | apply Kd.R_drewN | apply Kd.R_drew)); exact Kd.R_mono HO124.out (fun _ hk => hk.2)⟩, ⟨by (with_reducible repeat (first | refine zf ?_ _ | refine zh ?_ | refine zg ?_ _)); exact BK120.out⟩, ⟨by (with_reducible repeat (first | refine zf ?_ _ | refine zh ?_ | refine zg ?_ _)); exact BK121.out⟩, ⟨by repeat (first | (with_reducible first | exact HB.out | apply zc | apply za | apply zb | refine ze ?_ GE120.out | refine ze ?_ GE121.out) | exact HB.out)⟩⟩
 case round =>
  clear H'
  try clear p2
  try clear c5
  try clear c6
  try clear y1_0 y1_1 y1_2 y1_3
  try clear z1_0 z1_1 z1_2 z1_3
  obtain ⟨x6_1, rfl, HA, HK1, HO_5, BK120, BK121, HB⟩ := hrel
  cases gk with
  | zero => exact absurd HA.out (by simp [spec_l03Find.l0])
  | succ k1 =>
   have H := HA.out
   clear HA
   simp only [spec_l03Find.l0] at H
   by_cases c9 : x6_1 < (t122.length : Int)
   ·rw [if_pos c9] at H
    have c9b0 : decide (x6_1 < (t122.length : Int)) = true := decide_eq_true c9
    clear c9
    by_cases c10 : 0 ≤ x6_1
    ·rw [if_pos c10] at H
     have c10b0 : decide (0 ≤ x6_1) = true := decide_eq_true c10
     clear c10
     by_cases c11 : (((rd_T46 t122 x6_1).f0) == a1_0 && (((rd_T46 t122 x6_1).f1) == a1_1)) = true
     ·rw [if_pos c11] at H
      have c11b0 : (((rd_T46 t122 x6_1).f0) == a1_0 && (((rd_T46 t122 x6_1).f1) == a1_1)) = true := c11
      (try (have c11b1 : decide (((rd_T46 t122 x6_1).f0) = a1_0 && (((rd_T46 t122 x6_1).f1) == a1_1)) = true := by simpa using c11))
      (try (have c11b2 : (((rd_T46 t122 x6_1).f0) == a1_0 && (((rd_T46 t122 x6_1).f1) == a1_1)) = true := by simpa using c11))
      clear c11
      obtain rfl := Option.some.inj H
      obtain ⟨Ao12, co12, eo12⟩ := Kd.R_slice HO_5.out
      subst eo12
      have p125 : 0 ≤ (x6_1 : Int) := od (by first | (with_reducible assumption) | assumption)
      have q125 : x6_1 < (t122.length : Int) := od (by first | (with_reducible assumption) | assumption)
      obtain ⟨ad125, e125, u1_0, u1_1⟩ := at_T46 (Kd.R_reads' HO_5.out).2.2 x6_1 p125 q125
      cases e125
      replace p125 := eq_true p125
      replace q125 := eq_true q125
      have hnb13 := NB121_120.out
      have hnc13 := NB120_121.out
      obtain ⟨y2_0, y2_1, z2_0, z2_1⟩ := cf2 BK121.out
      go_wp2
      repeat (go_quiet (fail); try go_wp2)
      go_ret
      exact ⟨by first | rfl | (simp [errW_none, errW_some] <;> rfl) | (simp [*, errW_none, errW_some] <;> rfl), by repeat (first | (with_reducible first | exact HB.out | apply zc | apply za | apply zb | refine ze ?_ GE120.out | refine ze ?_ GE121.out) | exact HB.out)⟩
     rw [if_neg c11] at H
     have c11b0 : (((rd_T46 t122 x6_1).f0) == a1_0 && (((rd_T46 t122 x6_1).f1) == a1_1)) = false := by simpa using c11
     (try (have c11b1 : decide (((rd_T46 t122 x6_1).f0) = a1_0 && (((rd_T46 t122 x6_1).f1) == a1_1)) = false := by simpa using c11))
     (try (have c11b2 : (((rd_T46 t122 x6_1).f0) == a1_0 && (((rd_T46 t122 x6_1).f1) == a1_1)) = false := by simpa using c11))
     (try (have c11b3 : ¬ (((rd_T46 t122 x6_1).f0) = a1_0 && (((rd_T46 t122 x6_1).f1) == a1_1)) := by simpa using c11))
     clear c11
     have H' := zd.mk H
     clear H
     obtain ⟨Ao15, co15, eo15⟩ := Kd.R_slice HO_5.out
     subst eo15
     have p125 : 0 ≤ (x6_1 : Int) := od (by first | (with_reducible assumption) | assumption)
     have q125 : x6_1 < (t122.length : Int) := od (by first | (with_reducible assumption) | assumption)
     obtain ⟨ad125, e125, u1_0, u1_1⟩ := at_T46 (Kd.R_reads' HO_5.out).2.2 x6_1 p125 q125
     cases e125
     replace p125 := eq_true p125
     replace q125 := eq_true q125
     have hnb16 := NB121_120.out
     have hnc16 := NB120_121.out
     obtain ⟨y3_0, y3_1, z3_0, z3_1⟩ := cf2 BK121.out
     go_wp2
     repeat (go_quiet (fail); try go_wp2)
     go_roundg k1
     case measure => have := HK1.out; omega
     case rel => exact ⟨(wrap64 (x6_1 + 1)), (by first | rfl | (simp; done) | (simp [*]; done)), H', ⟨by have := HK1.out; omega⟩, ⟨by (with_reducible repeat (first | apply Kd.R_alloc | apply Kd.R_drewN | apply Kd.R_drew)); exact HO_5.out⟩, ⟨by (with_reducible repeat (first | refine zf ?_ _ | refine zh ?_ | refine zg ?_ _)); exact BK120.out⟩, ⟨by (with_reducible repeat (first | refine zf ?_ _ | refine zh ?_ | refine zg ?_ _)); exact BK121.out⟩, ⟨by repeat (first | (with_reducible first | exact HB.out | apply zc | apply za | apply zb | refine ze ?_ GE120.out | refine ze ?_ GE121.out) | exact HB.out)⟩⟩
    rw [if_neg c10] at H
    exact absurd H (by simp)
   rw [if_neg c9] at H
   have c9b0 : decide (x6_1 < (t122.length : Int)) = false := decide_eq_false c9
   clear c9
   obtain rfl := Option.some.inj H
   obtain ⟨Ao18, co18, eo18⟩ := Kd.R_slice HO_5.out
   subst eo18
   go_wp2
   repeat (go_quiet (fail); try go_wp2)
   go_ret
   exact ⟨by first | rfl | (simp [errW_none, errW_some] <;> rfl) | (simp [*, errW_none, errW_some] <;> rfl), by repeat (first | (with_reducible first | exact HB.out | apply zc | apply za | apply zb | refine ze ?_ GE120.out | refine ze ?_ GE121.out) | exact HB.out)⟩

/-! ### spec_l03There: function 59 -/
def spec_l03There.f (a0_0 : Int) (a0_1 : Int) (a0_2 : Bool) (a0_3 : Bool) (a1 : Int) : Option (Bool) := if a1 < (wrap64 (a0_0)) then (some true) else (if a1 = (wrap64 (a0_0)) then (some a0_3) else (some false))
set_option maxHeartbeats 8000000 in
set_option maxRecDepth 100000 in
theorem spec_l03There.calls (a0_0 : Int) (a0_1 : Int) (a0_2 : Bool) (a0_3 : Bool) (a1 : Int) (r : Bool) (w : World) (h : spec_l03There.f a0_0 a0_1 a0_2 a0_3 a1 = some r) :
  Calls Try.prog 59 #[.agg #[.int .i8 a0_0, .int .i8 a0_1, .bool a0_2, .bool a0_3], .int .i64 a1] w fun e w' => e = .returned (.bool r) ∧ Below w.heap.size w w' := by
 have hu29 := Try.underlying29
 have HB := zd.mk (Below.refl w.heap.size w)
 have H : (if a1 < (wrap64 (a0_0)) then (some true) else (if a1 = (wrap64 (a0_0)) then (some a0_3) else (some false))) = some r := h
 clear h
 by_cases c3 : a1 < (wrap64 (a0_0))
 ·rw [if_pos c3] at H
  have c3b0 : decide (a1 < (wrap64 (a0_0))) = true := decide_eq_true c3
  (try (have c3b1 : decide (a1 < (IntKind.i64.wrap (a0_0))) = true := by have h_ : decide (a1 < (wrap64 (a0_0))) = true := decide_eq_true c3; simpa only [zp, zq] using h_))
  clear c3
  obtain rfl := Option.some.inj H
  go_enter Try.func59, Try.ntmps59
  go_wp2_with (first | ((with_reducible refine zo (N := 2) rfl ?_); refine zn ?hg (N := 2) ?hd (cs := #[.int .i8 a0_0, .int .i8 a0_1, .bool a0_2, .bool a0_3]) (t := 29) ?hr ?_; (case hd => rfl); (case hg => rfl); (case hr => first | (go_simp; done) | (go_simp; rfl)); intro gb126 hg w4 hbox hb; obtain ⟨n0_, n2_⟩ := bx (by repeat (first | (with_reducible first | exact HB.out | apply zc | apply za | apply zb) | exact HB.out)) hb hg; have n1_ := zd.mk (hbox); have n3_ := n2_; clear HB; have HB := n0_; have BK126 := n1_; have GW126 := n2_; have GE126 := n3_; clear n0_ n1_ n2_ n3_; clear hb hbox hg; obtain ⟨y4_0, y4_1, y4_2, y4_3, z4_0, z4_1, z4_2, z4_3⟩ := cf4 BK126.out))
  go_ret
  exact ⟨by first | rfl | (simp [errW_none, errW_some] <;> rfl) | (simp [*, errW_none, errW_some] <;> rfl), by repeat (first | (with_reducible first | exact HB.out | apply zc | apply za | apply zb | refine ze ?_ GE126.out) | exact HB.out)⟩
 rw [if_neg c3] at H
 have c3b0 : decide (a1 < (wrap64 (a0_0))) = false := decide_eq_false c3
 (try (have c3b1 : decide (a1 < (IntKind.i64.wrap (a0_0))) = false := by have h_ : decide (a1 < (wrap64 (a0_0))) = false := decide_eq_false c3; simpa only [zp, zq] using h_))
 clear c3
 by_cases c6 : a1 = (wrap64 (a0_0))
 ·rw [if_pos c6] at H
  have c6b0 : (a1 == (wrap64 (a0_0))) = true := beq_iff_eq.mpr c6
  have c6b1 : (a1 != (wrap64 (a0_0))) = false := bne_eq_false_iff_eq.mpr c6
  (try (have c6b2 : (a1 == (IntKind.i64.wrap (a0_0))) = true := by have h_ : (a1 == (wrap64 (a0_0))) = true := beq_iff_eq.mpr c6; simpa only [zp, zq] using h_))
  (try (have c6b3 : (a1 != (IntKind.i64.wrap (a0_0))) = false := by have h_ : (a1 != (wrap64 (a0_0))) = false := bne_eq_false_iff_eq.mpr c6; simpa only [zp, zq] using h_))
  clear c6
  obtain rfl := Option.some.inj H
  go_enter Try.func59, Try.ntmps59
  go_wp2_with (first | ((with_reducible refine zo (N := 2) rfl ?_); refine zn ?hg (N := 2) ?hd (cs := #[.int .i8 a0_0, .int .i8 a0_1, .bool a0_2, .bool a0_3]) (t := 29) ?hr ?_; (case hd => rfl); (case hg => rfl); (case hr => first | (go_simp; done) | (go_simp; rfl)); intro gb126 hg w7 hbox hb; obtain ⟨n0_, n2_⟩ := bx (by repeat (first | (with_reducible first | exact HB.out | apply zc | apply za | apply zb) | exact HB.out)) hb hg; have n1_ := zd.mk (hbox); have n3_ := n2_; clear HB; have HB := n0_; have BK126 := n1_; have GW126 := n2_; have GE126 := n3_; clear n0_ n1_ n2_ n3_; clear hb hbox hg; obtain ⟨y5_0, y5_1, y5_2, y5_3, z5_0, z5_1, z5_2, z5_3⟩ := cf4 BK126.out))
  go_ret
  exact ⟨by first | rfl | (simp [errW_none, errW_some] <;> rfl) | (simp [*, errW_none, errW_some] <;> rfl), by repeat (first | (with_reducible first | exact HB.out | apply zc | apply za | apply zb | refine ze ?_ GE126.out) | exact HB.out)⟩
 rw [if_neg c6] at H
 have c6b0 : (a1 == (wrap64 (a0_0))) = false := beq_eq_false_iff_ne.mpr c6
 have c6b1 : (a1 != (wrap64 (a0_0))) = true := bne_iff_ne.mpr c6
 (try (have c6b2 : (a1 == (IntKind.i64.wrap (a0_0))) = false := by have h_ : (a1 == (wrap64 (a0_0))) = false := beq_eq_false_iff_ne.mpr c6; simpa only [zp, zq] using h_))
 (try (have c6b3 : (a1 != (IntKind.i64.wrap (a0_0))) = true := by have h_ : (a1 != (wrap64 (a0_0))) = true := bne_iff_ne.mpr c6; simpa only [zp, zq] using h_))
 obtain rfl := Option.some.inj H
 go_enter Try.func59, Try.ntmps59
 go_wp2_with (first | ((with_reducible refine zo (N := 2) rfl ?_); refine zn ?hg (N := 2) ?hd (cs := #[.int .i8 a0_0, .int .i8 a0_1, .bool a0_2, .bool a0_3]) (t := 29) ?hr ?_; (case hd => rfl); (case hg => rfl); (case hr => first | (go_simp; done) | (go_simp; rfl)); intro gb126 hg w9 hbox hb; obtain ⟨n0_, n2_⟩ := bx (by repeat (first | (with_reducible first | exact HB.out | apply zc | apply za | apply zb) | exact HB.out)) hb hg; have n1_ := zd.mk (hbox); have n3_ := n2_; clear HB; have HB := n0_; have BK126 := n1_; have GW126 := n2_; have GE126 := n3_; clear n0_ n1_ n2_ n3_; clear hb hbox hg; obtain ⟨y6_0, y6_1, y6_2, y6_3, z6_0, z6_1, z6_2, z6_3⟩ := cf4 BK126.out))
 go_ret
 exact ⟨by first | rfl | (simp [errW_none, errW_some] <;> rfl) | (simp [*, errW_none, errW_some] <;> rfl), by repeat (first | (with_reducible first | exact HB.out | apply zc | apply za | apply zb | refine ze ?_ GE126.out) | exact HB.out)⟩

attribute [local go_sem] zba zea zha zia zy zz zda zca   -- for this text's walks alone

/-! ### spec_l03Weighing: function 55 -/
def spec_l03Weighing.l0 : Nat → Int → Int → Int → Int → Bool → Bool → Int → Int → Int → Int → Int → Int → Int → Int → Int → Int → Int → Int → Int → Int → Option (Bool)
 | 0, _, _, _, _, _, _, _, _, _, _, _, _, _, _, _, _, _, _, _, _ => none
 | k + 1, x5, x6, x128000, x128001, x128002, x128003, x129000, x129001, x129002, x129003, x129004, x129005, x129006, x129007, x129008, x129009, x129010, x129011, x129012, x129013 => if x6 < 14 then (if 0 ≤ x6 then (if (rd [x129000, x129001, x129002, x129003, x129004, x129005, x129006, x129007, x129008, x129009, x129010, x129011, x129012, x129013] x6) < (-1) then (some false) else (if (rd [x129000, x129001, x129002, x129003, x129004, x129005, x129006, x129007, x129008, x129009, x129010, x129011, x129012, x129013] x6) > 1 then (some false) else (if (rd [x129000, x129001, x129002, x129003, x129004, x129005, x129006, x129007, x129008, x129009, x129010, x129011, x129012, x129013] x6) = 0 then (spec_l03Weighing.l0 k (wrap64 (x5 + (wrap64 (rd [x129000, x129001, x129002, x129003, x129004, x129005, x129006, x129007, x129008, x129009, x129010, x129011, x129012, x129013] x6)))) (wrap64 (x6 + 1)) x128000 x128001 x128002 x128003 x129000 x129001 x129002 x129003 x129004 x129005 x129006 x129007 x129008 x129009 x129010 x129011 x129012 x129013) else ((spec_l03There.f x128000 x128001 x128002 x128003 x6).bind fun t137 => (if t137 = true then (spec_l03Weighing.l0 k (wrap64 (x5 + (wrap64 (rd [x129000, x129001, x129002, x129003, x129004, x129005, x129006, x129007, x129008, x129009, x129010, x129011, x129012, x129013] x6)))) (wrap64 (x6 + 1)) x128000 x128001 x128002 x128003 x129000 x129001 x129002 x129003 x129004 x129005 x129006 x129007 x129008 x129009 x129010 x129011 x129012 x129013) else (some false)))))) else (none)) else (some (x5 == 0))
def spec_l03Weighing.f (k : Nat) (a0_0 : Int) (a0_1 : Int) (a0_2 : Bool) (a0_3 : Bool) (a1_0 : Int) (a1_1 : Int) (a1_2 : Int) (a1_3 : Int) (a1_4 : Int) (a1_5 : Int) (a1_6 : Int) (a1_7 : Int) (a1_8 : Int) (a1_9 : Int) (a1_10 : Int) (a1_11 : Int) (a1_12 : Int) (a1_13 : Int) : Option (Bool) := spec_l03Weighing.l0 k 0 0 a0_0 a0_1 a0_2 a0_3 a1_0 a1_1 a1_2 a1_3 a1_4 a1_5 a1_6 a1_7 a1_8 a1_9 a1_10 a1_11 a1_12 a1_13
set_option maxHeartbeats 8000000 in
set_option maxRecDepth 100000 in
theorem spec_l03Weighing.calls (k : Nat) (a0_0 : Int) (a0_1 : Int) (a0_2 : Bool) (a0_3 : Bool) (a1_0 : Int) (a1_1 : Int) (a1_2 : Int) (a1_3 : Int) (a1_4 : Int) (a1_5 : Int) (a1_6 : Int) (a1_7 : Int) (a1_8 : Int) (a1_9 : Int) (a1_10 : Int) (a1_11 : Int) (a1_12 : Int) (a1_13 : Int) (r : Bool) (w : World) (h : spec_l03Weighing.f k a0_0 a0_1 a0_2 a0_3 a1_0 a1_1 a1_2 a1_3 a1_4 a1_5 a1_6 a1_7 a1_8 a1_9 a1_10 a1_11 a1_12 a1_13 = some r) :
  Calls Try.prog 55 #[.agg #[.int .i8 a0_0, .int .i8 a0_1, .bool a0_2, .bool a0_3], .agg #[.int .i8 a1_0, .int .i8 a1_1, .int .i8 a1_2, .int .i8 a1_3, .int .i8 a1_4, .int .i8 a1_5, .int .i8 a1_6, .int .i8 a1_7, .int .i8 a1_8, .int .i8 a1_9, .int .i8 a1_10, .int .i8 a1_11, .int .i8 a1_12, .int .i8 a1_13]] w fun e w' => e = .returned (.bool r) ∧ Below w.heap.size w w' := by
 have hu29 := Try.underlying29
 have hu50 := Try.underlying50
 have HB := zd.mk (Below.refl w.heap.size w)
 have H : (spec_l03Weighing.l0 k 0 0 a0_0 a0_1 a0_2 a0_3 a1_0 a1_1 a1_2 a1_3 a1_4 a1_5 a1_6 a1_7 a1_8 a1_9 a1_10 a1_11 a1_12 a1_13) = some r := h
 clear h
 have H' := zd.mk H
 clear H
 go_enter Try.func55, Try.ntmps55
 go_wp2_with (first | ((with_reducible refine zo (N := 2) rfl ?_); refine zn ?hg (N := 2) ?hd (cs := #[.int .i8 a0_0, .int .i8 a0_1, .bool a0_2, .bool a0_3]) (t := 29) ?hr ?_; (case hd => rfl); (case hg => rfl); (case hr => first | (go_simp; done) | (go_simp; rfl)); intro gb127 hg w3 hbox hb; obtain ⟨n0_, n2_⟩ := bx (by repeat (first | (with_reducible first | exact HB.out | apply zc | apply za | apply zb) | exact HB.out)) hb hg; have n1_ := zd.mk (hbox); have n3_ := n2_; clear HB; have HB := n0_; have BK127 := n1_; have GW127 := n2_; have GE127 := n3_; clear n0_ n1_ n2_ n3_; clear hb hbox hg) | ((with_reducible refine zo (N := 3) rfl ?_); refine zn ?hg (N := 3) ?hd (cs := #[.int .i8 a1_0, .int .i8 a1_1, .int .i8 a1_2, .int .i8 a1_3, .int .i8 a1_4, .int .i8 a1_5, .int .i8 a1_6, .int .i8 a1_7, .int .i8 a1_8, .int .i8 a1_9, .int .i8 a1_10, .int .i8 a1_11, .int .i8 a1_12, .int .i8 a1_13]) (t := 50) ?hr ?_; (case hd => rfl); (case hg => rfl); (case hr => first | (go_simp; done) | (go_simp; rfl)); intro gb128 hg w4 hbox hb; have n0_ := zd.mk (zj (by (with_reducible repeat (first | refine zf ?_ _ | refine zh ?_ | refine zg ?_ _)); exact BK127.out) hb); obtain ⟨n1_, n3_⟩ := bx (by repeat (first | (with_reducible first | exact HB.out | apply zc | apply za | apply zb | refine ze ?_ GE127.out) | exact HB.out)) hb hg; have n2_ := zd.mk (hbox); have n4_ := n3_; have n5_ := zd.mk ((by rw [hg]; exact Nat.ne_of_lt (zv (by (with_reducible repeat (first | refine zf ?_ _ | refine zh ?_ | refine zg ?_ _)); exact BK127.out)) : gb127 ≠ gb128)); have n6_ := zd.mk n5_.out.symm; clear BK127; clear HB; have BK127 := n0_; have HB := n1_; have BK128 := n2_; have GW128 := n3_; have GE128 := n4_; have NB127_128 := n5_; have NB128_127 := n6_; clear n0_ n1_ n2_ n3_ n4_ n5_ n6_; clear hb hbox hg))
 go_loopg [5, 6] k (fun kq v5 v6 w' => ∃ (x5_1 : Int) (x6_1 : Int), v5 = .int .i64 x5_1 ∧ v6 = .int .i64 x6_1 ∧ zd (spec_l03Weighing.l0 kq x5_1 x6_1 a0_0 a0_1 a0_2 a0_3 a1_0 a1_1 a1_2 a1_3 a1_4 a1_5 a1_6 a1_7 a1_8 a1_9 a1_10 a1_11 a1_12 a1_13 = some r) ∧ zd (kq ≤ k) ∧ zd (w'.heap[gb127]? = some (.cells #[.int .i8 a0_0, .int .i8 a0_1, .bool a0_2, .bool a0_3] 29 (0, 0))) ∧ zd (w'.heap[gb128]? = some (.cells #[.int .i8 a1_0, .int .i8 a1_1, .int .i8 a1_2, .int .i8 a1_3, .int .i8 a1_4, .int .i8 a1_5, .int .i8 a1_6, .int .i8 a1_7, .int .i8 a1_8, .int .i8 a1_9, .int .i8 a1_10, .int .i8 a1_11, .int .i8 a1_12, .int .i8 a1_13] 50 (0, 0))) ∧ zd (Below w.heap.size w w'))
 case atStart => exact ⟨(0), (0), (by first | rfl | (simp; done) | (simp [*]; done)), (by first | rfl | (simp; done) | (simp [*]; done)), H', ⟨Nat.le_refl _⟩, ⟨by (with_reducible repeat (first | refine zf ?_ _ | refine zh ?_ | refine zg ?_ _)); exact BK127.out⟩, ⟨by (with_reducible repeat (first | refine zf ?_ _ | refine zh ?_ | refine zg ?_ _)); exact BK128.out⟩, ⟨by repeat (first | (with_reducible first | exact HB.out | apply zc | apply za | apply zb | refine ze ?_ GE127.out | refine ze ?_ GE128.out) | exact HB.out)⟩⟩
 case round =>
  clear H'
  try clear p2
  obtain ⟨x5_1, x6_1, rfl, rfl, HA, HK1, BK127, BK128, HB⟩ := hrel
  cases gk with
  | zero => exact absurd HA.out (by simp [spec_l03Weighing.l0])
  | succ k1 =>
   have H := HA.out
   clear HA
   simp only [spec_l03Weighing.l0] at H
   by_cases c5 : x6_1 < 14
   ·rw [if_pos c5] at H
    have c5b0 : decide (x6_1 < 14) = true := decide_eq_true c5
    clear c5
    by_cases c6 : 0 ≤ x6_1
    ·rw [if_pos c6] at H
     have c6b0 : decide (0 ≤ x6_1) = true := decide_eq_true c6
     clear c6
     by_cases c7 : (rd [a1_0, a1_1, a1_2, a1_3, a1_4, a1_5, a1_6, a1_7, a1_8, a1_9, a1_10, a1_11, a1_12, a1_13] x6_1) < (-1)
     ·rw [if_pos c7] at H
      have c7b0 : decide ((rd [a1_0, a1_1, a1_2, a1_3, a1_4, a1_5, a1_6, a1_7, a1_8, a1_9, a1_10, a1_11, a1_12, a1_13] x6_1) < (-1)) = true := decide_eq_true c7
      clear c7
      obtain rfl := Option.some.inj H
      have p8 : 0 ≤ (x6_1 : Int) := od (by first | (with_reducible assumption) | assumption)
      have q8 : x6_1 < (14 : Int) := od (by first | (with_reducible assumption) | assumption)
      replace p8 := eq_true p8
      replace q8 := eq_true q8
      have hnb9 := NB128_127.out
      have hnc9 := NB127_128.out
      obtain ⟨y1_0, y1_1, y1_2, y1_3, y1_4, y1_5, y1_6, y1_7, y1_8, y1_9, y1_10, y1_11, y1_12, y1_13⟩ := cg14 BK128.out
      have u1_0 : wr.cell? ⟨gb128, (x6_1).toNat, none⟩ = some (.int .i8 (rd [a1_0, a1_1, a1_2, a1_3, a1_4, a1_5, a1_6, a1_7, a1_8, a1_9, a1_10, a1_11, a1_12, a1_13] x6_1)) := (zl BK128.out _).trans (by rcases (show (x6_1 : Int) = 0 ∨ (x6_1 : Int) = 1 ∨ (x6_1 : Int) = 2 ∨ (x6_1 : Int) = 3 ∨ (x6_1 : Int) = 4 ∨ (x6_1 : Int) = 5 ∨ (x6_1 : Int) = 6 ∨ (x6_1 : Int) = 7 ∨ (x6_1 : Int) = 8 ∨ (x6_1 : Int) = 9 ∨ (x6_1 : Int) = 10 ∨ (x6_1 : Int) = 11 ∨ (x6_1 : Int) = 12 ∨ (x6_1 : Int) = 13 by have hp_ : 0 ≤ (x6_1 : Int) := od (by first | (with_reducible assumption) | assumption); have hq_ : x6_1 < (14 : Int) := od (by first | (with_reducible assumption) | assumption); omega) with h_ | h_ | h_ | h_ | h_ | h_ | h_ | h_ | h_ | h_ | h_ | h_ | h_ | h_ <;> rw [h_] <;> rfl)
      go_wp2
      go_ret
      exact ⟨by first | rfl | (simp [errW_none, errW_some] <;> rfl) | (simp [*, errW_none, errW_some] <;> rfl), by repeat (first | (with_reducible first | exact HB.out | apply zc | apply za | apply zb | refine ze ?_ GE127.out | refine ze ?_ GE128.out) | exact HB.out)⟩
     rw [if_neg c7] at H
     have c7b0 : decide ((rd [a1_0, a1_1, a1_2, a1_3, a1_4, a1_5, a1_6, a1_7, a1_8, a1_9, a1_10, a1_11, a1_12, a1_13] x6_1) < (-1)) = false := decide_eq_false c7
     clear c7
     by_cases c12 : (rd [a1_0, a1_1, a1_2, a1_3, a1_4, a1_5, a1_6, a1_7, a1_8, a1_9, a1_10, a1_11, a1_12, a1_13] x6_1) > 1
     ·rw [if_pos c12] at H
      have c12b0 : decide (1 < (rd [a1_0, a1_1, a1_2, a1_3, a1_4, a1_5, a1_6, a1_7, a1_8, a1_9, a1_10, a1_11, a1_12, a1_13] x6_1)) = true := decide_eq_true c12
      clear c12
      obtain rfl := Option.some.inj H
      have p13 : 0 ≤ (x6_1 : Int) := od (by first | (with_reducible assumption) | assumption)
      have q13 : x6_1 < (14 : Int) := od (by first | (with_reducible assumption) | assumption)
      replace p13 := eq_true p13
      replace q13 := eq_true q13
      have hnb14 := NB128_127.out
      have hnc14 := NB127_128.out
      obtain ⟨y2_0, y2_1, y2_2, y2_3, y2_4, y2_5, y2_6, y2_7, y2_8, y2_9, y2_10, y2_11, y2_12, y2_13⟩ := cg14 BK128.out
      have u2_0 : wr.cell? ⟨gb128, (x6_1).toNat, none⟩ = some (.int .i8 (rd [a1_0, a1_1, a1_2, a1_3, a1_4, a1_5, a1_6, a1_7, a1_8, a1_9, a1_10, a1_11, a1_12, a1_13] x6_1)) := (zl BK128.out _).trans (by rcases (show (x6_1 : Int) = 0 ∨ (x6_1 : Int) = 1 ∨ (x6_1 : Int) = 2 ∨ (x6_1 : Int) = 3 ∨ (x6_1 : Int) = 4 ∨ (x6_1 : Int) = 5 ∨ (x6_1 : Int) = 6 ∨ (x6_1 : Int) = 7 ∨ (x6_1 : Int) = 8 ∨ (x6_1 : Int) = 9 ∨ (x6_1 : Int) = 10 ∨ (x6_1 : Int) = 11 ∨ (x6_1 : Int) = 12 ∨ (x6_1 : Int) = 13 by have hp_ : 0 ≤ (x6_1 : Int) := od (by first | (with_reducible assumption) | assumption); have hq_ : x6_1 < (14 : Int) := od (by first | (with_reducible assumption) | assumption); omega) with h_ | h_ | h_ | h_ | h_ | h_ | h_ | h_ | h_ | h_ | h_ | h_ | h_ | h_ <;> rw [h_] <;> rfl)
      have p17 : 0 ≤ (x6_1 : Int) := od (by first | (with_reducible assumption) | assumption)
      have q17 : x6_1 < (14 : Int) := od (by first | (with_reducible assumption) | assumption)
      replace p17 := eq_true p17
      replace q17 := eq_true q17
      have u3_0 : wr.cell? ⟨gb128, (x6_1).toNat, none⟩ = some (.int .i8 (rd [a1_0, a1_1, a1_2, a1_3, a1_4, a1_5, a1_6, a1_7, a1_8, a1_9, a1_10, a1_11, a1_12, a1_13] x6_1)) := (zl BK128.out _).trans (by rcases (show (x6_1 : Int) = 0 ∨ (x6_1 : Int) = 1 ∨ (x6_1 : Int) = 2 ∨ (x6_1 : Int) = 3 ∨ (x6_1 : Int) = 4 ∨ (x6_1 : Int) = 5 ∨ (x6_1 : Int) = 6 ∨ (x6_1 : Int) = 7 ∨ (x6_1 : Int) = 8 ∨ (x6_1 : Int) = 9 ∨ (x6_1 : Int) = 10 ∨ (x6_1 : Int) = 11 ∨ (x6_1 : Int) = 12 ∨ (x6_1 : Int) = 13 by have hp_ : 0 ≤ (x6_1 : Int) := od (by first | (with_reducible assumption) | assumption); have hq_ : x6_1 < (14 : Int) := od (by first | (with_reducible assumption) | assumption); omega) with h_ | h_ | h_ | h_ | h_ | h_ | h_ | h_ | h_ | h_ | h_ | h_ | h_ | h_ <;> rw [h_] <;> rfl)
      go_wp2
      go_ret
      exact ⟨by first | rfl | (simp [errW_none, errW_some] <;> rfl) | (simp [*, errW_none, errW_some] <;> rfl), by repeat (first | (with_reducible first | exact HB.out | apply zc | apply za | apply zb | refine ze ?_ GE127.out | refine ze ?_ GE128.out) | exact HB.out)⟩
     rw [if_neg c12] at H
     have c12b0 : decide (1 < (rd [a1_0, a1_1, a1_2, a1_3, a1_4, a1_5, a1_6, a1_7, a1_8, a1_9, a1_10, a1_11, a1_12, a1_13] x6_1)) = false := decide_eq_false c12
     clear c12
     by_cases c19 : (rd [a1_0, a1_1, a1_2, a1_3, a1_4, a1_5, a1_6, a1_7, a1_8, a1_9, a1_10, a1_11, a1_12, a1_13] x6_1) = 0
     ·rw [if_pos c19] at H
      have c19b0 : ((rd [a1_0, a1_1, a1_2, a1_3, a1_4, a1_5, a1_6, a1_7, a1_8, a1_9, a1_10, a1_11, a1_12, a1_13] x6_1) == 0) = true := beq_iff_eq.mpr c19
      have c19b1 : ((rd [a1_0, a1_1, a1_2, a1_3, a1_4, a1_5, a1_6, a1_7, a1_8, a1_9, a1_10, a1_11, a1_12, a1_13] x6_1) != 0) = false := bne_eq_false_iff_eq.mpr c19
      clear c19
      have H' := zd.mk H
      clear H
      have p20 : 0 ≤ (x6_1 : Int) := od (by first | (with_reducible assumption) | assumption)
      have q20 : x6_1 < (14 : Int) := od (by first | (with_reducible assumption) | assumption)
      replace p20 := eq_true p20
      replace q20 := eq_true q20
      have hnb21 := NB128_127.out
      have hnc21 := NB127_128.out
      obtain ⟨y3_0, y3_1, y3_2, y3_3, y3_4, y3_5, y3_6, y3_7, y3_8, y3_9, y3_10, y3_11, y3_12, y3_13⟩ := cg14 BK128.out
      have u4_0 : wr.cell? ⟨gb128, (x6_1).toNat, none⟩ = some (.int .i8 (rd [a1_0, a1_1, a1_2, a1_3, a1_4, a1_5, a1_6, a1_7, a1_8, a1_9, a1_10, a1_11, a1_12, a1_13] x6_1)) := (zl BK128.out _).trans (by rcases (show (x6_1 : Int) = 0 ∨ (x6_1 : Int) = 1 ∨ (x6_1 : Int) = 2 ∨ (x6_1 : Int) = 3 ∨ (x6_1 : Int) = 4 ∨ (x6_1 : Int) = 5 ∨ (x6_1 : Int) = 6 ∨ (x6_1 : Int) = 7 ∨ (x6_1 : Int) = 8 ∨ (x6_1 : Int) = 9 ∨ (x6_1 : Int) = 10 ∨ (x6_1 : Int) = 11 ∨ (x6_1 : Int) = 12 ∨ (x6_1 : Int) = 13 by have hp_ : 0 ≤ (x6_1 : Int) := od (by first | (with_reducible assumption) | assumption); have hq_ : x6_1 < (14 : Int) := od (by first | (with_reducible assumption) | assumption); omega) with h_ | h_ | h_ | h_ | h_ | h_ | h_ | h_ | h_ | h_ | h_ | h_ | h_ | h_ <;> rw [h_] <;> rfl)
      have p24 : 0 ≤ (x6_1 : Int) := od (by first | (with_reducible assumption) | assumption)
      have q24 : x6_1 < (14 : Int) := od (by first | (with_reducible assumption) | assumption)
      replace p24 := eq_true p24
      replace q24 := eq_true q24
      have u5_0 : wr.cell? ⟨gb128, (x6_1).toNat, none⟩ = some (.int .i8 (rd [a1_0, a1_1, a1_2, a1_3, a1_4, a1_5, a1_6, a1_7, a1_8, a1_9, a1_10, a1_11, a1_12, a1_13] x6_1)) := (zl BK128.out _).trans (by rcases (show (x6_1 : Int) = 0 ∨ (x6_1 : Int) = 1 ∨ (x6_1 : Int) = 2 ∨ (x6_1 : Int) = 3 ∨ (x6_1 : Int) = 4 ∨ (x6_1 : Int) = 5 ∨ (x6_1 : Int) = 6 ∨ (x6_1 : Int) = 7 ∨ (x6_1 : Int) = 8 ∨ (x6_1 : Int) = 9 ∨ (x6_1 : Int) = 10 ∨ (x6_1 : Int) = 11 ∨ (x6_1 : Int) = 12 ∨ (x6_1 : Int) = 13 by have hp_ : 0 ≤ (x6_1 : Int) := od (by first | (with_reducible assumption) | assumption); have hq_ : x6_1 < (14 : Int) := od (by first | (with_reducible assumption) | assumption); omega) with h_ | h_ | h_ | h_ | h_ | h_ | h_ | h_ | h_ | h_ | h_ | h_ | h_ | h_ <;> rw [h_] <;> rfl)
      have p26 : 0 ≤ (x6_1 : Int) := od (by first | (with_reducible assumption) | assumption)
      have q26 : x6_1 < (14 : Int) := od (by first | (with_reducible assumption) | assumption)
      replace p26 := eq_true p26
      replace q26 := eq_true q26
      have u6_0 : wr.cell? ⟨gb128, (x6_1).toNat, none⟩ = some (.int .i8 (rd [a1_0, a1_1, a1_2, a1_3, a1_4, a1_5, a1_6, a1_7, a1_8, a1_9, a1_10, a1_11, a1_12, a1_13] x6_1)) := (zl BK128.out _).trans (by rcases (show (x6_1 : Int) = 0 ∨ (x6_1 : Int) = 1 ∨ (x6_1 : Int) = 2 ∨ (x6_1 : Int) = 3 ∨ (x6_1 : Int) = 4 ∨ (x6_1 : Int) = 5 ∨ (x6_1 : Int) = 6 ∨ (x6_1 : Int) = 7 ∨ (x6_1 : Int) = 8 ∨ (x6_1 : Int) = 9 ∨ (x6_1 : Int) = 10 ∨ (x6_1 : Int) = 11 ∨ (x6_1 : Int) = 12 ∨ (x6_1 : Int) = 13 by have hp_ : 0 ≤ (x6_1 : Int) := od (by first | (with_reducible assumption) | assumption); have hq_ : x6_1 < (14 : Int) := od (by first | (with_reducible assumption) | assumption); omega) with h_ | h_ | h_ | h_ | h_ | h_ | h_ | h_ | h_ | h_ | h_ | h_ | h_ | h_ <;> rw [h_] <;> rfl)
      have p28 : 0 ≤ (x6_1 : Int) := od (by first | (with_reducible assumption) | assumption)
      have q28 : x6_1 < (14 : Int) := od (by first | (with_reducible assumption) | assumption)
      replace p28 := eq_true p28
      replace q28 := eq_true q28
      have u7_0 : wr.cell? ⟨gb128, (x6_1).toNat, none⟩ = some (.int .i8 (rd [a1_0, a1_1, a1_2, a1_3, a1_4, a1_5, a1_6, a1_7, a1_8, a1_9, a1_10, a1_11, a1_12, a1_13] x6_1)) := (zl BK128.out _).trans (by rcases (show (x6_1 : Int) = 0 ∨ (x6_1 : Int) = 1 ∨ (x6_1 : Int) = 2 ∨ (x6_1 : Int) = 3 ∨ (x6_1 : Int) = 4 ∨ (x6_1 : Int) = 5 ∨ (x6_1 : Int) = 6 ∨ (x6_1 : Int) = 7 ∨ (x6_1 : Int) = 8 ∨ (x6_1 : Int) = 9 ∨ (x6_1 : Int) = 10 ∨ (x6_1 : Int) = 11 ∨ (x6_1 : Int) = 12 ∨ (x6_1 : Int) = 13 by have hp_ : 0 ≤ (x6_1 : Int) := od (by first | (with_reducible assumption) | assumption); have hq_ : x6_1 < (14 : Int) := od (by first | (with_reducible assumption) | assumption); omega) with h_ | h_ | h_ | h_ | h_ | h_ | h_ | h_ | h_ | h_ | h_ | h_ | h_ | h_ <;> rw [h_] <;> rfl)
      go_wp2
      go_roundg k1
      case measure => have := HK1.out; omega
      case rel => exact ⟨(wrap64 (x5_1 + (wrap64 (rd [a1_0, a1_1, a1_2, a1_3, a1_4, a1_5, a1_6, a1_7, a1_8, a1_9, a1_10, a1_11, a1_12, a1_13] x6_1)))), (wrap64 (x6_1 + 1)), (by first | rfl | (simp; done) | (simp [*]; done)), (by first | rfl | (simp; done) | (simp [*]; done)), H', ⟨by have := HK1.out; omega⟩, ⟨by (with_reducible repeat (first | refine zf ?_ _ | refine zh ?_ | refine zg ?_ _)); exact BK127.out⟩, ⟨by (with_reducible repeat (first | refine zf ?_ _ | refine zh ?_ | refine zg ?_ _)); exact BK128.out⟩, ⟨by repeat (first | (with_reducible first | exact HB.out | apply zc | apply za | apply zb | refine ze ?_ GE127.out | refine ze ?_ GE128.out) | exact HB.out)⟩⟩
     rw [if_neg c19] at H
     have c19b0 : ((rd [a1_0, a1_1, a1_2, a1_3, a1_4, a1_5, a1_6, a1_7, a1_8, a1_9, a1_10, a1_11, a1_12, a1_13] x6_1) == 0) = false := beq_eq_false_iff_ne.mpr c19
     have c19b1 : ((rd [a1_0, a1_1, a1_2, a1_3, a1_4, a1_5, a1_6, a1_7, a1_8, a1_9, a1_10, a1_11, a1_12, a1_13] x6_1) != 0) = true := bne_iff_ne.mpr c19
     replace H := Option.bind_eq_some_iff.mp H
     obtain ⟨t137, A300, H⟩ := H
     replace H : (if t137 = true then (spec_l03Weighing.l0 k1 (wrap64 (x5_1 + (wrap64 (rd [a1_0, a1_1, a1_2, a1_3, a1_4, a1_5, a1_6, a1_7, a1_8, a1_9, a1_10, a1_11, a1_12, a1_13] x6_1)))) (wrap64 (x6_1 + 1)) a0_0 a0_1 a0_2 a0_3 a1_0 a1_1 a1_2 a1_3 a1_4 a1_5 a1_6 a1_7 a1_8 a1_9 a1_10 a1_11 a1_12 a1_13) else (some false)) = some r := H
     have A30 := zd.mk A300
     clear A300
     by_cases c31 : t137 = true
     ·subst c31
      have H1 : (spec_l03Weighing.l0 k1 (wrap64 (x5_1 + (wrap64 (rd [a1_0, a1_1, a1_2, a1_3, a1_4, a1_5, a1_6, a1_7, a1_8, a1_9, a1_10, a1_11, a1_12, a1_13] x6_1)))) (wrap64 (x6_1 + 1)) a0_0 a0_1 a0_2 a0_3 a1_0 a1_1 a1_2 a1_3 a1_4 a1_5 a1_6 a1_7 a1_8 a1_9 a1_10 a1_11 a1_12 a1_13) = some r := by rw [if_pos rfl] at H; exact H
      clear H
      have H := H1
      clear H1
      have H' := zd.mk H
      clear H
      have p32 : 0 ≤ (x6_1 : Int) := od (by first | (with_reducible assumption) | assumption)
      have q32 : x6_1 < (14 : Int) := od (by first | (with_reducible assumption) | assumption)
      replace p32 := eq_true p32
      replace q32 := eq_true q32
      have hnb33 := NB128_127.out
      have hnc33 := NB127_128.out
      obtain ⟨y4_0, y4_1, y4_2, y4_3, y4_4, y4_5, y4_6, y4_7, y4_8, y4_9, y4_10, y4_11, y4_12, y4_13⟩ := cg14 BK128.out
      have u8_0 : wr.cell? ⟨gb128, (x6_1).toNat, none⟩ = some (.int .i8 (rd [a1_0, a1_1, a1_2, a1_3, a1_4, a1_5, a1_6, a1_7, a1_8, a1_9, a1_10, a1_11, a1_12, a1_13] x6_1)) := (zl BK128.out _).trans (by rcases (show (x6_1 : Int) = 0 ∨ (x6_1 : Int) = 1 ∨ (x6_1 : Int) = 2 ∨ (x6_1 : Int) = 3 ∨ (x6_1 : Int) = 4 ∨ (x6_1 : Int) = 5 ∨ (x6_1 : Int) = 6 ∨ (x6_1 : Int) = 7 ∨ (x6_1 : Int) = 8 ∨ (x6_1 : Int) = 9 ∨ (x6_1 : Int) = 10 ∨ (x6_1 : Int) = 11 ∨ (x6_1 : Int) = 12 ∨ (x6_1 : Int) = 13 by have hp_ : 0 ≤ (x6_1 : Int) := od (by first | (with_reducible assumption) | assumption); have hq_ : x6_1 < (14 : Int) := od (by first | (with_reducible assumption) | assumption); omega) with h_ | h_ | h_ | h_ | h_ | h_ | h_ | h_ | h_ | h_ | h_ | h_ | h_ | h_ <;> rw [h_] <;> rfl)
      have p36 : 0 ≤ (x6_1 : Int) := od (by first | (with_reducible assumption) | assumption)
      have q36 : x6_1 < (14 : Int) := od (by first | (with_reducible assumption) | assumption)
      replace p36 := eq_true p36
      replace q36 := eq_true q36
      have u9_0 : wr.cell? ⟨gb128, (x6_1).toNat, none⟩ = some (.int .i8 (rd [a1_0, a1_1, a1_2, a1_3, a1_4, a1_5, a1_6, a1_7, a1_8, a1_9, a1_10, a1_11, a1_12, a1_13] x6_1)) := (zl BK128.out _).trans (by rcases (show (x6_1 : Int) = 0 ∨ (x6_1 : Int) = 1 ∨ (x6_1 : Int) = 2 ∨ (x6_1 : Int) = 3 ∨ (x6_1 : Int) = 4 ∨ (x6_1 : Int) = 5 ∨ (x6_1 : Int) = 6 ∨ (x6_1 : Int) = 7 ∨ (x6_1 : Int) = 8 ∨ (x6_1 : Int) = 9 ∨ (x6_1 : Int) = 10 ∨ (x6_1 : Int) = 11 ∨ (x6_1 : Int) = 12 ∨ (x6_1 : Int) = 13 by have hp_ : 0 ≤ (x6_1 : Int) := od (by first | (with_reducible assumption) | assumption); have hq_ : x6_1 < (14 : Int) := od (by first | (with_reducible assumption) | assumption); omega) with h_ | h_ | h_ | h_ | h_ | h_ | h_ | h_ | h_ | h_ | h_ | h_ | h_ | h_ <;> rw [h_] <;> rfl)
      have p38 : 0 ≤ (x6_1 : Int) := od (by first | (with_reducible assumption) | assumption)
      have q38 : x6_1 < (14 : Int) := od (by first | (with_reducible assumption) | assumption)
      replace p38 := eq_true p38
      replace q38 := eq_true q38
      have u10_0 : wr.cell? ⟨gb128, (x6_1).toNat, none⟩ = some (.int .i8 (rd [a1_0, a1_1, a1_2, a1_3, a1_4, a1_5, a1_6, a1_7, a1_8, a1_9, a1_10, a1_11, a1_12, a1_13] x6_1)) := (zl BK128.out _).trans (by rcases (show (x6_1 : Int) = 0 ∨ (x6_1 : Int) = 1 ∨ (x6_1 : Int) = 2 ∨ (x6_1 : Int) = 3 ∨ (x6_1 : Int) = 4 ∨ (x6_1 : Int) = 5 ∨ (x6_1 : Int) = 6 ∨ (x6_1 : Int) = 7 ∨ (x6_1 : Int) = 8 ∨ (x6_1 : Int) = 9 ∨ (x6_1 : Int) = 10 ∨ (x6_1 : Int) = 11 ∨ (x6_1 : Int) = 12 ∨ (x6_1 : Int) = 13 by have hp_ : 0 ≤ (x6_1 : Int) := od (by first | (with_reducible assumption) | assumption); have hq_ : x6_1 < (14 : Int) := od (by first | (with_reducible assumption) | assumption); omega) with h_ | h_ | h_ | h_ | h_ | h_ | h_ | h_ | h_ | h_ | h_ | h_ | h_ | h_ <;> rw [h_] <;> rfl)
      obtain ⟨y5_0, y5_1, y5_2, y5_3⟩ := cg4 BK127.out
      go_wp2_with (first | (go_at_call 59; (with_reducible refine (spec_l03There.calls a0_0 a0_1 a0_2 a0_3 x6_1 true _ A30.out).mono ?_); rintro e w41 ⟨rfl, hb⟩; have n0_ := zd.mk (zj (by (with_reducible repeat (first | refine zf ?_ _ | refine zh ?_ | refine zg ?_ _)); exact BK127.out) hb); have n1_ := zd.mk (zj (by (with_reducible repeat (first | refine zf ?_ _ | refine zh ?_ | refine zg ?_ _)); exact BK128.out) hb); have n2_ := zd.mk (zk (by repeat (first | (with_reducible first | exact HB.out | apply zc | apply za | apply zb | refine ze ?_ GE127.out | refine ze ?_ GE128.out) | exact HB.out)) hb); clear BK127; clear BK128; clear HB; have BK127 := n0_; have BK128 := n1_; have HB := n2_; clear n0_ n1_ n2_; (try clear hb); (try clear hb2); (try clear hk); (try clear hi); have p42 : 0 ≤ (x6_1 : Int) := od (by first | (with_reducible assumption) | assumption); have q42 : x6_1 < (14 : Int) := od (by first | (with_reducible assumption) | assumption); replace p42 := eq_true p42; replace q42 := eq_true q42; obtain ⟨y6_0, y6_1, y6_2, y6_3, y6_4, y6_5, y6_6, y6_7, y6_8, y6_9, y6_10, y6_11, y6_12, y6_13⟩ := cg14 BK128.out; have u11_0 : w41.cell? ⟨gb128, (x6_1).toNat, none⟩ = some (.int .i8 (rd [a1_0, a1_1, a1_2, a1_3, a1_4, a1_5, a1_6, a1_7, a1_8, a1_9, a1_10, a1_11, a1_12, a1_13] x6_1)) := (zl BK128.out _).trans (by rcases (show (x6_1 : Int) = 0 ∨ (x6_1 : Int) = 1 ∨ (x6_1 : Int) = 2 ∨ (x6_1 : Int) = 3 ∨ (x6_1 : Int) = 4 ∨ (x6_1 : Int) = 5 ∨ (x6_1 : Int) = 6 ∨ (x6_1 : Int) = 7 ∨ (x6_1 : Int) = 8 ∨ (x6_1 : Int) = 9 ∨ (x6_1 : Int) = 10 ∨ (x6_1 : Int) = 11 ∨ (x6_1 : Int) = 12 ∨ (x6_1 : Int) = 13 by have hp_ : 0 ≤ (x6_1 : Int) := od (by first | (with_reducible assumption) | assumption); have hq_ : x6_1 < (14 : Int) := od (by first | (with_reducible assumption) | assumption); omega) with h_ | h_ | h_ | h_ | h_ | h_ | h_ | h_ | h_ | h_ | h_ | h_ | h_ | h_ <;> rw [h_] <;> rfl)))
      go_roundg k1
      case measure => have := HK1.out; omega
      case rel => exact ⟨(wrap64 (x5_1 + (wrap64 (rd [a1_0, a1_1, a1_2, a1_3, a1_4, a1_5, a1_6, a1_7, a1_8, a1_9, a1_10, a1_11, a1_12, a1_13] x6_1)))), (wrap64 (x6_1 + 1)), (by first | rfl | (simp; done) | (simp [*]; done)), (by first | rfl | (simp; done) | (simp [*]; done)), H', ⟨by have := HK1.out; omega⟩, ⟨by (with_reducible repeat (first | refine zf ?_ _ | refine zh ?_ | refine zg ?_ _)); exact BK127.out⟩, ⟨by (with_reducible repeat (first | refine zf ?_ _ | refine zh ?_ | refine zg ?_ _)); exact BK128.out⟩, ⟨by repeat (first | (with_reducible first | exact HB.out | apply zc | apply za | apply zb | refine ze ?_ GE127.out | refine ze ?_ GE128.out) | exact HB.out)⟩⟩
     replace c31 := Bool.eq_false_iff.mpr c31
     subst c31
     have H1 : (some false) = some r := by rw [if_neg (show ¬ (false = true) by decide)] at H; exact H
     clear H
     have H := H1
     clear H1
     obtain rfl := Option.some.inj H
     have p45 : 0 ≤ (x6_1 : Int) := od (by first | (with_reducible assumption) | assumption)
     have q45 : x6_1 < (14 : Int) := od (by first | (with_reducible assumption) | assumption)
     replace p45 := eq_true p45
     replace q45 := eq_true q45
     have hnb46 := NB128_127.out
     have hnc46 := NB127_128.out
     obtain ⟨y7_0, y7_1, y7_2, y7_3, y7_4, y7_5, y7_6, y7_7, y7_8, y7_9, y7_10, y7_11, y7_12, y7_13⟩ := cg14 BK128.out
     have u12_0 : wr.cell? ⟨gb128, (x6_1).toNat, none⟩ = some (.int .i8 (rd [a1_0, a1_1, a1_2, a1_3, a1_4, a1_5, a1_6, a1_7, a1_8, a1_9, a1_10, a1_11, a1_12, a1_13] x6_1)) := (zl BK128.out _).trans (by rcases (show (x6_1 : Int) = 0 ∨ (x6_1 : Int) = 1 ∨ (x6_1 : Int) = 2 ∨ (x6_1 : Int) = 3 ∨ (x6_1 : Int) = 4 ∨ (x6_1 : Int) = 5 ∨ (x6_1 : Int) = 6 ∨ (x6_1 : Int) = 7 ∨ (x6_1 : Int) = 8 ∨ (x6_1 : Int) = 9 ∨ (x6_1 : Int) = 10 ∨ (x6_1 : Int) = 11 ∨ (x6_1 : Int) = 12 ∨ (x6_1 : Int) = 13 by have hp_ : 0 ≤ (x6_1 : Int) := od (by first | (with_reducible assumption) | assumption); have hq_ : x6_1 < (14 : Int) := od (by first | (with_reducible assumption) | assumption); omega) with h_ | h_ | h_ | h_ | h_ | h_ | h_ | h_ | h_ | h_ | h_ | h_ | h_ | h_ <;> rw [h_] <;> rfl)
     have p49 : 0 ≤ (x6_1 : Int) := od (by first | (with_reducible assumption) | assumption)
     have q49 : x6_1 < (14 : Int) := od (by first | (with_reducible assumption) | assumption)
     replace p49 := eq_true p49
     replace q49 := eq_true q49
     have u13_0 : wr.cell? ⟨gb128, (x6_1).toNat, none⟩ = some (.int .i8 (rd [a1_0, a1_1, a1_2, a1_3, a1_4, a1_5, a1_6, a1_7, a1_8, a1_9, a1_10, a1_11, a1_12, a1_13] x6_1)) := (zl BK128.out _).trans (by rcases (show (x6_1 : Int) = 0 ∨ (x6_1 : Int) = 1 ∨ (x6_1 : Int) = 2 ∨ (x6_1 : Int) = 3 ∨ (x6_1 : Int) = 4 ∨ (x6_1 : Int) = 5 ∨ (x6_1 : Int) = 6 ∨ (x6_1 : Int) = 7 ∨ (x6_1 : Int) = 8 ∨ (x6_1 : Int) = 9 ∨ (x6_1 : Int) = 10 ∨ (x6_1 : Int) = 11 ∨ (x6_1 : Int) = 12 ∨ (x6_1 : Int) = 13 by have hp_ : 0 ≤ (x6_1 : Int) := od (by first | (with_reducible assumption) | assumption); have hq_ : x6_1 < (14 : Int) := od (by first | (with_reducible assumption) | assumption); omega) with h_ | h_ | h_ | h_ | h_ | h_ | h_ | h_ | h_ | h_ | h_ | h_ | h_ | h_ <;> rw [h_] <;> rfl)
     have p51 : 0 ≤ (x6_1 : Int) := od (by first | (with_reducible assumption) | assumption)
     have q51 : x6_1 < (14 : Int) := od (by first | (with_reducible assumption) | assumption)
     replace p51 := eq_true p51
     replace q51 := eq_true q51
     have u14_0 : wr.cell? ⟨gb128, (x6_1).toNat, none⟩ = some (.int .i8 (rd [a1_0, a1_1, a1_2, a1_3, a1_4, a1_5, a1_6, a1_7, a1_8, a1_9, a1_10, a1_11, a1_12, a1_13] x6_1)) := (zl BK128.out _).trans (by rcases (show (x6_1 : Int) = 0 ∨ (x6_1 : Int) = 1 ∨ (x6_1 : Int) = 2 ∨ (x6_1 : Int) = 3 ∨ (x6_1 : Int) = 4 ∨ (x6_1 : Int) = 5 ∨ (x6_1 : Int) = 6 ∨ (x6_1 : Int) = 7 ∨ (x6_1 : Int) = 8 ∨ (x6_1 : Int) = 9 ∨ (x6_1 : Int) = 10 ∨ (x6_1 : Int) = 11 ∨ (x6_1 : Int) = 12 ∨ (x6_1 : Int) = 13 by have hp_ : 0 ≤ (x6_1 : Int) := od (by first | (with_reducible assumption) | assumption); have hq_ : x6_1 < (14 : Int) := od (by first | (with_reducible assumption) | assumption); omega) with h_ | h_ | h_ | h_ | h_ | h_ | h_ | h_ | h_ | h_ | h_ | h_ | h_ | h_ <;> rw [h_] <;> rfl)
     obtain ⟨y8_0, y8_1, y8_2, y8_3⟩ := cg4 BK127.out
     go_wp2_with (first | (go_at_call 59; (with_reducible refine (spec_l03There.calls a0_0 a0_1 a0_2 a0_3 x6_1 false _ A30.out).mono ?_); rintro e w54 ⟨rfl, hb⟩; have n0_ := zd.mk (zj (by (with_reducible repeat (first | refine zf ?_ _ | refine zh ?_ | refine zg ?_ _)); exact BK127.out) hb); have n1_ := zd.mk (zj (by (with_reducible repeat (first | refine zf ?_ _ | refine zh ?_ | refine zg ?_ _)); exact BK128.out) hb); have n2_ := zd.mk (zk (by repeat (first | (with_reducible first | exact HB.out | apply zc | apply za | apply zb | refine ze ?_ GE127.out | refine ze ?_ GE128.out) | exact HB.out)) hb); clear BK127; clear BK128; clear HB; have BK127 := n0_; have BK128 := n1_; have HB := n2_; clear n0_ n1_ n2_; (try clear hb); (try clear hb2); (try clear hk); (try clear hi)))
     go_ret
     exact ⟨by first | rfl | (simp [errW_none, errW_some] <;> rfl) | (simp [*, errW_none, errW_some] <;> rfl), by repeat (first | (with_reducible first | exact HB.out | apply zc | apply za | apply zb | refine ze ?_ GE127.out | refine ze ?_ GE128.out) | exact HB.out)⟩
    rw [if_neg c6] at H
    exact absurd H (by simp)
   rw [if_neg c5] at H
   have c5b0 : decide (x6_1 < 14) = false := decide_eq_false c5
   clear c5
   obtain rfl := Option.some.inj H
   go_wp2
   go_ret
   exact ⟨by first | rfl | (simp [errW_none, errW_some] <;> rfl) | (simp [*, errW_none, errW_some] <;> rfl), by repeat (first | (with_reducible first | exact HB.out | apply zc | apply za | apply zb | refine ze ?_ GE127.out | refine ze ?_ GE128.out) | exact HB.out)⟩

end Go.Proofs.Ytmmonhpjjjdnjaa.U
