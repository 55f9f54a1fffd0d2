-- Written by wip/tools/myprint.py.
import Derived.Test.YtmmonhpjjjdnjaaVx0
import Derived.Test.YtmmonhpjjjdnjaaLLoadV
import Derived.Test.YtmmonhpjjjdnjaaVx1
import Derived.Test.YtmmonhpjjjdnjaaVx13
namespace Go.Proofs.Ytmmonhpjjjdnjaa.V
open Go.RowKit Go.Proofs.YtmmonhpjjjdnjaaW.PrintWords Go.Proofs.YtmmonhpjjjdnjaaW.PrintLast Go.Proofs.YtmmonhpjjjdnjaaW.PrintMore
attribute [local go_sem] zoa zqa zwa zva zia zga zra zpa
set_option linter.unusedVariables false
set_option linter.unusedSimpArgs false
attribute [local go_sem high] eqA46
def spec_l03Find.l0 : Nat → List (S46) → Int → Int → Bool → Option (Int)
 | 0, _, _, _, _ => none
 | k + 1, x5, x6, x122000, x122001 => if x6 < (x5.length : Int) then (if 0 ≤ x6 then (if (((zna x5 x6).f0) == x122000 && (((zna x5 x6).f1) == x122001)) = true then (some x6) else (spec_l03Find.l0 k x5 (wrap64 (x6 + 1)) x122000 x122001)) else (none)) else (some (-1))
def spec_l03Find.f (k : Nat) (a0_0 : Int) (a0_1 : Int) (a0_2 : Bool) (a0_3 : Bool) (a1_0 : Int) (a1_1 : Bool) : Option (Int) := (spec_l03Cases.f k a0_0 a0_1 a0_2 a0_3).bind fun t122 => (spec_l03Find.l0 k t122 0 a1_0 a1_1)
set_option maxHeartbeats 8000000 in
set_option maxRecDepth 100000 in
theorem spec_l03Find.calls (k : Nat) (a0_0 : Int) (a0_1 : Int) (a0_2 : Bool) (a0_3 : Bool) (a1_0 : Int) (a1_1 : Bool) (r : Int) (w : World) (h : spec_l03Find.f k a0_0 a0_1 a0_2 a0_3 a1_0 a1_1 = some r) :
  Calls Try.prog 54 #[.agg #[.int .i8 a0_0, .int .i8 a0_1, .bool a0_2, .bool a0_3], .agg #[.int .i8 a1_0, .bool a1_1]] w fun e w' => e = .returned (.int .i64 r) ∧ Below w.heap.size w w' := by
 have hu29 := Try.underlying29
 have hu46 := Try.underlying46
 have HB := zc.mk (Below.refl w.heap.size w)
 have H : ((spec_l03Cases.f k a0_0 a0_1 a0_2 a0_3).bind fun t122 => (spec_l03Find.l0 k t122 0 a1_0 a1_1)) = some r := h
 clear h
 replace H := Option.bind_eq_some_iff.mp H
 obtain ⟨t122, A30, H⟩ := H
 replace H : (spec_l03Find.l0 k t122 0 a1_0 a1_1) = some r := H
 have A3 := zc.mk A30
 clear A30
 have H' := zc.mk H
 clear H
 go_enter Try.func54, Try.ntmps54
 go_wp2_with (first | ((with_reducible refine zp (N := 2) rfl ?_); refine zr ?hg (N := 2) ?hd (cs := #[.int .i8 a0_0, .int .i8 a0_1, .bool a0_2, .bool a0_3]) (t := 29) ?hr ?_; (case hd => rfl); (case hg => rfl); (case hr => first | (go_simp; done) | (go_simp; rfl)); intro gb120 hg w4 hbox hb; obtain ⟨n0_, n2_⟩ := bx (by repeat (first | (with_reducible first | exact HB.out | apply ze | apply zb | apply zd) | exact HB.out)) hb hg; have n1_ := zc.mk (hbox); have n3_ := n2_; clear HB; have HB := n0_; have BK120 := n1_; have GW120 := n2_; have GE120 := n3_; clear n0_ n1_ n2_ n3_; clear hb hbox hg) | ((with_reducible refine zp (N := 3) rfl ?_); refine zr ?hg (N := 3) ?hd (cs := #[.int .i8 a1_0, .bool a1_1]) (t := 46) ?hr ?_; (case hd => rfl); (case hg => rfl); (case hr => first | (go_simp; done) | (go_simp; rfl)); intro gb121 hg w5 hbox hb; have n0_ := zc.mk (zn (by (with_reducible repeat (first | refine zg ?_ _ | refine zi ?_ | refine zh ?_ _)); exact BK120.out) hb); obtain ⟨n1_, n3_⟩ := bx (by repeat (first | (with_reducible first | exact HB.out | apply ze | apply zb | apply zd | refine zf ?_ GE120.out) | exact HB.out)) hb hg; have n2_ := zc.mk (hbox); have n4_ := n3_; have n5_ := zc.mk ((by rw [hg]; exact Nat.ne_of_lt (zla (by (with_reducible repeat (first | refine zg ?_ _ | refine zi ?_ | refine zh ?_ _)); exact BK120.out)) : gb120 ≠ gb121)); have n6_ := zc.mk n5_.out.symm; clear BK120; clear HB; have BK120 := n0_; have HB := n1_; have BK121 := n2_; have GW121 := n3_; have GE121 := n4_; have NB120_121 := n5_; have NB121_120 := n6_; clear n0_ n1_ n2_ n3_ n4_ n5_ n6_; clear hb hbox hg; have hnb6 := NB120_121.out; have hnc6 := NB121_120.out; obtain ⟨y1_0, y1_1, y1_2, y1_3, z1_0, z1_1, z1_2, z1_3⟩ := cf4 BK120.out) | (go_at_call 25; (with_reducible refine (spec_l03Cases.calls k a0_0 a0_1 a0_2 a0_3 t122 _ A3.out).mono ?_); rintro e w8 ⟨v123, rfl, ho0, hb⟩; have n0_ := zc.mk (Kd.R_lower (Kd.R_newB ho0 (g := gb121) (o := .cells #[.int .i8 a1_0, .bool a1_1] 46 (0, 0)) (by (with_reducible repeat (first | refine zg ?_ _ | refine zi ?_ | refine zh ?_ _)); exact BK121.out)) (zz (by repeat (first | (with_reducible first | exact HB.out | apply ze | apply zb | apply zd | refine zf ?_ GE120.out | refine zf ?_ GE121.out) | exact HB.out)))); have n1_ := zc.mk (zn (by (with_reducible repeat (first | refine zg ?_ _ | refine zi ?_ | refine zh ?_ _)); exact BK120.out) hb); have n2_ := zc.mk (zn (by (with_reducible repeat (first | refine zg ?_ _ | refine zi ?_ | refine zh ?_ _)); exact BK121.out) hb); have n3_ := zc.mk (zq (by repeat (first | (with_reducible first | exact HB.out | apply ze | apply zb | apply zd | refine zf ?_ GE120.out | refine zf ?_ GE121.out) | exact HB.out)) hb); clear BK120; clear BK121; clear HB; have HO124 := n0_; have BK120 := n1_; have BK121 := n2_; have HB := n3_; clear n0_ n1_ n2_ n3_; (try clear hb); (try clear hb2); (try clear hk); (try clear hi); (try clear ho0)))
 repeat (go_quiet (first | ((with_reducible refine zp (N := 2) rfl ?_); refine zr ?hg (N := 2) ?hd (cs := #[.int .i8 a0_0, .int .i8 a0_1, .bool a0_2, .bool a0_3]) (t := 29) ?hr ?_; (case hd => rfl); (case hg => rfl); (case hr => first | (go_simp; done) | (go_simp; rfl)); intro gb120 hg w4 hbox hb; obtain ⟨n0_, n2_⟩ := bx (by repeat (first | (with_reducible first | exact HB.out | apply ze | apply zb | apply zd) | exact HB.out)) hb hg; have n1_ := zc.mk (hbox); have n3_ := n2_; clear HB; have HB := n0_; have BK120 := n1_; have GW120 := n2_; have GE120 := n3_; clear n0_ n1_ n2_ n3_; clear hb hbox hg) | ((with_reducible refine zp (N := 3) rfl ?_); refine zr ?hg (N := 3) ?hd (cs := #[.int .i8 a1_0, .bool a1_1]) (t := 46) ?hr ?_; (case hd => rfl); (case hg => rfl); (case hr => first | (go_simp; done) | (go_simp; rfl)); intro gb121 hg w5 hbox hb; have n0_ := zc.mk (zn (by (with_reducible repeat (first | refine zg ?_ _ | refine zi ?_ | refine zh ?_ _)); exact BK120.out) hb); obtain ⟨n1_, n3_⟩ := bx (by repeat (first | (with_reducible first | exact HB.out | apply ze | apply zb | apply zd | refine zf ?_ GE120.out) | exact HB.out)) hb hg; have n2_ := zc.mk (hbox); have n4_ := n3_; have n5_ := zc.mk ((by rw [hg]; exact Nat.ne_of_lt (zla (by (with_reducible repeat (first | refine zg ?_ _ | refine zi ?_ | refine zh ?_ _)); exact BK120.out)) : gb120 ≠ gb121)); have n6_ := zc.mk n5_.out.symm; clear BK120; clear HB; have BK120 := n0_; have HB := n1_; have BK121 := n2_; have GW121 := n3_; have GE121 := n4_; have NB120_121 := n5_; have NB121_120 := n6_; clear n0_ n1_ n2_ n3_ n4_ n5_ n6_; clear hb hbox hg; have hnb6 := NB120_121.out; have hnc6 := NB121_120.out; obtain ⟨y1_0, y1_1, y1_2, y1_3, z1_0, z1_1, z1_2, z1_3⟩ := cf4 BK120.out) | (go_at_call 25; (with_reducible refine (spec_l03Cases.calls k a0_0 a0_1 a0_2 a0_3 t122 _ A3.out).mono ?_); rintro e w8 ⟨v123, rfl, ho0, hb⟩; have n0_ := zc.mk (Kd.R_lower (Kd.R_newB ho0 (g := gb121) (o := .cells #[.int .i8 a1_0, .bool a1_1] 46 (0, 0)) (by (with_reducible repeat (first | refine zg ?_ _ | refine zi ?_ | refine zh ?_ _)); exact BK121.out)) (zz (by repeat (first | (with_reducible first | exact HB.out | apply ze | apply zb | apply zd | refine zf ?_ GE120.out | refine zf ?_ GE121.out) | exact HB.out)))); have n1_ := zc.mk (zn (by (with_reducible repeat (first | refine zg ?_ _ | refine zi ?_ | refine zh ?_ _)); exact BK120.out) hb); have n2_ := zc.mk (zn (by (with_reducible repeat (first | refine zg ?_ _ | refine zi ?_ | refine zh ?_ _)); exact BK121.out) hb); have n3_ := zc.mk (zq (by repeat (first | (with_reducible first | exact HB.out | apply ze | apply zb | apply zd | refine zf ?_ GE120.out | refine zf ?_ GE121.out) | exact HB.out)) hb); clear BK120; clear BK121; clear HB; have HO124 := n0_; have BK120 := n1_; have BK121 := n2_; have HB := n3_; clear n0_ n1_ n2_ n3_; (try clear hb); (try clear hb2); (try clear hk); (try clear hi); (try clear ho0))); try go_wp2_with (first | ((with_reducible refine zp (N := 2) rfl ?_); refine zr ?hg (N := 2) ?hd (cs := #[.int .i8 a0_0, .int .i8 a0_1, .bool a0_2, .bool a0_3]) (t := 29) ?hr ?_; (case hd => rfl); (case hg => rfl); (case hr => first | (go_simp; done) | (go_simp; rfl)); intro gb120 hg w4 hbox hb; obtain ⟨n0_, n2_⟩ := bx (by repeat (first | (with_reducible first | exact HB.out | apply ze | apply zb | apply zd) | exact HB.out)) hb hg; have n1_ := zc.mk (hbox); have n3_ := n2_; clear HB; have HB := n0_; have BK120 := n1_; have GW120 := n2_; have GE120 := n3_; clear n0_ n1_ n2_ n3_; clear hb hbox hg) | ((with_reducible refine zp (N := 3) rfl ?_); refine zr ?hg (N := 3) ?hd (cs := #[.int .i8 a1_0, .bool a1_1]) (t := 46) ?hr ?_; (case hd => rfl); (case hg => rfl); (case hr => first | (go_simp; done) | (go_simp; rfl)); intro gb121 hg w5 hbox hb; have n0_ := zc.mk (zn (by (with_reducible repeat (first | refine zg ?_ _ | refine zi ?_ | refine zh ?_ _)); exact BK120.out) hb); obtain ⟨n1_, n3_⟩ := bx (by repeat (first | (with_reducible first | exact HB.out | apply ze | apply zb | apply zd | refine zf ?_ GE120.out) | exact HB.out)) hb hg; have n2_ := zc.mk (hbox); have n4_ := n3_; have n5_ := zc.mk ((by rw [hg]; exact Nat.ne_of_lt (zla (by (with_reducible repeat (first | refine zg ?_ _ | refine zi ?_ | refine zh ?_ _)); exact BK120.out)) : gb120 ≠ gb121)); have n6_ := zc.mk n5_.out.symm; clear BK120; clear HB; have BK120 := n0_; have HB := n1_; have BK121 := n2_; have GW121 := n3_; have GE121 := n4_; have NB120_121 := n5_; have NB121_120 := n6_; clear n0_ n1_ n2_ n3_ n4_ n5_ n6_; clear hb hbox hg; have hnb6 := NB120_121.out; have hnc6 := NB121_120.out; obtain ⟨y1_0, y1_1, y1_2, y1_3, z1_0, z1_1, z1_2, z1_3⟩ := cf4 BK120.out) | (go_at_call 25; (with_reducible refine (spec_l03Cases.calls k a0_0 a0_1 a0_2 a0_3 t122 _ A3.out).mono ?_); rintro e w8 ⟨v123, rfl, ho0, hb⟩; have n0_ := zc.mk (Kd.R_lower (Kd.R_newB ho0 (g := gb121) (o := .cells #[.int .i8 a1_0, .bool a1_1] 46 (0, 0)) (by (with_reducible repeat (first | refine zg ?_ _ | refine zi ?_ | refine zh ?_ _)); exact BK121.out)) (zz (by repeat (first | (with_reducible first | exact HB.out | apply ze | apply zb | apply zd | refine zf ?_ GE120.out | refine zf ?_ GE121.out) | exact HB.out)))); have n1_ := zc.mk (zn (by (with_reducible repeat (first | refine zg ?_ _ | refine zi ?_ | refine zh ?_ _)); exact BK120.out) hb); have n2_ := zc.mk (zn (by (with_reducible repeat (first | refine zg ?_ _ | refine zi ?_ | refine zh ?_ _)); exact BK121.out) hb); have n3_ := zc.mk (zq (by repeat (first | (with_reducible first | exact HB.out | apply ze | apply zb | apply zd | refine zf ?_ GE120.out | refine zf ?_ GE121.out) | exact HB.out)) hb); clear BK120; clear BK121; clear HB; have HO124 := n0_; have BK120 := n1_; have BK121 := n2_; have HB := n3_; clear n0_ n1_ n2_ n3_; (try clear hb); (try clear hb2); (try clear hk); (try clear hi); (try clear ho0))))
 go_loopg [6] k (fun kq v6 w' => ∃ (x6_1 : Int), v6 = .int .i64 x6_1 ∧ zc (spec_l03Find.l0 kq t122 x6_1 a1_0 a1_1 = some r) ∧ zc (kq ≤ k) ∧ zc (Kd.R k46 46 w' w.heap.size (fun k_ => k_ ≠ gb121) v123 t122) ∧ zc (w'.heap[gb120]? = some (.cells #[.int .i8 a0_0, .int .i8 a0_1, .bool a0_2, .bool a0_3] 29 (0, 0))) ∧ zc (w'.heap[gb121]? = some (.cells #[.int .i8 a1_0, .bool a1_1] 46 (0, 0))) ∧ zc (Below w.heap.size w w'))
 case atStart => exact ⟨(0), (by first | rfl | (simp; done) | (simp [*]; done)), H', ⟨Nat.le_refl _⟩, ⟨by (with_reducible repeat (first | apply Kd.R_alloc | apply Kd.R_drewN | apply Kd.R_drew)); exact Kd.R_mono HO124.out (fun _ hk => hk.2)⟩, ⟨by (with_reducible repeat (first | refine zg ?_ _ | refine zi ?_ | refine zh ?_ _)); exact BK120.out⟩, ⟨by (with_reducible repeat (first | refine zg ?_ _ | refine zi ?_ | refine zh ?_ _)); exact BK121.out⟩, ⟨by repeat (first | (with_reducible first | exact HB.out | apply ze | apply zb | apply zd | refine zf ?_ GE120.out | refine zf ?_ GE121.out) | exact HB.out)⟩⟩
 case round =>
  clear H'
  try clear p2
  try clear c5
  try clear c6
  try clear y1_0 y1_1 y1_2 y1_3
  try clear z1_0 z1_1 z1_2 z1_3
  obtain ⟨x6_1, rfl, HA, HK1, HO_5, BK120, BK121, HB⟩ := hrel
  cases gk with
  | zero => exact absurd HA.out (by simp [spec_l03Find.l0])
  | succ k1 =>
   have H := HA.out
   clear HA
   simp only [spec_l03Find.l0] at H
   by_cases c9 : x6_1 < (t122.length : Int)
   ·rw [if_pos c9] at H
    have c9b0 : decide (x6_1 < (t122.length : Int)) = true := decide_eq_true c9
    clear c9
    by_cases c10 : 0 ≤ x6_1
    ·rw [if_pos c10] at H
     have c10b0 : decide (0 ≤ x6_1) = true := decide_eq_true c10
     clear c10
     by_cases c11 : (((zna t122 x6_1).f0) == a1_0 && (((zna t122 x6_1).f1) == a1_1)) = true
     ·rw [if_pos c11] at H
      have c11b0 : (((zna t122 x6_1).f0) == a1_0 && (((zna t122 x6_1).f1) == a1_1)) = true := c11
      (try (have c11b1 : decide (((zna t122 x6_1).f0) = a1_0 && (((zna t122 x6_1).f1) == a1_1)) = true := by simpa using c11))
      (try (have c11b2 : (((zna t122 x6_1).f0) == a1_0 && (((zna t122 x6_1).f1) == a1_1)) = true := by simpa using c11))
      clear c11
      obtain rfl := Option.some.inj H
      obtain ⟨Ao12, co12, eo12⟩ := Kd.R_slice HO_5.out
      subst eo12
      have p125 : 0 ≤ (x6_1 : Int) := od (by first | (with_reducible assumption) | assumption)
      have q125 : x6_1 < (t122.length : Int) := od (by first | (with_reducible assumption) | assumption)
      obtain ⟨ad125, e125, u1_0, u1_1⟩ := at_T46 (Kd.R_reads' HO_5.out).2.2 x6_1 p125 q125
      cases e125
      replace p125 := eq_true p125
      replace q125 := eq_true q125
      have hnb13 := NB121_120.out
      have hnc13 := NB120_121.out
      obtain ⟨y2_0, y2_1, z2_0, z2_1⟩ := cf2 BK121.out
      go_wp2
      repeat (go_quiet (fail); try go_wp2)
      go_ret
      exact ⟨by first | rfl | (simp [zj, zk] <;> rfl) | (simp [*, zj, zk] <;> rfl), by repeat (first | (with_reducible first | exact HB.out | apply ze | apply zb | apply zd | refine zf ?_ GE120.out | refine zf ?_ GE121.out) | exact HB.out)⟩
     rw [if_neg c11] at H
     have c11b0 : (((zna t122 x6_1).f0) == a1_0 && (((zna t122 x6_1).f1) == a1_1)) = false := by simpa using c11
     (try (have c11b1 : decide (((zna t122 x6_1).f0) = a1_0 && (((zna t122 x6_1).f1) == a1_1)) = false := by simpa using c11))
     (try (have c11b2 : (((zna t122 x6_1).f0) == a1_0 && (((zna t122 x6_1).f1) == a1_1)) = false := by simpa using c11))
     (try (have c11b3 : ¬ (((zna t122 x6_1).f0) = a1_0 && (((zna t122 x6_1).f1) == a1_1)) := by simpa using c11))
     clear c11
     have H' := zc.mk H
     clear H
     obtain ⟨Ao15, co15, eo15⟩ := Kd.R_slice HO_5.out
     subst eo15
     have p125 : 0 ≤ (x6_1 : Int) := od (by first | (with_reducible assumption) | assumption)
     have q125 : x6_1 < (t122.length : Int) := od (by first | (with_reducible assumption) | assumption)
     obtain ⟨ad125, e125, u1_0, u1_1⟩ := at_T46 (Kd.R_reads' HO_5.out).2.2 x6_1 p125 q125
     cases e125
     replace p125 := eq_true p125
     replace q125 := eq_true q125
     have hnb16 := NB121_120.out
     have hnc16 := NB120_121.out
     obtain ⟨y3_0, y3_1, z3_0, z3_1⟩ := cf2 BK121.out
     go_wp2
     repeat (go_quiet (fail); try go_wp2)
     go_roundg k1
     case measure => have := HK1.out; omega
     case rel => exact ⟨(wrap64 (x6_1 + 1)), (by first | rfl | (simp; done) | (simp [*]; done)), H', ⟨by have := HK1.out; omega⟩, ⟨by (with_reducible repeat (first | apply Kd.R_alloc | apply Kd.R_drewN | apply Kd.R_drew)); exact HO_5.out⟩, ⟨by (with_reducible repeat (first | refine zg ?_ _ | refine zi ?_ | refine zh ?_ _)); exact BK120.out⟩, ⟨by (with_reducible repeat (first | refine zg ?_ _ | refine zi ?_ | refine zh ?_ _)); exact BK121.out⟩, ⟨by repeat (first | (with_reducible first | exact HB.out | apply ze | apply zb | apply zd | refine zf ?_ GE120.out | refine zf ?_ GE121.out) | exact HB.out)⟩⟩
    rw [if_neg c10] at H
    exact absurd H (by simp)
   rw [if_neg c9] at H
   have c9b0 : decide (x6_1 < (t122.length : Int)) = false := decide_eq_false c9
   clear c9
   obtain rfl := Option.some.inj H
   obtain ⟨Ao18, co18, eo18⟩ := Kd.R_slice HO_5.out
   subst eo18
   go_wp2
   repeat (go_quiet (fail); try go_wp2)
   go_ret
   exact ⟨by first | rfl | (simp [zj, zk] <;> rfl) | (simp [*, zj, zk] <;> rfl), by repeat (first | (with_reducible first | exact HB.out | apply ze | apply zb | apply zd | refine zf ?_ GE120.out | refine zf ?_ GE121.out) | exact HB.out)⟩
def spec_l03There.f (a0_0 : Int) (a0_1 : Int) (a0_2 : Bool) (a0_3 : Bool) (a1 : Int) : Option (Bool) := if a1 < (wrap64 (a0_0)) then (some true) else (if a1 = (wrap64 (a0_0)) then (some a0_3) else (some false))
set_option maxHeartbeats 8000000 in
set_option maxRecDepth 100000 in
theorem spec_l03There.calls (a0_0 : Int) (a0_1 : Int) (a0_2 : Bool) (a0_3 : Bool) (a1 : Int) (r : Bool) (w : World) (h : spec_l03There.f a0_0 a0_1 a0_2 a0_3 a1 = some r) :
  Calls Try.prog 59 #[.agg #[.int .i8 a0_0, .int .i8 a0_1, .bool a0_2, .bool a0_3], .int .i64 a1] w fun e w' => e = .returned (.bool r) ∧ Below w.heap.size w w' := by
 have hu29 := Try.underlying29
 have HB := zc.mk (Below.refl w.heap.size w)
 have H : (if a1 < (wrap64 (a0_0)) then (some true) else (if a1 = (wrap64 (a0_0)) then (some a0_3) else (some false))) = some r := h
 clear h
 by_cases c3 : a1 < (wrap64 (a0_0))
 ·rw [if_pos c3] at H
  have c3b0 : decide (a1 < (wrap64 (a0_0))) = true := decide_eq_true c3
  (try (have c3b1 : decide (a1 < (IntKind.i64.wrap (a0_0))) = true := by have h_ : decide (a1 < (wrap64 (a0_0))) = true := decide_eq_true c3; simpa only [zm, zl] using h_))
  clear c3
  obtain rfl := Option.some.inj H
  go_enter Try.func59, Try.ntmps59
  go_wp2_with (first | ((with_reducible refine zp (N := 2) rfl ?_); refine zr ?hg (N := 2) ?hd (cs := #[.int .i8 a0_0, .int .i8 a0_1, .bool a0_2, .bool a0_3]) (t := 29) ?hr ?_; (case hd => rfl); (case hg => rfl); (case hr => first | (go_simp; done) | (go_simp; rfl)); intro gb126 hg w4 hbox hb; obtain ⟨n0_, n2_⟩ := bx (by repeat (first | (with_reducible first | exact HB.out | apply ze | apply zb | apply zd) | exact HB.out)) hb hg; have n1_ := zc.mk (hbox); have n3_ := n2_; clear HB; have HB := n0_; have BK126 := n1_; have GW126 := n2_; have GE126 := n3_; clear n0_ n1_ n2_ n3_; clear hb hbox hg; obtain ⟨y4_0, y4_1, y4_2, y4_3, z4_0, z4_1, z4_2, z4_3⟩ := cf4 BK126.out))
  go_ret
  exact ⟨by first | rfl | (simp [zj, zk] <;> rfl) | (simp [*, zj, zk] <;> rfl), by repeat (first | (with_reducible first | exact HB.out | apply ze | apply zb | apply zd | refine zf ?_ GE126.out) | exact HB.out)⟩
 rw [if_neg c3] at H
 have c3b0 : decide (a1 < (wrap64 (a0_0))) = false := decide_eq_false c3
 (try (have c3b1 : decide (a1 < (IntKind.i64.wrap (a0_0))) = false := by have h_ : decide (a1 < (wrap64 (a0_0))) = false := decide_eq_false c3; simpa only [zm, zl] using h_))
 clear c3
 by_cases c6 : a1 = (wrap64 (a0_0))
 ·rw [if_pos c6] at H
  have c6b0 : (a1 == (wrap64 (a0_0))) = true := beq_iff_eq.mpr c6
  have c6b1 : (a1 != (wrap64 (a0_0))) = false := bne_eq_false_iff_eq.mpr c6
  (try (have c6b2 : (a1 == (IntKind.i64.wrap (a0_0))) = true := by have h_ : (a1 == (wrap64 (a0_0))) = true := beq_iff_eq.mpr c6; simpa only [zm, zl] using h_))
  (try (have c6b3 : (a1 != (IntKind.i64.wrap (a0_0))) = false := by have h_ : (a1 != (wrap64 (a0_0))) = false := bne_eq_false_iff_eq.mpr c6; simpa only [zm, zl] using h_))
  clear c6
  obtain rfl := Option.some.inj H
  go_enter Try.func59, Try.ntmps59
  go_wp2_with (first | ((with_reducible refine zp (N := 2) rfl ?_); refine zr ?hg (N := 2) ?hd (cs := #[.int .i8 a0_0, .int .i8 a0_1, .bool a0_2, .bool a0_3]) (t := 29) ?hr ?_; (case hd => rfl); (case hg => rfl); (case hr => first | (go_simp; done) | (go_simp; rfl)); intro gb126 hg w7 hbox hb; obtain ⟨n0_, n2_⟩ := bx (by repeat (first | (with_reducible first | exact HB.out | apply ze | apply zb | apply zd) | exact HB.out)) hb hg; have n1_ := zc.mk (hbox); have n3_ := n2_; clear HB; have HB := n0_; have BK126 := n1_; have GW126 := n2_; have GE126 := n3_; clear n0_ n1_ n2_ n3_; clear hb hbox hg; obtain ⟨y5_0, y5_1, y5_2, y5_3, z5_0, z5_1, z5_2, z5_3⟩ := cf4 BK126.out))
  go_ret
  exact ⟨by first | rfl | (simp [zj, zk] <;> rfl) | (simp [*, zj, zk] <;> rfl), by repeat (first | (with_reducible first | exact HB.out | apply ze | apply zb | apply zd | refine zf ?_ GE126.out) | exact HB.out)⟩
 rw [if_neg c6] at H
 have c6b0 : (a1 == (wrap64 (a0_0))) = false := beq_eq_false_iff_ne.mpr c6
 have c6b1 : (a1 != (wrap64 (a0_0))) = true := bne_iff_ne.mpr c6
 (try (have c6b2 : (a1 == (IntKind.i64.wrap (a0_0))) = false := by have h_ : (a1 == (wrap64 (a0_0))) = false := beq_eq_false_iff_ne.mpr c6; simpa only [zm, zl] using h_))
 (try (have c6b3 : (a1 != (IntKind.i64.wrap (a0_0))) = true := by have h_ : (a1 != (wrap64 (a0_0))) = true := bne_iff_ne.mpr c6; simpa only [zm, zl] using h_))
 obtain rfl := Option.some.inj H
 go_enter Try.func59, Try.ntmps59
 go_wp2_with (first | ((with_reducible refine zp (N := 2) rfl ?_); refine zr ?hg (N := 2) ?hd (cs := #[.int .i8 a0_0, .int .i8 a0_1, .bool a0_2, .bool a0_3]) (t := 29) ?hr ?_; (case hd => rfl); (case hg => rfl); (case hr => first | (go_simp; done) | (go_simp; rfl)); intro gb126 hg w9 hbox hb; obtain ⟨n0_, n2_⟩ := bx (by repeat (first | (with_reducible first | exact HB.out | apply ze | apply zb | apply zd) | exact HB.out)) hb hg; have n1_ := zc.mk (hbox); have n3_ := n2_; clear HB; have HB := n0_; have BK126 := n1_; have GW126 := n2_; have GE126 := n3_; clear n0_ n1_ n2_ n3_; clear hb hbox hg; obtain ⟨y6_0, y6_1, y6_2, y6_3, z6_0, z6_1, z6_2, z6_3⟩ := cf4 BK126.out))
 go_ret
 exact ⟨by first | rfl | (simp [zj, zk] <;> rfl) | (simp [*, zj, zk] <;> rfl), by repeat (first | (with_reducible first | exact HB.out | apply ze | apply zb | apply zd | refine zf ?_ GE126.out) | exact HB.out)⟩
end Go.Proofs.Ytmmonhpjjjdnjaa.V
