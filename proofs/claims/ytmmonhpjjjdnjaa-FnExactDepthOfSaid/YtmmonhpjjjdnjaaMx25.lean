-- Written by wip/tools/myprint.py, a program of this session, by way of the kit's print.
import Derived.Test.YtmmonhpjjjdnjaaMx0
import Derived.Test.YtmmonhpjjjdnjaaLLoad
import Derived.Test.YtmmonhpjjjdnjaaMx5
import Derived.Test.YtmmonhpjjjdnjaaMx9
import Derived.Test.YtmmonhpjjjdnjaaMx10
namespace Go.Proofs.Ytmmonhpjjjdnjaa.M
open Go.RowKit Go.Proofs.YtmmonhpjjjdnjaaW.PrintWords Go.Proofs.YtmmonhpjjjdnjaaW.PrintLast Go.Proofs.YtmmonhpjjjdnjaaW.PrintMore
attribute [local go_sem] zea zca zka zja zy zz zfa zda   -- for this text's walks alone
set_option linter.unusedVariables false
set_option linter.unusedSimpArgs false

/-! ### spec_l00Max: function 33 -/
def spec_l00Max.f (a0 : Int) (a1 : Int) : Option (Int) := if a0 > a1 then (some a0) else (some a1)
set_option maxHeartbeats 8000000 in
set_option maxRecDepth 100000 in
theorem spec_l00Max.calls (a0 : Int) (a1 : Int) (r : Int) (w : World) (h : spec_l00Max.f a0 a1 = some r) :
  Calls Try.prog 33 #[.int .i64 a0, .int .i64 a1] w fun e w' => e = .returned (.int .i64 r) ∧ zia w w' := by
 have H : (if a0 > a1 then (some a0) else (some a1)) = some r := h
 clear h
 by_cases c3 : a0 > a1
 ·rw [if_pos c3] at H
  have c3b0 : decide (a1 < a0) = true := decide_eq_true c3
  clear c3
  obtain rfl := Option.some.inj H
  go_enter Try.func33, Try.ntmps33
  go_wp2
  go_ret
  exact ⟨by first | rfl | (simp; done) | (simp [*]; done), by repeat (first | exact zia.refl _ | apply zia.step)⟩
 ·rw [if_neg c3] at H
  have c3b0 : decide (a1 < a0) = false := decide_eq_false c3
  clear c3
  obtain rfl := Option.some.inj H
  go_enter Try.func33, Try.ntmps33
  go_wp2
  go_ret
  exact ⟨by first | rfl | (simp; done) | (simp [*]; done), by repeat (first | exact zia.refl _ | apply zia.step)⟩

/-! ### spec_DepthOf: function 14 -/
def spec_DepthOf.l0 : Nat → List (S54) → List (S46) → Int → Int → Option (Int × Int)
 | 0, _, _, _, _ => none
 | k + 1, x1, x6, x7, x8 => if x8 < (x6.length : Int) then (if 0 ≤ x8 then ((spec_l03Run.f k x1 ((rd_T46 x6 x8).f0) ((rd_T46 x6 x8).f1)).bind fun bt379 => ((spec_l00Max.f x7 bt379.2.2).bind fun t383 => (spec_DepthOf.l0 k x1 x6 t383 (wrap64 (x8 + 1))))) else (none)) else (some (x7, 0))
def spec_DepthOf.f (k : Nat) (a0_0 : Int) (a0_1 : Int) (a0_2 : Bool) (a0_3 : Bool) (l1 : List (S54)) : Option (Int × Int) := (spec_ValidPlan.f k a0_0 a0_1 a0_2 a0_3 l1).bind fun t374 => (if t374 = true then ((spec_l03Cases.f k a0_0 a0_1 a0_2 a0_3).bind fun t375 => (spec_DepthOf.l0 k l1 t375 0 0)) else (some (0, 1)))
theorem spec_DepthOf.mono_l : ∀ k, (∀ y0 y1 y2 y3, LeO (spec_DepthOf.l0 k y0 y1 y2 y3) (spec_DepthOf.l0 (k + 1) y0 y1 y2 y3))
 | 0 => fun _ _ _ _ r h => by simp [spec_DepthOf.l0] at h
 | k + 1 => by
  have ih0 := spec_DepthOf.mono_l k
  ·intro y0 y1 y2 y3
   unfold spec_DepthOf.l0
   repeat' first
   | (with_reducible exact ih0 _ _ _ _)
   | (with_reducible exact spec_ValidPlan.mono _ _ _ _ _ _)
   | (with_reducible exact spec_l03Cases.mono _ _ _ _ _)
   | (with_reducible exact spec_l03Run.mono _ _ _ _)
   | (with_reducible exact LeO.refl _)
   | (with_reducible exact LeO.none _)
   | (with_reducible refine LeO.ite ?_ ?_)
   | (with_reducible refine LeO.bind ?_ (fun _ => ?_))
   | exact ih0 _ _ _ _
   | exact spec_ValidPlan.mono _ _ _ _ _ _
   | exact spec_l03Cases.mono _ _ _ _ _
   | exact spec_l03Run.mono _ _ _ _
   | exact LeO.none _
   | refine LeO.ite ?_ ?_
   | refine LeO.bind ?_ (fun _ => ?_)
theorem spec_DepthOf.mono : ∀ a0 a1 a2 a3 a4 k, LeO (spec_DepthOf.f k a0 a1 a2 a3 a4) (spec_DepthOf.f (k + 1) a0 a1 a2 a3 a4) := by
 intro a0 a1 a2 a3 a4 k
 have ih0 := spec_DepthOf.mono_l k
 unfold spec_DepthOf.f
 repeat' first
   | (with_reducible exact ih0 _ _ _ _)
   | (with_reducible exact spec_ValidPlan.mono _ _ _ _ _ _)
   | (with_reducible exact spec_l03Cases.mono _ _ _ _ _)
   | (with_reducible exact spec_l03Run.mono _ _ _ _)
   | (with_reducible exact LeO.refl _)
   | (with_reducible exact LeO.none _)
   | (with_reducible refine LeO.ite ?_ ?_)
   | (with_reducible refine LeO.bind ?_ (fun _ => ?_))
   | exact ih0 _ _ _ _
   | exact spec_ValidPlan.mono _ _ _ _ _ _
   | exact spec_l03Cases.mono _ _ _ _ _
   | exact spec_l03Run.mono _ _ _ _
   | exact LeO.none _
   | refine LeO.ite ?_ ?_
   | refine LeO.bind ?_ (fun _ => ?_)
set_option maxHeartbeats 8000000 in
set_option maxRecDepth 100000 in
theorem spec_DepthOf.calls (k : Nat) (a0_0 : Int) (a0_1 : Int) (a0_2 : Bool) (a0_3 : Bool) (A1 : Option Addr) (c1 : Nat) (l1 : List (S54)) (r1 : Int) (r2 : Int) (w : World) (hr1 : Kd.C k54 w A1 l1.length l1) (hc1 : l1.length ≤ c1) (h : spec_DepthOf.f k a0_0 a0_1 a0_2 a0_3 l1 = some (r1, r2)) :
  Calls Try.prog 14 #[.agg #[.int .i8 a0_0, .int .i8 a0_1, .bool a0_2, .bool a0_3], .slice A1 l1.length c1] w fun e w' => e = .returned (.tuple #[.int .i64 r1, .int .i64 r2]) ∧ Below w.heap.size w w' := by
 have hu29 := Try.underlying29
 have hu46 := Try.underlying46
 have HR1 := ze.mk hr1
 have HC1 := ze.mk hc1
 clear hr1 hc1
 have HB := ze.mk (Below.refl w.heap.size w)
 have H : ((spec_ValidPlan.f k a0_0 a0_1 a0_2 a0_3 l1).bind fun t374 => (if t374 = true then ((spec_l03Cases.f k a0_0 a0_1 a0_2 a0_3).bind fun t375 => (spec_DepthOf.l0 k l1 t375 0 0)) else (some (0, 1)))) = some (r1, r2) := h
 clear h
 replace H := Option.bind_eq_some_iff.mp H
 obtain ⟨t374, A30, H⟩ := H
 replace H : (if t374 = true then ((spec_l03Cases.f k a0_0 a0_1 a0_2 a0_3).bind fun t375 => (spec_DepthOf.l0 k l1 t375 0 0)) else (some (0, 1))) = some (r1, r2) := H
 have A3 := ze.mk A30
 clear A30
 by_cases c4 : t374 = true
 ·subst c4
  have H1 : ((spec_l03Cases.f k a0_0 a0_1 a0_2 a0_3).bind fun t375 => (spec_DepthOf.l0 k l1 t375 0 0)) = some (r1, r2) := by rw [if_pos rfl] at H; exact H
  clear H
  have H := H1
  clear H1
  replace H := Option.bind_eq_some_iff.mp H
  obtain ⟨t375, A50, H⟩ := H
  replace H : (spec_DepthOf.l0 k l1 t375 0 0) = some (r1, r2) := H
  have A5 := ze.mk A50
  clear A50
  have H' := ze.mk H
  clear H
  go_enter Try.func14, Try.ntmps14
  go_wp2_with (first | ((with_reducible refine zn (N := 2) rfl ?_); refine zm ?hg (N := 2) ?hd (cs := #[.int .i8 a0_0, .int .i8 a0_1, .bool a0_2, .bool a0_3]) (t := 29) ?hr ?_; (case hd => rfl); (case hg => rfl); (case hr => first | (go_simp; done) | (go_simp; rfl)); intro gb373 hg w6 hbox hb; have n0_ := ze.mk (zk (by repeat (first | (with_reducible first | exact HB.out | apply zc | apply za | apply zb) | exact HB.out)) hb); have n1_ := ze.mk (hbox); have n2_ := ze.mk ((by rw [hg]; exact (zj (by repeat (first | (with_reducible first | exact HB.out | apply zc | apply za | apply zb) | exact HB.out))) : w.heap.size ≤ gb373)); have n3_ := ze.mk ((by rw [hg]; exact (zj (by repeat (first | (with_reducible first | exact HB.out | apply zc | apply za | apply zb) | exact HB.out))) : w.heap.size ≤ gb373)); clear HB; have HB := n0_; have BK373 := n1_; have GW373 := n2_; have GE373 := n3_; clear n0_ n1_ n2_ n3_; clear hb hbox hg; have hcz7_0 := cz BK373.out 0 rfl; have hcz7_1 := cz BK373.out 1 rfl; have hcz7_2 := cz BK373.out 2 rfl; have hcz7_3 := cz BK373.out 3 rfl; have hfz7_0 := zd BK373.out 0; have hfz7_1 := zd BK373.out 1; have hfz7_2 := zd BK373.out 2; have hfz7_3 := zd BK373.out 3) | ((with_reducible refine zo (f := 24) rfl ?_); refine zx (some 13) rfl rfl Try.func24 (by kernel_rfl) rfl #[.agg #[.int .i8 a0_0, .int .i8 a0_1, .bool a0_2, .bool a0_3], .slice A1 l1.length c1] rfl (by (try simp only [List.map_toArray, List.map_cons, List.map_nil]); first | done | rfl | (simp only [List.length_drop, List.length_take]; rfl)) ?_; (with_reducible refine (spec_ValidPlan.calls k a0_0 a0_1 a0_2 a0_3 _ _ l1 true _ ?side1 ?side2 A3.out).mono ?_); (case side1 => repeat (first | exact (Kd.C_below HR1.out HB.out) | (with_reducible refine Kd.C_alloc ?_ _) | (with_reducible refine Kd.C_drewN ?_ _) | (with_reducible refine Kd.C_drew ?_))); (case side2 => exact HC1.out); rintro e w8 ⟨rfl, hb⟩; refine ⟨_, rfl, ?_⟩; have n0_ := ze.mk (zl (g := gb373) (o := .cells #[.int .i8 a0_0, .int .i8 a0_1, .bool a0_2, .bool a0_3] 29 (0, 0)) (by (with_reducible repeat (first | refine zh ?_ _ | refine zi ?_ | refine zg ?_ _)); exact BK373.out) hb); have n1_ := ze.mk (zk (by repeat (first | (with_reducible first | exact HB.out | apply zc | apply za | apply zb | refine zf ?_ GE373.out) | exact HB.out)) hb); clear BK373; clear HB; have BK373 := n0_; have HB := n1_; clear n0_ n1_; (try clear hb); (try clear hb2); (try clear hk); (try clear hi); have hcz9_0 := cz BK373.out 0 rfl; have hcz9_1 := cz BK373.out 1 rfl; have hcz9_2 := cz BK373.out 2 rfl; have hcz9_3 := cz BK373.out 3 rfl; have hfz9_0 := zd BK373.out 0; have hfz9_1 := zd BK373.out 1; have hfz9_2 := zd BK373.out 2; have hfz9_3 := zd BK373.out 3) | ((with_reducible refine zo (f := 25) rfl ?_); refine zx (some 16) rfl rfl Try.func25 (by kernel_rfl) rfl #[.agg #[.int .i8 a0_0, .int .i8 a0_1, .bool a0_2, .bool a0_3]] rfl (by (try simp only [List.map_toArray, List.map_cons, List.map_nil]); first | done | rfl | (simp only [List.length_drop, List.length_take]; rfl)) ?_; (with_reducible refine (spec_l03Cases.calls k a0_0 a0_1 a0_2 a0_3 t375 _ A5.out).mono ?_); rintro e w10 ⟨v376, rfl, ho0, hb⟩; refine ⟨_, rfl, ?_⟩; have n0_ := ze.mk (Kd.R_lower ho0 (zj (by repeat (first | (with_reducible first | exact HB.out | apply zc | apply za | apply zb | refine zf ?_ GE373.out) | exact HB.out)))); have n1_ := ze.mk (zl (g := gb373) (o := .cells #[.int .i8 a0_0, .int .i8 a0_1, .bool a0_2, .bool a0_3] 29 (0, 0)) (by (with_reducible repeat (first | refine zh ?_ _ | refine zi ?_ | refine zg ?_ _)); exact BK373.out) hb); have n2_ := ze.mk (zk (by repeat (first | (with_reducible first | exact HB.out | apply zc | apply za | apply zb | refine zf ?_ GE373.out) | exact HB.out)) hb); clear BK373; clear HB; have HO377 := n0_; have BK373 := n1_; have HB := n2_; clear n0_ n1_ n2_; (try clear hb); (try clear hb2); (try clear hk); (try clear hi); (try clear ho0)))
  go_loopg [7, 8] k (fun kq v7 v8 w' => ∃ (x7_1 : Int) (x8_1 : Int), v7 = .int .i64 x7_1 ∧ v8 = .int .i64 x8_1 ∧ ze (spec_DepthOf.l0 kq l1 t375 x7_1 x8_1 = some (r1, r2)) ∧ ze (kq ≤ k) ∧ ze (Kd.R k46 46 w' w.heap.size (fun _ => True) v376 t375) ∧ ze (w'.heap[gb373]? = some (.cells #[.int .i8 a0_0, .int .i8 a0_1, .bool a0_2, .bool a0_3] 29 (0, 0))) ∧ ze (Below w.heap.size w w'))
  case atStart => exact ⟨(0), (0), (by first | rfl | (simp; done) | (simp [*]; done)), (by first | rfl | (simp; done) | (simp [*]; done)), H', ⟨Nat.le_refl _⟩, ⟨by (with_reducible repeat (first | apply Kd.R_alloc | apply Kd.R_drewN | apply Kd.R_drew)); exact HO377.out⟩, ⟨by (with_reducible repeat (first | refine zh ?_ _ | refine zi ?_ | refine zg ?_ _)); exact BK373.out⟩, ⟨by repeat (first | (with_reducible first | exact HB.out | apply zc | apply za | apply zb | refine zf ?_ GE373.out) | exact HB.out)⟩⟩
  case round =>
   clear H'
   try clear c1
   try clear c2
   try clear p2
   try clear c4
   try clear hcz7_0
   try clear hcz7_1
   try clear hcz7_2
   try clear hcz7_3
   try clear hcz9_0
   try clear hcz9_1
   try clear hcz9_2
   try clear hcz9_3
   try clear hfz7_0
   try clear hfz7_1
   try clear hfz7_2
   try clear hfz7_3
   try clear hfz9_0
   try clear hfz9_1
   try clear hfz9_2
   try clear hfz9_3
   obtain ⟨x7_1, x8_1, rfl, rfl, HA, HK1, HO_6, BK373, HB⟩ := hrel
   cases gk with
   | zero => exact absurd HA.out (by simp [spec_DepthOf.l0])
   | succ k1 =>
    have H := HA.out
    clear HA
    simp only [spec_DepthOf.l0] at H
    by_cases c11 : x8_1 < (t375.length : Int)
    ·rw [if_pos c11] at H
     have c11b0 : decide (x8_1 < (t375.length : Int)) = true := decide_eq_true c11
     clear c11
     by_cases c12 : 0 ≤ x8_1
     ·rw [if_pos c12] at H
      have c12b0 : decide (0 ≤ x8_1) = true := decide_eq_true c12
      clear c12
      replace H := Option.bind_eq_some_iff.mp H
      obtain ⟨⟨t379, t380, t381⟩, A130, H⟩ := H
      replace H : ((spec_l00Max.f x7_1 t381).bind fun t383 => (spec_DepthOf.l0 k1 l1 t375 t383 (wrap64 (x8_1 + 1)))) = some (r1, r2) := H
      have A13 := ze.mk A130
      clear A130
      replace H := Option.bind_eq_some_iff.mp H
      obtain ⟨t383, A140, H⟩ := H
      replace H : (spec_DepthOf.l0 k1 l1 t375 t383 (wrap64 (x8_1 + 1))) = some (r1, r2) := H
      have A14 := ze.mk A140
      clear A140
      have H' := ze.mk H
      clear H
      obtain ⟨Ao15, co15, eo15⟩ := Kd.R_slice HO_6.out
      subst eo15
      have p378 : 0 ≤ (x8_1 : Int) := of_decide_eq_true (by first | (with_reducible assumption) | assumption)
      have q378 : x8_1 < (t375.length : Int) := of_decide_eq_true (by first | (with_reducible assumption) | assumption)
      obtain ⟨ad378, e378, hx378_0, hx378_1⟩ := at_T46 (Kd.R_reads' HO_6.out).2.2 x8_1 p378 q378
      cases e378
      replace p378 := eq_true p378
      replace q378 := eq_true q378
      go_wp2_with (first | ((with_reducible refine zo (f := 26) rfl ?_); refine zx (some 29) rfl rfl Try.func26 (by kernel_rfl) rfl #[.slice A1 l1.length c1, .agg #[.int .i8 ((rd_T46 t375 x8_1).f0), .bool ((rd_T46 t375 x8_1).f1)]] rfl (by (try simp only [List.map_toArray, List.map_cons, List.map_nil]); first | done | rfl | (simp only [List.length_drop, List.length_take]; rfl)) ?_; (with_reducible refine (spec_l03Run.calls k1 _ _ l1 ((rd_T46 t375 x8_1).f0) ((rd_T46 t375 x8_1).f1) t379 t380 t381 _ ?side1 ?side2 A13.out).mono ?_); (case side1 => repeat (first | exact (Kd.C_below HR1.out HB.out) | (with_reducible refine Kd.C_alloc ?_ _) | (with_reducible refine Kd.C_drewN ?_ _) | (with_reducible refine Kd.C_drew ?_))); (case side2 => exact HC1.out); rintro e w16 ⟨rfl, hb⟩; refine ⟨_, rfl, ?_⟩; have n0_ := ze.mk (Kd.R_below (by (with_reducible repeat (first | apply Kd.R_alloc | apply Kd.R_drewN | apply Kd.R_drew)); exact HO_6.out) hb); have n1_ := ze.mk (zl (g := gb373) (o := .cells #[.int .i8 a0_0, .int .i8 a0_1, .bool a0_2, .bool a0_3] 29 (0, 0)) (by (with_reducible repeat (first | refine zh ?_ _ | refine zi ?_ | refine zg ?_ _)); exact BK373.out) hb); have n2_ := ze.mk (zk (by repeat (first | (with_reducible first | exact HB.out | apply zc | apply za | apply zb | refine zf ?_ GE373.out) | exact HB.out)) hb); clear HO_6; clear BK373; clear HB; have HO_6 := n0_; have BK373 := n1_; have HB := n2_; clear n0_ n1_ n2_; (try clear hb); (try clear hb2); (try clear hk); (try clear hi)) | ((with_reducible refine zn (N := 9) rfl ?_); refine zm ?hg (N := 9) ?hd (cs := #[.int .i8 0, .bool false]) (t := 46) ?hr ?_; (case hd => rfl); (case hg => rfl); (case hr => first | (go_simp; done) | (go_simp; rfl)); intro gb382 hg w17 hbox hb; have n0_ := ze.mk (Kd.R_below (Kd.R_elderB (by (with_reducible repeat (first | apply Kd.R_alloc | apply Kd.R_drewN | apply Kd.R_drew)); exact HO_6.out) gb382 (Nat.le_of_eq hg.symm)) hb); have n1_ := ze.mk (zl (g := gb373) (o := .cells #[.int .i8 a0_0, .int .i8 a0_1, .bool a0_2, .bool a0_3] 29 (0, 0)) (by (with_reducible repeat (first | refine zh ?_ _ | refine zi ?_ | refine zg ?_ _)); exact BK373.out) hb); have n2_ := ze.mk (zk (by repeat (first | (with_reducible first | exact HB.out | apply zc | apply za | apply zb | refine zf ?_ GE373.out) | exact HB.out)) hb); have n3_ := ze.mk (hbox); have n4_ := ze.mk ((by rw [hg]; exact (zj (by repeat (first | (with_reducible first | exact HB.out | apply zc | apply za | apply zb | refine zf ?_ GE373.out) | exact HB.out))) : w.heap.size ≤ gb382)); have n5_ := ze.mk ((by rw [hg]; exact (zj (by repeat (first | (with_reducible first | exact HB.out | apply zc | apply za | apply zb | refine zf ?_ GE373.out) | exact HB.out))) : w.heap.size ≤ gb382)); have n6_ := ze.mk ((by rw [hg]; exact Nat.ne_of_lt (zu (g := gb373) (o := .cells #[.int .i8 a0_0, .int .i8 a0_1, .bool a0_2, .bool a0_3] 29 (0, 0)) (by (with_reducible repeat (first | refine zh ?_ _ | refine zi ?_ | refine zg ?_ _)); exact BK373.out)) : gb373 ≠ gb382)); have n7_ := ze.mk ((by rw [hg]; exact Nat.ne_of_gt (zu (g := gb373) (o := .cells #[.int .i8 a0_0, .int .i8 a0_1, .bool a0_2, .bool a0_3] 29 (0, 0)) (by (with_reducible repeat (first | refine zh ?_ _ | refine zi ?_ | refine zg ?_ _)); exact BK373.out)) : gb382 ≠ gb373)); clear HO_6; clear BK373; clear HB; have HO_6 := n0_; have BK373 := n1_; have HB := n2_; have BK382 := n3_; have GW382 := n4_; have GE382 := n5_; have NB373_382 := n6_; have NB382_373 := n7_; clear n0_ n1_ n2_ n3_ n4_ n5_ n6_ n7_; clear hb hbox hg; have hnb18 := NB382_373.out; have hnc18 := NB373_382.out; have hcz19_0 := cz BK382.out 0 rfl; have hcz19_1 := cz BK382.out 1 rfl; have hfz19_0 := zd BK382.out 0; have hfz19_1 := zd BK382.out 1) | ((with_reducible refine zo (f := 33) rfl ?_); refine zx (some 34) rfl rfl Try.func33 (by kernel_rfl) rfl #[.int .i64 x7_1, .int .i64 t381] rfl (by (try simp only [List.map_toArray, List.map_cons, List.map_nil]); first | done | rfl | (simp only [List.length_drop, List.length_take]; rfl)) ?_; (with_reducible refine (spec_l00Max.calls x7_1 t381 t383 _ A14.out).mono ?_); rintro e w' ⟨rfl, ⟨nd, rfl⟩⟩; refine ⟨_, rfl, ?_⟩))
      go_roundg k1
      case measure => have := HK1.out; omega
      case rel => exact ⟨(t383), (wrap64 (x8_1 + 1)), (by first | rfl | (simp; done) | (simp [*]; done)), (by first | rfl | (simp; done) | (simp [*]; done)), H', ⟨by have := HK1.out; omega⟩, ⟨by (with_reducible repeat (first | apply Kd.R_alloc | apply Kd.R_drewN | apply Kd.R_drew)); exact Kd.R_mono (Kd.R_far (p := ⟨gb382, 1, none⟩) (Kd.R_far (p := ⟨gb382, 0, none⟩) (Kd.R_mono HO_6.out (fun k_ hk => (⟨hk, hk.2⟩ : _ ∧ k_ ≠ gb382))) (fun _ hk => hk.2) (.int .i8 t379)) (fun _ hk => hk.2) (.bool t380)) (fun _ hk => trivial)⟩, ⟨by (with_reducible repeat (first | refine zh ?_ _ | refine zi ?_ | refine zg ?_ _)); refine zha ?_ NB373_382.out _; (with_reducible repeat (first | refine zh ?_ _ | refine zi ?_ | refine zg ?_ _)); refine zha ?_ NB373_382.out _; (with_reducible repeat (first | refine zh ?_ _ | refine zi ?_ | refine zg ?_ _)); exact BK373.out⟩, ⟨by repeat (first | (with_reducible first | exact HB.out | apply zc | apply za | apply zb | refine zf ?_ GE373.out | refine zf ?_ GE382.out) | exact HB.out)⟩⟩
     ·rw [if_neg c12] at H
      exact absurd H (by simp)
    ·rw [if_neg c11] at H
     have c11b0 : decide (x8_1 < (t375.length : Int)) = false := decide_eq_false c11
     clear c11
     simp only [Option.some.injEq, Prod.mk.injEq] at H
     obtain ⟨rfl, rfl⟩ := H
     obtain ⟨Ao20, co20, eo20⟩ := Kd.R_slice HO_6.out
     subst eo20
     go_wp2
     go_ret2
     exact ⟨by first | rfl | (simp [errW_none, errW_some] <;> rfl) | (simp [*, errW_none, errW_some] <;> rfl), by repeat (first | (with_reducible first | exact HB.out | apply zc | apply za | apply zb | refine zf ?_ GE373.out) | exact HB.out)⟩
 ·replace c4 := Bool.eq_false_iff.mpr c4
  subst c4
  have H1 : (some (0, 1)) = some (r1, r2) := by rw [if_neg (show ¬ (false = true) by decide)] at H; exact H
  clear H
  have H := H1
  clear H1
  simp only [Option.some.injEq, Prod.mk.injEq] at H
  obtain ⟨rfl, rfl⟩ := H
  go_enter Try.func14, Try.ntmps14
  go_wp2_with (first | ((with_reducible refine zn (N := 2) rfl ?_); refine zm ?hg (N := 2) ?hd (cs := #[.int .i8 a0_0, .int .i8 a0_1, .bool a0_2, .bool a0_3]) (t := 29) ?hr ?_; (case hd => rfl); (case hg => rfl); (case hr => first | (go_simp; done) | (go_simp; rfl)); intro gb373 hg w21 hbox hb; have n0_ := ze.mk (zk (by repeat (first | (with_reducible first | exact HB.out | apply zc | apply za | apply zb) | exact HB.out)) hb); have n1_ := ze.mk (hbox); have n2_ := ze.mk ((by rw [hg]; exact (zj (by repeat (first | (with_reducible first | exact HB.out | apply zc | apply za | apply zb) | exact HB.out))) : w.heap.size ≤ gb373)); have n3_ := ze.mk ((by rw [hg]; exact (zj (by repeat (first | (with_reducible first | exact HB.out | apply zc | apply za | apply zb) | exact HB.out))) : w.heap.size ≤ gb373)); clear HB; have HB := n0_; have BK373 := n1_; have GW373 := n2_; have GE373 := n3_; clear n0_ n1_ n2_ n3_; clear hb hbox hg; have hcz22_0 := cz BK373.out 0 rfl; have hcz22_1 := cz BK373.out 1 rfl; have hcz22_2 := cz BK373.out 2 rfl; have hcz22_3 := cz BK373.out 3 rfl; have hfz22_0 := zd BK373.out 0; have hfz22_1 := zd BK373.out 1; have hfz22_2 := zd BK373.out 2; have hfz22_3 := zd BK373.out 3) | ((with_reducible refine zo (f := 24) rfl ?_); refine zx (some 13) rfl rfl Try.func24 (by kernel_rfl) rfl #[.agg #[.int .i8 a0_0, .int .i8 a0_1, .bool a0_2, .bool a0_3], .slice A1 l1.length c1] rfl (by (try simp only [List.map_toArray, List.map_cons, List.map_nil]); first | done | rfl | (simp only [List.length_drop, List.length_take]; rfl)) ?_; (with_reducible refine (spec_ValidPlan.calls k a0_0 a0_1 a0_2 a0_3 _ _ l1 false _ ?side1 ?side2 A3.out).mono ?_); (case side1 => repeat (first | exact (Kd.C_below HR1.out HB.out) | (with_reducible refine Kd.C_alloc ?_ _) | (with_reducible refine Kd.C_drewN ?_ _) | (with_reducible refine Kd.C_drew ?_))); (case side2 => exact HC1.out); rintro e w23 ⟨rfl, hb⟩; refine ⟨_, rfl, ?_⟩; have n0_ := ze.mk (zl (g := gb373) (o := .cells #[.int .i8 a0_0, .int .i8 a0_1, .bool a0_2, .bool a0_3] 29 (0, 0)) (by (with_reducible repeat (first | refine zh ?_ _ | refine zi ?_ | refine zg ?_ _)); exact BK373.out) hb); have n1_ := ze.mk (zk (by repeat (first | (with_reducible first | exact HB.out | apply zc | apply za | apply zb | refine zf ?_ GE373.out) | exact HB.out)) hb); clear BK373; clear HB; have BK373 := n0_; have HB := n1_; clear n0_ n1_; (try clear hb); (try clear hb2); (try clear hk); (try clear hi)))
  go_ret2
  exact ⟨by first | rfl | (simp [errW_none, errW_some] <;> rfl) | (simp [*, errW_none, errW_some] <;> rfl), by repeat (first | (with_reducible first | exact HB.out | apply zc | apply za | apply zb | refine zf ?_ GE373.out) | exact HB.out)⟩

end Go.Proofs.Ytmmonhpjjjdnjaa.M
