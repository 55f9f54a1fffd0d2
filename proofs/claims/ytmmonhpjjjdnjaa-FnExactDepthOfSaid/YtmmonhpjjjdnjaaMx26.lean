-- Written by wip/tools/myprint.py, a program of this session, by way of the kit's print.
import Derived.Test.YtmmonhpjjjdnjaaMx0
import Derived.Test.YtmmonhpjjjdnjaaLLoad
import Derived.Test.YtmmonhpjjjdnjaaMx14
import Derived.Test.YtmmonhpjjjdnjaaMx17
import Derived.Test.YtmmonhpjjjdnjaaMx19
namespace Go.Proofs.Ytmmonhpjjjdnjaa.M
open Go.RowKit Go.Proofs.YtmmonhpjjjdnjaaW.PrintWords Go.Proofs.YtmmonhpjjjdnjaaW.PrintLast Go.Proofs.YtmmonhpjjjdnjaaW.PrintMore
attribute [local go_sem] zea zca zka zja zy zz zfa zda   -- for this text's walks alone
set_option linter.unusedVariables false
set_option linter.unusedSimpArgs false

/-! ### impl_DepthOf: function 15 -/
def impl_DepthOf.l0 : Nat → List (S54) → Int → List (S46) → Int → Int → Option (Int × Int)
 | 0, _, _, _, _, _ => none
 | k + 1, x1, x6, x16, x17, x18 => if x18 < x17 then (if 0 ≤ x18 then (if x18 < (x16.length : Int) then ((impl_follow.f k x1 ((rd_T46 x16 x18).f0) ((rd_T46 x16 x18).f1)).bind fun bt391 => (impl_DepthOf.l0 k x1 (mx x6 bt391.2.2) x16 x17 (wrap64 (x18 + 1)))) else (none)) else (none)) else (some (x6, 0))
def impl_DepthOf.f (k : Nat) (a0_0 : Int) (a0_1 : Int) (a0_2 : Bool) (a0_3 : Bool) (l1 : List (S54)) : Option (Int × Int) := (impl_ValidPlan.f k a0_0 a0_1 a0_2 a0_3 l1).bind fun t385 => (if t385 = true then ((impl_Task_cases.f k a0_0 a0_1 a0_2 a0_3).bind fun t386 => (impl_DepthOf.l0 k l1 0 t386 (t386.length : Int) 0)) else (some (0, 1)))
theorem impl_DepthOf.mono_l : ∀ k, (∀ y0 y1 y2 y3 y4, LeO (impl_DepthOf.l0 k y0 y1 y2 y3 y4) (impl_DepthOf.l0 (k + 1) y0 y1 y2 y3 y4))
 | 0 => fun _ _ _ _ _ r h => by simp [impl_DepthOf.l0] at h
 | k + 1 => by
  have ih0 := impl_DepthOf.mono_l k
  ·intro y0 y1 y2 y3 y4
   unfold impl_DepthOf.l0
   repeat' first
   | (with_reducible exact ih0 _ _ _ _ _)
   | (with_reducible exact impl_Task_cases.mono _ _ _ _ _)
   | (with_reducible exact impl_ValidPlan.mono _ _ _ _ _ _)
   | (with_reducible exact impl_follow.mono _ _ _ _)
   | (with_reducible exact LeO.refl _)
   | (with_reducible exact LeO.none _)
   | (with_reducible refine LeO.ite ?_ ?_)
   | (with_reducible refine LeO.bind ?_ (fun _ => ?_))
   | exact ih0 _ _ _ _ _
   | exact impl_Task_cases.mono _ _ _ _ _
   | exact impl_ValidPlan.mono _ _ _ _ _ _
   | exact impl_follow.mono _ _ _ _
   | exact LeO.none _
   | refine LeO.ite ?_ ?_
   | refine LeO.bind ?_ (fun _ => ?_)
theorem impl_DepthOf.mono : ∀ a0 a1 a2 a3 a4 k, LeO (impl_DepthOf.f k a0 a1 a2 a3 a4) (impl_DepthOf.f (k + 1) a0 a1 a2 a3 a4) := by
 intro a0 a1 a2 a3 a4 k
 have ih0 := impl_DepthOf.mono_l k
 unfold impl_DepthOf.f
 repeat' first
   | (with_reducible exact ih0 _ _ _ _ _)
   | (with_reducible exact impl_Task_cases.mono _ _ _ _ _)
   | (with_reducible exact impl_ValidPlan.mono _ _ _ _ _ _)
   | (with_reducible exact impl_follow.mono _ _ _ _)
   | (with_reducible exact LeO.refl _)
   | (with_reducible exact LeO.none _)
   | (with_reducible refine LeO.ite ?_ ?_)
   | (with_reducible refine LeO.bind ?_ (fun _ => ?_))
   | exact ih0 _ _ _ _ _
   | exact impl_Task_cases.mono _ _ _ _ _
   | exact impl_ValidPlan.mono _ _ _ _ _ _
   | exact impl_follow.mono _ _ _ _
   | exact LeO.none _
   | refine LeO.ite ?_ ?_
   | refine LeO.bind ?_ (fun _ => ?_)
set_option maxHeartbeats 8000000 in
set_option maxRecDepth 100000 in
theorem impl_DepthOf.calls (k : Nat) (a0_0 : Int) (a0_1 : Int) (a0_2 : Bool) (a0_3 : Bool) (A1 : Option Addr) (c1 : Nat) (l1 : List (S54)) (r1 : Int) (r2 : Int) (w : World) (hr1 : Kd.C k54 w A1 l1.length l1) (hc1 : l1.length ≤ c1) (h : impl_DepthOf.f k a0_0 a0_1 a0_2 a0_3 l1 = some (r1, r2)) :
  Calls Try.prog 15 #[.agg #[.int .i8 a0_0, .int .i8 a0_1, .bool a0_2, .bool a0_3], .slice A1 l1.length c1] w fun e w' => e = .returned (.tuple #[.int .i64 r1, .int .i64 r2]) ∧ Below w.heap.size w w' := by
 have hu29 := Try.underlying29
 have hu46 := Try.underlying46
 have HR1 := ze.mk hr1
 have HC1 := ze.mk hc1
 clear hr1 hc1
 have HB := ze.mk (Below.refl w.heap.size w)
 have H : ((impl_ValidPlan.f k a0_0 a0_1 a0_2 a0_3 l1).bind fun t385 => (if t385 = true then ((impl_Task_cases.f k a0_0 a0_1 a0_2 a0_3).bind fun t386 => (impl_DepthOf.l0 k l1 0 t386 (t386.length : Int) 0)) else (some (0, 1)))) = some (r1, r2) := h
 clear h
 replace H := Option.bind_eq_some_iff.mp H
 obtain ⟨t385, A30, H⟩ := H
 replace H : (if t385 = true then ((impl_Task_cases.f k a0_0 a0_1 a0_2 a0_3).bind fun t386 => (impl_DepthOf.l0 k l1 0 t386 (t386.length : Int) 0)) else (some (0, 1))) = some (r1, r2) := H
 have A3 := ze.mk A30
 clear A30
 by_cases c4 : t385 = true
 ·subst c4
  have H1 : ((impl_Task_cases.f k a0_0 a0_1 a0_2 a0_3).bind fun t386 => (impl_DepthOf.l0 k l1 0 t386 (t386.length : Int) 0)) = some (r1, r2) := by rw [if_pos rfl] at H; exact H
  clear H
  have H := H1
  clear H1
  replace H := Option.bind_eq_some_iff.mp H
  obtain ⟨t386, A50, H⟩ := H
  replace H : (impl_DepthOf.l0 k l1 0 t386 (t386.length : Int) 0) = some (r1, r2) := H
  have A5 := ze.mk A50
  clear A50
  have H' := ze.mk H
  clear H
  go_enter Try.func15, Try.ntmps15
  go_wp2_with (first | ((with_reducible refine zn (N := 2) rfl ?_); refine zm ?hg (N := 2) ?hd (cs := #[.int .i8 a0_0, .int .i8 a0_1, .bool a0_2, .bool a0_3]) (t := 29) ?hr ?_; (case hd => rfl); (case hg => rfl); (case hr => first | (go_simp; done) | (go_simp; rfl)); intro gb384 hg w6 hbox hb; have n0_ := ze.mk (zk (by repeat (first | (with_reducible first | exact HB.out | apply zc | apply za | apply zb) | exact HB.out)) hb); have n1_ := ze.mk (hbox); have n2_ := ze.mk ((by rw [hg]; exact (zj (by repeat (first | (with_reducible first | exact HB.out | apply zc | apply za | apply zb) | exact HB.out))) : w.heap.size ≤ gb384)); have n3_ := ze.mk ((by rw [hg]; exact (zj (by repeat (first | (with_reducible first | exact HB.out | apply zc | apply za | apply zb) | exact HB.out))) : w.heap.size ≤ gb384)); clear HB; have HB := n0_; have BK384 := n1_; have GW384 := n2_; have GE384 := n3_; clear n0_ n1_ n2_ n3_; clear hb hbox hg; have hcz7_0 := cz BK384.out 0 rfl; have hcz7_1 := cz BK384.out 1 rfl; have hcz7_2 := cz BK384.out 2 rfl; have hcz7_3 := cz BK384.out 3 rfl; have hfz7_0 := zd BK384.out 0; have hfz7_1 := zd BK384.out 1; have hfz7_2 := zd BK384.out 2; have hfz7_3 := zd BK384.out 3) | ((with_reducible refine zo (f := 28) rfl ?_); refine zx (some 13) rfl rfl Try.func28 (by kernel_rfl) rfl #[.agg #[.int .i8 a0_0, .int .i8 a0_1, .bool a0_2, .bool a0_3], .slice A1 l1.length c1] rfl (by (try simp only [List.map_toArray, List.map_cons, List.map_nil]); first | done | rfl | (simp only [List.length_drop, List.length_take]; rfl)) ?_; (with_reducible refine (impl_ValidPlan.calls k a0_0 a0_1 a0_2 a0_3 _ _ l1 true _ ?side1 ?side2 A3.out).mono ?_); (case side1 => repeat (first | exact (Kd.C_below HR1.out HB.out) | (with_reducible refine Kd.C_alloc ?_ _) | (with_reducible refine Kd.C_drewN ?_ _) | (with_reducible refine Kd.C_drew ?_))); (case side2 => exact HC1.out); rintro e w8 ⟨rfl, hb⟩; refine ⟨_, rfl, ?_⟩; have n0_ := ze.mk (zl (g := gb384) (o := .cells #[.int .i8 a0_0, .int .i8 a0_1, .bool a0_2, .bool a0_3] 29 (0, 0)) (by (with_reducible repeat (first | refine zh ?_ _ | refine zi ?_ | refine zg ?_ _)); exact BK384.out) hb); have n1_ := ze.mk (zk (by repeat (first | (with_reducible first | exact HB.out | apply zc | apply za | apply zb | refine zf ?_ GE384.out) | exact HB.out)) hb); clear BK384; clear HB; have BK384 := n0_; have HB := n1_; clear n0_ n1_; (try clear hb); (try clear hb2); (try clear hk); (try clear hi); have hcz9_0 := cz BK384.out 0 rfl; have hcz9_1 := cz BK384.out 1 rfl; have hcz9_2 := cz BK384.out 2 rfl; have hcz9_3 := cz BK384.out 3 rfl; have hfz9_0 := zd BK384.out 0; have hfz9_1 := zd BK384.out 1; have hfz9_2 := zd BK384.out 2; have hfz9_3 := zd BK384.out 3) | ((with_reducible refine zo (f := 29) rfl ?_); refine zx (some 16) rfl rfl Try.func29 (by kernel_rfl) rfl #[.agg #[.int .i8 a0_0, .int .i8 a0_1, .bool a0_2, .bool a0_3]] rfl (by (try simp only [List.map_toArray, List.map_cons, List.map_nil]); first | done | rfl | (simp only [List.length_drop, List.length_take]; rfl)) ?_; (with_reducible refine (impl_Task_cases.calls k a0_0 a0_1 a0_2 a0_3 t386 _ A5.out).mono ?_); rintro e w10 ⟨v387, rfl, ho0, hb⟩; refine ⟨_, rfl, ?_⟩; have n0_ := ze.mk (Kd.R_lower ho0 (zj (by repeat (first | (with_reducible first | exact HB.out | apply zc | apply za | apply zb | refine zf ?_ GE384.out) | exact HB.out)))); have n1_ := ze.mk (zl (g := gb384) (o := .cells #[.int .i8 a0_0, .int .i8 a0_1, .bool a0_2, .bool a0_3] 29 (0, 0)) (by (with_reducible repeat (first | refine zh ?_ _ | refine zi ?_ | refine zg ?_ _)); exact BK384.out) hb); have n2_ := ze.mk (zk (by repeat (first | (with_reducible first | exact HB.out | apply zc | apply za | apply zb | refine zf ?_ GE384.out) | exact HB.out)) hb); clear BK384; clear HB; have HO388 := n0_; have BK384 := n1_; have HB := n2_; clear n0_ n1_ n2_; (try clear hb); (try clear hb2); (try clear hk); (try clear hi); (try clear ho0); obtain ⟨Ao11, co11, eo11⟩ := Kd.R_slice HO388.out; subst eo11))
  go_loopg [6, 18] k (fun kq v6 v18 w' => ∃ (x6_1 : Int) (x18_1 : Int), v6 = .int .i64 x6_1 ∧ v18 = .int .i64 x18_1 ∧ ze (impl_DepthOf.l0 kq l1 x6_1 t386 (t386.length : Int) x18_1 = some (r1, r2)) ∧ ze (kq ≤ k) ∧ ze (Kd.R k46 46 w' w.heap.size (fun _ => True) (.slice Ao11 t386.length co11) t386) ∧ ze (w'.heap[gb384]? = some (.cells #[.int .i8 a0_0, .int .i8 a0_1, .bool a0_2, .bool a0_3] 29 (0, 0))) ∧ ze (Below w.heap.size w w'))
  case atStart => exact ⟨(0), (0), (by first | rfl | (simp; done) | (simp [*]; done)), (by first | rfl | (simp; done) | (simp [*]; done)), H', ⟨Nat.le_refl _⟩, ⟨by (with_reducible repeat (first | apply Kd.R_alloc | apply Kd.R_drewN | apply Kd.R_drew)); exact HO388.out⟩, ⟨by (with_reducible repeat (first | refine zh ?_ _ | refine zi ?_ | refine zg ?_ _)); exact BK384.out⟩, ⟨by repeat (first | (with_reducible first | exact HB.out | apply zc | apply za | apply zb | refine zf ?_ GE384.out) | exact HB.out)⟩⟩
  case round =>
   clear H'
   try clear c1
   try clear c2
   try clear p2
   try clear c4
   try clear hcz7_0
   try clear hcz7_1
   try clear hcz7_2
   try clear hcz7_3
   try clear hcz9_0
   try clear hcz9_1
   try clear hcz9_2
   try clear hcz9_3
   try clear hfz7_0
   try clear hfz7_1
   try clear hfz7_2
   try clear hfz7_3
   try clear hfz9_0
   try clear hfz9_1
   try clear hfz9_2
   try clear hfz9_3
   obtain ⟨x6_1, x18_1, rfl, rfl, HA, HK1, HO_16, BK384, HB⟩ := hrel
   cases gk with
   | zero => exact absurd HA.out (by simp [impl_DepthOf.l0])
   | succ k1 =>
    have H := HA.out
    clear HA
    simp only [impl_DepthOf.l0] at H
    by_cases c12 : x18_1 < (t386.length : Int)
    ·rw [if_pos c12] at H
     have c12b0 : decide (x18_1 < (t386.length : Int)) = true := decide_eq_true c12
     clear c12
     by_cases c13 : 0 ≤ x18_1
     ·rw [if_pos c13] at H
      have c13b0 : decide (0 ≤ x18_1) = true := decide_eq_true c13
      clear c13
      by_cases c14 : x18_1 < (t386.length : Int)
      ·rw [if_pos c14] at H
       have c14b0 : decide (x18_1 < (t386.length : Int)) = true := decide_eq_true c14
       clear c14
       replace H := Option.bind_eq_some_iff.mp H
       obtain ⟨⟨t391, t392, t393⟩, A150, H⟩ := H
       replace H : (impl_DepthOf.l0 k1 l1 (mx x6_1 t393) t386 (t386.length : Int) (wrap64 (x18_1 + 1))) = some (r1, r2) := H
       have A15 := ze.mk A150
       clear A150
       obtain ⟨ji16, hji16⟩ : ∃ j_ : Int, (mx x6_1 t393) = j_ := ⟨_, rfl⟩
       replace H : (impl_DepthOf.l0 k1 l1 ji16 t386 (t386.length : Int) (wrap64 (x18_1 + 1))) = some (r1, r2) := by first | (rw [hji16] at H; exact H) | (simp only [hji16] at H ⊢; exact H)
       (try rw [hji16] at A15)
       have hji16_ : (if x6_1 < t393 then t393 else x6_1) = ji16 := hji16
       have H' := ze.mk H
       clear H
       have p389 : 0 ≤ (x18_1 : Int) := of_decide_eq_true (by first | (with_reducible assumption) | assumption)
       have q389 : x18_1 < (t386.length : Int) := of_decide_eq_true (by first | (with_reducible assumption) | assumption)
       obtain ⟨ad389, e389, hx389_0, hx389_1⟩ := at_T46 (Kd.R_reads' HO_16.out).2.2 x18_1 p389 q389
       cases e389
       replace p389 := eq_true p389
       replace q389 := eq_true q389
       go_wp2_with (first | ((with_reducible refine zn (N := 8) rfl ?_); refine zm ?hg (N := 8) ?hd (cs := #[.int .i8 0, .bool false]) (t := 46) ?hr ?_; (case hd => rfl); (case hg => rfl); (case hr => first | (go_simp; done) | (go_simp; rfl)); intro gb390 hg w17 hbox hb; have n0_ := ze.mk (Kd.R_below (Kd.R_elderB (by (with_reducible repeat (first | apply Kd.R_alloc | apply Kd.R_drewN | apply Kd.R_drew)); exact HO_16.out) gb390 (Nat.le_of_eq hg.symm)) hb); have n1_ := ze.mk (zl (g := gb384) (o := .cells #[.int .i8 a0_0, .int .i8 a0_1, .bool a0_2, .bool a0_3] 29 (0, 0)) (by (with_reducible repeat (first | refine zh ?_ _ | refine zi ?_ | refine zg ?_ _)); exact BK384.out) hb); have n2_ := ze.mk (zk (by repeat (first | (with_reducible first | exact HB.out | apply zc | apply za | apply zb | refine zf ?_ GE384.out) | exact HB.out)) hb); have n3_ := ze.mk (hbox); have n4_ := ze.mk ((by rw [hg]; exact (zj (by repeat (first | (with_reducible first | exact HB.out | apply zc | apply za | apply zb | refine zf ?_ GE384.out) | exact HB.out))) : w.heap.size ≤ gb390)); have n5_ := ze.mk ((by rw [hg]; exact (zj (by repeat (first | (with_reducible first | exact HB.out | apply zc | apply za | apply zb | refine zf ?_ GE384.out) | exact HB.out))) : w.heap.size ≤ gb390)); have n6_ := ze.mk ((by rw [hg]; exact Nat.ne_of_lt (zu (g := gb384) (o := .cells #[.int .i8 a0_0, .int .i8 a0_1, .bool a0_2, .bool a0_3] 29 (0, 0)) (by (with_reducible repeat (first | refine zh ?_ _ | refine zi ?_ | refine zg ?_ _)); exact BK384.out)) : gb384 ≠ gb390)); have n7_ := ze.mk ((by rw [hg]; exact Nat.ne_of_gt (zu (g := gb384) (o := .cells #[.int .i8 a0_0, .int .i8 a0_1, .bool a0_2, .bool a0_3] 29 (0, 0)) (by (with_reducible repeat (first | refine zh ?_ _ | refine zi ?_ | refine zg ?_ _)); exact BK384.out)) : gb390 ≠ gb384)); clear HO_16; clear BK384; clear HB; have HO_16 := n0_; have BK384 := n1_; have HB := n2_; have BK390 := n3_; have GW390 := n4_; have GE390 := n5_; have NB384_390 := n6_; have NB390_384 := n7_; clear n0_ n1_ n2_ n3_ n4_ n5_ n6_ n7_; clear hb hbox hg; have hnb18 := NB390_384.out; have hnc18 := NB384_390.out; have hcz19_0 := cz BK390.out 0 rfl; have hcz19_1 := cz BK390.out 1 rfl; have hfz19_0 := zd BK390.out 0; have hfz19_1 := zd BK390.out 1) | ((with_reducible refine zo (f := 30) rfl ?_); refine zx (some 25) rfl rfl Try.func30 (by kernel_rfl) rfl #[.slice A1 l1.length c1, .agg #[.int .i8 ((rd_T46 t386 x18_1).f0), .bool ((rd_T46 t386 x18_1).f1)]] rfl (by (try simp only [List.map_toArray, List.map_cons, List.map_nil]); first | done | rfl | (simp only [List.length_drop, List.length_take]; rfl)) ?_; (with_reducible refine (impl_follow.calls k1 _ _ l1 ((rd_T46 t386 x18_1).f0) ((rd_T46 t386 x18_1).f1) t391 t392 t393 _ ?side1 ?side2 A15.out).mono ?_); (case side1 => exact Kd.C_below HR1.out (by repeat (first | (with_reducible first | exact HB.out | apply zc | apply za | apply zb | refine zf ?_ GE384.out | refine zf ?_ GE390.out) | exact HB.out))); (case side2 => exact HC1.out); rintro e w20 ⟨rfl, hb⟩; refine ⟨_, rfl, ?_⟩; have n0_ := ze.mk (Kd.R_below (by (with_reducible repeat (first | apply Kd.R_alloc | apply Kd.R_drewN | apply Kd.R_drew)); exact (Kd.R_mono (Kd.R_far (p := ⟨gb390, 1, none⟩) (Kd.R_far (p := ⟨gb390, 0, none⟩) (Kd.R_mono HO_16.out (fun k_ hk => (⟨hk, hk.2⟩ : _ ∧ k_ ≠ gb390))) (fun _ hk => hk.2) (.int .i8 ((rd_T46 t386 x18_1).f0))) (fun _ hk => hk.2) (.bool ((rd_T46 t386 x18_1).f1))) (fun _ h_ => h_.1))) hb); have n1_ := ze.mk (zl (g := gb384) (o := .cells #[.int .i8 a0_0, .int .i8 a0_1, .bool a0_2, .bool a0_3] 29 (0, 0)) (by (with_reducible repeat (first | refine zh ?_ _ | refine zi ?_ | refine zg ?_ _)); refine zha ?_ NB384_390.out _; (with_reducible repeat (first | refine zh ?_ _ | refine zi ?_ | refine zg ?_ _)); refine zha ?_ NB384_390.out _; (with_reducible repeat (first | refine zh ?_ _ | refine zi ?_ | refine zg ?_ _)); exact BK384.out) hb); have n2_ := ze.mk (zl (g := gb390) (o := .cells #[.int .i8 ((rd_T46 t386 x18_1).f0), .bool ((rd_T46 t386 x18_1).f1)] 46 (0, 0)) (by (with_reducible repeat (first | refine zh ?_ _ | refine zi ?_ | refine zg ?_ _)); refine zw (cs := #[.int .i8 ((rd_T46 t386 x18_1).f0), .bool false]) ?_ 1 _ rfl; (with_reducible repeat (first | refine zh ?_ _ | refine zi ?_ | refine zg ?_ _)); refine zw (cs := #[.int .i8 0, .bool false]) ?_ 0 _ rfl; (with_reducible repeat (first | refine zh ?_ _ | refine zi ?_ | refine zg ?_ _)); exact BK390.out) hb); have n3_ := ze.mk (zk (by repeat (first | (with_reducible first | exact HB.out | apply zc | apply za | apply zb | refine zf ?_ GE384.out | refine zf ?_ GE390.out) | exact HB.out)) hb); clear HO_16; clear BK384; clear BK390; clear HB; have HO_16 := n0_; have BK384 := n1_; have BK390 := n2_; have HB := n3_; clear n0_ n1_ n2_ n3_; (try clear hb); (try clear hb2); (try clear hk); (try clear hi)) | ((with_reducible refine zn (N := 9) rfl ?_); refine zm ?hg (N := 9) ?hd (cs := #[.int .i8 0, .bool false]) (t := 46) ?hr ?_; (case hd => rfl); (case hg => rfl); (case hr => first | (go_simp; done) | (go_simp; rfl)); intro gb394 hg w21 hbox hb; have n0_ := ze.mk (Kd.R_below (Kd.R_elderB (by (with_reducible repeat (first | apply Kd.R_alloc | apply Kd.R_drewN | apply Kd.R_drew)); exact HO_16.out) gb394 (Nat.le_of_eq hg.symm)) hb); have n1_ := ze.mk (zl (g := gb384) (o := .cells #[.int .i8 a0_0, .int .i8 a0_1, .bool a0_2, .bool a0_3] 29 (0, 0)) (by (with_reducible repeat (first | refine zh ?_ _ | refine zi ?_ | refine zg ?_ _)); exact BK384.out) hb); have n2_ := ze.mk (zl (g := gb390) (o := .cells #[.int .i8 ((rd_T46 t386 x18_1).f0), .bool ((rd_T46 t386 x18_1).f1)] 46 (0, 0)) (by (with_reducible repeat (first | refine zh ?_ _ | refine zi ?_ | refine zg ?_ _)); exact BK390.out) hb); have n3_ := ze.mk (zk (by repeat (first | (with_reducible first | exact HB.out | apply zc | apply za | apply zb | refine zf ?_ GE384.out | refine zf ?_ GE390.out) | exact HB.out)) hb); have n4_ := ze.mk (hbox); have n5_ := ze.mk ((by rw [hg]; exact (zj (by repeat (first | (with_reducible first | exact HB.out | apply zc | apply za | apply zb | refine zf ?_ GE384.out | refine zf ?_ GE390.out) | exact HB.out))) : w.heap.size ≤ gb394)); have n6_ := ze.mk ((by rw [hg]; exact (zj (by repeat (first | (with_reducible first | exact HB.out | apply zc | apply za | apply zb | refine zf ?_ GE384.out | refine zf ?_ GE390.out) | exact HB.out))) : w.heap.size ≤ gb394)); have n7_ := ze.mk ((by rw [hg]; exact Nat.ne_of_lt (zu (g := gb384) (o := .cells #[.int .i8 a0_0, .int .i8 a0_1, .bool a0_2, .bool a0_3] 29 (0, 0)) (by (with_reducible repeat (first | refine zh ?_ _ | refine zi ?_ | refine zg ?_ _)); exact BK384.out)) : gb384 ≠ gb394)); have n8_ := ze.mk ((by rw [hg]; exact Nat.ne_of_gt (zu (g := gb384) (o := .cells #[.int .i8 a0_0, .int .i8 a0_1, .bool a0_2, .bool a0_3] 29 (0, 0)) (by (with_reducible repeat (first | refine zh ?_ _ | refine zi ?_ | refine zg ?_ _)); exact BK384.out)) : gb394 ≠ gb384)); have n9_ := ze.mk ((by rw [hg]; exact Nat.ne_of_lt (zu (g := gb390) (o := .cells #[.int .i8 ((rd_T46 t386 x18_1).f0), .bool ((rd_T46 t386 x18_1).f1)] 46 (0, 0)) (by (with_reducible repeat (first | refine zh ?_ _ | refine zi ?_ | refine zg ?_ _)); exact BK390.out)) : gb390 ≠ gb394)); have n10_ := ze.mk ((by rw [hg]; exact Nat.ne_of_gt (zu (g := gb390) (o := .cells #[.int .i8 ((rd_T46 t386 x18_1).f0), .bool ((rd_T46 t386 x18_1).f1)] 46 (0, 0)) (by (with_reducible repeat (first | refine zh ?_ _ | refine zi ?_ | refine zg ?_ _)); exact BK390.out)) : gb394 ≠ gb390)); clear HO_16; clear BK384; clear BK390; clear HB; have HO_16 := n0_; have BK384 := n1_; have BK390 := n2_; have HB := n3_; have BK394 := n4_; have GW394 := n5_; have GE394 := n6_; have NB384_394 := n7_; have NB394_384 := n8_; have NB390_394 := n9_; have NB394_390 := n10_; clear n0_ n1_ n2_ n3_ n4_ n5_ n6_ n7_ n8_ n9_ n10_; clear hb hbox hg; have hnb22 := NB394_384.out; have hnc22 := NB384_394.out; have hnb23 := NB394_390.out; have hnc23 := NB390_394.out; have hcz24_0 := cz BK394.out 0 rfl; have hcz24_1 := cz BK394.out 1 rfl; have hfz24_0 := zd BK394.out 0; have hfz24_1 := zd BK394.out 1))
       go_roundg k1
       case measure => have := HK1.out; omega
       case rel => exact ⟨(ji16), (wrap64 (x18_1 + 1)), (by first | rfl | (simp; done) | (simp only [← hji16] <;> (first | rfl | simp)) | (simp [*]; done)), (by first | rfl | (simp; done) | (simp [*]; done)), H', ⟨by have := HK1.out; omega⟩, ⟨by (with_reducible repeat (first | apply Kd.R_alloc | apply Kd.R_drewN | apply Kd.R_drew)); exact Kd.R_mono (Kd.R_far (p := ⟨gb394, 1, none⟩) (Kd.R_far (p := ⟨gb394, 0, none⟩) (Kd.R_mono HO_16.out (fun k_ hk => (⟨hk, hk.2⟩ : _ ∧ k_ ≠ gb394))) (fun _ hk => hk.2) (.int .i8 t391)) (fun _ hk => hk.2) (.bool t392)) (fun _ hk => trivial)⟩, ⟨by (with_reducible repeat (first | refine zh ?_ _ | refine zi ?_ | refine zg ?_ _)); refine zha ?_ NB384_394.out _; (with_reducible repeat (first | refine zh ?_ _ | refine zi ?_ | refine zg ?_ _)); refine zha ?_ NB384_394.out _; (with_reducible repeat (first | refine zh ?_ _ | refine zi ?_ | refine zg ?_ _)); exact BK384.out⟩, ⟨by repeat (first | (with_reducible first | exact HB.out | apply zc | apply za | apply zb | refine zf ?_ GE384.out | refine zf ?_ GE390.out | refine zf ?_ GE394.out) | exact HB.out)⟩⟩
      ·rw [if_neg c14] at H
       exact absurd H (by simp)
     ·rw [if_neg c13] at H
      exact absurd H (by simp)
    ·rw [if_neg c12] at H
     have c12b0 : decide (x18_1 < (t386.length : Int)) = false := decide_eq_false c12
     clear c12
     simp only [Option.some.injEq, Prod.mk.injEq] at H
     obtain ⟨rfl, rfl⟩ := H
     go_wp2
     go_ret2
     exact ⟨by first | rfl | (simp [errW_none, errW_some] <;> rfl) | (simp [*, errW_none, errW_some] <;> rfl), by repeat (first | (with_reducible first | exact HB.out | apply zc | apply za | apply zb | refine zf ?_ GE384.out) | exact HB.out)⟩
 ·replace c4 := Bool.eq_false_iff.mpr c4
  subst c4
  have H1 : (some (0, 1)) = some (r1, r2) := by rw [if_neg (show ¬ (false = true) by decide)] at H; exact H
  clear H
  have H := H1
  clear H1
  simp only [Option.some.injEq, Prod.mk.injEq] at H
  obtain ⟨rfl, rfl⟩ := H
  go_enter Try.func15, Try.ntmps15
  go_wp2_with (first | ((with_reducible refine zn (N := 2) rfl ?_); refine zm ?hg (N := 2) ?hd (cs := #[.int .i8 a0_0, .int .i8 a0_1, .bool a0_2, .bool a0_3]) (t := 29) ?hr ?_; (case hd => rfl); (case hg => rfl); (case hr => first | (go_simp; done) | (go_simp; rfl)); intro gb384 hg w25 hbox hb; have n0_ := ze.mk (zk (by repeat (first | (with_reducible first | exact HB.out | apply zc | apply za | apply zb) | exact HB.out)) hb); have n1_ := ze.mk (hbox); have n2_ := ze.mk ((by rw [hg]; exact (zj (by repeat (first | (with_reducible first | exact HB.out | apply zc | apply za | apply zb) | exact HB.out))) : w.heap.size ≤ gb384)); have n3_ := ze.mk ((by rw [hg]; exact (zj (by repeat (first | (with_reducible first | exact HB.out | apply zc | apply za | apply zb) | exact HB.out))) : w.heap.size ≤ gb384)); clear HB; have HB := n0_; have BK384 := n1_; have GW384 := n2_; have GE384 := n3_; clear n0_ n1_ n2_ n3_; clear hb hbox hg; have hcz26_0 := cz BK384.out 0 rfl; have hcz26_1 := cz BK384.out 1 rfl; have hcz26_2 := cz BK384.out 2 rfl; have hcz26_3 := cz BK384.out 3 rfl; have hfz26_0 := zd BK384.out 0; have hfz26_1 := zd BK384.out 1; have hfz26_2 := zd BK384.out 2; have hfz26_3 := zd BK384.out 3) | ((with_reducible refine zo (f := 28) rfl ?_); refine zx (some 13) rfl rfl Try.func28 (by kernel_rfl) rfl #[.agg #[.int .i8 a0_0, .int .i8 a0_1, .bool a0_2, .bool a0_3], .slice A1 l1.length c1] rfl (by (try simp only [List.map_toArray, List.map_cons, List.map_nil]); first | done | rfl | (simp only [List.length_drop, List.length_take]; rfl)) ?_; (with_reducible refine (impl_ValidPlan.calls k a0_0 a0_1 a0_2 a0_3 _ _ l1 false _ ?side1 ?side2 A3.out).mono ?_); (case side1 => repeat (first | exact (Kd.C_below HR1.out HB.out) | (with_reducible refine Kd.C_alloc ?_ _) | (with_reducible refine Kd.C_drewN ?_ _) | (with_reducible refine Kd.C_drew ?_))); (case side2 => exact HC1.out); rintro e w27 ⟨rfl, hb⟩; refine ⟨_, rfl, ?_⟩; have n0_ := ze.mk (zl (g := gb384) (o := .cells #[.int .i8 a0_0, .int .i8 a0_1, .bool a0_2, .bool a0_3] 29 (0, 0)) (by (with_reducible repeat (first | refine zh ?_ _ | refine zi ?_ | refine zg ?_ _)); exact BK384.out) hb); have n1_ := ze.mk (zk (by repeat (first | (with_reducible first | exact HB.out | apply zc | apply za | apply zb | refine zf ?_ GE384.out) | exact HB.out)) hb); clear BK384; clear HB; have BK384 := n0_; have HB := n1_; clear n0_ n1_; (try clear hb); (try clear hb2); (try clear hk); (try clear hi)))
  go_ret2
  exact ⟨by first | rfl | (simp [errW_none, errW_some] <;> rfl) | (simp [*, errW_none, errW_some] <;> rfl), by repeat (first | (with_reducible first | exact HB.out | apply zc | apply za | apply zb | refine zf ?_ GE384.out) | exact HB.out)⟩

end Go.Proofs.Ytmmonhpjjjdnjaa.M
