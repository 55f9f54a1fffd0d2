-- Written by wip/tools/myprint.py, a program of this session, by way of the kit's print.
import Derived.Test.YtmmonhpjjjdnjaaMx0
import Derived.Test.YtmmonhpjjjdnjaaLLoad
import Derived.Test.YtmmonhpjjjdnjaaMx14
import Derived.Test.YtmmonhpjjjdnjaaMx17
import Derived.Test.YtmmonhpjjjdnjaaMx19
namespace Go.Proofs.Ytmmonhpjjjdnjaa.M
open Go.RowKit Go.Proofs.YtmmonhpjjjdnjaaW.PrintWords Go.Proofs.YtmmonhpjjjdnjaaW.PrintLast Go.Proofs.YtmmonhpjjjdnjaaW.PrintMore
attribute [local go_sem] zea zca zka zja zy zz zfa zda   -- for this text's walks alone
set_option linter.unusedVariables false
set_option linter.unusedSimpArgs false

/-! ### impl_Case_31: function 31 -/
def impl_Case_31.f (l0 : List (S46)) : Option (Int) := some (l0.length : Int)
set_option maxHeartbeats 8000000 in
set_option maxRecDepth 100000 in
theorem impl_Case_31.calls (A0 : Option Addr) (c0 : Nat) (l0 : List (S46)) (r : Int) (w : World) (hr0 : Kd.C k46 w A0 l0.length l0) (hc0 : l0.length ≤ c0) (h : impl_Case_31.f l0 = some r) :
  Calls Try.prog 31 #[.slice A0 l0.length c0] w fun e w' => e = .returned (.int .i64 r) ∧ zia w w' := by
 have HR0 := ze.mk hr0
 have HC0 := ze.mk hc0
 clear hr0 hc0
 have H : (some (l0.length : Int)) = some r := h
 clear h
 obtain rfl := Option.some.inj H
 go_enter Try.func31, Try.ntmps31
 go_wp2
 go_ret
 exact ⟨by first | rfl | (simp; done) | (simp [*]; done), by repeat (first | exact zia.refl _ | apply zia.step)⟩

/-! ### impl_MeanDepth: function 12 -/
def impl_MeanDepth.l0 : Nat → List (S54) → Int → List (S46) → Int → Int → Int → Int → Bool → Bool → Option (Int × Int × Int)
 | 0, _, _, _, _, _, _, _, _, _ => none
 | k + 1, x1, x7, x17, x18, x19, x311000, x311001, x311002, x311003 => if x19 < x18 then (if 0 ≤ x19 then (if x19 < (x17.length : Int) then ((impl_follow.f k x1 ((rd_T46 x17 x19).f0) ((rd_T46 x17 x19).f1)).bind fun bt317 => (impl_MeanDepth.l0 k x1 (wrap64 (x7 + bt317.2.2)) x17 x18 (wrap64 (x19 + 1)) x311000 x311001 x311002 x311003)) else (none)) else (none)) else ((impl_Task_cases.f k x311000 x311001 x311002 x311003).bind fun t321 => ((impl_Case_31.f t321).bind fun t324 => (some (x7, t324, 0))))
def impl_MeanDepth.f (k : Nat) (a0_0 : Int) (a0_1 : Int) (a0_2 : Bool) (a0_3 : Bool) (l1 : List (S54)) : Option (Int × Int × Int) := (impl_ValidPlan.f k a0_0 a0_1 a0_2 a0_3 l1).bind fun t311 => (if t311 = true then ((impl_Task_cases.f k a0_0 a0_1 a0_2 a0_3).bind fun t312 => (impl_MeanDepth.l0 k l1 0 t312 (t312.length : Int) 0 a0_0 a0_1 a0_2 a0_3)) else (some (0, 0, 1)))
theorem impl_MeanDepth.mono_l : ∀ k, (∀ y0 y1 y2 y3 y4 y5 y6 y7 y8, LeO (impl_MeanDepth.l0 k y0 y1 y2 y3 y4 y5 y6 y7 y8) (impl_MeanDepth.l0 (k + 1) y0 y1 y2 y3 y4 y5 y6 y7 y8))
 | 0 => fun _ _ _ _ _ _ _ _ _ r h => by simp [impl_MeanDepth.l0] at h
 | k + 1 => by
  have ih0 := impl_MeanDepth.mono_l k
  ·intro y0 y1 y2 y3 y4 y5 y6 y7 y8
   unfold impl_MeanDepth.l0
   repeat' first
   | (with_reducible exact ih0 _ _ _ _ _ _ _ _ _)
   | (with_reducible exact impl_Task_cases.mono _ _ _ _ _)
   | (with_reducible exact impl_ValidPlan.mono _ _ _ _ _ _)
   | (with_reducible exact impl_follow.mono _ _ _ _)
   | (with_reducible exact LeO.refl _)
   | (with_reducible exact LeO.none _)
   | (with_reducible refine LeO.ite ?_ ?_)
   | (with_reducible refine LeO.bind ?_ (fun _ => ?_))
   | exact ih0 _ _ _ _ _ _ _ _ _
   | exact impl_Task_cases.mono _ _ _ _ _
   | exact impl_ValidPlan.mono _ _ _ _ _ _
   | exact impl_follow.mono _ _ _ _
   | exact LeO.none _
   | refine LeO.ite ?_ ?_
   | refine LeO.bind ?_ (fun _ => ?_)
theorem impl_MeanDepth.mono : ∀ a0 a1 a2 a3 a4 k, LeO (impl_MeanDepth.f k a0 a1 a2 a3 a4) (impl_MeanDepth.f (k + 1) a0 a1 a2 a3 a4) := by
 intro a0 a1 a2 a3 a4 k
 have ih0 := impl_MeanDepth.mono_l k
 unfold impl_MeanDepth.f
 repeat' first
   | (with_reducible exact ih0 _ _ _ _ _ _ _ _ _)
   | (with_reducible exact impl_Task_cases.mono _ _ _ _ _)
   | (with_reducible exact impl_ValidPlan.mono _ _ _ _ _ _)
   | (with_reducible exact impl_follow.mono _ _ _ _)
   | (with_reducible exact LeO.refl _)
   | (with_reducible exact LeO.none _)
   | (with_reducible refine LeO.ite ?_ ?_)
   | (with_reducible refine LeO.bind ?_ (fun _ => ?_))
   | exact ih0 _ _ _ _ _ _ _ _ _
   | exact impl_Task_cases.mono _ _ _ _ _
   | exact impl_ValidPlan.mono _ _ _ _ _ _
   | exact impl_follow.mono _ _ _ _
   | exact LeO.none _
   | refine LeO.ite ?_ ?_
   | refine LeO.bind ?_ (fun _ => ?_)
set_option maxHeartbeats 8000000 in
set_option maxRecDepth 100000 in
theorem impl_MeanDepth.calls (k : Nat) (a0_0 : Int) (a0_1 : Int) (a0_2 : Bool) (a0_3 : Bool) (A1 : Option Addr) (c1 : Nat) (l1 : List (S54)) (r1 : Int) (r2 : Int) (r3 : Int) (w : World) (hr1 : Kd.C k54 w A1 l1.length l1) (hc1 : l1.length ≤ c1) (h : impl_MeanDepth.f k a0_0 a0_1 a0_2 a0_3 l1 = some (r1, r2, r3)) :
  Calls Try.prog 12 #[.agg #[.int .i8 a0_0, .int .i8 a0_1, .bool a0_2, .bool a0_3], .slice A1 l1.length c1] w fun e w' => e = .returned (.tuple #[.int .i64 r1, .int .i64 r2, .int .i64 r3]) ∧ Below w.heap.size w w' := by
 have hu29 := Try.underlying29
 have hu46 := Try.underlying46
 have HR1 := ze.mk hr1
 have HC1 := ze.mk hc1
 clear hr1 hc1
 have HB := ze.mk (Below.refl w.heap.size w)
 have H : ((impl_ValidPlan.f k a0_0 a0_1 a0_2 a0_3 l1).bind fun t311 => (if t311 = true then ((impl_Task_cases.f k a0_0 a0_1 a0_2 a0_3).bind fun t312 => (impl_MeanDepth.l0 k l1 0 t312 (t312.length : Int) 0 a0_0 a0_1 a0_2 a0_3)) else (some (0, 0, 1)))) = some (r1, r2, r3) := h
 clear h
 replace H := Option.bind_eq_some_iff.mp H
 obtain ⟨t311, A30, H⟩ := H
 replace H : (if t311 = true then ((impl_Task_cases.f k a0_0 a0_1 a0_2 a0_3).bind fun t312 => (impl_MeanDepth.l0 k l1 0 t312 (t312.length : Int) 0 a0_0 a0_1 a0_2 a0_3)) else (some (0, 0, 1))) = some (r1, r2, r3) := H
 have A3 := ze.mk A30
 clear A30
 by_cases c4 : t311 = true
 ·subst c4
  have H1 : ((impl_Task_cases.f k a0_0 a0_1 a0_2 a0_3).bind fun t312 => (impl_MeanDepth.l0 k l1 0 t312 (t312.length : Int) 0 a0_0 a0_1 a0_2 a0_3)) = some (r1, r2, r3) := by rw [if_pos rfl] at H; exact H
  clear H
  have H := H1
  clear H1
  replace H := Option.bind_eq_some_iff.mp H
  obtain ⟨t312, A50, H⟩ := H
  replace H : (impl_MeanDepth.l0 k l1 0 t312 (t312.length : Int) 0 a0_0 a0_1 a0_2 a0_3) = some (r1, r2, r3) := H
  have A5 := ze.mk A50
  clear A50
  have H' := ze.mk H
  clear H
  go_enter Try.func12, Try.ntmps12
  go_wp2_with (first | ((with_reducible refine zn (N := 2) rfl ?_); refine zm ?hg (N := 2) ?hd (cs := #[.int .i8 a0_0, .int .i8 a0_1, .bool a0_2, .bool a0_3]) (t := 29) ?hr ?_; (case hd => rfl); (case hg => rfl); (case hr => first | (go_simp; done) | (go_simp; rfl)); intro gb310 hg w6 hbox hb; have n0_ := ze.mk (zk (by repeat (first | (with_reducible first | exact HB.out | apply zc | apply za | apply zb) | exact HB.out)) hb); have n1_ := ze.mk (hbox); have n2_ := ze.mk ((by rw [hg]; exact (zj (by repeat (first | (with_reducible first | exact HB.out | apply zc | apply za | apply zb) | exact HB.out))) : w.heap.size ≤ gb310)); have n3_ := ze.mk ((by rw [hg]; exact (zj (by repeat (first | (with_reducible first | exact HB.out | apply zc | apply za | apply zb) | exact HB.out))) : w.heap.size ≤ gb310)); clear HB; have HB := n0_; have BK310 := n1_; have GW310 := n2_; have GE310 := n3_; clear n0_ n1_ n2_ n3_; clear hb hbox hg; have hcz7_0 := cz BK310.out 0 rfl; have hcz7_1 := cz BK310.out 1 rfl; have hcz7_2 := cz BK310.out 2 rfl; have hcz7_3 := cz BK310.out 3 rfl; have hfz7_0 := zd BK310.out 0; have hfz7_1 := zd BK310.out 1; have hfz7_2 := zd BK310.out 2; have hfz7_3 := zd BK310.out 3) | ((with_reducible refine zo (f := 28) rfl ?_); refine zx (some 14) rfl rfl Try.func28 (by kernel_rfl) rfl #[.agg #[.int .i8 a0_0, .int .i8 a0_1, .bool a0_2, .bool a0_3], .slice A1 l1.length c1] rfl (by (try simp only [List.map_toArray, List.map_cons, List.map_nil]); first | done | rfl | (simp only [List.length_drop, List.length_take]; rfl)) ?_; (with_reducible refine (impl_ValidPlan.calls k a0_0 a0_1 a0_2 a0_3 _ _ l1 true _ ?side1 ?side2 A3.out).mono ?_); (case side1 => repeat (first | exact (Kd.C_below HR1.out HB.out) | (with_reducible refine Kd.C_alloc ?_ _) | (with_reducible refine Kd.C_drewN ?_ _) | (with_reducible refine Kd.C_drew ?_))); (case side2 => exact HC1.out); rintro e w8 ⟨rfl, hb⟩; refine ⟨_, rfl, ?_⟩; have n0_ := ze.mk (zl (g := gb310) (o := .cells #[.int .i8 a0_0, .int .i8 a0_1, .bool a0_2, .bool a0_3] 29 (0, 0)) (by (with_reducible repeat (first | refine zh ?_ _ | refine zi ?_ | refine zg ?_ _)); exact BK310.out) hb); have n1_ := ze.mk (zk (by repeat (first | (with_reducible first | exact HB.out | apply zc | apply za | apply zb | refine zf ?_ GE310.out) | exact HB.out)) hb); clear BK310; clear HB; have BK310 := n0_; have HB := n1_; clear n0_ n1_; (try clear hb); (try clear hb2); (try clear hk); (try clear hi); have hcz9_0 := cz BK310.out 0 rfl; have hcz9_1 := cz BK310.out 1 rfl; have hcz9_2 := cz BK310.out 2 rfl; have hcz9_3 := cz BK310.out 3 rfl; have hfz9_0 := zd BK310.out 0; have hfz9_1 := zd BK310.out 1; have hfz9_2 := zd BK310.out 2; have hfz9_3 := zd BK310.out 3) | ((with_reducible refine zo (f := 29) rfl ?_); refine zx (some 17) rfl rfl Try.func29 (by kernel_rfl) rfl #[.agg #[.int .i8 a0_0, .int .i8 a0_1, .bool a0_2, .bool a0_3]] rfl (by (try simp only [List.map_toArray, List.map_cons, List.map_nil]); first | done | rfl | (simp only [List.length_drop, List.length_take]; rfl)) ?_; (with_reducible refine (impl_Task_cases.calls k a0_0 a0_1 a0_2 a0_3 t312 _ A5.out).mono ?_); rintro e w10 ⟨v313, rfl, ho0, hb⟩; refine ⟨_, rfl, ?_⟩; have n0_ := ze.mk (Kd.R_lower ho0 (zj (by repeat (first | (with_reducible first | exact HB.out | apply zc | apply za | apply zb | refine zf ?_ GE310.out) | exact HB.out)))); have n1_ := ze.mk (zl (g := gb310) (o := .cells #[.int .i8 a0_0, .int .i8 a0_1, .bool a0_2, .bool a0_3] 29 (0, 0)) (by (with_reducible repeat (first | refine zh ?_ _ | refine zi ?_ | refine zg ?_ _)); exact BK310.out) hb); have n2_ := ze.mk (zk (by repeat (first | (with_reducible first | exact HB.out | apply zc | apply za | apply zb | refine zf ?_ GE310.out) | exact HB.out)) hb); clear BK310; clear HB; have HO314 := n0_; have BK310 := n1_; have HB := n2_; clear n0_ n1_ n2_; (try clear hb); (try clear hb2); (try clear hk); (try clear hi); (try clear ho0); obtain ⟨Ao11, co11, eo11⟩ := Kd.R_slice HO314.out; subst eo11))
  go_loopg [7, 19] k (fun kq v7 v19 w' => ∃ (x7_1 : Int) (x19_1 : Int), v7 = .int .i64 x7_1 ∧ v19 = .int .i64 x19_1 ∧ ze (impl_MeanDepth.l0 kq l1 x7_1 t312 (t312.length : Int) x19_1 a0_0 a0_1 a0_2 a0_3 = some (r1, r2, r3)) ∧ ze (kq ≤ k) ∧ ze (Kd.R k46 46 w' w.heap.size (fun _ => True) (.slice Ao11 t312.length co11) t312) ∧ ze (w'.heap[gb310]? = some (.cells #[.int .i8 a0_0, .int .i8 a0_1, .bool a0_2, .bool a0_3] 29 (0, 0))) ∧ ze (Below w.heap.size w w'))
  case atStart => exact ⟨(0), (0), (by first | rfl | (simp; done) | (simp [*]; done)), (by first | rfl | (simp; done) | (simp [*]; done)), H', ⟨Nat.le_refl _⟩, ⟨by (with_reducible repeat (first | apply Kd.R_alloc | apply Kd.R_drewN | apply Kd.R_drew)); exact HO314.out⟩, ⟨by (with_reducible repeat (first | refine zh ?_ _ | refine zi ?_ | refine zg ?_ _)); exact BK310.out⟩, ⟨by repeat (first | (with_reducible first | exact HB.out | apply zc | apply za | apply zb | refine zf ?_ GE310.out) | exact HB.out)⟩⟩
  case round =>
   clear H'
   try clear c1
   try clear c2
   try clear p2
   try clear c4
   try clear hcz7_0
   try clear hcz7_1
   try clear hcz7_2
   try clear hcz7_3
   try clear hcz9_0
   try clear hcz9_1
   try clear hcz9_2
   try clear hcz9_3
   try clear hfz7_0
   try clear hfz7_1
   try clear hfz7_2
   try clear hfz7_3
   try clear hfz9_0
   try clear hfz9_1
   try clear hfz9_2
   try clear hfz9_3
   obtain ⟨x7_1, x19_1, rfl, rfl, HA, HK1, HO_17, BK310, HB⟩ := hrel
   cases gk with
   | zero => exact absurd HA.out (by simp [impl_MeanDepth.l0])
   | succ k1 =>
    have H := HA.out
    clear HA
    simp only [impl_MeanDepth.l0] at H
    by_cases c12 : x19_1 < (t312.length : Int)
    ·rw [if_pos c12] at H
     have c12b0 : decide (x19_1 < (t312.length : Int)) = true := decide_eq_true c12
     clear c12
     by_cases c13 : 0 ≤ x19_1
     ·rw [if_pos c13] at H
      have c13b0 : decide (0 ≤ x19_1) = true := decide_eq_true c13
      clear c13
      by_cases c14 : x19_1 < (t312.length : Int)
      ·rw [if_pos c14] at H
       have c14b0 : decide (x19_1 < (t312.length : Int)) = true := decide_eq_true c14
       clear c14
       replace H := Option.bind_eq_some_iff.mp H
       obtain ⟨⟨t317, t318, t319⟩, A150, H⟩ := H
       replace H : (impl_MeanDepth.l0 k1 l1 (wrap64 (x7_1 + t319)) t312 (t312.length : Int) (wrap64 (x19_1 + 1)) a0_0 a0_1 a0_2 a0_3) = some (r1, r2, r3) := H
       have A15 := ze.mk A150
       clear A150
       have H' := ze.mk H
       clear H
       have p315 : 0 ≤ (x19_1 : Int) := of_decide_eq_true (by first | (with_reducible assumption) | assumption)
       have q315 : x19_1 < (t312.length : Int) := of_decide_eq_true (by first | (with_reducible assumption) | assumption)
       obtain ⟨ad315, e315, hx315_0, hx315_1⟩ := at_T46 (Kd.R_reads' HO_17.out).2.2 x19_1 p315 q315
       cases e315
       replace p315 := eq_true p315
       replace q315 := eq_true q315
       go_wp2_with (first | ((with_reducible refine zn (N := 9) rfl ?_); refine zm ?hg (N := 9) ?hd (cs := #[.int .i8 0, .bool false]) (t := 46) ?hr ?_; (case hd => rfl); (case hg => rfl); (case hr => first | (go_simp; done) | (go_simp; rfl)); intro gb316 hg w16 hbox hb; have n0_ := ze.mk (Kd.R_below (Kd.R_elderB (by (with_reducible repeat (first | apply Kd.R_alloc | apply Kd.R_drewN | apply Kd.R_drew)); exact HO_17.out) gb316 (Nat.le_of_eq hg.symm)) hb); have n1_ := ze.mk (zl (g := gb310) (o := .cells #[.int .i8 a0_0, .int .i8 a0_1, .bool a0_2, .bool a0_3] 29 (0, 0)) (by (with_reducible repeat (first | refine zh ?_ _ | refine zi ?_ | refine zg ?_ _)); exact BK310.out) hb); have n2_ := ze.mk (zk (by repeat (first | (with_reducible first | exact HB.out | apply zc | apply za | apply zb | refine zf ?_ GE310.out) | exact HB.out)) hb); have n3_ := ze.mk (hbox); have n4_ := ze.mk ((by rw [hg]; exact (zj (by repeat (first | (with_reducible first | exact HB.out | apply zc | apply za | apply zb | refine zf ?_ GE310.out) | exact HB.out))) : w.heap.size ≤ gb316)); have n5_ := ze.mk ((by rw [hg]; exact (zj (by repeat (first | (with_reducible first | exact HB.out | apply zc | apply za | apply zb | refine zf ?_ GE310.out) | exact HB.out))) : w.heap.size ≤ gb316)); have n6_ := ze.mk ((by rw [hg]; exact Nat.ne_of_lt (zu (g := gb310) (o := .cells #[.int .i8 a0_0, .int .i8 a0_1, .bool a0_2, .bool a0_3] 29 (0, 0)) (by (with_reducible repeat (first | refine zh ?_ _ | refine zi ?_ | refine zg ?_ _)); exact BK310.out)) : gb310 ≠ gb316)); have n7_ := ze.mk ((by rw [hg]; exact Nat.ne_of_gt (zu (g := gb310) (o := .cells #[.int .i8 a0_0, .int .i8 a0_1, .bool a0_2, .bool a0_3] 29 (0, 0)) (by (with_reducible repeat (first | refine zh ?_ _ | refine zi ?_ | refine zg ?_ _)); exact BK310.out)) : gb316 ≠ gb310)); clear HO_17; clear BK310; clear HB; have HO_17 := n0_; have BK310 := n1_; have HB := n2_; have BK316 := n3_; have GW316 := n4_; have GE316 := n5_; have NB310_316 := n6_; have NB316_310 := n7_; clear n0_ n1_ n2_ n3_ n4_ n5_ n6_ n7_; clear hb hbox hg; have hnb17 := NB316_310.out; have hnc17 := NB310_316.out; have hcz18_0 := cz BK316.out 0 rfl; have hcz18_1 := cz BK316.out 1 rfl; have hfz18_0 := zd BK316.out 0; have hfz18_1 := zd BK316.out 1) | ((with_reducible refine zo (f := 30) rfl ?_); refine zx (some 26) rfl rfl Try.func30 (by kernel_rfl) rfl #[.slice A1 l1.length c1, .agg #[.int .i8 ((rd_T46 t312 x19_1).f0), .bool ((rd_T46 t312 x19_1).f1)]] rfl (by (try simp only [List.map_toArray, List.map_cons, List.map_nil]); first | done | rfl | (simp only [List.length_drop, List.length_take]; rfl)) ?_; (with_reducible refine (impl_follow.calls k1 _ _ l1 ((rd_T46 t312 x19_1).f0) ((rd_T46 t312 x19_1).f1) t317 t318 t319 _ ?side1 ?side2 A15.out).mono ?_); (case side1 => exact Kd.C_below HR1.out (by repeat (first | (with_reducible first | exact HB.out | apply zc | apply za | apply zb | refine zf ?_ GE310.out | refine zf ?_ GE316.out) | exact HB.out))); (case side2 => exact HC1.out); rintro e w19 ⟨rfl, hb⟩; refine ⟨_, rfl, ?_⟩; have n0_ := ze.mk (Kd.R_below (by (with_reducible repeat (first | apply Kd.R_alloc | apply Kd.R_drewN | apply Kd.R_drew)); exact (Kd.R_mono (Kd.R_far (p := ⟨gb316, 1, none⟩) (Kd.R_far (p := ⟨gb316, 0, none⟩) (Kd.R_mono HO_17.out (fun k_ hk => (⟨hk, hk.2⟩ : _ ∧ k_ ≠ gb316))) (fun _ hk => hk.2) (.int .i8 ((rd_T46 t312 x19_1).f0))) (fun _ hk => hk.2) (.bool ((rd_T46 t312 x19_1).f1))) (fun _ h_ => h_.1))) hb); have n1_ := ze.mk (zl (g := gb310) (o := .cells #[.int .i8 a0_0, .int .i8 a0_1, .bool a0_2, .bool a0_3] 29 (0, 0)) (by (with_reducible repeat (first | refine zh ?_ _ | refine zi ?_ | refine zg ?_ _)); refine zha ?_ NB310_316.out _; (with_reducible repeat (first | refine zh ?_ _ | refine zi ?_ | refine zg ?_ _)); refine zha ?_ NB310_316.out _; (with_reducible repeat (first | refine zh ?_ _ | refine zi ?_ | refine zg ?_ _)); exact BK310.out) hb); have n2_ := ze.mk (zl (g := gb316) (o := .cells #[.int .i8 ((rd_T46 t312 x19_1).f0), .bool ((rd_T46 t312 x19_1).f1)] 46 (0, 0)) (by (with_reducible repeat (first | refine zh ?_ _ | refine zi ?_ | refine zg ?_ _)); refine zw (cs := #[.int .i8 ((rd_T46 t312 x19_1).f0), .bool false]) ?_ 1 _ rfl; (with_reducible repeat (first | refine zh ?_ _ | refine zi ?_ | refine zg ?_ _)); refine zw (cs := #[.int .i8 0, .bool false]) ?_ 0 _ rfl; (with_reducible repeat (first | refine zh ?_ _ | refine zi ?_ | refine zg ?_ _)); exact BK316.out) hb); have n3_ := ze.mk (zk (by repeat (first | (with_reducible first | exact HB.out | apply zc | apply za | apply zb | refine zf ?_ GE310.out | refine zf ?_ GE316.out) | exact HB.out)) hb); clear HO_17; clear BK310; clear BK316; clear HB; have HO_17 := n0_; have BK310 := n1_; have BK316 := n2_; have HB := n3_; clear n0_ n1_ n2_ n3_; (try clear hb); (try clear hb2); (try clear hk); (try clear hi)) | ((with_reducible refine zn (N := 10) rfl ?_); refine zm ?hg (N := 10) ?hd (cs := #[.int .i8 0, .bool false]) (t := 46) ?hr ?_; (case hd => rfl); (case hg => rfl); (case hr => first | (go_simp; done) | (go_simp; rfl)); intro gb320 hg w20 hbox hb; have n0_ := ze.mk (Kd.R_below (Kd.R_elderB (by (with_reducible repeat (first | apply Kd.R_alloc | apply Kd.R_drewN | apply Kd.R_drew)); exact HO_17.out) gb320 (Nat.le_of_eq hg.symm)) hb); have n1_ := ze.mk (zl (g := gb310) (o := .cells #[.int .i8 a0_0, .int .i8 a0_1, .bool a0_2, .bool a0_3] 29 (0, 0)) (by (with_reducible repeat (first | refine zh ?_ _ | refine zi ?_ | refine zg ?_ _)); exact BK310.out) hb); have n2_ := ze.mk (zl (g := gb316) (o := .cells #[.int .i8 ((rd_T46 t312 x19_1).f0), .bool ((rd_T46 t312 x19_1).f1)] 46 (0, 0)) (by (with_reducible repeat (first | refine zh ?_ _ | refine zi ?_ | refine zg ?_ _)); exact BK316.out) hb); have n3_ := ze.mk (zk (by repeat (first | (with_reducible first | exact HB.out | apply zc | apply za | apply zb | refine zf ?_ GE310.out | refine zf ?_ GE316.out) | exact HB.out)) hb); have n4_ := ze.mk (hbox); have n5_ := ze.mk ((by rw [hg]; exact (zj (by repeat (first | (with_reducible first | exact HB.out | apply zc | apply za | apply zb | refine zf ?_ GE310.out | refine zf ?_ GE316.out) | exact HB.out))) : w.heap.size ≤ gb320)); have n6_ := ze.mk ((by rw [hg]; exact (zj (by repeat (first | (with_reducible first | exact HB.out | apply zc | apply za | apply zb | refine zf ?_ GE310.out | refine zf ?_ GE316.out) | exact HB.out))) : w.heap.size ≤ gb320)); have n7_ := ze.mk ((by rw [hg]; exact Nat.ne_of_lt (zu (g := gb310) (o := .cells #[.int .i8 a0_0, .int .i8 a0_1, .bool a0_2, .bool a0_3] 29 (0, 0)) (by (with_reducible repeat (first | refine zh ?_ _ | refine zi ?_ | refine zg ?_ _)); exact BK310.out)) : gb310 ≠ gb320)); have n8_ := ze.mk ((by rw [hg]; exact Nat.ne_of_gt (zu (g := gb310) (o := .cells #[.int .i8 a0_0, .int .i8 a0_1, .bool a0_2, .bool a0_3] 29 (0, 0)) (by (with_reducible repeat (first | refine zh ?_ _ | refine zi ?_ | refine zg ?_ _)); exact BK310.out)) : gb320 ≠ gb310)); have n9_ := ze.mk ((by rw [hg]; exact Nat.ne_of_lt (zu (g := gb316) (o := .cells #[.int .i8 ((rd_T46 t312 x19_1).f0), .bool ((rd_T46 t312 x19_1).f1)] 46 (0, 0)) (by (with_reducible repeat (first | refine zh ?_ _ | refine zi ?_ | refine zg ?_ _)); exact BK316.out)) : gb316 ≠ gb320)); have n10_ := ze.mk ((by rw [hg]; exact Nat.ne_of_gt (zu (g := gb316) (o := .cells #[.int .i8 ((rd_T46 t312 x19_1).f0), .bool ((rd_T46 t312 x19_1).f1)] 46 (0, 0)) (by (with_reducible repeat (first | refine zh ?_ _ | refine zi ?_ | refine zg ?_ _)); exact BK316.out)) : gb320 ≠ gb316)); clear HO_17; clear BK310; clear BK316; clear HB; have HO_17 := n0_; have BK310 := n1_; have BK316 := n2_; have HB := n3_; have BK320 := n4_; have GW320 := n5_; have GE320 := n6_; have NB310_320 := n7_; have NB320_310 := n8_; have NB316_320 := n9_; have NB320_316 := n10_; clear n0_ n1_ n2_ n3_ n4_ n5_ n6_ n7_ n8_ n9_ n10_; clear hb hbox hg; have hnb21 := NB320_310.out; have hnc21 := NB310_320.out; have hnb22 := NB320_316.out; have hnc22 := NB316_320.out; have hcz23_0 := cz BK320.out 0 rfl; have hcz23_1 := cz BK320.out 1 rfl; have hfz23_0 := zd BK320.out 0; have hfz23_1 := zd BK320.out 1))
       go_roundg k1
       case measure => have := HK1.out; omega
       case rel => exact ⟨(wrap64 (x7_1 + t319)), (wrap64 (x19_1 + 1)), (by first | rfl | (simp; done) | (simp [*]; done)), (by first | rfl | (simp; done) | (simp [*]; done)), H', ⟨by have := HK1.out; omega⟩, ⟨by (with_reducible repeat (first | apply Kd.R_alloc | apply Kd.R_drewN | apply Kd.R_drew)); exact Kd.R_mono (Kd.R_far (p := ⟨gb320, 1, none⟩) (Kd.R_far (p := ⟨gb320, 0, none⟩) (Kd.R_mono HO_17.out (fun k_ hk => (⟨hk, hk.2⟩ : _ ∧ k_ ≠ gb320))) (fun _ hk => hk.2) (.int .i8 t317)) (fun _ hk => hk.2) (.bool t318)) (fun _ hk => trivial)⟩, ⟨by (with_reducible repeat (first | refine zh ?_ _ | refine zi ?_ | refine zg ?_ _)); refine zha ?_ NB310_320.out _; (with_reducible repeat (first | refine zh ?_ _ | refine zi ?_ | refine zg ?_ _)); refine zha ?_ NB310_320.out _; (with_reducible repeat (first | refine zh ?_ _ | refine zi ?_ | refine zg ?_ _)); exact BK310.out⟩, ⟨by repeat (first | (with_reducible first | exact HB.out | apply zc | apply za | apply zb | refine zf ?_ GE310.out | refine zf ?_ GE316.out | refine zf ?_ GE320.out) | exact HB.out)⟩⟩
      ·rw [if_neg c14] at H
       exact absurd H (by simp)
     ·rw [if_neg c13] at H
      exact absurd H (by simp)
    ·rw [if_neg c12] at H
     have c12b0 : decide (x19_1 < (t312.length : Int)) = false := decide_eq_false c12
     clear c12
     replace H := Option.bind_eq_some_iff.mp H
     obtain ⟨t321, A240, H⟩ := H
     replace H : ((impl_Case_31.f t321).bind fun t324 => (some (x7_1, t324, 0))) = some (r1, r2, r3) := H
     have A24 := ze.mk A240
     clear A240
     replace H := Option.bind_eq_some_iff.mp H
     obtain ⟨t324, A250, H⟩ := H
     replace H : (some (x7_1, t324, 0)) = some (r1, r2, r3) := H
     have A25 := ze.mk A250
     clear A250
     simp only [Option.some.injEq, Prod.mk.injEq] at H
     obtain ⟨rfl, rfl, rfl⟩ := H
     have hcz26_0 := cz BK310.out 0 rfl
     have hcz26_1 := cz BK310.out 1 rfl
     have hcz26_2 := cz BK310.out 2 rfl
     have hcz26_3 := cz BK310.out 3 rfl
     have hfz26_0 := zd BK310.out 0
     have hfz26_1 := zd BK310.out 1
     have hfz26_2 := zd BK310.out 2
     have hfz26_3 := zd BK310.out 3
     go_wp2_with (first | ((with_reducible refine zo (f := 29) rfl ?_); refine zx (some 35) rfl rfl Try.func29 (by kernel_rfl) rfl #[.agg #[.int .i8 a0_0, .int .i8 a0_1, .bool a0_2, .bool a0_3]] rfl (by (try simp only [List.map_toArray, List.map_cons, List.map_nil]); first | done | rfl | (simp only [List.length_drop, List.length_take]; rfl)) ?_; (with_reducible refine (impl_Task_cases.calls k1 a0_0 a0_1 a0_2 a0_3 t321 _ A24.out).mono ?_); rintro e w27 ⟨v322, rfl, ho0, hb⟩; refine ⟨_, rfl, ?_⟩; have n0_ := ze.mk (Kd.R_elder' (by (with_reducible repeat (first | apply Kd.R_alloc | apply Kd.R_drewN | apply Kd.R_drew)); exact HO_17.out) (Kd.R_base ho0) hb); have n1_ := ze.mk (Kd.R_lower (Kd.R_new' ho0 (Kd.R_lt (by (with_reducible repeat (first | apply Kd.R_alloc | apply Kd.R_drewN | apply Kd.R_drew)); exact HO_17.out))) (zj (by repeat (first | (with_reducible first | exact HB.out | apply zc | apply za | apply zb | refine zf ?_ GE310.out) | exact HB.out)))); have n2_ := ze.mk (zl (g := gb310) (o := .cells #[.int .i8 a0_0, .int .i8 a0_1, .bool a0_2, .bool a0_3] 29 (0, 0)) (by (with_reducible repeat (first | refine zh ?_ _ | refine zi ?_ | refine zg ?_ _)); exact BK310.out) hb); have n3_ := ze.mk (zk (by repeat (first | (with_reducible first | exact HB.out | apply zc | apply za | apply zb | refine zf ?_ GE310.out) | exact HB.out)) hb); clear HO_17; clear BK310; clear HB; have HO_17 := n0_; have HO323 := n1_; have BK310 := n2_; have HB := n3_; clear n0_ n1_ n2_ n3_; (try clear hb); (try clear hb2); (try clear hk); (try clear hi); (try clear ho0); obtain ⟨Ao28, co28, eo28⟩ := Kd.R_slice HO323.out; subst eo28) | ((with_reducible refine zo (f := 31) rfl ?_); refine zx (some 36) rfl rfl Try.func31 (by kernel_rfl) rfl #[.slice Ao28 t321.length co28] rfl (by (try simp only [List.map_toArray, List.map_cons, List.map_nil]); first | done | rfl | (simp only [List.length_drop, List.length_take]; rfl)) ?_; (with_reducible refine (impl_Case_31.calls _ _ t321 t324 _ ?side1 ?side2 A25.out).mono ?_); (case side1 => repeat (first | exact (Kd.R_reads' HO323.out).2.2 | (with_reducible refine Kd.C_alloc ?_ _) | (with_reducible refine Kd.C_drewN ?_ _) | (with_reducible refine Kd.C_drew ?_))); (case side2 => exact (Kd.R_reads' HO323.out).2.1); rintro e w' ⟨rfl, ⟨nd, rfl⟩⟩; refine ⟨_, rfl, ?_⟩))
     go_ret3
     exact ⟨by first | rfl | (simp [errW_none, errW_some] <;> rfl) | (simp [*, errW_none, errW_some] <;> rfl), by repeat (first | (with_reducible first | exact HB.out | apply zc | apply za | apply zb | refine zf ?_ GE310.out) | exact HB.out)⟩
 ·replace c4 := Bool.eq_false_iff.mpr c4
  subst c4
  have H1 : (some (0, 0, 1)) = some (r1, r2, r3) := by rw [if_neg (show ¬ (false = true) by decide)] at H; exact H
  clear H
  have H := H1
  clear H1
  simp only [Option.some.injEq, Prod.mk.injEq] at H
  obtain ⟨rfl, rfl, rfl⟩ := H
  go_enter Try.func12, Try.ntmps12
  go_wp2_with (first | ((with_reducible refine zn (N := 2) rfl ?_); refine zm ?hg (N := 2) ?hd (cs := #[.int .i8 a0_0, .int .i8 a0_1, .bool a0_2, .bool a0_3]) (t := 29) ?hr ?_; (case hd => rfl); (case hg => rfl); (case hr => first | (go_simp; done) | (go_simp; rfl)); intro gb310 hg w29 hbox hb; have n0_ := ze.mk (zk (by repeat (first | (with_reducible first | exact HB.out | apply zc | apply za | apply zb) | exact HB.out)) hb); have n1_ := ze.mk (hbox); have n2_ := ze.mk ((by rw [hg]; exact (zj (by repeat (first | (with_reducible first | exact HB.out | apply zc | apply za | apply zb) | exact HB.out))) : w.heap.size ≤ gb310)); have n3_ := ze.mk ((by rw [hg]; exact (zj (by repeat (first | (with_reducible first | exact HB.out | apply zc | apply za | apply zb) | exact HB.out))) : w.heap.size ≤ gb310)); clear HB; have HB := n0_; have BK310 := n1_; have GW310 := n2_; have GE310 := n3_; clear n0_ n1_ n2_ n3_; clear hb hbox hg; have hcz30_0 := cz BK310.out 0 rfl; have hcz30_1 := cz BK310.out 1 rfl; have hcz30_2 := cz BK310.out 2 rfl; have hcz30_3 := cz BK310.out 3 rfl; have hfz30_0 := zd BK310.out 0; have hfz30_1 := zd BK310.out 1; have hfz30_2 := zd BK310.out 2; have hfz30_3 := zd BK310.out 3) | ((with_reducible refine zo (f := 28) rfl ?_); refine zx (some 14) rfl rfl Try.func28 (by kernel_rfl) rfl #[.agg #[.int .i8 a0_0, .int .i8 a0_1, .bool a0_2, .bool a0_3], .slice A1 l1.length c1] rfl (by (try simp only [List.map_toArray, List.map_cons, List.map_nil]); first | done | rfl | (simp only [List.length_drop, List.length_take]; rfl)) ?_; (with_reducible refine (impl_ValidPlan.calls k a0_0 a0_1 a0_2 a0_3 _ _ l1 false _ ?side1 ?side2 A3.out).mono ?_); (case side1 => repeat (first | exact (Kd.C_below HR1.out HB.out) | (with_reducible refine Kd.C_alloc ?_ _) | (with_reducible refine Kd.C_drewN ?_ _) | (with_reducible refine Kd.C_drew ?_))); (case side2 => exact HC1.out); rintro e w31 ⟨rfl, hb⟩; refine ⟨_, rfl, ?_⟩; have n0_ := ze.mk (zl (g := gb310) (o := .cells #[.int .i8 a0_0, .int .i8 a0_1, .bool a0_2, .bool a0_3] 29 (0, 0)) (by (with_reducible repeat (first | refine zh ?_ _ | refine zi ?_ | refine zg ?_ _)); exact BK310.out) hb); have n1_ := ze.mk (zk (by repeat (first | (with_reducible first | exact HB.out | apply zc | apply za | apply zb | refine zf ?_ GE310.out) | exact HB.out)) hb); clear BK310; clear HB; have BK310 := n0_; have HB := n1_; clear n0_ n1_; (try clear hb); (try clear hb2); (try clear hk); (try clear hi)))
  go_ret3
  exact ⟨by first | rfl | (simp [errW_none, errW_some] <;> rfl) | (simp [*, errW_none, errW_some] <;> rfl), by repeat (first | (with_reducible first | exact HB.out | apply zc | apply za | apply zb | refine zf ?_ GE310.out) | exact HB.out)⟩

end Go.Proofs.Ytmmonhpjjjdnjaa.M
