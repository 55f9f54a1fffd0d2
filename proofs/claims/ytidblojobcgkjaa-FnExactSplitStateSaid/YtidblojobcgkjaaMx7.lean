-- Written by wip/tools/myprint.py, a program of this session, by way of the kit's print.
import Derived.Test.YtidblojobcgkjaaMx0
namespace Go.Proofs.Ytidblojobcgkjaa.M
open Go.RowKit Go.Proofs.YtidblojobcgkjaaW.PrintWords Go.Proofs.YtidblojobcgkjaaW.PrintLast Go.Proofs.YtidblojobcgkjaaW.PrintMore
attribute [local go_sem] wl_0 wl_1 wl_2 wl_3 wl_4 max2_int min2_int max_two min_two zpa zoa max_four min_four   -- for this text's walks alone
set_option linter.unusedVariables false
set_option linter.unusedSimpArgs false

/-! ### impl_State_split: function 19 -/
def impl_State_split.l0 : Nat → Int → Int → Int → Int → Int → Int → Int → Int → Int → Int → Int → Int → Int → Int → Int → Int → Int → Int → Option (Int × Int × Int × Int × Int × Int × Int × Int)
 | 0, _, _, _, _, _, _, _, _, _, _, _, _, _, _, _, _, _, _ => none
 | k + 1, x14, x15, x159000, x159001, x159002, x159003, x160000, x160001, x160002, x160003, x163000, x163001, x163002, x163003, x164000, x164001, x164002, x164003 => if x15 < x14 then (if x15 = 0 then (impl_State_split.l0 k x14 (0 + 1) x159000 x159001 x159002 x159003 x160000 x160001 x160002 x160003 x160000 x163001 x163002 x163003 (wrap64 (x159000 - x160000)) x164001 x164002 x164003) else (if x15 = 1 then (impl_State_split.l0 k x14 (1 + 1) x159000 x159001 x159002 x159003 x160000 x160001 x160002 x160003 x163000 (wrap64 (x160001 + (wrap64 (x159000 - x160000)))) x163002 x163003 x164000 (wrap64 ((wrap64 (x159001 - x160001)) + x160000)) x164002 x164003) else (if x15 = 2 then (impl_State_split.l0 k x14 (2 + 1) x159000 x159001 x159002 x159003 x160000 x160001 x160002 x160003 x163000 x163001 (wrap64 (x160002 + (wrap64 (x159001 - x160001)))) x163003 x164000 x164001 (wrap64 ((wrap64 (x159002 - x160002)) + x160001)) x164003) else (if x15 = 3 then (impl_State_split.l0 k x14 (3 + 1) x159000 x159001 x159002 x159003 x160000 x160001 x160002 x160003 x163000 x163001 x163002 (wrap64 (x160003 + (wrap64 (x159002 - x160002)))) x164000 x164001 x164002 (wrap64 ((wrap64 (x159003 - x160003)) + x160002))) else (none))))) else (some (x163000, x163001, x163002, x163003, x164000, x164001, x164002, x164003))
def impl_State_split.f (k : Nat) (a0_0 : Int) (a0_1 : Int) (a0_2 : Int) (a0_3 : Int) (a1 : Int) (a2_0 : Int) (a2_1 : Int) (a2_2 : Int) (a2_3 : Int) : Option (Int × Int × Int × Int × Int × Int × Int × Int) := impl_State_split.l0 k (wrap64 (a1 + 1)) 0 a0_0 a0_1 a0_2 a0_3 a2_0 a2_1 a2_2 a2_3 0 0 0 0 0 0 0 0
theorem impl_State_split.mono_l : ∀ k, (∀ y0 y1 y2 y3 y4 y5 y6 y7 y8 y9 y10 y11 y12 y13 y14 y15 y16 y17, LeO (impl_State_split.l0 k y0 y1 y2 y3 y4 y5 y6 y7 y8 y9 y10 y11 y12 y13 y14 y15 y16 y17) (impl_State_split.l0 (k + 1) y0 y1 y2 y3 y4 y5 y6 y7 y8 y9 y10 y11 y12 y13 y14 y15 y16 y17))
 | 0 => fun _ _ _ _ _ _ _ _ _ _ _ _ _ _ _ _ _ _ r h => by simp [impl_State_split.l0] at h
 | k + 1 => by
  have ih0 := impl_State_split.mono_l k
  ·intro y0 y1 y2 y3 y4 y5 y6 y7 y8 y9 y10 y11 y12 y13 y14 y15 y16 y17
   unfold impl_State_split.l0
   repeat' first
   | (with_reducible exact ih0 _ _ _ _ _ _ _ _ _ _ _ _ _ _ _ _ _ _)
   | (with_reducible exact LeO.refl _)
   | (with_reducible exact LeO.none _)
   | (with_reducible refine LeO.ite ?_ ?_)
   | (with_reducible refine LeO.bind ?_ (fun _ => ?_))
   | exact ih0 _ _ _ _ _ _ _ _ _ _ _ _ _ _ _ _ _ _
   | exact LeO.none _
   | refine LeO.ite ?_ ?_
   | refine LeO.bind ?_ (fun _ => ?_)
theorem impl_State_split.mono : ∀ a0 a1 a2 a3 a4 a5 a6 a7 a8 k, LeO (impl_State_split.f k a0 a1 a2 a3 a4 a5 a6 a7 a8) (impl_State_split.f (k + 1) a0 a1 a2 a3 a4 a5 a6 a7 a8) := by
 intro a0 a1 a2 a3 a4 a5 a6 a7 a8 k
 have ih0 := impl_State_split.mono_l k
 unfold impl_State_split.f
 repeat' first
   | (with_reducible exact ih0 _ _ _ _ _ _ _ _ _ _ _ _ _ _ _ _ _ _)
   | (with_reducible exact LeO.refl _)
   | (with_reducible exact LeO.none _)
   | (with_reducible refine LeO.ite ?_ ?_)
   | (with_reducible refine LeO.bind ?_ (fun _ => ?_))
   | exact ih0 _ _ _ _ _ _ _ _ _ _ _ _ _ _ _ _ _ _
   | exact LeO.none _
   | refine LeO.ite ?_ ?_
   | refine LeO.bind ?_ (fun _ => ?_)
def impl_State_split.T5 : Bool × List (List Nat × List Nat) := (true, [([], []), ([], []), ([], []), ([2], [2]), ([3], [3]), ([], []), ([5], [5]), ([6], [6]), ([], []), ([8], [8]), ([9], [9]), ([7, 10], [7, 10]), ([0, 0, 2, 3, 4], [0]), ([12, 4, 0, 2, 3, 4], [4, 12]), ([1, 0, 1, 2, 3, 4, 5, 6, 7, 8, 9, 10, 11, 12, 13], [1]), ([14, 11, 13, 0, 1, 2, 3, 4, 5, 6, 7, 8, 9, 10, 11, 12, 13], [11, 14])])
def impl_State_split.B5 : List Nat := [0, 0, 0, 4, 12, 0, 32, 96, 0, 256, 768, 2016, 29, 4125, 16383, 32767]
theorem impl_State_split.tab5 : rtab .any (opsOf Try.f19 5) = impl_State_split.T5 := by kernel_rfl
theorem impl_State_split.bits5 : waitsOk impl_State_split.T5.2 impl_State_split.B5 = true := by kernel_rfl
def impl_State_split.T7 : Bool × List (List Nat × List Nat) := (true, [([], []), ([0], [0]), ([1], [1]), ([], []), ([3], [3]), ([4], [4]), ([5], [5]), ([], []), ([7], [7]), ([8], [8]), ([9], [9]), ([6, 10], [6, 10]), ([2, 11], [2, 11]), ([0, 0, 1, 2, 3, 4, 5, 6, 7, 8, 9, 10, 11, 12], [0]), ([13, 12, 0, 1, 2, 3, 4, 5, 6, 7, 8, 9, 10, 11, 12], [12, 13])])
def impl_State_split.B7 : List Nat := [0, 1, 3, 0, 8, 24, 56, 0, 128, 384, 896, 2040, 4095, 8191, 16383]
theorem impl_State_split.tab7 : rtab .any (opsOf Try.f19 7) = impl_State_split.T7 := by kernel_rfl
theorem impl_State_split.bits7 : waitsOk impl_State_split.T7.2 impl_State_split.B7 = true := by kernel_rfl
def impl_State_split.T8 : Bool × List (List Nat × List Nat) := (true, [([], []), ([0], [0]), ([1], [1]), ([], []), ([3], [3]), ([4], [4]), ([5], [5]), ([2, 6], [2, 6]), ([0, 0, 1, 2, 3, 4, 5, 6, 7], [0]), ([8, 7, 0, 1, 2, 3, 4, 5, 6, 7], [7, 8])])
def impl_State_split.B8 : List Nat := [0, 1, 3, 0, 8, 24, 56, 127, 255, 511]
theorem impl_State_split.tab8 : rtab .any (opsOf Try.f19 8) = impl_State_split.T8 := by kernel_rfl
theorem impl_State_split.bits8 : waitsOk impl_State_split.T8.2 impl_State_split.B8 = true := by kernel_rfl
set_option maxHeartbeats 8000000 in
set_option maxRecDepth 100000 in
theorem impl_State_split.calls (k : Nat) (a0_0 : Int) (a0_1 : Int) (a0_2 : Int) (a0_3 : Int) (a1 : Int) (a2_0 : Int) (a2_1 : Int) (a2_2 : Int) (a2_3 : Int) (r1 : Int) (r2 : Int) (r3 : Int) (r4 : Int) (r5 : Int) (r6 : Int) (r7 : Int) (r8 : Int) (w : World) (h : impl_State_split.f k a0_0 a0_1 a0_2 a0_3 a1 a2_0 a2_1 a2_2 a2_3 = some (r1, r2, r3, r4, r5, r6, r7, r8)) :
  Calls Try.prog 19 #[.agg #[.int .i64 a0_0, .int .i64 a0_1, .int .i64 a0_2, .int .i64 a0_3], .int .i64 a1, .agg #[.int .i64 a2_0, .int .i64 a2_1, .int .i64 a2_2, .int .i64 a2_3]] w fun e w' => e = .returned (.tuple #[.agg #[.int .i64 r1, .int .i64 r2, .int .i64 r3, .int .i64 r4], .agg #[.int .i64 r5, .int .i64 r6, .int .i64 r7, .int .i64 r8]]) ∧ Below w.heap.size w w' := by
 have hu23 := Try.underlying23
 have HB := zh.mk (Below.refl w.heap.size w)
 have H : (impl_State_split.l0 k (wrap64 (a1 + 1)) 0 a0_0 a0_1 a0_2 a0_3 a2_0 a2_1 a2_2 a2_3 0 0 0 0 0 0 0 0) = some (r1, r2, r3, r4, r5, r6, r7, r8) := h
 clear h
 have H' := zh.mk H
 clear H
 go_enter Try.func19, Try.ntmps19
 go_wp2_with (first | ((with_reducible refine zba (N := 3) rfl ?_); refine zaa ?hg (N := 3) ?hd (cs := #[.int .i64 a0_0, .int .i64 a0_1, .int .i64 a0_2, .int .i64 a0_3]) (t := 23) ?hr ?_; (case hd => rfl); (case hg => rfl); (case hr => first | (go_simp; done) | (go_simp; rfl)); intro gb158 hg w4 hbox hb; have n0_ := zh.mk (zs (by repeat (first | (with_reducible first | exact HB.out | apply zl | apply zj | apply zk) | exact HB.out)) hb); have n1_ := zh.mk (hbox); have n2_ := zh.mk ((by rw [hg]; exact (zq (by repeat (first | (with_reducible first | exact HB.out | apply zl | apply zj | apply zk) | exact HB.out))) : w.heap.size ≤ gb158)); have n3_ := zh.mk ((by rw [hg]; exact (zq (by repeat (first | (with_reducible first | exact HB.out | apply zl | apply zj | apply zk) | exact HB.out))) : w.heap.size ≤ gb158)); clear HB; have HB := n0_; have BK158 := n1_; have GW158 := n2_; have GE158 := n3_; clear n0_ n1_ n2_ n3_; clear hb hbox hg) | ((with_reducible refine zba (N := 5) rfl ?_); refine zaa ?hg (N := 5) ?hd (cs := #[.int .i64 a2_0, .int .i64 a2_1, .int .i64 a2_2, .int .i64 a2_3]) (t := 23) ?hr ?_; (case hd => rfl); (case hg => rfl); (case hr => first | (go_simp; done) | (go_simp; rfl)); intro gb159 hg w5 hbox hb; have n0_ := zh.mk (zo (g := gb158) (o := .cells #[.int .i64 a0_0, .int .i64 a0_1, .int .i64 a0_2, .int .i64 a0_3] 23 (0, 0)) (by (with_reducible repeat (first | refine ze ?_ _ | refine zf ?_ | refine za ?_ _)); exact BK158.out) hb); have n1_ := zh.mk (zs (by repeat (first | (with_reducible first | exact HB.out | apply zl | apply zj | apply zk | refine zg ?_ GE158.out) | exact HB.out)) hb); have n2_ := zh.mk (hbox); have n3_ := zh.mk ((by rw [hg]; exact (zq (by repeat (first | (with_reducible first | exact HB.out | apply zl | apply zj | apply zk | refine zg ?_ GE158.out) | exact HB.out))) : w.heap.size ≤ gb159)); have n4_ := zh.mk ((by rw [hg]; exact (zq (by repeat (first | (with_reducible first | exact HB.out | apply zl | apply zj | apply zk | refine zg ?_ GE158.out) | exact HB.out))) : w.heap.size ≤ gb159)); have n5_ := zh.mk ((by rw [hg]; exact Nat.ne_of_lt (zr (g := gb158) (o := .cells #[.int .i64 a0_0, .int .i64 a0_1, .int .i64 a0_2, .int .i64 a0_3] 23 (0, 0)) (by (with_reducible repeat (first | refine ze ?_ _ | refine zf ?_ | refine za ?_ _)); exact BK158.out)) : gb158 ≠ gb159)); have n6_ := zh.mk ((by rw [hg]; exact Nat.ne_of_gt (zr (g := gb158) (o := .cells #[.int .i64 a0_0, .int .i64 a0_1, .int .i64 a0_2, .int .i64 a0_3] 23 (0, 0)) (by (with_reducible repeat (first | refine ze ?_ _ | refine zf ?_ | refine za ?_ _)); exact BK158.out)) : gb159 ≠ gb158)); clear BK158; clear HB; have BK158 := n0_; have HB := n1_; have BK159 := n2_; have GW159 := n3_; have GE159 := n4_; have NB158_159 := n5_; have NB159_158 := n6_; clear n0_ n1_ n2_ n3_ n4_ n5_ n6_; clear hb hbox hg) | ((with_reducible refine zba (N := 6) rfl ?_); refine zaa ?hg (N := 6) ?hd (cs := #[.int .i64 0, .int .i64 0, .int .i64 0, .int .i64 0]) (t := 23) ?hr ?_; (case hd => rfl); (case hg => rfl); (case hr => first | (go_simp; done) | (go_simp; rfl)); intro gb160 hg w6 hbox hb; have n0_ := zh.mk (zo (g := gb158) (o := .cells #[.int .i64 a0_0, .int .i64 a0_1, .int .i64 a0_2, .int .i64 a0_3] 23 (0, 0)) (by (with_reducible repeat (first | refine ze ?_ _ | refine zf ?_ | refine za ?_ _)); exact BK158.out) hb); have n1_ := zh.mk (zo (g := gb159) (o := .cells #[.int .i64 a2_0, .int .i64 a2_1, .int .i64 a2_2, .int .i64 a2_3] 23 (0, 0)) (by (with_reducible repeat (first | refine ze ?_ _ | refine zf ?_ | refine za ?_ _)); exact BK159.out) hb); have n2_ := zh.mk (zs (by repeat (first | (with_reducible first | exact HB.out | apply zl | apply zj | apply zk | refine zg ?_ GE158.out | refine zg ?_ GE159.out) | exact HB.out)) hb); have n3_ := zh.mk (hbox); have n4_ := zh.mk ((by rw [hg]; exact (zq (by repeat (first | (with_reducible first | exact HB.out | apply zl | apply zj | apply zk | refine zg ?_ GE158.out | refine zg ?_ GE159.out) | exact HB.out))) : w.heap.size ≤ gb160)); have n5_ := zh.mk ((by rw [hg]; exact (zq (by repeat (first | (with_reducible first | exact HB.out | apply zl | apply zj | apply zk | refine zg ?_ GE158.out | refine zg ?_ GE159.out) | exact HB.out))) : w.heap.size ≤ gb160)); have n6_ := zh.mk ((by rw [hg]; exact Nat.ne_of_lt (zr (g := gb158) (o := .cells #[.int .i64 a0_0, .int .i64 a0_1, .int .i64 a0_2, .int .i64 a0_3] 23 (0, 0)) (by (with_reducible repeat (first | refine ze ?_ _ | refine zf ?_ | refine za ?_ _)); exact BK158.out)) : gb158 ≠ gb160)); have n7_ := zh.mk ((by rw [hg]; exact Nat.ne_of_gt (zr (g := gb158) (o := .cells #[.int .i64 a0_0, .int .i64 a0_1, .int .i64 a0_2, .int .i64 a0_3] 23 (0, 0)) (by (with_reducible repeat (first | refine ze ?_ _ | refine zf ?_ | refine za ?_ _)); exact BK158.out)) : gb160 ≠ gb158)); have n8_ := zh.mk ((by rw [hg]; exact Nat.ne_of_lt (zr (g := gb159) (o := .cells #[.int .i64 a2_0, .int .i64 a2_1, .int .i64 a2_2, .int .i64 a2_3] 23 (0, 0)) (by (with_reducible repeat (first | refine ze ?_ _ | refine zf ?_ | refine za ?_ _)); exact BK159.out)) : gb159 ≠ gb160)); have n9_ := zh.mk ((by rw [hg]; exact Nat.ne_of_gt (zr (g := gb159) (o := .cells #[.int .i64 a2_0, .int .i64 a2_1, .int .i64 a2_2, .int .i64 a2_3] 23 (0, 0)) (by (with_reducible repeat (first | refine ze ?_ _ | refine zf ?_ | refine za ?_ _)); exact BK159.out)) : gb160 ≠ gb159)); clear BK158; clear BK159; clear HB; have BK158 := n0_; have BK159 := n1_; have HB := n2_; have BK160 := n3_; have GW160 := n4_; have GE160 := n5_; have NB158_160 := n6_; have NB160_158 := n7_; have NB159_160 := n8_; have NB160_159 := n9_; clear n0_ n1_ n2_ n3_ n4_ n5_ n6_ n7_ n8_ n9_; clear hb hbox hg) | ((with_reducible refine zba (N := 7) rfl ?_); refine zaa ?hg (N := 7) ?hd (cs := #[.int .i64 0, .int .i64 0, .int .i64 0, .int .i64 0]) (t := 23) ?hr ?_; (case hd => rfl); (case hg => rfl); (case hr => first | (go_simp; done) | (go_simp; rfl)); intro gb161 hg w7 hbox hb; have n0_ := zh.mk (zo (g := gb158) (o := .cells #[.int .i64 a0_0, .int .i64 a0_1, .int .i64 a0_2, .int .i64 a0_3] 23 (0, 0)) (by (with_reducible repeat (first | refine ze ?_ _ | refine zf ?_ | refine za ?_ _)); exact BK158.out) hb); have n1_ := zh.mk (zo (g := gb159) (o := .cells #[.int .i64 a2_0, .int .i64 a2_1, .int .i64 a2_2, .int .i64 a2_3] 23 (0, 0)) (by (with_reducible repeat (first | refine ze ?_ _ | refine zf ?_ | refine za ?_ _)); exact BK159.out) hb); have n2_ := zh.mk (zo (g := gb160) (o := .cells #[.int .i64 0, .int .i64 0, .int .i64 0, .int .i64 0] 23 (0, 0)) (by (with_reducible repeat (first | refine ze ?_ _ | refine zf ?_ | refine za ?_ _)); exact BK160.out) hb); have n3_ := zh.mk (zs (by repeat (first | (with_reducible first | exact HB.out | apply zl | apply zj | apply zk | refine zg ?_ GE158.out | refine zg ?_ GE159.out | refine zg ?_ GE160.out) | exact HB.out)) hb); have n4_ := zh.mk (hbox); have n5_ := zh.mk ((by rw [hg]; exact (zq (by repeat (first | (with_reducible first | exact HB.out | apply zl | apply zj | apply zk | refine zg ?_ GE158.out | refine zg ?_ GE159.out | refine zg ?_ GE160.out) | exact HB.out))) : w.heap.size ≤ gb161)); have n6_ := zh.mk ((by rw [hg]; exact (zq (by repeat (first | (with_reducible first | exact HB.out | apply zl | apply zj | apply zk | refine zg ?_ GE158.out | refine zg ?_ GE159.out | refine zg ?_ GE160.out) | exact HB.out))) : w.heap.size ≤ gb161)); have n7_ := zh.mk ((by rw [hg]; exact Nat.ne_of_lt (zr (g := gb158) (o := .cells #[.int .i64 a0_0, .int .i64 a0_1, .int .i64 a0_2, .int .i64 a0_3] 23 (0, 0)) (by (with_reducible repeat (first | refine ze ?_ _ | refine zf ?_ | refine za ?_ _)); exact BK158.out)) : gb158 ≠ gb161)); have n8_ := zh.mk ((by rw [hg]; exact Nat.ne_of_gt (zr (g := gb158) (o := .cells #[.int .i64 a0_0, .int .i64 a0_1, .int .i64 a0_2, .int .i64 a0_3] 23 (0, 0)) (by (with_reducible repeat (first | refine ze ?_ _ | refine zf ?_ | refine za ?_ _)); exact BK158.out)) : gb161 ≠ gb158)); have n9_ := zh.mk ((by rw [hg]; exact Nat.ne_of_lt (zr (g := gb159) (o := .cells #[.int .i64 a2_0, .int .i64 a2_1, .int .i64 a2_2, .int .i64 a2_3] 23 (0, 0)) (by (with_reducible repeat (first | refine ze ?_ _ | refine zf ?_ | refine za ?_ _)); exact BK159.out)) : gb159 ≠ gb161)); have n10_ := zh.mk ((by rw [hg]; exact Nat.ne_of_gt (zr (g := gb159) (o := .cells #[.int .i64 a2_0, .int .i64 a2_1, .int .i64 a2_2, .int .i64 a2_3] 23 (0, 0)) (by (with_reducible repeat (first | refine ze ?_ _ | refine zf ?_ | refine za ?_ _)); exact BK159.out)) : gb161 ≠ gb159)); have n11_ := zh.mk ((by rw [hg]; exact Nat.ne_of_lt (zr (g := gb160) (o := .cells #[.int .i64 0, .int .i64 0, .int .i64 0, .int .i64 0] 23 (0, 0)) (by (with_reducible repeat (first | refine ze ?_ _ | refine zf ?_ | refine za ?_ _)); exact BK160.out)) : gb160 ≠ gb161)); have n12_ := zh.mk ((by rw [hg]; exact Nat.ne_of_gt (zr (g := gb160) (o := .cells #[.int .i64 0, .int .i64 0, .int .i64 0, .int .i64 0] 23 (0, 0)) (by (with_reducible repeat (first | refine ze ?_ _ | refine zf ?_ | refine za ?_ _)); exact BK160.out)) : gb161 ≠ gb160)); clear BK158; clear BK159; clear BK160; clear HB; have BK158 := n0_; have BK159 := n1_; have BK160 := n2_; have HB := n3_; have BK161 := n4_; have GW161 := n5_; have GE161 := n6_; have NB158_161 := n7_; have NB161_158 := n8_; have NB159_161 := n9_; have NB161_159 := n10_; have NB160_161 := n11_; have NB161_160 := n12_; clear n0_ n1_ n2_ n3_ n4_ n5_ n6_ n7_ n8_ n9_ n10_ n11_ n12_; clear hb hbox hg) | ((with_reducible refine zba (N := 8) rfl ?_); refine zaa ?hg (N := 8) ?hd (cs := #[.int .i64 0, .int .i64 0, .int .i64 0, .int .i64 0]) (t := 23) ?hr ?_; (case hd => rfl); (case hg => rfl); (case hr => first | (go_simp; done) | (go_simp; rfl)); intro gb162 hg w8 hbox hb; have n0_ := zh.mk (zo (g := gb158) (o := .cells #[.int .i64 a0_0, .int .i64 a0_1, .int .i64 a0_2, .int .i64 a0_3] 23 (0, 0)) (by (with_reducible repeat (first | refine ze ?_ _ | refine zf ?_ | refine za ?_ _)); exact BK158.out) hb); have n1_ := zh.mk (zo (g := gb159) (o := .cells #[.int .i64 a2_0, .int .i64 a2_1, .int .i64 a2_2, .int .i64 a2_3] 23 (0, 0)) (by (with_reducible repeat (first | refine ze ?_ _ | refine zf ?_ | refine za ?_ _)); exact BK159.out) hb); have n2_ := zh.mk (zo (g := gb160) (o := .cells #[.int .i64 0, .int .i64 0, .int .i64 0, .int .i64 0] 23 (0, 0)) (by (with_reducible repeat (first | refine ze ?_ _ | refine zf ?_ | refine za ?_ _)); exact BK160.out) hb); have n3_ := zh.mk (zo (g := gb161) (o := .cells #[.int .i64 0, .int .i64 0, .int .i64 0, .int .i64 0] 23 (0, 0)) (by (with_reducible repeat (first | refine ze ?_ _ | refine zf ?_ | refine za ?_ _)); exact BK161.out) hb); have n4_ := zh.mk (zs (by repeat (first | (with_reducible first | exact HB.out | apply zl | apply zj | apply zk | refine zg ?_ GE158.out | refine zg ?_ GE159.out | refine zg ?_ GE160.out | refine zg ?_ GE161.out) | exact HB.out)) hb); have n5_ := zh.mk (hbox); have n6_ := zh.mk ((by rw [hg]; exact (zq (by repeat (first | (with_reducible first | exact HB.out | apply zl | apply zj | apply zk | refine zg ?_ GE158.out | refine zg ?_ GE159.out | refine zg ?_ GE160.out | refine zg ?_ GE161.out) | exact HB.out))) : w.heap.size ≤ gb162)); have n7_ := zh.mk ((by rw [hg]; exact (zq (by repeat (first | (with_reducible first | exact HB.out | apply zl | apply zj | apply zk | refine zg ?_ GE158.out | refine zg ?_ GE159.out | refine zg ?_ GE160.out | refine zg ?_ GE161.out) | exact HB.out))) : w.heap.size ≤ gb162)); have n8_ := zh.mk ((by rw [hg]; exact Nat.ne_of_lt (zr (g := gb158) (o := .cells #[.int .i64 a0_0, .int .i64 a0_1, .int .i64 a0_2, .int .i64 a0_3] 23 (0, 0)) (by (with_reducible repeat (first | refine ze ?_ _ | refine zf ?_ | refine za ?_ _)); exact BK158.out)) : gb158 ≠ gb162)); have n9_ := zh.mk ((by rw [hg]; exact Nat.ne_of_gt (zr (g := gb158) (o := .cells #[.int .i64 a0_0, .int .i64 a0_1, .int .i64 a0_2, .int .i64 a0_3] 23 (0, 0)) (by (with_reducible repeat (first | refine ze ?_ _ | refine zf ?_ | refine za ?_ _)); exact BK158.out)) : gb162 ≠ gb158)); have n10_ := zh.mk ((by rw [hg]; exact Nat.ne_of_lt (zr (g := gb159) (o := .cells #[.int .i64 a2_0, .int .i64 a2_1, .int .i64 a2_2, .int .i64 a2_3] 23 (0, 0)) (by (with_reducible repeat (first | refine ze ?_ _ | refine zf ?_ | refine za ?_ _)); exact BK159.out)) : gb159 ≠ gb162)); have n11_ := zh.mk ((by rw [hg]; exact Nat.ne_of_gt (zr (g := gb159) (o := .cells #[.int .i64 a2_0, .int .i64 a2_1, .int .i64 a2_2, .int .i64 a2_3] 23 (0, 0)) (by (with_reducible repeat (first | refine ze ?_ _ | refine zf ?_ | refine za ?_ _)); exact BK159.out)) : gb162 ≠ gb159)); have n12_ := zh.mk ((by rw [hg]; exact Nat.ne_of_lt (zr (g := gb160) (o := .cells #[.int .i64 0, .int .i64 0, .int .i64 0, .int .i64 0] 23 (0, 0)) (by (with_reducible repeat (first | refine ze ?_ _ | refine zf ?_ | refine za ?_ _)); exact BK160.out)) : gb160 ≠ gb162)); have n13_ := zh.mk ((by rw [hg]; exact Nat.ne_of_gt (zr (g := gb160) (o := .cells #[.int .i64 0, .int .i64 0, .int .i64 0, .int .i64 0] 23 (0, 0)) (by (with_reducible repeat (first | refine ze ?_ _ | refine zf ?_ | refine za ?_ _)); exact BK160.out)) : gb162 ≠ gb160)); have n14_ := zh.mk ((by rw [hg]; exact Nat.ne_of_lt (zr (g := gb161) (o := .cells #[.int .i64 0, .int .i64 0, .int .i64 0, .int .i64 0] 23 (0, 0)) (by (with_reducible repeat (first | refine ze ?_ _ | refine zf ?_ | refine za ?_ _)); exact BK161.out)) : gb161 ≠ gb162)); have n15_ := zh.mk ((by rw [hg]; exact Nat.ne_of_gt (zr (g := gb161) (o := .cells #[.int .i64 0, .int .i64 0, .int .i64 0, .int .i64 0] 23 (0, 0)) (by (with_reducible repeat (first | refine ze ?_ _ | refine zf ?_ | refine za ?_ _)); exact BK161.out)) : gb162 ≠ gb161)); clear BK158; clear BK159; clear BK160; clear BK161; clear HB; have BK158 := n0_; have BK159 := n1_; have BK160 := n2_; have BK161 := n3_; have HB := n4_; have BK162 := n5_; have GW162 := n6_; have GE162 := n7_; have NB158_162 := n8_; have NB162_158 := n9_; have NB159_162 := n10_; have NB162_159 := n11_; have NB160_162 := n12_; have NB162_160 := n13_; have NB161_162 := n14_; have NB162_161 := n15_; clear n0_ n1_ n2_ n3_ n4_ n5_ n6_ n7_ n8_ n9_ n10_ n11_ n12_ n13_ n14_ n15_; clear hb hbox hg) | ((with_reducible refine zba (N := 9) rfl ?_); refine zaa ?hg (N := 9) ?hd (cs := #[.int .i64 0, .int .i64 0, .int .i64 0, .int .i64 0]) (t := 23) ?hr ?_; (case hd => rfl); (case hg => rfl); (case hr => first | (go_simp; done) | (go_simp; rfl)); intro gb163 hg w9 hbox hb; have n0_ := zh.mk (zo (g := gb158) (o := .cells #[.int .i64 a0_0, .int .i64 a0_1, .int .i64 a0_2, .int .i64 a0_3] 23 (0, 0)) (by (with_reducible repeat (first | refine ze ?_ _ | refine zf ?_ | refine za ?_ _)); exact BK158.out) hb); have n1_ := zh.mk (zo (g := gb159) (o := .cells #[.int .i64 a2_0, .int .i64 a2_1, .int .i64 a2_2, .int .i64 a2_3] 23 (0, 0)) (by (with_reducible repeat (first | refine ze ?_ _ | refine zf ?_ | refine za ?_ _)); exact BK159.out) hb); have n2_ := zh.mk (zo (g := gb160) (o := .cells #[.int .i64 0, .int .i64 0, .int .i64 0, .int .i64 0] 23 (0, 0)) (by (with_reducible repeat (first | refine ze ?_ _ | refine zf ?_ | refine za ?_ _)); exact BK160.out) hb); have n3_ := zh.mk (zo (g := gb161) (o := .cells #[.int .i64 0, .int .i64 0, .int .i64 0, .int .i64 0] 23 (0, 0)) (by (with_reducible repeat (first | refine ze ?_ _ | refine zf ?_ | refine za ?_ _)); exact BK161.out) hb); have n4_ := zh.mk (zo (g := gb162) (o := .cells #[.int .i64 0, .int .i64 0, .int .i64 0, .int .i64 0] 23 (0, 0)) (by (with_reducible repeat (first | refine ze ?_ _ | refine zf ?_ | refine za ?_ _)); exact BK162.out) hb); have n5_ := zh.mk (zs (by repeat (first | (with_reducible first | exact HB.out | apply zl | apply zj | apply zk | refine zg ?_ GE158.out | refine zg ?_ GE159.out | refine zg ?_ GE160.out | refine zg ?_ GE161.out | refine zg ?_ GE162.out) | exact HB.out)) hb); have n6_ := zh.mk (hbox); have n7_ := zh.mk ((by rw [hg]; exact (zq (by repeat (first | (with_reducible first | exact HB.out | apply zl | apply zj | apply zk | refine zg ?_ GE158.out | refine zg ?_ GE159.out | refine zg ?_ GE160.out | refine zg ?_ GE161.out | refine zg ?_ GE162.out) | exact HB.out))) : w.heap.size ≤ gb163)); have n8_ := zh.mk ((by rw [hg]; exact (zq (by repeat (first | (with_reducible first | exact HB.out | apply zl | apply zj | apply zk | refine zg ?_ GE158.out | refine zg ?_ GE159.out | refine zg ?_ GE160.out | refine zg ?_ GE161.out | refine zg ?_ GE162.out) | exact HB.out))) : w.heap.size ≤ gb163)); have n9_ := zh.mk ((by rw [hg]; exact Nat.ne_of_lt (zr (g := gb158) (o := .cells #[.int .i64 a0_0, .int .i64 a0_1, .int .i64 a0_2, .int .i64 a0_3] 23 (0, 0)) (by (with_reducible repeat (first | refine ze ?_ _ | refine zf ?_ | refine za ?_ _)); exact BK158.out)) : gb158 ≠ gb163)); have n10_ := zh.mk ((by rw [hg]; exact Nat.ne_of_gt (zr (g := gb158) (o := .cells #[.int .i64 a0_0, .int .i64 a0_1, .int .i64 a0_2, .int .i64 a0_3] 23 (0, 0)) (by (with_reducible repeat (first | refine ze ?_ _ | refine zf ?_ | refine za ?_ _)); exact BK158.out)) : gb163 ≠ gb158)); have n11_ := zh.mk ((by rw [hg]; exact Nat.ne_of_lt (zr (g := gb159) (o := .cells #[.int .i64 a2_0, .int .i64 a2_1, .int .i64 a2_2, .int .i64 a2_3] 23 (0, 0)) (by (with_reducible repeat (first | refine ze ?_ _ | refine zf ?_ | refine za ?_ _)); exact BK159.out)) : gb159 ≠ gb163)); have n12_ := zh.mk ((by rw [hg]; exact Nat.ne_of_gt (zr (g := gb159) (o := .cells #[.int .i64 a2_0, .int .i64 a2_1, .int .i64 a2_2, .int .i64 a2_3] 23 (0, 0)) (by (with_reducible repeat (first | refine ze ?_ _ | refine zf ?_ | refine za ?_ _)); exact BK159.out)) : gb163 ≠ gb159)); have n13_ := zh.mk ((by rw [hg]; exact Nat.ne_of_lt (zr (g := gb160) (o := .cells #[.int .i64 0, .int .i64 0, .int .i64 0, .int .i64 0] 23 (0, 0)) (by (with_reducible repeat (first | refine ze ?_ _ | refine zf ?_ | refine za ?_ _)); exact BK160.out)) : gb160 ≠ gb163)); have n14_ := zh.mk ((by rw [hg]; exact Nat.ne_of_gt (zr (g := gb160) (o := .cells #[.int .i64 0, .int .i64 0, .int .i64 0, .int .i64 0] 23 (0, 0)) (by (with_reducible repeat (first | refine ze ?_ _ | refine zf ?_ | refine za ?_ _)); exact BK160.out)) : gb163 ≠ gb160)); have n15_ := zh.mk ((by rw [hg]; exact Nat.ne_of_lt (zr (g := gb161) (o := .cells #[.int .i64 0, .int .i64 0, .int .i64 0, .int .i64 0] 23 (0, 0)) (by (with_reducible repeat (first | refine ze ?_ _ | refine zf ?_ | refine za ?_ _)); exact BK161.out)) : gb161 ≠ gb163)); have n16_ := zh.mk ((by rw [hg]; exact Nat.ne_of_gt (zr (g := gb161) (o := .cells #[.int .i64 0, .int .i64 0, .int .i64 0, .int .i64 0] 23 (0, 0)) (by (with_reducible repeat (first | refine ze ?_ _ | refine zf ?_ | refine za ?_ _)); exact BK161.out)) : gb163 ≠ gb161)); have n17_ := zh.mk ((by rw [hg]; exact Nat.ne_of_lt (zr (g := gb162) (o := .cells #[.int .i64 0, .int .i64 0, .int .i64 0, .int .i64 0] 23 (0, 0)) (by (with_reducible repeat (first | refine ze ?_ _ | refine zf ?_ | refine za ?_ _)); exact BK162.out)) : gb162 ≠ gb163)); have n18_ := zh.mk ((by rw [hg]; exact Nat.ne_of_gt (zr (g := gb162) (o := .cells #[.int .i64 0, .int .i64 0, .int .i64 0, .int .i64 0] 23 (0, 0)) (by (with_reducible repeat (first | refine ze ?_ _ | refine zf ?_ | refine za ?_ _)); exact BK162.out)) : gb163 ≠ gb162)); clear BK158; clear BK159; clear BK160; clear BK161; clear BK162; clear HB; have BK158 := n0_; have BK159 := n1_; have BK160 := n2_; have BK161 := n3_; have BK162 := n4_; have HB := n5_; have BK163 := n6_; have GW163 := n7_; have GE163 := n8_; have NB158_163 := n9_; have NB163_158 := n10_; have NB159_163 := n11_; have NB163_159 := n12_; have NB160_163 := n13_; have NB163_160 := n14_; have NB161_163 := n15_; have NB163_161 := n16_; have NB162_163 := n17_; have NB163_162 := n18_; clear n0_ n1_ n2_ n3_ n4_ n5_ n6_ n7_ n8_ n9_ n10_ n11_ n12_ n13_ n14_ n15_ n16_ n17_ n18_; clear hb hbox hg; have hnb10 := NB162_158.out; have hnc10 := NB158_162.out; have hnb11 := NB162_159.out; have hnc11 := NB159_162.out; have hnb12 := NB162_160.out; have hnc12 := NB160_162.out; have hnb13 := NB162_161.out; have hnc13 := NB161_162.out; have hnb14 := NB162_163.out; have hnc14 := NB163_162.out; have hcz15_0 : w9.cell? ⟨gb162, 0, none⟩ = some (.int .i64 0) := (zi BK162.out 0).trans rfl; have hcz15_1 : w9.cell? ⟨gb162, 1, none⟩ = some (.int .i64 0) := (zi BK162.out 1).trans rfl; have hcz15_2 : w9.cell? ⟨gb162, 2, none⟩ = some (.int .i64 0) := (zi BK162.out 2).trans rfl; have hcz15_3 : w9.cell? ⟨gb162, 3, none⟩ = some (.int .i64 0) := (zi BK162.out 3).trans rfl; have hfz15_0 := zm BK162.out 0; have hfz15_1 := zm BK162.out 1; have hfz15_2 := zm BK162.out 2; have hfz15_3 := zm BK162.out 3; have hnb16 := NB163_158.out; have hnc16 := NB158_163.out; have hnb17 := NB163_159.out; have hnc17 := NB159_163.out; have hnb18 := NB163_160.out; have hnc18 := NB160_163.out; have hnb19 := NB163_161.out; have hnc19 := NB161_163.out; have hcz20_0 : w9.cell? ⟨gb163, 0, none⟩ = some (.int .i64 0) := (zi BK163.out 0).trans rfl; have hcz20_1 : w9.cell? ⟨gb163, 1, none⟩ = some (.int .i64 0) := (zi BK163.out 1).trans rfl; have hcz20_2 : w9.cell? ⟨gb163, 2, none⟩ = some (.int .i64 0) := (zi BK163.out 2).trans rfl; have hcz20_3 : w9.cell? ⟨gb163, 3, none⟩ = some (.int .i64 0) := (zi BK163.out 3).trans rfl; have hfz20_0 := zm BK163.out 0; have hfz20_1 := zm BK163.out 1; have hfz20_2 := zm BK163.out 2; have hfz20_3 := zm BK163.out 3))
 go_loopg [15] k (fun kq v15 w' => ∃ (x15_1 : Int) (x163000_1 : Int) (x163001_1 : Int) (x163002_1 : Int) (x163003_1 : Int) (x164000_1 : Int) (x164001_1 : Int) (x164002_1 : Int) (x164003_1 : Int), v15 = .int .i64 x15_1 ∧ zh (impl_State_split.l0 kq (wrap64 (a1 + 1)) x15_1 a0_0 a0_1 a0_2 a0_3 a2_0 a2_1 a2_2 a2_3 x163000_1 x163001_1 x163002_1 x163003_1 x164000_1 x164001_1 x164002_1 x164003_1 = some (r1, r2, r3, r4, r5, r6, r7, r8)) ∧ zh (kq ≤ k) ∧ zh (w'.heap[gb158]? = some (.cells #[.int .i64 a0_0, .int .i64 a0_1, .int .i64 a0_2, .int .i64 a0_3] 23 (0, 0))) ∧ zh (w'.heap[gb159]? = some (.cells #[.int .i64 a2_0, .int .i64 a2_1, .int .i64 a2_2, .int .i64 a2_3] 23 (0, 0))) ∧ zh (w'.heap[gb160]? = some (.cells #[.int .i64 0, .int .i64 0, .int .i64 0, .int .i64 0] 23 (0, 0))) ∧ zh (w'.heap[gb161]? = some (.cells #[.int .i64 0, .int .i64 0, .int .i64 0, .int .i64 0] 23 (0, 0))) ∧ zh (w'.heap[gb162]? = some (.cells #[.int .i64 x163000_1, .int .i64 x163001_1, .int .i64 x163002_1, .int .i64 x163003_1] 23 (0, 0))) ∧ zh (w'.heap[gb163]? = some (.cells #[.int .i64 x164000_1, .int .i64 x164001_1, .int .i64 x164002_1, .int .i64 x164003_1] 23 (0, 0))) ∧ zh (Below w.heap.size w w'))
 case atStart => exact ⟨(0), (0), (0), (0), (0), (0), (0), (0), (0), (by first | rfl | (simp; done) | (simp [*]; done)), H', ⟨Nat.le_refl _⟩, ⟨by (with_reducible repeat (first | refine ze ?_ _ | refine zf ?_ | refine za ?_ _)); refine zp ?_ NB158_163.out _; (with_reducible repeat (first | refine ze ?_ _ | refine zf ?_ | refine za ?_ _)); refine zp ?_ NB158_163.out _; (with_reducible repeat (first | refine ze ?_ _ | refine zf ?_ | refine za ?_ _)); refine zp ?_ NB158_163.out _; (with_reducible repeat (first | refine ze ?_ _ | refine zf ?_ | refine za ?_ _)); refine zp ?_ NB158_163.out _; (with_reducible repeat (first | refine ze ?_ _ | refine zf ?_ | refine za ?_ _)); refine zp ?_ NB158_162.out _; (with_reducible repeat (first | refine ze ?_ _ | refine zf ?_ | refine za ?_ _)); refine zp ?_ NB158_162.out _; (with_reducible repeat (first | refine ze ?_ _ | refine zf ?_ | refine za ?_ _)); refine zp ?_ NB158_162.out _; (with_reducible repeat (first | refine ze ?_ _ | refine zf ?_ | refine za ?_ _)); refine zp ?_ NB158_162.out _; (with_reducible repeat (first | refine ze ?_ _ | refine zf ?_ | refine za ?_ _)); exact BK158.out⟩, ⟨by (with_reducible repeat (first | refine ze ?_ _ | refine zf ?_ | refine za ?_ _)); refine zp ?_ NB159_163.out _; (with_reducible repeat (first | refine ze ?_ _ | refine zf ?_ | refine za ?_ _)); refine zp ?_ NB159_163.out _; (with_reducible repeat (first | refine ze ?_ _ | refine zf ?_ | refine za ?_ _)); refine zp ?_ NB159_163.out _; (with_reducible repeat (first | refine ze ?_ _ | refine zf ?_ | refine za ?_ _)); refine zp ?_ NB159_163.out _; (with_reducible repeat (first | refine ze ?_ _ | refine zf ?_ | refine za ?_ _)); refine zp ?_ NB159_162.out _; (with_reducible repeat (first | refine ze ?_ _ | refine zf ?_ | refine za ?_ _)); refine zp ?_ NB159_162.out _; (with_reducible repeat (first | refine ze ?_ _ | refine zf ?_ | refine za ?_ _)); refine zp ?_ NB159_162.out _; (with_reducible repeat (first | refine ze ?_ _ | refine zf ?_ | refine za ?_ _)); refine zp ?_ NB159_162.out _; (with_reducible repeat (first | refine ze ?_ _ | refine zf ?_ | refine za ?_ _)); exact BK159.out⟩, ⟨by (with_reducible repeat (first | refine ze ?_ _ | refine zf ?_ | refine za ?_ _)); refine zp ?_ NB160_163.out _; (with_reducible repeat (first | refine ze ?_ _ | refine zf ?_ | refine za ?_ _)); refine zp ?_ NB160_163.out _; (with_reducible repeat (first | refine ze ?_ _ | refine zf ?_ | refine za ?_ _)); refine zp ?_ NB160_163.out _; (with_reducible repeat (first | refine ze ?_ _ | refine zf ?_ | refine za ?_ _)); refine zp ?_ NB160_163.out _; (with_reducible repeat (first | refine ze ?_ _ | refine zf ?_ | refine za ?_ _)); refine zp ?_ NB160_162.out _; (with_reducible repeat (first | refine ze ?_ _ | refine zf ?_ | refine za ?_ _)); refine zp ?_ NB160_162.out _; (with_reducible repeat (first | refine ze ?_ _ | refine zf ?_ | refine za ?_ _)); refine zp ?_ NB160_162.out _; (with_reducible repeat (first | refine ze ?_ _ | refine zf ?_ | refine za ?_ _)); refine zp ?_ NB160_162.out _; (with_reducible repeat (first | refine ze ?_ _ | refine zf ?_ | refine za ?_ _)); exact BK160.out⟩, ⟨by (with_reducible repeat (first | refine ze ?_ _ | refine zf ?_ | refine za ?_ _)); refine zp ?_ NB161_163.out _; (with_reducible repeat (first | refine ze ?_ _ | refine zf ?_ | refine za ?_ _)); refine zp ?_ NB161_163.out _; (with_reducible repeat (first | refine ze ?_ _ | refine zf ?_ | refine za ?_ _)); refine zp ?_ NB161_163.out _; (with_reducible repeat (first | refine ze ?_ _ | refine zf ?_ | refine za ?_ _)); refine zp ?_ NB161_163.out _; (with_reducible repeat (first | refine ze ?_ _ | refine zf ?_ | refine za ?_ _)); refine zp ?_ NB161_162.out _; (with_reducible repeat (first | refine ze ?_ _ | refine zf ?_ | refine za ?_ _)); refine zp ?_ NB161_162.out _; (with_reducible repeat (first | refine ze ?_ _ | refine zf ?_ | refine za ?_ _)); refine zp ?_ NB161_162.out _; (with_reducible repeat (first | refine ze ?_ _ | refine zf ?_ | refine za ?_ _)); refine zp ?_ NB161_162.out _; (with_reducible repeat (first | refine ze ?_ _ | refine zf ?_ | refine za ?_ _)); exact BK161.out⟩, ⟨by (with_reducible repeat (first | refine ze ?_ _ | refine zf ?_ | refine za ?_ _)); refine zp ?_ NB162_163.out _; (with_reducible repeat (first | refine ze ?_ _ | refine zf ?_ | refine za ?_ _)); refine zp ?_ NB162_163.out _; (with_reducible repeat (first | refine ze ?_ _ | refine zf ?_ | refine za ?_ _)); refine zp ?_ NB162_163.out _; (with_reducible repeat (first | refine ze ?_ _ | refine zf ?_ | refine za ?_ _)); refine zp ?_ NB162_163.out _; (with_reducible repeat (first | refine ze ?_ _ | refine zf ?_ | refine za ?_ _)); refine zw (cs := #[.int .i64 0, .int .i64 0, .int .i64 0, .int .i64 0]) ?_ 3 _ rfl; (with_reducible repeat (first | refine ze ?_ _ | refine zf ?_ | refine za ?_ _)); refine zw (cs := #[.int .i64 0, .int .i64 0, .int .i64 0, .int .i64 0]) ?_ 2 _ rfl; (with_reducible repeat (first | refine ze ?_ _ | refine zf ?_ | refine za ?_ _)); refine zw (cs := #[.int .i64 0, .int .i64 0, .int .i64 0, .int .i64 0]) ?_ 1 _ rfl; (with_reducible repeat (first | refine ze ?_ _ | refine zf ?_ | refine za ?_ _)); refine zw (cs := #[.int .i64 0, .int .i64 0, .int .i64 0, .int .i64 0]) ?_ 0 _ rfl; (with_reducible repeat (first | refine ze ?_ _ | refine zf ?_ | refine za ?_ _)); exact BK162.out⟩, ⟨by (with_reducible repeat (first | refine ze ?_ _ | refine zf ?_ | refine za ?_ _)); refine zw (cs := #[.int .i64 0, .int .i64 0, .int .i64 0, .int .i64 0]) ?_ 3 _ rfl; (with_reducible repeat (first | refine ze ?_ _ | refine zf ?_ | refine za ?_ _)); refine zw (cs := #[.int .i64 0, .int .i64 0, .int .i64 0, .int .i64 0]) ?_ 2 _ rfl; (with_reducible repeat (first | refine ze ?_ _ | refine zf ?_ | refine za ?_ _)); refine zw (cs := #[.int .i64 0, .int .i64 0, .int .i64 0, .int .i64 0]) ?_ 1 _ rfl; (with_reducible repeat (first | refine ze ?_ _ | refine zf ?_ | refine za ?_ _)); refine zw (cs := #[.int .i64 0, .int .i64 0, .int .i64 0, .int .i64 0]) ?_ 0 _ rfl; (with_reducible repeat (first | refine ze ?_ _ | refine zf ?_ | refine za ?_ _)); refine zp ?_ NB163_162.out _; (with_reducible repeat (first | refine ze ?_ _ | refine zf ?_ | refine za ?_ _)); refine zp ?_ NB163_162.out _; (with_reducible repeat (first | refine ze ?_ _ | refine zf ?_ | refine za ?_ _)); refine zp ?_ NB163_162.out _; (with_reducible repeat (first | refine ze ?_ _ | refine zf ?_ | refine za ?_ _)); refine zp ?_ NB163_162.out _; (with_reducible repeat (first | refine ze ?_ _ | refine zf ?_ | refine za ?_ _)); exact BK163.out⟩, ⟨by repeat (first | (with_reducible first | exact HB.out | apply zl | apply zj | apply zk | refine zg ?_ GE158.out | refine zg ?_ GE159.out | refine zg ?_ GE160.out | refine zg ?_ GE161.out | refine zg ?_ GE162.out | refine zg ?_ GE163.out) | exact HB.out)⟩⟩
 case round =>
  clear H'
  try clear c1
  try clear p2
  try clear p6
  try clear c10
  try clear c11
  try clear c12
  try clear c13
  try clear c14
  try clear c16
  try clear c17
  try clear c18
  try clear c19
  try clear hcz15_0
  try clear hcz15_1
  try clear hcz15_2
  try clear hcz15_3
  try clear hcz20_0
  try clear hcz20_1
  try clear hcz20_2
  try clear hcz20_3
  try clear hfz15_0
  try clear hfz15_1
  try clear hfz15_2
  try clear hfz15_3
  try clear hfz20_0
  try clear hfz20_1
  try clear hfz20_2
  try clear hfz20_3
  obtain ⟨x15_1, x163000_1, x163001_1, x163002_1, x163003_1, x164000_1, x164001_1, x164002_1, x164003_1, rfl, HA, HK1, BK158, BK159, BK160, BK161, BK162, BK163, HB⟩ := hrel
  cases gk with
  | zero => exact absurd HA.out (by simp [impl_State_split.l0])
  | succ k1 =>
   have H := HA.out
   clear HA
   simp only [impl_State_split.l0] at H
   by_cases c21 : x15_1 < (wrap64 (a1 + 1))
   ·rw [if_pos c21] at H
    have c21b0 : decide (x15_1 < (wrap64 (a1 + 1))) = true := decide_eq_true c21
    (try (have c21b1 : decide (x15_1 < (IntKind.i64.wrap (a1 + 1))) = true := by have h_ : decide (x15_1 < (wrap64 (a1 + 1))) = true := decide_eq_true c21; simpa only [zu, zt] using h_))
    clear c21
    by_cases c22 : x15_1 = 0
    ·rw [if_pos c22] at H
     subst c22
     have H' := zh.mk H
     clear H
     try go_wp2
     have n0_ := zh.mk (zf BK158.out)
     have n1_ := zh.mk (zf BK159.out)
     have n2_ := zh.mk (zf BK160.out)
     have n3_ := zh.mk (zf BK161.out)
     have n4_ := zh.mk (zf BK162.out)
     have n5_ := zh.mk (zf BK163.out)
     have n6_ := zh.mk (zk HB.out)
     clear BK158
     clear BK159
     clear BK160
     clear BK161
     clear BK162
     clear BK163
     clear HB
     have BK158 := n0_
     have BK159 := n1_
     have BK160 := n2_
     have BK161 := n3_
     have BK162 := n4_
     have BK163 := n5_
     have HB := n6_
     clear n0_ n1_ n2_ n3_ n4_ n5_ n6_
     refine zla (n := 16) (S := fun w' => w'.cell? ⟨gb159, 0, none⟩ = some (.int .i64 a2_0) ∧ w'.cell? ⟨gb159, 1, none⟩ = some (.int .i64 a2_1) ∧ w'.cell? ⟨gb159, 2, none⟩ = some (.int .i64 a2_2) ∧ w'.cell? ⟨gb159, 3, none⟩ = some (.int .i64 a2_3) ∧ w'.cell? ⟨gb158, 0, none⟩ = some (.int .i64 a0_0) ∧ w'.cell? ⟨gb158, 1, none⟩ = some (.int .i64 a0_1) ∧ w'.cell? ⟨gb158, 2, none⟩ = some (.int .i64 a0_2) ∧ w'.cell? ⟨gb158, 3, none⟩ = some (.int .i64 a0_3)) (ds := []) #[false, false, false, false, false, false, false, false, false, false, false, false, false, false, false, false] (by kernel_rfl) rfl rfl ⟨(zi BK159.out 0).trans rfl, (zi BK159.out 1).trans rfl, (zi BK159.out 2).trans rfl, (zi BK159.out 3).trans rfl, (zi BK158.out 0).trans rfl, (zi BK158.out 1).trans rfl, (zi BK158.out 2).trans rfl, (zi BK158.out 3).trans rfl⟩ (fun hHeld => ?_); refine zfa impl_State_split.tab5 impl_State_split.bits5 (fun HT_ HW_ => ?_)
     generalize wr.drew = w23 at BK158 BK159 BK160 BK161 BK162 BK163 HB hHeld ⊢
     refine zx (i := 0) (N := some 18) (v := ?_) (a' := ?_) #[true, false, false, false, false, false, false, false, false, false, false, false, false, false, false, false] rfl rfl (zv HT_.out (by kernel_rfl)) (fun _ _ _ h => h) (Or.inl ⟨by rfl, ?_⟩) ?_ ?_
     rotate_left
     ·intro w'
      go_simp
      with_reducible rfl
     rotate_left
     ·simp only [Act.put, List.setIfInBounds_toArray, List.set_cons_zero, List.set_cons_succ, zu, zt]
      rfl
     refine zx (i := 1) (N := some 19) (v := ?_) (a' := ?_) #[true, true, false, false, false, false, false, false, false, false, false, false, false, false, false, false] rfl rfl (zv HT_.out (by kernel_rfl)) (fun _ _ _ h => h) (Or.inl ⟨by rfl, ?_⟩) ?_ ?_
     rotate_left
     ·intro w'
      go_simp
      with_reducible rfl
     rotate_left
     ·simp only [Act.put, List.setIfInBounds_toArray, List.set_cons_zero, List.set_cons_succ, zu, zt]
      rfl
     refine zx (i := 2) (N := some 20) (v := ?_) (a' := ?_) #[true, true, true, false, false, false, false, false, false, false, false, false, false, false, false, false] rfl rfl (zv HT_.out (by kernel_rfl)) (fun _ _ _ h => h) (Or.inl ⟨by rfl, ?_⟩) ?_ ?_
     rotate_left
     ·intro w'
      go_simp
      with_reducible rfl
     rotate_left
     ·simp only [Act.put, List.setIfInBounds_toArray, List.set_cons_zero, List.set_cons_succ, zu, zt]
      rfl
     refine zx (i := 3) (N := some 21) (v := ?_) (a' := ?_) #[true, true, true, true, false, false, false, false, false, false, false, false, false, false, false, false] rfl rfl (zv HT_.out (by kernel_rfl)) (fun _ _ _ h => h) (Or.inl ⟨by rfl, ?_⟩) ?_ ?_
     rotate_left
     ·intro w'
      go_simp
      with_reducible rfl
     rotate_left
     ·simp only [Act.put, List.setIfInBounds_toArray, List.set_cons_zero, List.set_cons_succ, zu, zt]
      rfl
     refine zx (i := 5) (N := some 23) (v := ?_) (a' := ?_) #[true, true, true, true, false, true, false, false, false, false, false, false, false, false, false, false] rfl rfl (zv HT_.out (by kernel_rfl)) (fun _ _ _ h => h) (Or.inl ⟨by rfl, ?_⟩) ?_ ?_
     rotate_left
     ·intro w'
      go_simp
      with_reducible rfl
     rotate_left
     ·simp only [Act.put, List.setIfInBounds_toArray, List.set_cons_zero, List.set_cons_succ, zu, zt]
      rfl
     refine zx (i := 6) (N := some 24) (v := ?_) (a' := ?_) #[true, true, true, true, false, true, true, false, false, false, false, false, false, false, false, false] rfl rfl (zv HT_.out (by kernel_rfl)) (fun _ _ _ h => h) (Or.inl ⟨by rfl, ?_⟩) ?_ ?_
     rotate_left
     ·intro w'
      go_simp
      with_reducible rfl
     rotate_left
     ·simp only [Act.put, List.setIfInBounds_toArray, List.set_cons_zero, List.set_cons_succ, zu, zt]
      rfl
     refine zx (i := 8) (N := some 26) (v := ?_) (a' := ?_) #[true, true, true, true, false, true, true, false, true, false, false, false, false, false, false, false] rfl rfl (zv HT_.out (by kernel_rfl)) (fun _ _ _ h => h) (Or.inl ⟨by rfl, ?_⟩) ?_ ?_
     rotate_left
     ·intro w'
      go_simp
      with_reducible rfl
     rotate_left
     ·simp only [Act.put, List.setIfInBounds_toArray, List.set_cons_zero, List.set_cons_succ, zu, zt]
      rfl
     refine zx (i := 9) (N := some 27) (v := ?_) (a' := ?_) #[true, true, true, true, false, true, true, false, true, true, false, false, false, false, false, false] rfl rfl (zv HT_.out (by kernel_rfl)) (fun _ _ _ h => h) (Or.inl ⟨by rfl, ?_⟩) ?_ ?_
     rotate_left
     ·intro w'
      go_simp
      with_reducible rfl
     rotate_left
     ·simp only [Act.put, List.setIfInBounds_toArray, List.set_cons_zero, List.set_cons_succ, zu, zt]
      rfl
     refine zga (i := 4) (N := some 22) (v := ?_) (a' := ?_) #[true, true, true, true, true, true, true, false, true, true, false, false, false, false, false, false] rfl rfl (zz HT_.out HW_.out (by kernel_rfl)) (fun _ _ _ h => h) (Or.inl ⟨by rfl, ?_⟩) hHeld ?_ ?_
     rotate_left
     ·rintro w' ⟨s0, s1, s2, s3, s4, s5, s6, s7⟩
      go_simp
      with_reducible rfl
     rotate_left
     ·simp only [Act.put, List.setIfInBounds_toArray, List.set_cons_zero, List.set_cons_succ, zu, zt]
      rfl
     refine zx (i := 12) (N := some 30) (v := ?_) (a' := ?_) #[true, true, true, true, true, true, true, false, true, true, false, false, true, false, false, false] rfl rfl (zv HT_.out (by kernel_rfl)) (fun _ _ _ h => h) (Or.inl ⟨by rfl, ?_⟩) ?_ ?_
     rotate_left
     ·intro w'
      go_simp
      with_reducible rfl
     rotate_left
     ·simp only [Act.put, List.setIfInBounds_toArray, List.set_cons_zero, List.set_cons_succ, zu, zt]
      rfl
     refine zga (i := 7) (N := some 25) (v := ?_) (a' := ?_) #[true, true, true, true, true, true, true, true, true, true, false, false, true, false, false, false] rfl rfl (zz HT_.out HW_.out (by kernel_rfl)) (fun _ _ _ h => h) (Or.inl ⟨by rfl, ?_⟩) hHeld ?_ ?_
     rotate_left
     ·rintro w' ⟨s0, s1, s2, s3, s4, s5, s6, s7⟩
      go_simp
      with_reducible rfl
     rotate_left
     ·simp only [Act.put, List.setIfInBounds_toArray, List.set_cons_zero, List.set_cons_succ, zu, zt]
      rfl
     refine zga (i := 10) (N := some 28) (v := ?_) (a' := ?_) #[true, true, true, true, true, true, true, true, true, true, true, false, true, false, false, false] rfl rfl (zz HT_.out HW_.out (by kernel_rfl)) (fun _ _ _ h => h) (Or.inl ⟨by rfl, ?_⟩) hHeld ?_ ?_
     rotate_left
     ·rintro w' ⟨s0, s1, s2, s3, s4, s5, s6, s7⟩
      go_simp
      with_reducible rfl
     rotate_left
     ·simp only [Act.put, List.setIfInBounds_toArray, List.set_cons_zero, List.set_cons_succ, zu, zt]
      rfl
     refine zx (i := 11) (N := some 29) (v := ?_) (a' := ?_) #[true, true, true, true, true, true, true, true, true, true, true, true, true, false, false, false] rfl rfl (zv HT_.out (by kernel_rfl)) (fun _ _ _ h => h) (Or.inl ⟨by rfl, ?_⟩) ?_ ?_
     rotate_left
     ·intro w'
      go_simp
      with_reducible rfl
     rotate_left
     ·simp only [Act.put, List.setIfInBounds_toArray, List.set_cons_zero, List.set_cons_succ, zu, zt]
      rfl
     refine one_ (i := 13) (N := none) #[true, true, true, true, true, true, true, true, true, true, true, true, true, true, false, false] rfl rfl (zia HT_.out (by kernel_rfl)) (by decide) (fun K hK => ?_)
     have hs24 : w23.cell? ⟨gb162, 0, none⟩ = some (.int .i64 x163000_1) := (zi BK162.out 0).trans rfl
     have hfs24 := zm BK162.out 0
     have hns24_0 := NB158_162.out
     have hns24_1 := NB159_162.out
     have hns24_2 := NB160_162.out
     have hns24_3 := NB161_162.out
     have hns24_5 := NB163_162.out
     have hms24_0 := NB162_158.out
     have hms24_1 := NB162_159.out
     have hms24_2 := NB162_160.out
     have hms24_3 := NB162_161.out
     have hms24_5 := NB162_163.out
     refine zma (w1 := ?_) (by rfl) rfl ?_ ?_
     rotate_left
     ·go_simp
      rfl
     refine hK.out _ _ ⟨((zn (p := ⟨gb162, _, none⟩) NB159_162.out _).trans (hHeld.1)), ((zn (p := ⟨gb162, _, none⟩) NB159_162.out _).trans (hHeld.2.1)), ((zn (p := ⟨gb162, _, none⟩) NB159_162.out _).trans (hHeld.2.2.1)), ((zn (p := ⟨gb162, _, none⟩) NB159_162.out _).trans (hHeld.2.2.2.1)), ((zn (p := ⟨gb162, _, none⟩) NB158_162.out _).trans (hHeld.2.2.2.2.1)), ((zn (p := ⟨gb162, _, none⟩) NB158_162.out _).trans (hHeld.2.2.2.2.2.1)), ((zn (p := ⟨gb162, _, none⟩) NB158_162.out _).trans (hHeld.2.2.2.2.2.2.1)), ((zn (p := ⟨gb162, _, none⟩) NB158_162.out _).trans (hHeld.2.2.2.2.2.2.2))⟩ (fun hHeld => ?_)
     clear hK K
     refine zx (i := 14) (N := some 31) (v := ?_) (a' := ?_) #[true, true, true, true, true, true, true, true, true, true, true, true, true, true, true, false] rfl rfl (zv HT_.out (by kernel_rfl)) (fun _ _ _ h => h) (Or.inl ⟨by rfl, ?_⟩) ?_ ?_
     rotate_left
     ·intro w'
      go_simp
      with_reducible rfl
     rotate_left
     ·simp only [Act.put, List.setIfInBounds_toArray, List.set_cons_zero, List.set_cons_succ, zu, zt]
      rfl
     refine one_ (i := 15) (N := none) #[true, true, true, true, true, true, true, true, true, true, true, true, true, true, true, true] rfl rfl (zia HT_.out (by kernel_rfl)) (by decide) (fun K hK => ?_)
     have hs25 : w23.cell? ⟨gb163, 0, none⟩ = some (.int .i64 x164000_1) := (zi BK163.out 0).trans rfl
     have hfs25 := zm BK163.out 0
     have hns25_0 := NB158_163.out
     have hns25_1 := NB159_163.out
     have hns25_2 := NB160_163.out
     have hns25_3 := NB161_163.out
     have hns25_4 := NB162_163.out
     have hms25_0 := NB163_158.out
     have hms25_1 := NB163_159.out
     have hms25_2 := NB163_160.out
     have hms25_3 := NB163_161.out
     have hms25_4 := NB163_162.out
     refine zma (w1 := ?_) (by rfl) rfl ?_ ?_
     rotate_left
     ·go_simp
      rfl
     refine hK.out _ _ ⟨((zn (p := ⟨gb163, _, none⟩) NB159_163.out _).trans (hHeld.1)), ((zn (p := ⟨gb163, _, none⟩) NB159_163.out _).trans (hHeld.2.1)), ((zn (p := ⟨gb163, _, none⟩) NB159_163.out _).trans (hHeld.2.2.1)), ((zn (p := ⟨gb163, _, none⟩) NB159_163.out _).trans (hHeld.2.2.2.1)), ((zn (p := ⟨gb163, _, none⟩) NB158_163.out _).trans (hHeld.2.2.2.2.1)), ((zn (p := ⟨gb163, _, none⟩) NB158_163.out _).trans (hHeld.2.2.2.2.2.1)), ((zn (p := ⟨gb163, _, none⟩) NB158_163.out _).trans (hHeld.2.2.2.2.2.2.1)), ((zn (p := ⟨gb163, _, none⟩) NB158_163.out _).trans (hHeld.2.2.2.2.2.2.2))⟩ (fun hHeld => ?_)
     clear hK K
     refine zqa (zja HT_.out (by kernel_rfl)) ?_
     try go_wp2
     go_roundg k1
     case measure => have := HK1.out; omega
     case rel => exact ⟨(0 + 1), (a2_0), (x163001_1), (x163002_1), (x163003_1), (wrap64 (a0_0 - a2_0)), (x164001_1), (x164002_1), (x164003_1), (by first | rfl | (simp; done) | (simp [*]; done)), H', ⟨by have := HK1.out; omega⟩, ⟨by (with_reducible repeat (first | refine ze ?_ _ | refine zf ?_ | refine za ?_ _)); refine zp ?_ NB158_163.out _; (with_reducible repeat (first | refine ze ?_ _ | refine zf ?_ | refine za ?_ _)); refine zp ?_ NB158_162.out _; (with_reducible repeat (first | refine ze ?_ _ | refine zf ?_ | refine za ?_ _)); exact BK158.out⟩, ⟨by (with_reducible repeat (first | refine ze ?_ _ | refine zf ?_ | refine za ?_ _)); refine zp ?_ NB159_163.out _; (with_reducible repeat (first | refine ze ?_ _ | refine zf ?_ | refine za ?_ _)); refine zp ?_ NB159_162.out _; (with_reducible repeat (first | refine ze ?_ _ | refine zf ?_ | refine za ?_ _)); exact BK159.out⟩, ⟨by (with_reducible repeat (first | refine ze ?_ _ | refine zf ?_ | refine za ?_ _)); refine zp ?_ NB160_163.out _; (with_reducible repeat (first | refine ze ?_ _ | refine zf ?_ | refine za ?_ _)); refine zp ?_ NB160_162.out _; (with_reducible repeat (first | refine ze ?_ _ | refine zf ?_ | refine za ?_ _)); exact BK160.out⟩, ⟨by (with_reducible repeat (first | refine ze ?_ _ | refine zf ?_ | refine za ?_ _)); refine zp ?_ NB161_163.out _; (with_reducible repeat (first | refine ze ?_ _ | refine zf ?_ | refine za ?_ _)); refine zp ?_ NB161_162.out _; (with_reducible repeat (first | refine ze ?_ _ | refine zf ?_ | refine za ?_ _)); exact BK161.out⟩, ⟨by (with_reducible repeat (first | refine ze ?_ _ | refine zf ?_ | refine za ?_ _)); refine zp ?_ NB162_163.out _; (with_reducible repeat (first | refine ze ?_ _ | refine zf ?_ | refine za ?_ _)); refine zw (cs := #[.int .i64 x163000_1, .int .i64 x163001_1, .int .i64 x163002_1, .int .i64 x163003_1]) ?_ 0 _ rfl; (with_reducible repeat (first | refine ze ?_ _ | refine zf ?_ | refine za ?_ _)); exact BK162.out⟩, ⟨by (with_reducible repeat (first | refine ze ?_ _ | refine zf ?_ | refine za ?_ _)); refine zw (cs := #[.int .i64 x164000_1, .int .i64 x164001_1, .int .i64 x164002_1, .int .i64 x164003_1]) ?_ 0 _ rfl; (with_reducible repeat (first | refine ze ?_ _ | refine zf ?_ | refine za ?_ _)); refine zp ?_ NB163_162.out _; (with_reducible repeat (first | refine ze ?_ _ | refine zf ?_ | refine za ?_ _)); exact BK163.out⟩, ⟨by repeat (first | (with_reducible first | exact HB.out | apply zl | apply zj | apply zk | refine zg ?_ GE158.out | refine zg ?_ GE159.out | refine zg ?_ GE160.out | refine zg ?_ GE161.out | refine zg ?_ GE162.out | refine zg ?_ GE163.out) | exact HB.out)⟩⟩
    ·rw [if_neg c22] at H
     clear c22
     by_cases c26 : x15_1 = 1
     ·rw [if_pos c26] at H
      subst c26
      have H' := zh.mk H
      clear H
      try go_wp2
      have n0_ := zh.mk (zf BK158.out)
      have n1_ := zh.mk (zf BK159.out)
      have n2_ := zh.mk (zf BK160.out)
      have n3_ := zh.mk (zf BK161.out)
      have n4_ := zh.mk (zf BK162.out)
      have n5_ := zh.mk (zf BK163.out)
      have n6_ := zh.mk (zk HB.out)
      clear BK158
      clear BK159
      clear BK160
      clear BK161
      clear BK162
      clear BK163
      clear HB
      have BK158 := n0_
      have BK159 := n1_
      have BK160 := n2_
      have BK161 := n3_
      have BK162 := n4_
      have BK163 := n5_
      have HB := n6_
      clear n0_ n1_ n2_ n3_ n4_ n5_ n6_
      refine zla (n := 16) (S := fun w' => w'.cell? ⟨gb159, 0, none⟩ = some (.int .i64 a2_0) ∧ w'.cell? ⟨gb159, 1, none⟩ = some (.int .i64 a2_1) ∧ w'.cell? ⟨gb159, 2, none⟩ = some (.int .i64 a2_2) ∧ w'.cell? ⟨gb159, 3, none⟩ = some (.int .i64 a2_3) ∧ w'.cell? ⟨gb158, 0, none⟩ = some (.int .i64 a0_0) ∧ w'.cell? ⟨gb158, 1, none⟩ = some (.int .i64 a0_1) ∧ w'.cell? ⟨gb158, 2, none⟩ = some (.int .i64 a0_2) ∧ w'.cell? ⟨gb158, 3, none⟩ = some (.int .i64 a0_3)) (ds := []) #[false, false, false, false, false, false, false, false, false, false, false, false, false, false, false, false] (by kernel_rfl) rfl rfl ⟨(zi BK159.out 0).trans rfl, (zi BK159.out 1).trans rfl, (zi BK159.out 2).trans rfl, (zi BK159.out 3).trans rfl, (zi BK158.out 0).trans rfl, (zi BK158.out 1).trans rfl, (zi BK158.out 2).trans rfl, (zi BK158.out 3).trans rfl⟩ (fun hHeld => ?_); refine zfa impl_State_split.tab5 impl_State_split.bits5 (fun HT_ HW_ => ?_)
      generalize wr.drew = w27 at BK158 BK159 BK160 BK161 BK162 BK163 HB hHeld ⊢
      refine zx (i := 0) (N := some 18) (v := ?_) (a' := ?_) #[true, false, false, false, false, false, false, false, false, false, false, false, false, false, false, false] rfl rfl (zv HT_.out (by kernel_rfl)) (fun _ _ _ h => h) (Or.inl ⟨by rfl, ?_⟩) ?_ ?_
      rotate_left
      ·intro w'
       go_simp
       with_reducible rfl
      rotate_left
      ·simp only [Act.put, List.setIfInBounds_toArray, List.set_cons_zero, List.set_cons_succ, zu, zt]
       rfl
      refine zx (i := 1) (N := some 19) (v := ?_) (a' := ?_) #[true, true, false, false, false, false, false, false, false, false, false, false, false, false, false, false] rfl rfl (zv HT_.out (by kernel_rfl)) (fun _ _ _ h => h) (Or.inl ⟨by rfl, ?_⟩) ?_ ?_
      rotate_left
      ·intro w'
       go_simp
       with_reducible rfl
      rotate_left
      ·simp only [Act.put, List.setIfInBounds_toArray, List.set_cons_zero, List.set_cons_succ, zu, zt]
       rfl
      refine zx (i := 2) (N := some 20) (v := ?_) (a' := ?_) #[true, true, true, false, false, false, false, false, false, false, false, false, false, false, false, false] rfl rfl (zv HT_.out (by kernel_rfl)) (fun _ _ _ h => h) (Or.inl ⟨by rfl, ?_⟩) ?_ ?_
      rotate_left
      ·intro w'
       go_simp
       with_reducible rfl
      rotate_left
      ·simp only [Act.put, List.setIfInBounds_toArray, List.set_cons_zero, List.set_cons_succ, zu, zt]
       rfl
      refine zx (i := 3) (N := some 21) (v := ?_) (a' := ?_) #[true, true, true, true, false, false, false, false, false, false, false, false, false, false, false, false] rfl rfl (zv HT_.out (by kernel_rfl)) (fun _ _ _ h => h) (Or.inl ⟨by rfl, ?_⟩) ?_ ?_
      rotate_left
      ·intro w'
       go_simp
       with_reducible rfl
      rotate_left
      ·simp only [Act.put, List.setIfInBounds_toArray, List.set_cons_zero, List.set_cons_succ, zu, zt]
       rfl
      refine zx (i := 5) (N := some 23) (v := ?_) (a' := ?_) #[true, true, true, true, false, true, false, false, false, false, false, false, false, false, false, false] rfl rfl (zv HT_.out (by kernel_rfl)) (fun _ _ _ h => h) (Or.inl ⟨by rfl, ?_⟩) ?_ ?_
      rotate_left
      ·intro w'
       go_simp
       with_reducible rfl
      rotate_left
      ·simp only [Act.put, List.setIfInBounds_toArray, List.set_cons_zero, List.set_cons_succ, zu, zt]
       rfl
      refine zx (i := 6) (N := some 24) (v := ?_) (a' := ?_) #[true, true, true, true, false, true, true, false, false, false, false, false, false, false, false, false] rfl rfl (zv HT_.out (by kernel_rfl)) (fun _ _ _ h => h) (Or.inl ⟨by rfl, ?_⟩) ?_ ?_
      rotate_left
      ·intro w'
       go_simp
       with_reducible rfl
      rotate_left
      ·simp only [Act.put, List.setIfInBounds_toArray, List.set_cons_zero, List.set_cons_succ, zu, zt]
       rfl
      refine zx (i := 8) (N := some 26) (v := ?_) (a' := ?_) #[true, true, true, true, false, true, true, false, true, false, false, false, false, false, false, false] rfl rfl (zv HT_.out (by kernel_rfl)) (fun _ _ _ h => h) (Or.inl ⟨by rfl, ?_⟩) ?_ ?_
      rotate_left
      ·intro w'
       go_simp
       with_reducible rfl
      rotate_left
      ·simp only [Act.put, List.setIfInBounds_toArray, List.set_cons_zero, List.set_cons_succ, zu, zt]
       rfl
      refine zx (i := 9) (N := some 27) (v := ?_) (a' := ?_) #[true, true, true, true, false, true, true, false, true, true, false, false, false, false, false, false] rfl rfl (zv HT_.out (by kernel_rfl)) (fun _ _ _ h => h) (Or.inl ⟨by rfl, ?_⟩) ?_ ?_
      rotate_left
      ·intro w'
       go_simp
       with_reducible rfl
      rotate_left
      ·simp only [Act.put, List.setIfInBounds_toArray, List.set_cons_zero, List.set_cons_succ, zu, zt]
       rfl
      refine zga (i := 4) (N := some 22) (v := ?_) (a' := ?_) #[true, true, true, true, true, true, true, false, true, true, false, false, false, false, false, false] rfl rfl (zz HT_.out HW_.out (by kernel_rfl)) (fun _ _ _ h => h) (Or.inl ⟨by rfl, ?_⟩) hHeld ?_ ?_
      rotate_left
      ·rintro w' ⟨s0, s1, s2, s3, s4, s5, s6, s7⟩
       go_simp
       with_reducible rfl
      rotate_left
      ·simp only [Act.put, List.setIfInBounds_toArray, List.set_cons_zero, List.set_cons_succ, zu, zt]
       rfl
      refine zx (i := 12) (N := some 30) (v := ?_) (a' := ?_) #[true, true, true, true, true, true, true, false, true, true, false, false, true, false, false, false] rfl rfl (zv HT_.out (by kernel_rfl)) (fun _ _ _ h => h) (Or.inl ⟨by rfl, ?_⟩) ?_ ?_
      rotate_left
      ·intro w'
       go_simp
       with_reducible rfl
      rotate_left
      ·simp only [Act.put, List.setIfInBounds_toArray, List.set_cons_zero, List.set_cons_succ, zu, zt]
       rfl
      refine zga (i := 7) (N := some 25) (v := ?_) (a' := ?_) #[true, true, true, true, true, true, true, true, true, true, false, false, true, false, false, false] rfl rfl (zz HT_.out HW_.out (by kernel_rfl)) (fun _ _ _ h => h) (Or.inl ⟨by rfl, ?_⟩) hHeld ?_ ?_
      rotate_left
      ·rintro w' ⟨s0, s1, s2, s3, s4, s5, s6, s7⟩
       go_simp
       with_reducible rfl
      rotate_left
      ·simp only [Act.put, List.setIfInBounds_toArray, List.set_cons_zero, List.set_cons_succ, zu, zt]
       rfl
      refine zga (i := 10) (N := some 28) (v := ?_) (a' := ?_) #[true, true, true, true, true, true, true, true, true, true, true, false, true, false, false, false] rfl rfl (zz HT_.out HW_.out (by kernel_rfl)) (fun _ _ _ h => h) (Or.inl ⟨by rfl, ?_⟩) hHeld ?_ ?_
      rotate_left
      ·rintro w' ⟨s0, s1, s2, s3, s4, s5, s6, s7⟩
       go_simp
       with_reducible rfl
      rotate_left
      ·simp only [Act.put, List.setIfInBounds_toArray, List.set_cons_zero, List.set_cons_succ, zu, zt]
       rfl
      refine zx (i := 11) (N := some 29) (v := ?_) (a' := ?_) #[true, true, true, true, true, true, true, true, true, true, true, true, true, false, false, false] rfl rfl (zv HT_.out (by kernel_rfl)) (fun _ _ _ h => h) (Or.inl ⟨by rfl, ?_⟩) ?_ ?_
      rotate_left
      ·intro w'
       go_simp
       with_reducible rfl
      rotate_left
      ·simp only [Act.put, List.setIfInBounds_toArray, List.set_cons_zero, List.set_cons_succ, zu, zt]
       rfl
      refine one_ (i := 13) (N := none) #[true, true, true, true, true, true, true, true, true, true, true, true, true, true, false, false] rfl rfl (zia HT_.out (by kernel_rfl)) (by decide) (fun K hK => ?_)
      have hs28 : w27.cell? ⟨gb162, 1, none⟩ = some (.int .i64 x163001_1) := (zi BK162.out 1).trans rfl
      have hfs28 := zm BK162.out 1
      have hns28_0 := NB158_162.out
      have hns28_1 := NB159_162.out
      have hns28_2 := NB160_162.out
      have hns28_3 := NB161_162.out
      have hns28_5 := NB163_162.out
      have hms28_0 := NB162_158.out
      have hms28_1 := NB162_159.out
      have hms28_2 := NB162_160.out
      have hms28_3 := NB162_161.out
      have hms28_5 := NB162_163.out
      refine zma (w1 := ?_) (by rfl) rfl ?_ ?_
      rotate_left
      ·go_simp
       rfl
      refine hK.out _ _ ⟨((zn (p := ⟨gb162, _, none⟩) NB159_162.out _).trans (hHeld.1)), ((zn (p := ⟨gb162, _, none⟩) NB159_162.out _).trans (hHeld.2.1)), ((zn (p := ⟨gb162, _, none⟩) NB159_162.out _).trans (hHeld.2.2.1)), ((zn (p := ⟨gb162, _, none⟩) NB159_162.out _).trans (hHeld.2.2.2.1)), ((zn (p := ⟨gb162, _, none⟩) NB158_162.out _).trans (hHeld.2.2.2.2.1)), ((zn (p := ⟨gb162, _, none⟩) NB158_162.out _).trans (hHeld.2.2.2.2.2.1)), ((zn (p := ⟨gb162, _, none⟩) NB158_162.out _).trans (hHeld.2.2.2.2.2.2.1)), ((zn (p := ⟨gb162, _, none⟩) NB158_162.out _).trans (hHeld.2.2.2.2.2.2.2))⟩ (fun hHeld => ?_)
      clear hK K
      refine zx (i := 14) (N := some 31) (v := ?_) (a' := ?_) #[true, true, true, true, true, true, true, true, true, true, true, true, true, true, true, false] rfl rfl (zv HT_.out (by kernel_rfl)) (fun _ _ _ h => h) (Or.inl ⟨by rfl, ?_⟩) ?_ ?_
      rotate_left
      ·intro w'
       go_simp
       with_reducible rfl
      rotate_left
      ·simp only [Act.put, List.setIfInBounds_toArray, List.set_cons_zero, List.set_cons_succ, zu, zt]
       rfl
      refine one_ (i := 15) (N := none) #[true, true, true, true, true, true, true, true, true, true, true, true, true, true, true, true] rfl rfl (zia HT_.out (by kernel_rfl)) (by decide) (fun K hK => ?_)
      have hs29 : w27.cell? ⟨gb163, 1, none⟩ = some (.int .i64 x164001_1) := (zi BK163.out 1).trans rfl
      have hfs29 := zm BK163.out 1
      have hns29_0 := NB158_163.out
      have hns29_1 := NB159_163.out
      have hns29_2 := NB160_163.out
      have hns29_3 := NB161_163.out
      have hns29_4 := NB162_163.out
      have hms29_0 := NB163_158.out
      have hms29_1 := NB163_159.out
      have hms29_2 := NB163_160.out
      have hms29_3 := NB163_161.out
      have hms29_4 := NB163_162.out
      refine zma (w1 := ?_) (by rfl) rfl ?_ ?_
      rotate_left
      ·go_simp
       rfl
      refine hK.out _ _ ⟨((zn (p := ⟨gb163, _, none⟩) NB159_163.out _).trans (hHeld.1)), ((zn (p := ⟨gb163, _, none⟩) NB159_163.out _).trans (hHeld.2.1)), ((zn (p := ⟨gb163, _, none⟩) NB159_163.out _).trans (hHeld.2.2.1)), ((zn (p := ⟨gb163, _, none⟩) NB159_163.out _).trans (hHeld.2.2.2.1)), ((zn (p := ⟨gb163, _, none⟩) NB158_163.out _).trans (hHeld.2.2.2.2.1)), ((zn (p := ⟨gb163, _, none⟩) NB158_163.out _).trans (hHeld.2.2.2.2.2.1)), ((zn (p := ⟨gb163, _, none⟩) NB158_163.out _).trans (hHeld.2.2.2.2.2.2.1)), ((zn (p := ⟨gb163, _, none⟩) NB158_163.out _).trans (hHeld.2.2.2.2.2.2.2))⟩ (fun hHeld => ?_)
      clear hK K
      refine zqa (zja HT_.out (by kernel_rfl)) ?_
      try go_wp2
      have n0_ : zh (((w27.setCell ⟨gb162, 1, none⟩ (.int .i64 a2_1)).setCell ⟨gb163, 1, none⟩ (.int .i64 (wrap64 (a0_1 - a2_1)))).heap[gb158]? = some (.cells #[.int .i64 a0_0, .int .i64 a0_1, .int .i64 a0_2, .int .i64 a0_3] 23 (0, 0))) := ⟨by (with_reducible repeat (first | refine ze ?_ _ | refine zf ?_ | refine za ?_ _)); refine zp ?_ NB158_163.out _; (with_reducible repeat (first | refine ze ?_ _ | refine zf ?_ | refine za ?_ _)); refine zp ?_ NB158_162.out _; (with_reducible repeat (first | refine ze ?_ _ | refine zf ?_ | refine za ?_ _)); exact BK158.out⟩
      have n1_ : zh (((w27.setCell ⟨gb162, 1, none⟩ (.int .i64 a2_1)).setCell ⟨gb163, 1, none⟩ (.int .i64 (wrap64 (a0_1 - a2_1)))).heap[gb159]? = some (.cells #[.int .i64 a2_0, .int .i64 a2_1, .int .i64 a2_2, .int .i64 a2_3] 23 (0, 0))) := ⟨by (with_reducible repeat (first | refine ze ?_ _ | refine zf ?_ | refine za ?_ _)); refine zp ?_ NB159_163.out _; (with_reducible repeat (first | refine ze ?_ _ | refine zf ?_ | refine za ?_ _)); refine zp ?_ NB159_162.out _; (with_reducible repeat (first | refine ze ?_ _ | refine zf ?_ | refine za ?_ _)); exact BK159.out⟩
      have n2_ : zh (((w27.setCell ⟨gb162, 1, none⟩ (.int .i64 a2_1)).setCell ⟨gb163, 1, none⟩ (.int .i64 (wrap64 (a0_1 - a2_1)))).heap[gb160]? = some (.cells #[.int .i64 0, .int .i64 0, .int .i64 0, .int .i64 0] 23 (0, 0))) := ⟨by (with_reducible repeat (first | refine ze ?_ _ | refine zf ?_ | refine za ?_ _)); refine zp ?_ NB160_163.out _; (with_reducible repeat (first | refine ze ?_ _ | refine zf ?_ | refine za ?_ _)); refine zp ?_ NB160_162.out _; (with_reducible repeat (first | refine ze ?_ _ | refine zf ?_ | refine za ?_ _)); exact BK160.out⟩
      have n3_ : zh (((w27.setCell ⟨gb162, 1, none⟩ (.int .i64 a2_1)).setCell ⟨gb163, 1, none⟩ (.int .i64 (wrap64 (a0_1 - a2_1)))).heap[gb161]? = some (.cells #[.int .i64 0, .int .i64 0, .int .i64 0, .int .i64 0] 23 (0, 0))) := ⟨by (with_reducible repeat (first | refine ze ?_ _ | refine zf ?_ | refine za ?_ _)); refine zp ?_ NB161_163.out _; (with_reducible repeat (first | refine ze ?_ _ | refine zf ?_ | refine za ?_ _)); refine zp ?_ NB161_162.out _; (with_reducible repeat (first | refine ze ?_ _ | refine zf ?_ | refine za ?_ _)); exact BK161.out⟩
      have n4_ : zh (((w27.setCell ⟨gb162, 1, none⟩ (.int .i64 a2_1)).setCell ⟨gb163, 1, none⟩ (.int .i64 (wrap64 (a0_1 - a2_1)))).heap[gb162]? = some (.cells #[.int .i64 x163000_1, .int .i64 a2_1, .int .i64 x163002_1, .int .i64 x163003_1] 23 (0, 0))) := ⟨by (with_reducible repeat (first | refine ze ?_ _ | refine zf ?_ | refine za ?_ _)); refine zp ?_ NB162_163.out _; (with_reducible repeat (first | refine ze ?_ _ | refine zf ?_ | refine za ?_ _)); refine zw (cs := #[.int .i64 x163000_1, .int .i64 x163001_1, .int .i64 x163002_1, .int .i64 x163003_1]) ?_ 1 _ rfl; (with_reducible repeat (first | refine ze ?_ _ | refine zf ?_ | refine za ?_ _)); exact BK162.out⟩
      have n5_ : zh (((w27.setCell ⟨gb162, 1, none⟩ (.int .i64 a2_1)).setCell ⟨gb163, 1, none⟩ (.int .i64 (wrap64 (a0_1 - a2_1)))).heap[gb163]? = some (.cells #[.int .i64 x164000_1, .int .i64 (wrap64 (a0_1 - a2_1)), .int .i64 x164002_1, .int .i64 x164003_1] 23 (0, 0))) := ⟨by (with_reducible repeat (first | refine ze ?_ _ | refine zf ?_ | refine za ?_ _)); refine zw (cs := #[.int .i64 x164000_1, .int .i64 x164001_1, .int .i64 x164002_1, .int .i64 x164003_1]) ?_ 1 _ rfl; (with_reducible repeat (first | refine ze ?_ _ | refine zf ?_ | refine za ?_ _)); refine zp ?_ NB163_162.out _; (with_reducible repeat (first | refine ze ?_ _ | refine zf ?_ | refine za ?_ _)); exact BK163.out⟩
      have n6_ : zh (Below w.heap.size w ((w27.setCell ⟨gb162, 1, none⟩ (.int .i64 a2_1)).setCell ⟨gb163, 1, none⟩ (.int .i64 (wrap64 (a0_1 - a2_1))))) := ⟨by repeat (first | (with_reducible first | exact HB.out | apply zl | apply zj | apply zk | refine zg ?_ GE158.out | refine zg ?_ GE159.out | refine zg ?_ GE160.out | refine zg ?_ GE161.out | refine zg ?_ GE162.out | refine zg ?_ GE163.out) | exact HB.out)⟩
      (try clear BK158)
      (try clear BK159)
      (try clear BK160)
      (try clear BK161)
      (try clear BK162)
      (try clear BK163)
      (try clear HB)
      generalize ((w27.setCell ⟨gb162, 1, none⟩ (.int .i64 a2_1)).setCell ⟨gb163, 1, none⟩ (.int .i64 (wrap64 (a0_1 - a2_1)))) = w30 at n0_ n1_ n2_ n3_ n4_ n5_ n6_ ⊢
      have BK158 := n0_
      have BK159 := n1_
      have BK160 := n2_
      have BK161 := n3_
      have BK162 := n4_
      have BK163 := n5_
      have HB := n6_
      clear n0_ n1_ n2_ n3_ n4_ n5_ n6_
      have n0_ := zh.mk (zf BK158.out)
      have n1_ := zh.mk (zf BK159.out)
      have n2_ := zh.mk (zf BK160.out)
      have n3_ := zh.mk (zf BK161.out)
      have n4_ := zh.mk (zf BK162.out)
      have n5_ := zh.mk (zf BK163.out)
      have n6_ := zh.mk (zk HB.out)
      clear BK158
      clear BK159
      clear BK160
      clear BK161
      clear BK162
      clear BK163
      clear HB
      have BK158 := n0_
      have BK159 := n1_
      have BK160 := n2_
      have BK161 := n3_
      have BK162 := n4_
      have BK163 := n5_
      have HB := n6_
      clear n0_ n1_ n2_ n3_ n4_ n5_ n6_
      refine zla (n := 15) (S := fun w' => w'.cell? ⟨gb162, 0, none⟩ = some (.int .i64 x163000_1) ∧ w'.cell? ⟨gb162, 1, none⟩ = some (.int .i64 a2_1) ∧ w'.cell? ⟨gb162, 2, none⟩ = some (.int .i64 x163002_1) ∧ w'.cell? ⟨gb162, 3, none⟩ = some (.int .i64 x163003_1) ∧ w'.cell? ⟨gb158, 0, none⟩ = some (.int .i64 a0_0) ∧ w'.cell? ⟨gb158, 1, none⟩ = some (.int .i64 a0_1) ∧ w'.cell? ⟨gb158, 2, none⟩ = some (.int .i64 a0_2) ∧ w'.cell? ⟨gb158, 3, none⟩ = some (.int .i64 a0_3) ∧ w'.cell? ⟨gb159, 0, none⟩ = some (.int .i64 a2_0) ∧ w'.cell? ⟨gb159, 1, none⟩ = some (.int .i64 a2_1) ∧ w'.cell? ⟨gb159, 2, none⟩ = some (.int .i64 a2_2) ∧ w'.cell? ⟨gb159, 3, none⟩ = some (.int .i64 a2_3)) (ds := [14]) #[false, false, false, false, false, false, false, false, false, false, false, false, false, false, false] (by kernel_rfl) rfl rfl ⟨(zi BK162.out 0).trans rfl, (zi BK162.out 1).trans rfl, (zi BK162.out 2).trans rfl, (zi BK162.out 3).trans rfl, (zi BK158.out 0).trans rfl, (zi BK158.out 1).trans rfl, (zi BK158.out 2).trans rfl, (zi BK158.out 3).trans rfl, (zi BK159.out 0).trans rfl, (zi BK159.out 1).trans rfl, (zi BK159.out 2).trans rfl, (zi BK159.out 3).trans rfl⟩ (fun hHeld => ?_); refine zfa impl_State_split.tab7 impl_State_split.bits7 (fun HT_ HW_ => ?_)
      generalize w30.drew = w31 at BK158 BK159 BK160 BK161 BK162 BK163 HB hHeld ⊢
      refine zx (i := 0) (N := some 34) (v := ?_) (a' := ?_) #[true, false, false, false, false, false, false, false, false, false, false, false, false, false, false] rfl rfl (zv HT_.out (by kernel_rfl)) (fun _ _ _ h => h) (Or.inl ⟨by rfl, ?_⟩) ?_ ?_
      rotate_left
      ·intro w'
       go_simp
       with_reducible rfl
      rotate_left
      ·simp only [Act.put, List.setIfInBounds_toArray, List.set_cons_zero, List.set_cons_succ, zu, zt]
       rfl
      refine zx (i := 1) (N := some 35) (v := ?_) (a' := ?_) #[true, true, false, false, false, false, false, false, false, false, false, false, false, false, false] rfl rfl (zv HT_.out (by kernel_rfl)) (fun _ _ _ h => h) (Or.inl ⟨by rfl, ?_⟩) ?_ ?_
      rotate_left
      ·intro w'
       go_simp
       with_reducible rfl
      rotate_left
      ·simp only [Act.put, List.setIfInBounds_toArray, List.set_cons_zero, List.set_cons_succ, zu, zt]
       rfl
      refine zx (i := 3) (N := some 37) (v := ?_) (a' := ?_) #[true, true, false, true, false, false, false, false, false, false, false, false, false, false, false] rfl rfl (zv HT_.out (by kernel_rfl)) (fun _ _ _ h => h) (Or.inl ⟨by rfl, ?_⟩) ?_ ?_
      rotate_left
      ·intro w'
       go_simp
       with_reducible rfl
      rotate_left
      ·simp only [Act.put, List.setIfInBounds_toArray, List.set_cons_zero, List.set_cons_succ, zu, zt]
       rfl
      refine zx (i := 4) (N := some 38) (v := ?_) (a' := ?_) #[true, true, false, true, true, false, false, false, false, false, false, false, false, false, false] rfl rfl (zv HT_.out (by kernel_rfl)) (fun _ _ _ h => h) (Or.inl ⟨by rfl, ?_⟩) ?_ ?_
      rotate_left
      ·intro w'
       go_simp
       with_reducible rfl
      rotate_left
      ·simp only [Act.put, List.setIfInBounds_toArray, List.set_cons_zero, List.set_cons_succ, zu, zt]
       rfl
      refine zx (i := 5) (N := some 39) (v := ?_) (a' := ?_) #[true, true, false, true, true, true, false, false, false, false, false, false, false, false, false] rfl rfl (zv HT_.out (by kernel_rfl)) (fun _ _ _ h => h) (Or.inl ⟨by rfl, ?_⟩) ?_ ?_
      rotate_left
      ·intro w'
       go_simp
       with_reducible rfl
      rotate_left
      ·simp only [Act.put, List.setIfInBounds_toArray, List.set_cons_zero, List.set_cons_succ, zu, zt]
       rfl
      refine zx (i := 7) (N := some 41) (v := ?_) (a' := ?_) #[true, true, false, true, true, true, false, true, false, false, false, false, false, false, false] rfl rfl (zv HT_.out (by kernel_rfl)) (fun _ _ _ h => h) (Or.inl ⟨by rfl, ?_⟩) ?_ ?_
      rotate_left
      ·intro w'
       go_simp
       with_reducible rfl
      rotate_left
      ·simp only [Act.put, List.setIfInBounds_toArray, List.set_cons_zero, List.set_cons_succ, zu, zt]
       rfl
      refine zx (i := 8) (N := some 42) (v := ?_) (a' := ?_) #[true, true, false, true, true, true, false, true, true, false, false, false, false, false, false] rfl rfl (zv HT_.out (by kernel_rfl)) (fun _ _ _ h => h) (Or.inl ⟨by rfl, ?_⟩) ?_ ?_
      rotate_left
      ·intro w'
       go_simp
       with_reducible rfl
      rotate_left
      ·simp only [Act.put, List.setIfInBounds_toArray, List.set_cons_zero, List.set_cons_succ, zu, zt]
       rfl
      refine zx (i := 9) (N := some 43) (v := ?_) (a' := ?_) #[true, true, false, true, true, true, false, true, true, true, false, false, false, false, false] rfl rfl (zv HT_.out (by kernel_rfl)) (fun _ _ _ h => h) (Or.inl ⟨by rfl, ?_⟩) ?_ ?_
      rotate_left
      ·intro w'
       go_simp
       with_reducible rfl
      rotate_left
      ·simp only [Act.put, List.setIfInBounds_toArray, List.set_cons_zero, List.set_cons_succ, zu, zt]
       rfl
      refine zga (i := 2) (N := some 36) (v := ?_) (a' := ?_) #[true, true, true, true, true, true, false, true, true, true, false, false, false, false, false] rfl rfl (zz HT_.out HW_.out (by kernel_rfl)) (fun _ _ _ h => h) (Or.inl ⟨by rfl, ?_⟩) hHeld ?_ ?_
      rotate_left
      ·rintro w' ⟨s0, s1, s2, s3, s4, s5, s6, s7, s8, s9, s10, s11⟩
       go_simp
       with_reducible rfl
      rotate_left
      ·simp only [Act.put, List.setIfInBounds_toArray, List.set_cons_zero, List.set_cons_succ, zu, zt]
       rfl
      refine zga (i := 6) (N := some 40) (v := ?_) (a' := ?_) #[true, true, true, true, true, true, true, true, true, true, false, false, false, false, false] rfl rfl (zz HT_.out HW_.out (by kernel_rfl)) (fun _ _ _ h => h) (Or.inl ⟨by rfl, ?_⟩) hHeld ?_ ?_
      rotate_left
      ·rintro w' ⟨s0, s1, s2, s3, s4, s5, s6, s7, s8, s9, s10, s11⟩
       go_simp
       with_reducible rfl
      rotate_left
      ·simp only [Act.put, List.setIfInBounds_toArray, List.set_cons_zero, List.set_cons_succ, zu, zt]
       rfl
      refine zga (i := 10) (N := some 44) (v := ?_) (a' := ?_) #[true, true, true, true, true, true, true, true, true, true, true, false, false, false, false] rfl rfl (zz HT_.out HW_.out (by kernel_rfl)) (fun _ _ _ h => h) (Or.inl ⟨by rfl, ?_⟩) hHeld ?_ ?_
      rotate_left
      ·rintro w' ⟨s0, s1, s2, s3, s4, s5, s6, s7, s8, s9, s10, s11⟩
       go_simp
       with_reducible rfl
      rotate_left
      ·simp only [Act.put, List.setIfInBounds_toArray, List.set_cons_zero, List.set_cons_succ, zu, zt]
       rfl
      refine zx (i := 11) (N := some 45) (v := ?_) (a' := ?_) #[true, true, true, true, true, true, true, true, true, true, true, true, false, false, false] rfl rfl (zv HT_.out (by kernel_rfl)) (fun _ _ _ h => h) (Or.inl ⟨by rfl, ?_⟩) ?_ ?_
      rotate_left
      ·intro w'
       go_simp
       with_reducible rfl
      rotate_left
      ·simp only [Act.put, List.setIfInBounds_toArray, List.set_cons_zero, List.set_cons_succ, zu, zt]
       rfl
      refine zx (i := 12) (N := some 46) (v := ?_) (a' := ?_) #[true, true, true, true, true, true, true, true, true, true, true, true, true, false, false] rfl rfl (zv HT_.out (by kernel_rfl)) (fun _ _ _ h => h) (Or.inl ⟨by rfl, ?_⟩) ?_ ?_
      rotate_left
      ·intro w'
       go_simp
       with_reducible rfl
      rotate_left
      ·simp only [Act.put, List.setIfInBounds_toArray, List.set_cons_zero, List.set_cons_succ, zu, zt]
       rfl
      refine zx (i := 13) (N := some 47) (v := ?_) (a' := ?_) #[true, true, true, true, true, true, true, true, true, true, true, true, true, true, false] rfl rfl (zv HT_.out (by kernel_rfl)) (fun _ _ _ h => h) (Or.inl ⟨by rfl, ?_⟩) ?_ ?_
      rotate_left
      ·intro w'
       go_simp
       with_reducible rfl
      rotate_left
      ·simp only [Act.put, List.setIfInBounds_toArray, List.set_cons_zero, List.set_cons_succ, zu, zt]
       rfl
      refine last_ (i := 14) (N := none) #[true, true, true, true, true, true, true, true, true, true, true, true, true, true, true] rfl rfl (zia HT_.out (by kernel_rfl)) (by decide) (fun K hK => ?_)
      have hs32 : w31.cell? ⟨gb162, 1, none⟩ = some (.int .i64 a2_1) := (zi BK162.out 1).trans rfl
      have hfs32 := zm BK162.out 1
      have hns32_0 := NB158_162.out
      have hns32_1 := NB159_162.out
      have hns32_2 := NB160_162.out
      have hns32_3 := NB161_162.out
      have hns32_5 := NB163_162.out
      have hms32_0 := NB162_158.out
      have hms32_1 := NB162_159.out
      have hms32_2 := NB162_160.out
      have hms32_3 := NB162_161.out
      have hms32_5 := NB162_163.out
      refine zma (w1 := ?_) (by rfl) rfl ?_ ?_
      rotate_left
      ·go_simp
       rfl
      refine hK.out _ _ ?_
      clear hK K
      refine zqa (zja HT_.out (by kernel_rfl)) ?_
      try go_wp2
      have n0_ : zh ((w31.setCell ⟨gb162, 1, none⟩ (.int .i64 (wrap64 (a2_1 + (wrap64 (a0_0 - a2_0)))))).heap[gb158]? = some (.cells #[.int .i64 a0_0, .int .i64 a0_1, .int .i64 a0_2, .int .i64 a0_3] 23 (0, 0))) := ⟨by (with_reducible repeat (first | refine ze ?_ _ | refine zf ?_ | refine za ?_ _)); refine zp ?_ NB158_162.out _; (with_reducible repeat (first | refine ze ?_ _ | refine zf ?_ | refine za ?_ _)); exact BK158.out⟩
      have n1_ : zh ((w31.setCell ⟨gb162, 1, none⟩ (.int .i64 (wrap64 (a2_1 + (wrap64 (a0_0 - a2_0)))))).heap[gb159]? = some (.cells #[.int .i64 a2_0, .int .i64 a2_1, .int .i64 a2_2, .int .i64 a2_3] 23 (0, 0))) := ⟨by (with_reducible repeat (first | refine ze ?_ _ | refine zf ?_ | refine za ?_ _)); refine zp ?_ NB159_162.out _; (with_reducible repeat (first | refine ze ?_ _ | refine zf ?_ | refine za ?_ _)); exact BK159.out⟩
      have n2_ : zh ((w31.setCell ⟨gb162, 1, none⟩ (.int .i64 (wrap64 (a2_1 + (wrap64 (a0_0 - a2_0)))))).heap[gb160]? = some (.cells #[.int .i64 0, .int .i64 0, .int .i64 0, .int .i64 0] 23 (0, 0))) := ⟨by (with_reducible repeat (first | refine ze ?_ _ | refine zf ?_ | refine za ?_ _)); refine zp ?_ NB160_162.out _; (with_reducible repeat (first | refine ze ?_ _ | refine zf ?_ | refine za ?_ _)); exact BK160.out⟩
      have n3_ : zh ((w31.setCell ⟨gb162, 1, none⟩ (.int .i64 (wrap64 (a2_1 + (wrap64 (a0_0 - a2_0)))))).heap[gb161]? = some (.cells #[.int .i64 0, .int .i64 0, .int .i64 0, .int .i64 0] 23 (0, 0))) := ⟨by (with_reducible repeat (first | refine ze ?_ _ | refine zf ?_ | refine za ?_ _)); refine zp ?_ NB161_162.out _; (with_reducible repeat (first | refine ze ?_ _ | refine zf ?_ | refine za ?_ _)); exact BK161.out⟩
      have n4_ : zh ((w31.setCell ⟨gb162, 1, none⟩ (.int .i64 (wrap64 (a2_1 + (wrap64 (a0_0 - a2_0)))))).heap[gb162]? = some (.cells #[.int .i64 x163000_1, .int .i64 (wrap64 (a2_1 + (wrap64 (a0_0 - a2_0)))), .int .i64 x163002_1, .int .i64 x163003_1] 23 (0, 0))) := ⟨by (with_reducible repeat (first | refine ze ?_ _ | refine zf ?_ | refine za ?_ _)); refine zw (cs := #[.int .i64 x163000_1, .int .i64 a2_1, .int .i64 x163002_1, .int .i64 x163003_1]) ?_ 1 _ rfl; (with_reducible repeat (first | refine ze ?_ _ | refine zf ?_ | refine za ?_ _)); exact BK162.out⟩
      have n5_ : zh ((w31.setCell ⟨gb162, 1, none⟩ (.int .i64 (wrap64 (a2_1 + (wrap64 (a0_0 - a2_0)))))).heap[gb163]? = some (.cells #[.int .i64 x164000_1, .int .i64 (wrap64 (a0_1 - a2_1)), .int .i64 x164002_1, .int .i64 x164003_1] 23 (0, 0))) := ⟨by (with_reducible repeat (first | refine ze ?_ _ | refine zf ?_ | refine za ?_ _)); refine zp ?_ NB163_162.out _; (with_reducible repeat (first | refine ze ?_ _ | refine zf ?_ | refine za ?_ _)); exact BK163.out⟩
      have n6_ : zh (Below w.heap.size w (w31.setCell ⟨gb162, 1, none⟩ (.int .i64 (wrap64 (a2_1 + (wrap64 (a0_0 - a2_0))))))) := ⟨by repeat (first | (with_reducible first | exact HB.out | apply zl | apply zj | apply zk | refine zg ?_ GE158.out | refine zg ?_ GE159.out | refine zg ?_ GE160.out | refine zg ?_ GE161.out | refine zg ?_ GE162.out | refine zg ?_ GE163.out) | exact HB.out)⟩
      (try clear BK158)
      (try clear BK159)
      (try clear BK160)
      (try clear BK161)
      (try clear BK162)
      (try clear BK163)
      (try clear HB)
      generalize (w31.setCell ⟨gb162, 1, none⟩ (.int .i64 (wrap64 (a2_1 + (wrap64 (a0_0 - a2_0)))))) = w33 at n0_ n1_ n2_ n3_ n4_ n5_ n6_ ⊢
      have BK158 := n0_
      have BK159 := n1_
      have BK160 := n2_
      have BK161 := n3_
      have BK162 := n4_
      have BK163 := n5_
      have HB := n6_
      clear n0_ n1_ n2_ n3_ n4_ n5_ n6_
      have n0_ := zh.mk (zf BK158.out)
      have n1_ := zh.mk (zf BK159.out)
      have n2_ := zh.mk (zf BK160.out)
      have n3_ := zh.mk (zf BK161.out)
      have n4_ := zh.mk (zf BK162.out)
      have n5_ := zh.mk (zf BK163.out)
      have n6_ := zh.mk (zk HB.out)
      clear BK158
      clear BK159
      clear BK160
      clear BK161
      clear BK162
      clear BK163
      clear HB
      have BK158 := n0_
      have BK159 := n1_
      have BK160 := n2_
      have BK161 := n3_
      have BK162 := n4_
      have BK163 := n5_
      have HB := n6_
      clear n0_ n1_ n2_ n3_ n4_ n5_ n6_
      refine zla (n := 10) (S := fun w' => w'.cell? ⟨gb163, 0, none⟩ = some (.int .i64 x164000_1) ∧ w'.cell? ⟨gb163, 1, none⟩ = some (.int .i64 (wrap64 (a0_1 - a2_1))) ∧ w'.cell? ⟨gb163, 2, none⟩ = some (.int .i64 x164002_1) ∧ w'.cell? ⟨gb163, 3, none⟩ = some (.int .i64 x164003_1) ∧ w'.cell? ⟨gb159, 0, none⟩ = some (.int .i64 a2_0) ∧ w'.cell? ⟨gb159, 1, none⟩ = some (.int .i64 a2_1) ∧ w'.cell? ⟨gb159, 2, none⟩ = some (.int .i64 a2_2) ∧ w'.cell? ⟨gb159, 3, none⟩ = some (.int .i64 a2_3)) (ds := [9]) #[false, false, false, false, false, false, false, false, false, false] (by kernel_rfl) rfl rfl ⟨(zi BK163.out 0).trans rfl, (zi BK163.out 1).trans rfl, (zi BK163.out 2).trans rfl, (zi BK163.out 3).trans rfl, (zi BK159.out 0).trans rfl, (zi BK159.out 1).trans rfl, (zi BK159.out 2).trans rfl, (zi BK159.out 3).trans rfl⟩ (fun hHeld => ?_); refine zfa impl_State_split.tab8 impl_State_split.bits8 (fun HT_ HW_ => ?_)
      generalize w33.drew = w34 at BK158 BK159 BK160 BK161 BK162 BK163 HB hHeld ⊢
      refine zx (i := 0) (N := some 48) (v := ?_) (a' := ?_) #[true, false, false, false, false, false, false, false, false, false] rfl rfl (zv HT_.out (by kernel_rfl)) (fun _ _ _ h => h) (Or.inl ⟨by rfl, ?_⟩) ?_ ?_
      rotate_left
      ·intro w'
       go_simp
       with_reducible rfl
      rotate_left
      ·simp only [Act.put, List.setIfInBounds_toArray, List.set_cons_zero, List.set_cons_succ, zu, zt]
       rfl
      refine zx (i := 1) (N := some 49) (v := ?_) (a' := ?_) #[true, true, false, false, false, false, false, false, false, false] rfl rfl (zv HT_.out (by kernel_rfl)) (fun _ _ _ h => h) (Or.inl ⟨by rfl, ?_⟩) ?_ ?_
      rotate_left
      ·intro w'
       go_simp
       with_reducible rfl
      rotate_left
      ·simp only [Act.put, List.setIfInBounds_toArray, List.set_cons_zero, List.set_cons_succ, zu, zt]
       rfl
      refine zx (i := 3) (N := some 51) (v := ?_) (a' := ?_) #[true, true, false, true, false, false, false, false, false, false] rfl rfl (zv HT_.out (by kernel_rfl)) (fun _ _ _ h => h) (Or.inl ⟨by rfl, ?_⟩) ?_ ?_
      rotate_left
      ·intro w'
       go_simp
       with_reducible rfl
      rotate_left
      ·simp only [Act.put, List.setIfInBounds_toArray, List.set_cons_zero, List.set_cons_succ, zu, zt]
       rfl
      refine zx (i := 4) (N := some 52) (v := ?_) (a' := ?_) #[true, true, false, true, true, false, false, false, false, false] rfl rfl (zv HT_.out (by kernel_rfl)) (fun _ _ _ h => h) (Or.inl ⟨by rfl, ?_⟩) ?_ ?_
      rotate_left
      ·intro w'
       go_simp
       with_reducible rfl
      rotate_left
      ·simp only [Act.put, List.setIfInBounds_toArray, List.set_cons_zero, List.set_cons_succ, zu, zt]
       rfl
      refine zx (i := 5) (N := some 53) (v := ?_) (a' := ?_) #[true, true, false, true, true, true, false, false, false, false] rfl rfl (zv HT_.out (by kernel_rfl)) (fun _ _ _ h => h) (Or.inl ⟨by rfl, ?_⟩) ?_ ?_
      rotate_left
      ·intro w'
       go_simp
       with_reducible rfl
      rotate_left
      ·simp only [Act.put, List.setIfInBounds_toArray, List.set_cons_zero, List.set_cons_succ, zu, zt]
       rfl
      refine zga (i := 2) (N := some 50) (v := ?_) (a' := ?_) #[true, true, true, true, true, true, false, false, false, false] rfl rfl (zz HT_.out HW_.out (by kernel_rfl)) (fun _ _ _ h => h) (Or.inl ⟨by rfl, ?_⟩) hHeld ?_ ?_
      rotate_left
      ·rintro w' ⟨s0, s1, s2, s3, s4, s5, s6, s7⟩
       go_simp
       with_reducible rfl
      rotate_left
      ·simp only [Act.put, List.setIfInBounds_toArray, List.set_cons_zero, List.set_cons_succ, zu, zt]
       rfl
      refine zga (i := 6) (N := some 54) (v := ?_) (a' := ?_) #[true, true, true, true, true, true, true, false, false, false] rfl rfl (zz HT_.out HW_.out (by kernel_rfl)) (fun _ _ _ h => h) (Or.inl ⟨by rfl, ?_⟩) hHeld ?_ ?_
      rotate_left
      ·rintro w' ⟨s0, s1, s2, s3, s4, s5, s6, s7⟩
       go_simp
       with_reducible rfl
      rotate_left
      ·simp only [Act.put, List.setIfInBounds_toArray, List.set_cons_zero, List.set_cons_succ, zu, zt]
       rfl
      refine zx (i := 7) (N := some 55) (v := ?_) (a' := ?_) #[true, true, true, true, true, true, true, true, false, false] rfl rfl (zv HT_.out (by kernel_rfl)) (fun _ _ _ h => h) (Or.inl ⟨by rfl, ?_⟩) ?_ ?_
      rotate_left
      ·intro w'
       go_simp
       with_reducible rfl
      rotate_left
      ·simp only [Act.put, List.setIfInBounds_toArray, List.set_cons_zero, List.set_cons_succ, zu, zt]
       rfl
      refine zx (i := 8) (N := some 56) (v := ?_) (a' := ?_) #[true, true, true, true, true, true, true, true, true, false] rfl rfl (zv HT_.out (by kernel_rfl)) (fun _ _ _ h => h) (Or.inl ⟨by rfl, ?_⟩) ?_ ?_
      rotate_left
      ·intro w'
       go_simp
       with_reducible rfl
      rotate_left
      ·simp only [Act.put, List.setIfInBounds_toArray, List.set_cons_zero, List.set_cons_succ, zu, zt]
       rfl
      refine last_ (i := 9) (N := none) #[true, true, true, true, true, true, true, true, true, true] rfl rfl (zia HT_.out (by kernel_rfl)) (by decide) (fun K hK => ?_)
      have hs35 : w34.cell? ⟨gb163, 1, none⟩ = some (.int .i64 (wrap64 (a0_1 - a2_1))) := (zi BK163.out 1).trans rfl
      have hfs35 := zm BK163.out 1
      have hns35_0 := NB158_163.out
      have hns35_1 := NB159_163.out
      have hns35_2 := NB160_163.out
      have hns35_3 := NB161_163.out
      have hns35_4 := NB162_163.out
      have hms35_0 := NB163_158.out
      have hms35_1 := NB163_159.out
      have hms35_2 := NB163_160.out
      have hms35_3 := NB163_161.out
      have hms35_4 := NB163_162.out
      refine zma (w1 := ?_) (by rfl) rfl ?_ ?_
      rotate_left
      ·go_simp
       rfl
      refine hK.out _ _ ?_
      clear hK K
      refine zqa (zja HT_.out (by kernel_rfl)) ?_
      try go_wp2
      go_roundg k1
      case measure => have := HK1.out; omega
      case rel => exact ⟨(1 + 1), (x163000_1), (wrap64 (a2_1 + (wrap64 (a0_0 - a2_0)))), (x163002_1), (x163003_1), (x164000_1), (wrap64 ((wrap64 (a0_1 - a2_1)) + a2_0)), (x164002_1), (x164003_1), (by first | rfl | (simp; done) | (simp [*]; done)), H', ⟨by have := HK1.out; omega⟩, ⟨by (with_reducible repeat (first | refine ze ?_ _ | refine zf ?_ | refine za ?_ _)); refine zp ?_ NB158_163.out _; (with_reducible repeat (first | refine ze ?_ _ | refine zf ?_ | refine za ?_ _)); exact BK158.out⟩, ⟨by (with_reducible repeat (first | refine ze ?_ _ | refine zf ?_ | refine za ?_ _)); refine zp ?_ NB159_163.out _; (with_reducible repeat (first | refine ze ?_ _ | refine zf ?_ | refine za ?_ _)); exact BK159.out⟩, ⟨by (with_reducible repeat (first | refine ze ?_ _ | refine zf ?_ | refine za ?_ _)); refine zp ?_ NB160_163.out _; (with_reducible repeat (first | refine ze ?_ _ | refine zf ?_ | refine za ?_ _)); exact BK160.out⟩, ⟨by (with_reducible repeat (first | refine ze ?_ _ | refine zf ?_ | refine za ?_ _)); refine zp ?_ NB161_163.out _; (with_reducible repeat (first | refine ze ?_ _ | refine zf ?_ | refine za ?_ _)); exact BK161.out⟩, ⟨by (with_reducible repeat (first | refine ze ?_ _ | refine zf ?_ | refine za ?_ _)); refine zp ?_ NB162_163.out _; (with_reducible repeat (first | refine ze ?_ _ | refine zf ?_ | refine za ?_ _)); exact BK162.out⟩, ⟨by (with_reducible repeat (first | refine ze ?_ _ | refine zf ?_ | refine za ?_ _)); refine zw (cs := #[.int .i64 x164000_1, .int .i64 (wrap64 (a0_1 - a2_1)), .int .i64 x164002_1, .int .i64 x164003_1]) ?_ 1 _ rfl; (with_reducible repeat (first | refine ze ?_ _ | refine zf ?_ | refine za ?_ _)); exact BK163.out⟩, ⟨by repeat (first | (with_reducible first | exact HB.out | apply zl | apply zj | apply zk | refine zg ?_ GE158.out | refine zg ?_ GE159.out | refine zg ?_ GE160.out | refine zg ?_ GE161.out | refine zg ?_ GE162.out | refine zg ?_ GE163.out) | exact HB.out)⟩⟩
     ·rw [if_neg c26] at H
      clear c26
      by_cases c36 : x15_1 = 2
      ·rw [if_pos c36] at H
       subst c36
       have H' := zh.mk H
       clear H
       try go_wp2
       have n0_ := zh.mk (zf BK158.out)
       have n1_ := zh.mk (zf BK159.out)
       have n2_ := zh.mk (zf BK160.out)
       have n3_ := zh.mk (zf BK161.out)
       have n4_ := zh.mk (zf BK162.out)
       have n5_ := zh.mk (zf BK163.out)
       have n6_ := zh.mk (zk HB.out)
       clear BK158
       clear BK159
       clear BK160
       clear BK161
       clear BK162
       clear BK163
       clear HB
       have BK158 := n0_
       have BK159 := n1_
       have BK160 := n2_
       have BK161 := n3_
       have BK162 := n4_
       have BK163 := n5_
       have HB := n6_
       clear n0_ n1_ n2_ n3_ n4_ n5_ n6_
       refine zla (n := 16) (S := fun w' => w'.cell? ⟨gb159, 0, none⟩ = some (.int .i64 a2_0) ∧ w'.cell? ⟨gb159, 1, none⟩ = some (.int .i64 a2_1) ∧ w'.cell? ⟨gb159, 2, none⟩ = some (.int .i64 a2_2) ∧ w'.cell? ⟨gb159, 3, none⟩ = some (.int .i64 a2_3) ∧ w'.cell? ⟨gb158, 0, none⟩ = some (.int .i64 a0_0) ∧ w'.cell? ⟨gb158, 1, none⟩ = some (.int .i64 a0_1) ∧ w'.cell? ⟨gb158, 2, none⟩ = some (.int .i64 a0_2) ∧ w'.cell? ⟨gb158, 3, none⟩ = some (.int .i64 a0_3)) (ds := []) #[false, false, false, false, false, false, false, false, false, false, false, false, false, false, false, false] (by kernel_rfl) rfl rfl ⟨(zi BK159.out 0).trans rfl, (zi BK159.out 1).trans rfl, (zi BK159.out 2).trans rfl, (zi BK159.out 3).trans rfl, (zi BK158.out 0).trans rfl, (zi BK158.out 1).trans rfl, (zi BK158.out 2).trans rfl, (zi BK158.out 3).trans rfl⟩ (fun hHeld => ?_); refine zfa impl_State_split.tab5 impl_State_split.bits5 (fun HT_ HW_ => ?_)
       generalize wr.drew = w37 at BK158 BK159 BK160 BK161 BK162 BK163 HB hHeld ⊢
       refine zx (i := 0) (N := some 18) (v := ?_) (a' := ?_) #[true, false, false, false, false, false, false, false, false, false, false, false, false, false, false, false] rfl rfl (zv HT_.out (by kernel_rfl)) (fun _ _ _ h => h) (Or.inl ⟨by rfl, ?_⟩) ?_ ?_
       rotate_left
       ·intro w'
        go_simp
        with_reducible rfl
       rotate_left
       ·simp only [Act.put, List.setIfInBounds_toArray, List.set_cons_zero, List.set_cons_succ, zu, zt]
        rfl
       refine zx (i := 1) (N := some 19) (v := ?_) (a' := ?_) #[true, true, false, false, false, false, false, false, false, false, false, false, false, false, false, false] rfl rfl (zv HT_.out (by kernel_rfl)) (fun _ _ _ h => h) (Or.inl ⟨by rfl, ?_⟩) ?_ ?_
       rotate_left
       ·intro w'
        go_simp
        with_reducible rfl
       rotate_left
       ·simp only [Act.put, List.setIfInBounds_toArray, List.set_cons_zero, List.set_cons_succ, zu, zt]
        rfl
       refine zx (i := 2) (N := some 20) (v := ?_) (a' := ?_) #[true, true, true, false, false, false, false, false, false, false, false, false, false, false, false, false] rfl rfl (zv HT_.out (by kernel_rfl)) (fun _ _ _ h => h) (Or.inl ⟨by rfl, ?_⟩) ?_ ?_
       rotate_left
       ·intro w'
        go_simp
        with_reducible rfl
       rotate_left
       ·simp only [Act.put, List.setIfInBounds_toArray, List.set_cons_zero, List.set_cons_succ, zu, zt]
        rfl
       refine zx (i := 3) (N := some 21) (v := ?_) (a' := ?_) #[true, true, true, true, false, false, false, false, false, false, false, false, false, false, false, false] rfl rfl (zv HT_.out (by kernel_rfl)) (fun _ _ _ h => h) (Or.inl ⟨by rfl, ?_⟩) ?_ ?_
       rotate_left
       ·intro w'
        go_simp
        with_reducible rfl
       rotate_left
       ·simp only [Act.put, List.setIfInBounds_toArray, List.set_cons_zero, List.set_cons_succ, zu, zt]
        rfl
       refine zx (i := 5) (N := some 23) (v := ?_) (a' := ?_) #[true, true, true, true, false, true, false, false, false, false, false, false, false, false, false, false] rfl rfl (zv HT_.out (by kernel_rfl)) (fun _ _ _ h => h) (Or.inl ⟨by rfl, ?_⟩) ?_ ?_
       rotate_left
       ·intro w'
        go_simp
        with_reducible rfl
       rotate_left
       ·simp only [Act.put, List.setIfInBounds_toArray, List.set_cons_zero, List.set_cons_succ, zu, zt]
        rfl
       refine zx (i := 6) (N := some 24) (v := ?_) (a' := ?_) #[true, true, true, true, false, true, true, false, false, false, false, false, false, false, false, false] rfl rfl (zv HT_.out (by kernel_rfl)) (fun _ _ _ h => h) (Or.inl ⟨by rfl, ?_⟩) ?_ ?_
       rotate_left
       ·intro w'
        go_simp
        with_reducible rfl
       rotate_left
       ·simp only [Act.put, List.setIfInBounds_toArray, List.set_cons_zero, List.set_cons_succ, zu, zt]
        rfl
       refine zx (i := 8) (N := some 26) (v := ?_) (a' := ?_) #[true, true, true, true, false, true, true, false, true, false, false, false, false, false, false, false] rfl rfl (zv HT_.out (by kernel_rfl)) (fun _ _ _ h => h) (Or.inl ⟨by rfl, ?_⟩) ?_ ?_
       rotate_left
       ·intro w'
        go_simp
        with_reducible rfl
       rotate_left
       ·simp only [Act.put, List.setIfInBounds_toArray, List.set_cons_zero, List.set_cons_succ, zu, zt]
        rfl
       refine zx (i := 9) (N := some 27) (v := ?_) (a' := ?_) #[true, true, true, true, false, true, true, false, true, true, false, false, false, false, false, false] rfl rfl (zv HT_.out (by kernel_rfl)) (fun _ _ _ h => h) (Or.inl ⟨by rfl, ?_⟩) ?_ ?_
       rotate_left
       ·intro w'
        go_simp
        with_reducible rfl
       rotate_left
       ·simp only [Act.put, List.setIfInBounds_toArray, List.set_cons_zero, List.set_cons_succ, zu, zt]
        rfl
       refine zga (i := 4) (N := some 22) (v := ?_) (a' := ?_) #[true, true, true, true, true, true, true, false, true, true, false, false, false, false, false, false] rfl rfl (zz HT_.out HW_.out (by kernel_rfl)) (fun _ _ _ h => h) (Or.inl ⟨by rfl, ?_⟩) hHeld ?_ ?_
       rotate_left
       ·rintro w' ⟨s0, s1, s2, s3, s4, s5, s6, s7⟩
        go_simp
        with_reducible rfl
       rotate_left
       ·simp only [Act.put, List.setIfInBounds_toArray, List.set_cons_zero, List.set_cons_succ, zu, zt]
        rfl
       refine zx (i := 12) (N := some 30) (v := ?_) (a' := ?_) #[true, true, true, true, true, true, true, false, true, true, false, false, true, false, false, false] rfl rfl (zv HT_.out (by kernel_rfl)) (fun _ _ _ h => h) (Or.inl ⟨by rfl, ?_⟩) ?_ ?_
       rotate_left
       ·intro w'
        go_simp
        with_reducible rfl
       rotate_left
       ·simp only [Act.put, List.setIfInBounds_toArray, List.set_cons_zero, List.set_cons_succ, zu, zt]
        rfl
       refine zga (i := 7) (N := some 25) (v := ?_) (a' := ?_) #[true, true, true, true, true, true, true, true, true, true, false, false, true, false, false, false] rfl rfl (zz HT_.out HW_.out (by kernel_rfl)) (fun _ _ _ h => h) (Or.inl ⟨by rfl, ?_⟩) hHeld ?_ ?_
       rotate_left
       ·rintro w' ⟨s0, s1, s2, s3, s4, s5, s6, s7⟩
        go_simp
        with_reducible rfl
       rotate_left
       ·simp only [Act.put, List.setIfInBounds_toArray, List.set_cons_zero, List.set_cons_succ, zu, zt]
        rfl
       refine zga (i := 10) (N := some 28) (v := ?_) (a' := ?_) #[true, true, true, true, true, true, true, true, true, true, true, false, true, false, false, false] rfl rfl (zz HT_.out HW_.out (by kernel_rfl)) (fun _ _ _ h => h) (Or.inl ⟨by rfl, ?_⟩) hHeld ?_ ?_
       rotate_left
       ·rintro w' ⟨s0, s1, s2, s3, s4, s5, s6, s7⟩
        go_simp
        with_reducible rfl
       rotate_left
       ·simp only [Act.put, List.setIfInBounds_toArray, List.set_cons_zero, List.set_cons_succ, zu, zt]
        rfl
       refine zx (i := 11) (N := some 29) (v := ?_) (a' := ?_) #[true, true, true, true, true, true, true, true, true, true, true, true, true, false, false, false] rfl rfl (zv HT_.out (by kernel_rfl)) (fun _ _ _ h => h) (Or.inl ⟨by rfl, ?_⟩) ?_ ?_
       rotate_left
       ·intro w'
        go_simp
        with_reducible rfl
       rotate_left
       ·simp only [Act.put, List.setIfInBounds_toArray, List.set_cons_zero, List.set_cons_succ, zu, zt]
        rfl
       refine one_ (i := 13) (N := none) #[true, true, true, true, true, true, true, true, true, true, true, true, true, true, false, false] rfl rfl (zia HT_.out (by kernel_rfl)) (by decide) (fun K hK => ?_)
       have hs38 : w37.cell? ⟨gb162, 2, none⟩ = some (.int .i64 x163002_1) := (zi BK162.out 2).trans rfl
       have hfs38 := zm BK162.out 2
       have hns38_0 := NB158_162.out
       have hns38_1 := NB159_162.out
       have hns38_2 := NB160_162.out
       have hns38_3 := NB161_162.out
       have hns38_5 := NB163_162.out
       have hms38_0 := NB162_158.out
       have hms38_1 := NB162_159.out
       have hms38_2 := NB162_160.out
       have hms38_3 := NB162_161.out
       have hms38_5 := NB162_163.out
       refine zma (w1 := ?_) (by rfl) rfl ?_ ?_
       rotate_left
       ·go_simp
        rfl
       refine hK.out _ _ ⟨((zn (p := ⟨gb162, _, none⟩) NB159_162.out _).trans (hHeld.1)), ((zn (p := ⟨gb162, _, none⟩) NB159_162.out _).trans (hHeld.2.1)), ((zn (p := ⟨gb162, _, none⟩) NB159_162.out _).trans (hHeld.2.2.1)), ((zn (p := ⟨gb162, _, none⟩) NB159_162.out _).trans (hHeld.2.2.2.1)), ((zn (p := ⟨gb162, _, none⟩) NB158_162.out _).trans (hHeld.2.2.2.2.1)), ((zn (p := ⟨gb162, _, none⟩) NB158_162.out _).trans (hHeld.2.2.2.2.2.1)), ((zn (p := ⟨gb162, _, none⟩) NB158_162.out _).trans (hHeld.2.2.2.2.2.2.1)), ((zn (p := ⟨gb162, _, none⟩) NB158_162.out _).trans (hHeld.2.2.2.2.2.2.2))⟩ (fun hHeld => ?_)
       clear hK K
       refine zx (i := 14) (N := some 31) (v := ?_) (a' := ?_) #[true, true, true, true, true, true, true, true, true, true, true, true, true, true, true, false] rfl rfl (zv HT_.out (by kernel_rfl)) (fun _ _ _ h => h) (Or.inl ⟨by rfl, ?_⟩) ?_ ?_
       rotate_left
       ·intro w'
        go_simp
        with_reducible rfl
       rotate_left
       ·simp only [Act.put, List.setIfInBounds_toArray, List.set_cons_zero, List.set_cons_succ, zu, zt]
        rfl
       refine one_ (i := 15) (N := none) #[true, true, true, true, true, true, true, true, true, true, true, true, true, true, true, true] rfl rfl (zia HT_.out (by kernel_rfl)) (by decide) (fun K hK => ?_)
       have hs39 : w37.cell? ⟨gb163, 2, none⟩ = some (.int .i64 x164002_1) := (zi BK163.out 2).trans rfl
       have hfs39 := zm BK163.out 2
       have hns39_0 := NB158_163.out
       have hns39_1 := NB159_163.out
       have hns39_2 := NB160_163.out
       have hns39_3 := NB161_163.out
       have hns39_4 := NB162_163.out
       have hms39_0 := NB163_158.out
       have hms39_1 := NB163_159.out
       have hms39_2 := NB163_160.out
       have hms39_3 := NB163_161.out
       have hms39_4 := NB163_162.out
       refine zma (w1 := ?_) (by rfl) rfl ?_ ?_
       rotate_left
       ·go_simp
        rfl
       refine hK.out _ _ ⟨((zn (p := ⟨gb163, _, none⟩) NB159_163.out _).trans (hHeld.1)), ((zn (p := ⟨gb163, _, none⟩) NB159_163.out _).trans (hHeld.2.1)), ((zn (p := ⟨gb163, _, none⟩) NB159_163.out _).trans (hHeld.2.2.1)), ((zn (p := ⟨gb163, _, none⟩) NB159_163.out _).trans (hHeld.2.2.2.1)), ((zn (p := ⟨gb163, _, none⟩) NB158_163.out _).trans (hHeld.2.2.2.2.1)), ((zn (p := ⟨gb163, _, none⟩) NB158_163.out _).trans (hHeld.2.2.2.2.2.1)), ((zn (p := ⟨gb163, _, none⟩) NB158_163.out _).trans (hHeld.2.2.2.2.2.2.1)), ((zn (p := ⟨gb163, _, none⟩) NB158_163.out _).trans (hHeld.2.2.2.2.2.2.2))⟩ (fun hHeld => ?_)
       clear hK K
       refine zqa (zja HT_.out (by kernel_rfl)) ?_
       try go_wp2
       have n0_ : zh (((w37.setCell ⟨gb162, 2, none⟩ (.int .i64 a2_2)).setCell ⟨gb163, 2, none⟩ (.int .i64 (wrap64 (a0_2 - a2_2)))).heap[gb158]? = some (.cells #[.int .i64 a0_0, .int .i64 a0_1, .int .i64 a0_2, .int .i64 a0_3] 23 (0, 0))) := ⟨by (with_reducible repeat (first | refine ze ?_ _ | refine zf ?_ | refine za ?_ _)); refine zp ?_ NB158_163.out _; (with_reducible repeat (first | refine ze ?_ _ | refine zf ?_ | refine za ?_ _)); refine zp ?_ NB158_162.out _; (with_reducible repeat (first | refine ze ?_ _ | refine zf ?_ | refine za ?_ _)); exact BK158.out⟩
       have n1_ : zh (((w37.setCell ⟨gb162, 2, none⟩ (.int .i64 a2_2)).setCell ⟨gb163, 2, none⟩ (.int .i64 (wrap64 (a0_2 - a2_2)))).heap[gb159]? = some (.cells #[.int .i64 a2_0, .int .i64 a2_1, .int .i64 a2_2, .int .i64 a2_3] 23 (0, 0))) := ⟨by (with_reducible repeat (first | refine ze ?_ _ | refine zf ?_ | refine za ?_ _)); refine zp ?_ NB159_163.out _; (with_reducible repeat (first | refine ze ?_ _ | refine zf ?_ | refine za ?_ _)); refine zp ?_ NB159_162.out _; (with_reducible repeat (first | refine ze ?_ _ | refine zf ?_ | refine za ?_ _)); exact BK159.out⟩
       have n2_ : zh (((w37.setCell ⟨gb162, 2, none⟩ (.int .i64 a2_2)).setCell ⟨gb163, 2, none⟩ (.int .i64 (wrap64 (a0_2 - a2_2)))).heap[gb160]? = some (.cells #[.int .i64 0, .int .i64 0, .int .i64 0, .int .i64 0] 23 (0, 0))) := ⟨by (with_reducible repeat (first | refine ze ?_ _ | refine zf ?_ | refine za ?_ _)); refine zp ?_ NB160_163.out _; (with_reducible repeat (first | refine ze ?_ _ | refine zf ?_ | refine za ?_ _)); refine zp ?_ NB160_162.out _; (with_reducible repeat (first | refine ze ?_ _ | refine zf ?_ | refine za ?_ _)); exact BK160.out⟩
       have n3_ : zh (((w37.setCell ⟨gb162, 2, none⟩ (.int .i64 a2_2)).setCell ⟨gb163, 2, none⟩ (.int .i64 (wrap64 (a0_2 - a2_2)))).heap[gb161]? = some (.cells #[.int .i64 0, .int .i64 0, .int .i64 0, .int .i64 0] 23 (0, 0))) := ⟨by (with_reducible repeat (first | refine ze ?_ _ | refine zf ?_ | refine za ?_ _)); refine zp ?_ NB161_163.out _; (with_reducible repeat (first | refine ze ?_ _ | refine zf ?_ | refine za ?_ _)); refine zp ?_ NB161_162.out _; (with_reducible repeat (first | refine ze ?_ _ | refine zf ?_ | refine za ?_ _)); exact BK161.out⟩
       have n4_ : zh (((w37.setCell ⟨gb162, 2, none⟩ (.int .i64 a2_2)).setCell ⟨gb163, 2, none⟩ (.int .i64 (wrap64 (a0_2 - a2_2)))).heap[gb162]? = some (.cells #[.int .i64 x163000_1, .int .i64 x163001_1, .int .i64 a2_2, .int .i64 x163003_1] 23 (0, 0))) := ⟨by (with_reducible repeat (first | refine ze ?_ _ | refine zf ?_ | refine za ?_ _)); refine zp ?_ NB162_163.out _; (with_reducible repeat (first | refine ze ?_ _ | refine zf ?_ | refine za ?_ _)); refine zw (cs := #[.int .i64 x163000_1, .int .i64 x163001_1, .int .i64 x163002_1, .int .i64 x163003_1]) ?_ 2 _ rfl; (with_reducible repeat (first | refine ze ?_ _ | refine zf ?_ | refine za ?_ _)); exact BK162.out⟩
       have n5_ : zh (((w37.setCell ⟨gb162, 2, none⟩ (.int .i64 a2_2)).setCell ⟨gb163, 2, none⟩ (.int .i64 (wrap64 (a0_2 - a2_2)))).heap[gb163]? = some (.cells #[.int .i64 x164000_1, .int .i64 x164001_1, .int .i64 (wrap64 (a0_2 - a2_2)), .int .i64 x164003_1] 23 (0, 0))) := ⟨by (with_reducible repeat (first | refine ze ?_ _ | refine zf ?_ | refine za ?_ _)); refine zw (cs := #[.int .i64 x164000_1, .int .i64 x164001_1, .int .i64 x164002_1, .int .i64 x164003_1]) ?_ 2 _ rfl; (with_reducible repeat (first | refine ze ?_ _ | refine zf ?_ | refine za ?_ _)); refine zp ?_ NB163_162.out _; (with_reducible repeat (first | refine ze ?_ _ | refine zf ?_ | refine za ?_ _)); exact BK163.out⟩
       have n6_ : zh (Below w.heap.size w ((w37.setCell ⟨gb162, 2, none⟩ (.int .i64 a2_2)).setCell ⟨gb163, 2, none⟩ (.int .i64 (wrap64 (a0_2 - a2_2))))) := ⟨by repeat (first | (with_reducible first | exact HB.out | apply zl | apply zj | apply zk | refine zg ?_ GE158.out | refine zg ?_ GE159.out | refine zg ?_ GE160.out | refine zg ?_ GE161.out | refine zg ?_ GE162.out | refine zg ?_ GE163.out) | exact HB.out)⟩
       (try clear BK158)
       (try clear BK159)
       (try clear BK160)
       (try clear BK161)
       (try clear BK162)
       (try clear BK163)
       (try clear HB)
       generalize ((w37.setCell ⟨gb162, 2, none⟩ (.int .i64 a2_2)).setCell ⟨gb163, 2, none⟩ (.int .i64 (wrap64 (a0_2 - a2_2)))) = w40 at n0_ n1_ n2_ n3_ n4_ n5_ n6_ ⊢
       have BK158 := n0_
       have BK159 := n1_
       have BK160 := n2_
       have BK161 := n3_
       have BK162 := n4_
       have BK163 := n5_
       have HB := n6_
       clear n0_ n1_ n2_ n3_ n4_ n5_ n6_
       have n0_ := zh.mk (zf BK158.out)
       have n1_ := zh.mk (zf BK159.out)
       have n2_ := zh.mk (zf BK160.out)
       have n3_ := zh.mk (zf BK161.out)
       have n4_ := zh.mk (zf BK162.out)
       have n5_ := zh.mk (zf BK163.out)
       have n6_ := zh.mk (zk HB.out)
       clear BK158
       clear BK159
       clear BK160
       clear BK161
       clear BK162
       clear BK163
       clear HB
       have BK158 := n0_
       have BK159 := n1_
       have BK160 := n2_
       have BK161 := n3_
       have BK162 := n4_
       have BK163 := n5_
       have HB := n6_
       clear n0_ n1_ n2_ n3_ n4_ n5_ n6_
       refine zla (n := 15) (S := fun w' => w'.cell? ⟨gb162, 0, none⟩ = some (.int .i64 x163000_1) ∧ w'.cell? ⟨gb162, 1, none⟩ = some (.int .i64 x163001_1) ∧ w'.cell? ⟨gb162, 2, none⟩ = some (.int .i64 a2_2) ∧ w'.cell? ⟨gb162, 3, none⟩ = some (.int .i64 x163003_1) ∧ w'.cell? ⟨gb158, 0, none⟩ = some (.int .i64 a0_0) ∧ w'.cell? ⟨gb158, 1, none⟩ = some (.int .i64 a0_1) ∧ w'.cell? ⟨gb158, 2, none⟩ = some (.int .i64 a0_2) ∧ w'.cell? ⟨gb158, 3, none⟩ = some (.int .i64 a0_3) ∧ w'.cell? ⟨gb159, 0, none⟩ = some (.int .i64 a2_0) ∧ w'.cell? ⟨gb159, 1, none⟩ = some (.int .i64 a2_1) ∧ w'.cell? ⟨gb159, 2, none⟩ = some (.int .i64 a2_2) ∧ w'.cell? ⟨gb159, 3, none⟩ = some (.int .i64 a2_3)) (ds := [14]) #[false, false, false, false, false, false, false, false, false, false, false, false, false, false, false] (by kernel_rfl) rfl rfl ⟨(zi BK162.out 0).trans rfl, (zi BK162.out 1).trans rfl, (zi BK162.out 2).trans rfl, (zi BK162.out 3).trans rfl, (zi BK158.out 0).trans rfl, (zi BK158.out 1).trans rfl, (zi BK158.out 2).trans rfl, (zi BK158.out 3).trans rfl, (zi BK159.out 0).trans rfl, (zi BK159.out 1).trans rfl, (zi BK159.out 2).trans rfl, (zi BK159.out 3).trans rfl⟩ (fun hHeld => ?_); refine zfa impl_State_split.tab7 impl_State_split.bits7 (fun HT_ HW_ => ?_)
       generalize w40.drew = w41 at BK158 BK159 BK160 BK161 BK162 BK163 HB hHeld ⊢
       refine zx (i := 0) (N := some 34) (v := ?_) (a' := ?_) #[true, false, false, false, false, false, false, false, false, false, false, false, false, false, false] rfl rfl (zv HT_.out (by kernel_rfl)) (fun _ _ _ h => h) (Or.inl ⟨by rfl, ?_⟩) ?_ ?_
       rotate_left
       ·intro w'
        go_simp
        with_reducible rfl
       rotate_left
       ·simp only [Act.put, List.setIfInBounds_toArray, List.set_cons_zero, List.set_cons_succ, zu, zt]
        rfl
       refine zx (i := 1) (N := some 35) (v := ?_) (a' := ?_) #[true, true, false, false, false, false, false, false, false, false, false, false, false, false, false] rfl rfl (zv HT_.out (by kernel_rfl)) (fun _ _ _ h => h) (Or.inl ⟨by rfl, ?_⟩) ?_ ?_
       rotate_left
       ·intro w'
        go_simp
        with_reducible rfl
       rotate_left
       ·simp only [Act.put, List.setIfInBounds_toArray, List.set_cons_zero, List.set_cons_succ, zu, zt]
        rfl
       refine zx (i := 3) (N := some 37) (v := ?_) (a' := ?_) #[true, true, false, true, false, false, false, false, false, false, false, false, false, false, false] rfl rfl (zv HT_.out (by kernel_rfl)) (fun _ _ _ h => h) (Or.inl ⟨by rfl, ?_⟩) ?_ ?_
       rotate_left
       ·intro w'
        go_simp
        with_reducible rfl
       rotate_left
       ·simp only [Act.put, List.setIfInBounds_toArray, List.set_cons_zero, List.set_cons_succ, zu, zt]
        rfl
       refine zx (i := 4) (N := some 38) (v := ?_) (a' := ?_) #[true, true, false, true, true, false, false, false, false, false, false, false, false, false, false] rfl rfl (zv HT_.out (by kernel_rfl)) (fun _ _ _ h => h) (Or.inl ⟨by rfl, ?_⟩) ?_ ?_
       rotate_left
       ·intro w'
        go_simp
        with_reducible rfl
       rotate_left
       ·simp only [Act.put, List.setIfInBounds_toArray, List.set_cons_zero, List.set_cons_succ, zu, zt]
        rfl
       refine zx (i := 5) (N := some 39) (v := ?_) (a' := ?_) #[true, true, false, true, true, true, false, false, false, false, false, false, false, false, false] rfl rfl (zv HT_.out (by kernel_rfl)) (fun _ _ _ h => h) (Or.inl ⟨by rfl, ?_⟩) ?_ ?_
       rotate_left
       ·intro w'
        go_simp
        with_reducible rfl
       rotate_left
       ·simp only [Act.put, List.setIfInBounds_toArray, List.set_cons_zero, List.set_cons_succ, zu, zt]
        rfl
       refine zx (i := 7) (N := some 41) (v := ?_) (a' := ?_) #[true, true, false, true, true, true, false, true, false, false, false, false, false, false, false] rfl rfl (zv HT_.out (by kernel_rfl)) (fun _ _ _ h => h) (Or.inl ⟨by rfl, ?_⟩) ?_ ?_
       rotate_left
       ·intro w'
        go_simp
        with_reducible rfl
       rotate_left
       ·simp only [Act.put, List.setIfInBounds_toArray, List.set_cons_zero, List.set_cons_succ, zu, zt]
        rfl
       refine zx (i := 8) (N := some 42) (v := ?_) (a' := ?_) #[true, true, false, true, true, true, false, true, true, false, false, false, false, false, false] rfl rfl (zv HT_.out (by kernel_rfl)) (fun _ _ _ h => h) (Or.inl ⟨by rfl, ?_⟩) ?_ ?_
       rotate_left
       ·intro w'
        go_simp
        with_reducible rfl
       rotate_left
       ·simp only [Act.put, List.setIfInBounds_toArray, List.set_cons_zero, List.set_cons_succ, zu, zt]
        rfl
       refine zx (i := 9) (N := some 43) (v := ?_) (a' := ?_) #[true, true, false, true, true, true, false, true, true, true, false, false, false, false, false] rfl rfl (zv HT_.out (by kernel_rfl)) (fun _ _ _ h => h) (Or.inl ⟨by rfl, ?_⟩) ?_ ?_
       rotate_left
       ·intro w'
        go_simp
        with_reducible rfl
       rotate_left
       ·simp only [Act.put, List.setIfInBounds_toArray, List.set_cons_zero, List.set_cons_succ, zu, zt]
        rfl
       refine zga (i := 2) (N := some 36) (v := ?_) (a' := ?_) #[true, true, true, true, true, true, false, true, true, true, false, false, false, false, false] rfl rfl (zz HT_.out HW_.out (by kernel_rfl)) (fun _ _ _ h => h) (Or.inl ⟨by rfl, ?_⟩) hHeld ?_ ?_
       rotate_left
       ·rintro w' ⟨s0, s1, s2, s3, s4, s5, s6, s7, s8, s9, s10, s11⟩
        go_simp
        with_reducible rfl
       rotate_left
       ·simp only [Act.put, List.setIfInBounds_toArray, List.set_cons_zero, List.set_cons_succ, zu, zt]
        rfl
       refine zga (i := 6) (N := some 40) (v := ?_) (a' := ?_) #[true, true, true, true, true, true, true, true, true, true, false, false, false, false, false] rfl rfl (zz HT_.out HW_.out (by kernel_rfl)) (fun _ _ _ h => h) (Or.inl ⟨by rfl, ?_⟩) hHeld ?_ ?_
       rotate_left
       ·rintro w' ⟨s0, s1, s2, s3, s4, s5, s6, s7, s8, s9, s10, s11⟩
        go_simp
        with_reducible rfl
       rotate_left
       ·simp only [Act.put, List.setIfInBounds_toArray, List.set_cons_zero, List.set_cons_succ, zu, zt]
        rfl
       refine zga (i := 10) (N := some 44) (v := ?_) (a' := ?_) #[true, true, true, true, true, true, true, true, true, true, true, false, false, false, false] rfl rfl (zz HT_.out HW_.out (by kernel_rfl)) (fun _ _ _ h => h) (Or.inl ⟨by rfl, ?_⟩) hHeld ?_ ?_
       rotate_left
       ·rintro w' ⟨s0, s1, s2, s3, s4, s5, s6, s7, s8, s9, s10, s11⟩
        go_simp
        with_reducible rfl
       rotate_left
       ·simp only [Act.put, List.setIfInBounds_toArray, List.set_cons_zero, List.set_cons_succ, zu, zt]
        rfl
       refine zx (i := 11) (N := some 45) (v := ?_) (a' := ?_) #[true, true, true, true, true, true, true, true, true, true, true, true, false, false, false] rfl rfl (zv HT_.out (by kernel_rfl)) (fun _ _ _ h => h) (Or.inl ⟨by rfl, ?_⟩) ?_ ?_
       rotate_left
       ·intro w'
        go_simp
        with_reducible rfl
       rotate_left
       ·simp only [Act.put, List.setIfInBounds_toArray, List.set_cons_zero, List.set_cons_succ, zu, zt]
        rfl
       refine zx (i := 12) (N := some 46) (v := ?_) (a' := ?_) #[true, true, true, true, true, true, true, true, true, true, true, true, true, false, false] rfl rfl (zv HT_.out (by kernel_rfl)) (fun _ _ _ h => h) (Or.inl ⟨by rfl, ?_⟩) ?_ ?_
       rotate_left
       ·intro w'
        go_simp
        with_reducible rfl
       rotate_left
       ·simp only [Act.put, List.setIfInBounds_toArray, List.set_cons_zero, List.set_cons_succ, zu, zt]
        rfl
       refine zx (i := 13) (N := some 47) (v := ?_) (a' := ?_) #[true, true, true, true, true, true, true, true, true, true, true, true, true, true, false] rfl rfl (zv HT_.out (by kernel_rfl)) (fun _ _ _ h => h) (Or.inl ⟨by rfl, ?_⟩) ?_ ?_
       rotate_left
       ·intro w'
        go_simp
        with_reducible rfl
       rotate_left
       ·simp only [Act.put, List.setIfInBounds_toArray, List.set_cons_zero, List.set_cons_succ, zu, zt]
        rfl
       refine last_ (i := 14) (N := none) #[true, true, true, true, true, true, true, true, true, true, true, true, true, true, true] rfl rfl (zia HT_.out (by kernel_rfl)) (by decide) (fun K hK => ?_)
       have hs42 : w41.cell? ⟨gb162, 2, none⟩ = some (.int .i64 a2_2) := (zi BK162.out 2).trans rfl
       have hfs42 := zm BK162.out 2
       have hns42_0 := NB158_162.out
       have hns42_1 := NB159_162.out
       have hns42_2 := NB160_162.out
       have hns42_3 := NB161_162.out
       have hns42_5 := NB163_162.out
       have hms42_0 := NB162_158.out
       have hms42_1 := NB162_159.out
       have hms42_2 := NB162_160.out
       have hms42_3 := NB162_161.out
       have hms42_5 := NB162_163.out
       refine zma (w1 := ?_) (by rfl) rfl ?_ ?_
       rotate_left
       ·go_simp
        rfl
       refine hK.out _ _ ?_
       clear hK K
       refine zqa (zja HT_.out (by kernel_rfl)) ?_
       try go_wp2
       have n0_ : zh ((w41.setCell ⟨gb162, 2, none⟩ (.int .i64 (wrap64 (a2_2 + (wrap64 (a0_1 - a2_1)))))).heap[gb158]? = some (.cells #[.int .i64 a0_0, .int .i64 a0_1, .int .i64 a0_2, .int .i64 a0_3] 23 (0, 0))) := ⟨by (with_reducible repeat (first | refine ze ?_ _ | refine zf ?_ | refine za ?_ _)); refine zp ?_ NB158_162.out _; (with_reducible repeat (first | refine ze ?_ _ | refine zf ?_ | refine za ?_ _)); exact BK158.out⟩
       have n1_ : zh ((w41.setCell ⟨gb162, 2, none⟩ (.int .i64 (wrap64 (a2_2 + (wrap64 (a0_1 - a2_1)))))).heap[gb159]? = some (.cells #[.int .i64 a2_0, .int .i64 a2_1, .int .i64 a2_2, .int .i64 a2_3] 23 (0, 0))) := ⟨by (with_reducible repeat (first | refine ze ?_ _ | refine zf ?_ | refine za ?_ _)); refine zp ?_ NB159_162.out _; (with_reducible repeat (first | refine ze ?_ _ | refine zf ?_ | refine za ?_ _)); exact BK159.out⟩
       have n2_ : zh ((w41.setCell ⟨gb162, 2, none⟩ (.int .i64 (wrap64 (a2_2 + (wrap64 (a0_1 - a2_1)))))).heap[gb160]? = some (.cells #[.int .i64 0, .int .i64 0, .int .i64 0, .int .i64 0] 23 (0, 0))) := ⟨by (with_reducible repeat (first | refine ze ?_ _ | refine zf ?_ | refine za ?_ _)); refine zp ?_ NB160_162.out _; (with_reducible repeat (first | refine ze ?_ _ | refine zf ?_ | refine za ?_ _)); exact BK160.out⟩
       have n3_ : zh ((w41.setCell ⟨gb162, 2, none⟩ (.int .i64 (wrap64 (a2_2 + (wrap64 (a0_1 - a2_1)))))).heap[gb161]? = some (.cells #[.int .i64 0, .int .i64 0, .int .i64 0, .int .i64 0] 23 (0, 0))) := ⟨by (with_reducible repeat (first | refine ze ?_ _ | refine zf ?_ | refine za ?_ _)); refine zp ?_ NB161_162.out _; (with_reducible repeat (first | refine ze ?_ _ | refine zf ?_ | refine za ?_ _)); exact BK161.out⟩
       have n4_ : zh ((w41.setCell ⟨gb162, 2, none⟩ (.int .i64 (wrap64 (a2_2 + (wrap64 (a0_1 - a2_1)))))).heap[gb162]? = some (.cells #[.int .i64 x163000_1, .int .i64 x163001_1, .int .i64 (wrap64 (a2_2 + (wrap64 (a0_1 - a2_1)))), .int .i64 x163003_1] 23 (0, 0))) := ⟨by (with_reducible repeat (first | refine ze ?_ _ | refine zf ?_ | refine za ?_ _)); refine zw (cs := #[.int .i64 x163000_1, .int .i64 x163001_1, .int .i64 a2_2, .int .i64 x163003_1]) ?_ 2 _ rfl; (with_reducible repeat (first | refine ze ?_ _ | refine zf ?_ | refine za ?_ _)); exact BK162.out⟩
       have n5_ : zh ((w41.setCell ⟨gb162, 2, none⟩ (.int .i64 (wrap64 (a2_2 + (wrap64 (a0_1 - a2_1)))))).heap[gb163]? = some (.cells #[.int .i64 x164000_1, .int .i64 x164001_1, .int .i64 (wrap64 (a0_2 - a2_2)), .int .i64 x164003_1] 23 (0, 0))) := ⟨by (with_reducible repeat (first | refine ze ?_ _ | refine zf ?_ | refine za ?_ _)); refine zp ?_ NB163_162.out _; (with_reducible repeat (first | refine ze ?_ _ | refine zf ?_ | refine za ?_ _)); exact BK163.out⟩
       have n6_ : zh (Below w.heap.size w (w41.setCell ⟨gb162, 2, none⟩ (.int .i64 (wrap64 (a2_2 + (wrap64 (a0_1 - a2_1))))))) := ⟨by repeat (first | (with_reducible first | exact HB.out | apply zl | apply zj | apply zk | refine zg ?_ GE158.out | refine zg ?_ GE159.out | refine zg ?_ GE160.out | refine zg ?_ GE161.out | refine zg ?_ GE162.out | refine zg ?_ GE163.out) | exact HB.out)⟩
       (try clear BK158)
       (try clear BK159)
       (try clear BK160)
       (try clear BK161)
       (try clear BK162)
       (try clear BK163)
       (try clear HB)
       generalize (w41.setCell ⟨gb162, 2, none⟩ (.int .i64 (wrap64 (a2_2 + (wrap64 (a0_1 - a2_1)))))) = w43 at n0_ n1_ n2_ n3_ n4_ n5_ n6_ ⊢
       have BK158 := n0_
       have BK159 := n1_
       have BK160 := n2_
       have BK161 := n3_
       have BK162 := n4_
       have BK163 := n5_
       have HB := n6_
       clear n0_ n1_ n2_ n3_ n4_ n5_ n6_
       have n0_ := zh.mk (zf BK158.out)
       have n1_ := zh.mk (zf BK159.out)
       have n2_ := zh.mk (zf BK160.out)
       have n3_ := zh.mk (zf BK161.out)
       have n4_ := zh.mk (zf BK162.out)
       have n5_ := zh.mk (zf BK163.out)
       have n6_ := zh.mk (zk HB.out)
       clear BK158
       clear BK159
       clear BK160
       clear BK161
       clear BK162
       clear BK163
       clear HB
       have BK158 := n0_
       have BK159 := n1_
       have BK160 := n2_
       have BK161 := n3_
       have BK162 := n4_
       have BK163 := n5_
       have HB := n6_
       clear n0_ n1_ n2_ n3_ n4_ n5_ n6_
       refine zla (n := 10) (S := fun w' => w'.cell? ⟨gb163, 0, none⟩ = some (.int .i64 x164000_1) ∧ w'.cell? ⟨gb163, 1, none⟩ = some (.int .i64 x164001_1) ∧ w'.cell? ⟨gb163, 2, none⟩ = some (.int .i64 (wrap64 (a0_2 - a2_2))) ∧ w'.cell? ⟨gb163, 3, none⟩ = some (.int .i64 x164003_1) ∧ w'.cell? ⟨gb159, 0, none⟩ = some (.int .i64 a2_0) ∧ w'.cell? ⟨gb159, 1, none⟩ = some (.int .i64 a2_1) ∧ w'.cell? ⟨gb159, 2, none⟩ = some (.int .i64 a2_2) ∧ w'.cell? ⟨gb159, 3, none⟩ = some (.int .i64 a2_3)) (ds := [9]) #[false, false, false, false, false, false, false, false, false, false] (by kernel_rfl) rfl rfl ⟨(zi BK163.out 0).trans rfl, (zi BK163.out 1).trans rfl, (zi BK163.out 2).trans rfl, (zi BK163.out 3).trans rfl, (zi BK159.out 0).trans rfl, (zi BK159.out 1).trans rfl, (zi BK159.out 2).trans rfl, (zi BK159.out 3).trans rfl⟩ (fun hHeld => ?_); refine zfa impl_State_split.tab8 impl_State_split.bits8 (fun HT_ HW_ => ?_)
       generalize w43.drew = w44 at BK158 BK159 BK160 BK161 BK162 BK163 HB hHeld ⊢
       refine zx (i := 0) (N := some 48) (v := ?_) (a' := ?_) #[true, false, false, false, false, false, false, false, false, false] rfl rfl (zv HT_.out (by kernel_rfl)) (fun _ _ _ h => h) (Or.inl ⟨by rfl, ?_⟩) ?_ ?_
       rotate_left
       ·intro w'
        go_simp
        with_reducible rfl
       rotate_left
       ·simp only [Act.put, List.setIfInBounds_toArray, List.set_cons_zero, List.set_cons_succ, zu, zt]
        rfl
       refine zx (i := 1) (N := some 49) (v := ?_) (a' := ?_) #[true, true, false, false, false, false, false, false, false, false] rfl rfl (zv HT_.out (by kernel_rfl)) (fun _ _ _ h => h) (Or.inl ⟨by rfl, ?_⟩) ?_ ?_
       rotate_left
       ·intro w'
        go_simp
        with_reducible rfl
       rotate_left
       ·simp only [Act.put, List.setIfInBounds_toArray, List.set_cons_zero, List.set_cons_succ, zu, zt]
        rfl
       refine zx (i := 3) (N := some 51) (v := ?_) (a' := ?_) #[true, true, false, true, false, false, false, false, false, false] rfl rfl (zv HT_.out (by kernel_rfl)) (fun _ _ _ h => h) (Or.inl ⟨by rfl, ?_⟩) ?_ ?_
       rotate_left
       ·intro w'
        go_simp
        with_reducible rfl
       rotate_left
       ·simp only [Act.put, List.setIfInBounds_toArray, List.set_cons_zero, List.set_cons_succ, zu, zt]
        rfl
       refine zx (i := 4) (N := some 52) (v := ?_) (a' := ?_) #[true, true, false, true, true, false, false, false, false, false] rfl rfl (zv HT_.out (by kernel_rfl)) (fun _ _ _ h => h) (Or.inl ⟨by rfl, ?_⟩) ?_ ?_
       rotate_left
       ·intro w'
        go_simp
        with_reducible rfl
       rotate_left
       ·simp only [Act.put, List.setIfInBounds_toArray, List.set_cons_zero, List.set_cons_succ, zu, zt]
        rfl
       refine zx (i := 5) (N := some 53) (v := ?_) (a' := ?_) #[true, true, false, true, true, true, false, false, false, false] rfl rfl (zv HT_.out (by kernel_rfl)) (fun _ _ _ h => h) (Or.inl ⟨by rfl, ?_⟩) ?_ ?_
       rotate_left
       ·intro w'
        go_simp
        with_reducible rfl
       rotate_left
       ·simp only [Act.put, List.setIfInBounds_toArray, List.set_cons_zero, List.set_cons_succ, zu, zt]
        rfl
       refine zga (i := 2) (N := some 50) (v := ?_) (a' := ?_) #[true, true, true, true, true, true, false, false, false, false] rfl rfl (zz HT_.out HW_.out (by kernel_rfl)) (fun _ _ _ h => h) (Or.inl ⟨by rfl, ?_⟩) hHeld ?_ ?_
       rotate_left
       ·rintro w' ⟨s0, s1, s2, s3, s4, s5, s6, s7⟩
        go_simp
        with_reducible rfl
       rotate_left
       ·simp only [Act.put, List.setIfInBounds_toArray, List.set_cons_zero, List.set_cons_succ, zu, zt]
        rfl
       refine zga (i := 6) (N := some 54) (v := ?_) (a' := ?_) #[true, true, true, true, true, true, true, false, false, false] rfl rfl (zz HT_.out HW_.out (by kernel_rfl)) (fun _ _ _ h => h) (Or.inl ⟨by rfl, ?_⟩) hHeld ?_ ?_
       rotate_left
       ·rintro w' ⟨s0, s1, s2, s3, s4, s5, s6, s7⟩
        go_simp
        with_reducible rfl
       rotate_left
       ·simp only [Act.put, List.setIfInBounds_toArray, List.set_cons_zero, List.set_cons_succ, zu, zt]
        rfl
       refine zx (i := 7) (N := some 55) (v := ?_) (a' := ?_) #[true, true, true, true, true, true, true, true, false, false] rfl rfl (zv HT_.out (by kernel_rfl)) (fun _ _ _ h => h) (Or.inl ⟨by rfl, ?_⟩) ?_ ?_
       rotate_left
       ·intro w'
        go_simp
        with_reducible rfl
       rotate_left
       ·simp only [Act.put, List.setIfInBounds_toArray, List.set_cons_zero, List.set_cons_succ, zu, zt]
        rfl
       refine zx (i := 8) (N := some 56) (v := ?_) (a' := ?_) #[true, true, true, true, true, true, true, true, true, false] rfl rfl (zv HT_.out (by kernel_rfl)) (fun _ _ _ h => h) (Or.inl ⟨by rfl, ?_⟩) ?_ ?_
       rotate_left
       ·intro w'
        go_simp
        with_reducible rfl
       rotate_left
       ·simp only [Act.put, List.setIfInBounds_toArray, List.set_cons_zero, List.set_cons_succ, zu, zt]
        rfl
       refine last_ (i := 9) (N := none) #[true, true, true, true, true, true, true, true, true, true] rfl rfl (zia HT_.out (by kernel_rfl)) (by decide) (fun K hK => ?_)
       have hs45 : w44.cell? ⟨gb163, 2, none⟩ = some (.int .i64 (wrap64 (a0_2 - a2_2))) := (zi BK163.out 2).trans rfl
       have hfs45 := zm BK163.out 2
       have hns45_0 := NB158_163.out
       have hns45_1 := NB159_163.out
       have hns45_2 := NB160_163.out
       have hns45_3 := NB161_163.out
       have hns45_4 := NB162_163.out
       have hms45_0 := NB163_158.out
       have hms45_1 := NB163_159.out
       have hms45_2 := NB163_160.out
       have hms45_3 := NB163_161.out
       have hms45_4 := NB163_162.out
       refine zma (w1 := ?_) (by rfl) rfl ?_ ?_
       rotate_left
       ·go_simp
        rfl
       refine hK.out _ _ ?_
       clear hK K
       refine zqa (zja HT_.out (by kernel_rfl)) ?_
       try go_wp2
       go_roundg k1
       case measure => have := HK1.out; omega
       case rel => exact ⟨(2 + 1), (x163000_1), (x163001_1), (wrap64 (a2_2 + (wrap64 (a0_1 - a2_1)))), (x163003_1), (x164000_1), (x164001_1), (wrap64 ((wrap64 (a0_2 - a2_2)) + a2_1)), (x164003_1), (by first | rfl | (simp; done) | (simp [*]; done)), H', ⟨by have := HK1.out; omega⟩, ⟨by (with_reducible repeat (first | refine ze ?_ _ | refine zf ?_ | refine za ?_ _)); refine zp ?_ NB158_163.out _; (with_reducible repeat (first | refine ze ?_ _ | refine zf ?_ | refine za ?_ _)); exact BK158.out⟩, ⟨by (with_reducible repeat (first | refine ze ?_ _ | refine zf ?_ | refine za ?_ _)); refine zp ?_ NB159_163.out _; (with_reducible repeat (first | refine ze ?_ _ | refine zf ?_ | refine za ?_ _)); exact BK159.out⟩, ⟨by (with_reducible repeat (first | refine ze ?_ _ | refine zf ?_ | refine za ?_ _)); refine zp ?_ NB160_163.out _; (with_reducible repeat (first | refine ze ?_ _ | refine zf ?_ | refine za ?_ _)); exact BK160.out⟩, ⟨by (with_reducible repeat (first | refine ze ?_ _ | refine zf ?_ | refine za ?_ _)); refine zp ?_ NB161_163.out _; (with_reducible repeat (first | refine ze ?_ _ | refine zf ?_ | refine za ?_ _)); exact BK161.out⟩, ⟨by (with_reducible repeat (first | refine ze ?_ _ | refine zf ?_ | refine za ?_ _)); refine zp ?_ NB162_163.out _; (with_reducible repeat (first | refine ze ?_ _ | refine zf ?_ | refine za ?_ _)); exact BK162.out⟩, ⟨by (with_reducible repeat (first | refine ze ?_ _ | refine zf ?_ | refine za ?_ _)); refine zw (cs := #[.int .i64 x164000_1, .int .i64 x164001_1, .int .i64 (wrap64 (a0_2 - a2_2)), .int .i64 x164003_1]) ?_ 2 _ rfl; (with_reducible repeat (first | refine ze ?_ _ | refine zf ?_ | refine za ?_ _)); exact BK163.out⟩, ⟨by repeat (first | (with_reducible first | exact HB.out | apply zl | apply zj | apply zk | refine zg ?_ GE158.out | refine zg ?_ GE159.out | refine zg ?_ GE160.out | refine zg ?_ GE161.out | refine zg ?_ GE162.out | refine zg ?_ GE163.out) | exact HB.out)⟩⟩
      ·rw [if_neg c36] at H
       clear c36
       by_cases c46 : x15_1 = 3
       ·rw [if_pos c46] at H
        subst c46
        have H' := zh.mk H
        clear H
        try go_wp2
        have n0_ := zh.mk (zf BK158.out)
        have n1_ := zh.mk (zf BK159.out)
        have n2_ := zh.mk (zf BK160.out)
        have n3_ := zh.mk (zf BK161.out)
        have n4_ := zh.mk (zf BK162.out)
        have n5_ := zh.mk (zf BK163.out)
        have n6_ := zh.mk (zk HB.out)
        clear BK158
        clear BK159
        clear BK160
        clear BK161
        clear BK162
        clear BK163
        clear HB
        have BK158 := n0_
        have BK159 := n1_
        have BK160 := n2_
        have BK161 := n3_
        have BK162 := n4_
        have BK163 := n5_
        have HB := n6_
        clear n0_ n1_ n2_ n3_ n4_ n5_ n6_
        refine zla (n := 16) (S := fun w' => w'.cell? ⟨gb159, 0, none⟩ = some (.int .i64 a2_0) ∧ w'.cell? ⟨gb159, 1, none⟩ = some (.int .i64 a2_1) ∧ w'.cell? ⟨gb159, 2, none⟩ = some (.int .i64 a2_2) ∧ w'.cell? ⟨gb159, 3, none⟩ = some (.int .i64 a2_3) ∧ w'.cell? ⟨gb158, 0, none⟩ = some (.int .i64 a0_0) ∧ w'.cell? ⟨gb158, 1, none⟩ = some (.int .i64 a0_1) ∧ w'.cell? ⟨gb158, 2, none⟩ = some (.int .i64 a0_2) ∧ w'.cell? ⟨gb158, 3, none⟩ = some (.int .i64 a0_3)) (ds := []) #[false, false, false, false, false, false, false, false, false, false, false, false, false, false, false, false] (by kernel_rfl) rfl rfl ⟨(zi BK159.out 0).trans rfl, (zi BK159.out 1).trans rfl, (zi BK159.out 2).trans rfl, (zi BK159.out 3).trans rfl, (zi BK158.out 0).trans rfl, (zi BK158.out 1).trans rfl, (zi BK158.out 2).trans rfl, (zi BK158.out 3).trans rfl⟩ (fun hHeld => ?_); refine zfa impl_State_split.tab5 impl_State_split.bits5 (fun HT_ HW_ => ?_)
        generalize wr.drew = w47 at BK158 BK159 BK160 BK161 BK162 BK163 HB hHeld ⊢
        refine zx (i := 0) (N := some 18) (v := ?_) (a' := ?_) #[true, false, false, false, false, false, false, false, false, false, false, false, false, false, false, false] rfl rfl (zv HT_.out (by kernel_rfl)) (fun _ _ _ h => h) (Or.inl ⟨by rfl, ?_⟩) ?_ ?_
        rotate_left
        ·intro w'
         go_simp
         with_reducible rfl
        rotate_left
        ·simp only [Act.put, List.setIfInBounds_toArray, List.set_cons_zero, List.set_cons_succ, zu, zt]
         rfl
        refine zx (i := 1) (N := some 19) (v := ?_) (a' := ?_) #[true, true, false, false, false, false, false, false, false, false, false, false, false, false, false, false] rfl rfl (zv HT_.out (by kernel_rfl)) (fun _ _ _ h => h) (Or.inl ⟨by rfl, ?_⟩) ?_ ?_
        rotate_left
        ·intro w'
         go_simp
         with_reducible rfl
        rotate_left
        ·simp only [Act.put, List.setIfInBounds_toArray, List.set_cons_zero, List.set_cons_succ, zu, zt]
         rfl
        refine zx (i := 2) (N := some 20) (v := ?_) (a' := ?_) #[true, true, true, false, false, false, false, false, false, false, false, false, false, false, false, false] rfl rfl (zv HT_.out (by kernel_rfl)) (fun _ _ _ h => h) (Or.inl ⟨by rfl, ?_⟩) ?_ ?_
        rotate_left
        ·intro w'
         go_simp
         with_reducible rfl
        rotate_left
        ·simp only [Act.put, List.setIfInBounds_toArray, List.set_cons_zero, List.set_cons_succ, zu, zt]
         rfl
        refine zx (i := 3) (N := some 21) (v := ?_) (a' := ?_) #[true, true, true, true, false, false, false, false, false, false, false, false, false, false, false, false] rfl rfl (zv HT_.out (by kernel_rfl)) (fun _ _ _ h => h) (Or.inl ⟨by rfl, ?_⟩) ?_ ?_
        rotate_left
        ·intro w'
         go_simp
         with_reducible rfl
        rotate_left
        ·simp only [Act.put, List.setIfInBounds_toArray, List.set_cons_zero, List.set_cons_succ, zu, zt]
         rfl
        refine zx (i := 5) (N := some 23) (v := ?_) (a' := ?_) #[true, true, true, true, false, true, false, false, false, false, false, false, false, false, false, false] rfl rfl (zv HT_.out (by kernel_rfl)) (fun _ _ _ h => h) (Or.inl ⟨by rfl, ?_⟩) ?_ ?_
        rotate_left
        ·intro w'
         go_simp
         with_reducible rfl
        rotate_left
        ·simp only [Act.put, List.setIfInBounds_toArray, List.set_cons_zero, List.set_cons_succ, zu, zt]
         rfl
        refine zx (i := 6) (N := some 24) (v := ?_) (a' := ?_) #[true, true, true, true, false, true, true, false, false, false, false, false, false, false, false, false] rfl rfl (zv HT_.out (by kernel_rfl)) (fun _ _ _ h => h) (Or.inl ⟨by rfl, ?_⟩) ?_ ?_
        rotate_left
        ·intro w'
         go_simp
         with_reducible rfl
        rotate_left
        ·simp only [Act.put, List.setIfInBounds_toArray, List.set_cons_zero, List.set_cons_succ, zu, zt]
         rfl
        refine zx (i := 8) (N := some 26) (v := ?_) (a' := ?_) #[true, true, true, true, false, true, true, false, true, false, false, false, false, false, false, false] rfl rfl (zv HT_.out (by kernel_rfl)) (fun _ _ _ h => h) (Or.inl ⟨by rfl, ?_⟩) ?_ ?_
        rotate_left
        ·intro w'
         go_simp
         with_reducible rfl
        rotate_left
        ·simp only [Act.put, List.setIfInBounds_toArray, List.set_cons_zero, List.set_cons_succ, zu, zt]
         rfl
        refine zx (i := 9) (N := some 27) (v := ?_) (a' := ?_) #[true, true, true, true, false, true, true, false, true, true, false, false, false, false, false, false] rfl rfl (zv HT_.out (by kernel_rfl)) (fun _ _ _ h => h) (Or.inl ⟨by rfl, ?_⟩) ?_ ?_
        rotate_left
        ·intro w'
         go_simp
         with_reducible rfl
        rotate_left
        ·simp only [Act.put, List.setIfInBounds_toArray, List.set_cons_zero, List.set_cons_succ, zu, zt]
         rfl
        refine zga (i := 4) (N := some 22) (v := ?_) (a' := ?_) #[true, true, true, true, true, true, true, false, true, true, false, false, false, false, false, false] rfl rfl (zz HT_.out HW_.out (by kernel_rfl)) (fun _ _ _ h => h) (Or.inl ⟨by rfl, ?_⟩) hHeld ?_ ?_
        rotate_left
        ·rintro w' ⟨s0, s1, s2, s3, s4, s5, s6, s7⟩
         go_simp
         with_reducible rfl
        rotate_left
        ·simp only [Act.put, List.setIfInBounds_toArray, List.set_cons_zero, List.set_cons_succ, zu, zt]
         rfl
        refine zx (i := 12) (N := some 30) (v := ?_) (a' := ?_) #[true, true, true, true, true, true, true, false, true, true, false, false, true, false, false, false] rfl rfl (zv HT_.out (by kernel_rfl)) (fun _ _ _ h => h) (Or.inl ⟨by rfl, ?_⟩) ?_ ?_
        rotate_left
        ·intro w'
         go_simp
         with_reducible rfl
        rotate_left
        ·simp only [Act.put, List.setIfInBounds_toArray, List.set_cons_zero, List.set_cons_succ, zu, zt]
         rfl
        refine zga (i := 7) (N := some 25) (v := ?_) (a' := ?_) #[true, true, true, true, true, true, true, true, true, true, false, false, true, false, false, false] rfl rfl (zz HT_.out HW_.out (by kernel_rfl)) (fun _ _ _ h => h) (Or.inl ⟨by rfl, ?_⟩) hHeld ?_ ?_
        rotate_left
        ·rintro w' ⟨s0, s1, s2, s3, s4, s5, s6, s7⟩
         go_simp
         with_reducible rfl
        rotate_left
        ·simp only [Act.put, List.setIfInBounds_toArray, List.set_cons_zero, List.set_cons_succ, zu, zt]
         rfl
        refine zga (i := 10) (N := some 28) (v := ?_) (a' := ?_) #[true, true, true, true, true, true, true, true, true, true, true, false, true, false, false, false] rfl rfl (zz HT_.out HW_.out (by kernel_rfl)) (fun _ _ _ h => h) (Or.inl ⟨by rfl, ?_⟩) hHeld ?_ ?_
        rotate_left
        ·rintro w' ⟨s0, s1, s2, s3, s4, s5, s6, s7⟩
         go_simp
         with_reducible rfl
        rotate_left
        ·simp only [Act.put, List.setIfInBounds_toArray, List.set_cons_zero, List.set_cons_succ, zu, zt]
         rfl
        refine zx (i := 11) (N := some 29) (v := ?_) (a' := ?_) #[true, true, true, true, true, true, true, true, true, true, true, true, true, false, false, false] rfl rfl (zv HT_.out (by kernel_rfl)) (fun _ _ _ h => h) (Or.inl ⟨by rfl, ?_⟩) ?_ ?_
        rotate_left
        ·intro w'
         go_simp
         with_reducible rfl
        rotate_left
        ·simp only [Act.put, List.setIfInBounds_toArray, List.set_cons_zero, List.set_cons_succ, zu, zt]
         rfl
        refine one_ (i := 13) (N := none) #[true, true, true, true, true, true, true, true, true, true, true, true, true, true, false, false] rfl rfl (zia HT_.out (by kernel_rfl)) (by decide) (fun K hK => ?_)
        have hs48 : w47.cell? ⟨gb162, 3, none⟩ = some (.int .i64 x163003_1) := (zi BK162.out 3).trans rfl
        have hfs48 := zm BK162.out 3
        have hns48_0 := NB158_162.out
        have hns48_1 := NB159_162.out
        have hns48_2 := NB160_162.out
        have hns48_3 := NB161_162.out
        have hns48_5 := NB163_162.out
        have hms48_0 := NB162_158.out
        have hms48_1 := NB162_159.out
        have hms48_2 := NB162_160.out
        have hms48_3 := NB162_161.out
        have hms48_5 := NB162_163.out
        refine zma (w1 := ?_) (by rfl) rfl ?_ ?_
        rotate_left
        ·go_simp
         rfl
        refine hK.out _ _ ⟨((zn (p := ⟨gb162, _, none⟩) NB159_162.out _).trans (hHeld.1)), ((zn (p := ⟨gb162, _, none⟩) NB159_162.out _).trans (hHeld.2.1)), ((zn (p := ⟨gb162, _, none⟩) NB159_162.out _).trans (hHeld.2.2.1)), ((zn (p := ⟨gb162, _, none⟩) NB159_162.out _).trans (hHeld.2.2.2.1)), ((zn (p := ⟨gb162, _, none⟩) NB158_162.out _).trans (hHeld.2.2.2.2.1)), ((zn (p := ⟨gb162, _, none⟩) NB158_162.out _).trans (hHeld.2.2.2.2.2.1)), ((zn (p := ⟨gb162, _, none⟩) NB158_162.out _).trans (hHeld.2.2.2.2.2.2.1)), ((zn (p := ⟨gb162, _, none⟩) NB158_162.out _).trans (hHeld.2.2.2.2.2.2.2))⟩ (fun hHeld => ?_)
        clear hK K
        refine zx (i := 14) (N := some 31) (v := ?_) (a' := ?_) #[true, true, true, true, true, true, true, true, true, true, true, true, true, true, true, false] rfl rfl (zv HT_.out (by kernel_rfl)) (fun _ _ _ h => h) (Or.inl ⟨by rfl, ?_⟩) ?_ ?_
        rotate_left
        ·intro w'
         go_simp
         with_reducible rfl
        rotate_left
        ·simp only [Act.put, List.setIfInBounds_toArray, List.set_cons_zero, List.set_cons_succ, zu, zt]
         rfl
        refine one_ (i := 15) (N := none) #[true, true, true, true, true, true, true, true, true, true, true, true, true, true, true, true] rfl rfl (zia HT_.out (by kernel_rfl)) (by decide) (fun K hK => ?_)
        have hs49 : w47.cell? ⟨gb163, 3, none⟩ = some (.int .i64 x164003_1) := (zi BK163.out 3).trans rfl
        have hfs49 := zm BK163.out 3
        have hns49_0 := NB158_163.out
        have hns49_1 := NB159_163.out
        have hns49_2 := NB160_163.out
        have hns49_3 := NB161_163.out
        have hns49_4 := NB162_163.out
        have hms49_0 := NB163_158.out
        have hms49_1 := NB163_159.out
        have hms49_2 := NB163_160.out
        have hms49_3 := NB163_161.out
        have hms49_4 := NB163_162.out
        refine zma (w1 := ?_) (by rfl) rfl ?_ ?_
        rotate_left
        ·go_simp
         rfl
        refine hK.out _ _ ⟨((zn (p := ⟨gb163, _, none⟩) NB159_163.out _).trans (hHeld.1)), ((zn (p := ⟨gb163, _, none⟩) NB159_163.out _).trans (hHeld.2.1)), ((zn (p := ⟨gb163, _, none⟩) NB159_163.out _).trans (hHeld.2.2.1)), ((zn (p := ⟨gb163, _, none⟩) NB159_163.out _).trans (hHeld.2.2.2.1)), ((zn (p := ⟨gb163, _, none⟩) NB158_163.out _).trans (hHeld.2.2.2.2.1)), ((zn (p := ⟨gb163, _, none⟩) NB158_163.out _).trans (hHeld.2.2.2.2.2.1)), ((zn (p := ⟨gb163, _, none⟩) NB158_163.out _).trans (hHeld.2.2.2.2.2.2.1)), ((zn (p := ⟨gb163, _, none⟩) NB158_163.out _).trans (hHeld.2.2.2.2.2.2.2))⟩ (fun hHeld => ?_)
        clear hK K
        refine zqa (zja HT_.out (by kernel_rfl)) ?_
        try go_wp2
        have n0_ : zh (((w47.setCell ⟨gb162, 3, none⟩ (.int .i64 a2_3)).setCell ⟨gb163, 3, none⟩ (.int .i64 (wrap64 (a0_3 - a2_3)))).heap[gb158]? = some (.cells #[.int .i64 a0_0, .int .i64 a0_1, .int .i64 a0_2, .int .i64 a0_3] 23 (0, 0))) := ⟨by (with_reducible repeat (first | refine ze ?_ _ | refine zf ?_ | refine za ?_ _)); refine zp ?_ NB158_163.out _; (with_reducible repeat (first | refine ze ?_ _ | refine zf ?_ | refine za ?_ _)); refine zp ?_ NB158_162.out _; (with_reducible repeat (first | refine ze ?_ _ | refine zf ?_ | refine za ?_ _)); exact BK158.out⟩
        have n1_ : zh (((w47.setCell ⟨gb162, 3, none⟩ (.int .i64 a2_3)).setCell ⟨gb163, 3, none⟩ (.int .i64 (wrap64 (a0_3 - a2_3)))).heap[gb159]? = some (.cells #[.int .i64 a2_0, .int .i64 a2_1, .int .i64 a2_2, .int .i64 a2_3] 23 (0, 0))) := ⟨by (with_reducible repeat (first | refine ze ?_ _ | refine zf ?_ | refine za ?_ _)); refine zp ?_ NB159_163.out _; (with_reducible repeat (first | refine ze ?_ _ | refine zf ?_ | refine za ?_ _)); refine zp ?_ NB159_162.out _; (with_reducible repeat (first | refine ze ?_ _ | refine zf ?_ | refine za ?_ _)); exact BK159.out⟩
        have n2_ : zh (((w47.setCell ⟨gb162, 3, none⟩ (.int .i64 a2_3)).setCell ⟨gb163, 3, none⟩ (.int .i64 (wrap64 (a0_3 - a2_3)))).heap[gb160]? = some (.cells #[.int .i64 0, .int .i64 0, .int .i64 0, .int .i64 0] 23 (0, 0))) := ⟨by (with_reducible repeat (first | refine ze ?_ _ | refine zf ?_ | refine za ?_ _)); refine zp ?_ NB160_163.out _; (with_reducible repeat (first | refine ze ?_ _ | refine zf ?_ | refine za ?_ _)); refine zp ?_ NB160_162.out _; (with_reducible repeat (first | refine ze ?_ _ | refine zf ?_ | refine za ?_ _)); exact BK160.out⟩
        have n3_ : zh (((w47.setCell ⟨gb162, 3, none⟩ (.int .i64 a2_3)).setCell ⟨gb163, 3, none⟩ (.int .i64 (wrap64 (a0_3 - a2_3)))).heap[gb161]? = some (.cells #[.int .i64 0, .int .i64 0, .int .i64 0, .int .i64 0] 23 (0, 0))) := ⟨by (with_reducible repeat (first | refine ze ?_ _ | refine zf ?_ | refine za ?_ _)); refine zp ?_ NB161_163.out _; (with_reducible repeat (first | refine ze ?_ _ | refine zf ?_ | refine za ?_ _)); refine zp ?_ NB161_162.out _; (with_reducible repeat (first | refine ze ?_ _ | refine zf ?_ | refine za ?_ _)); exact BK161.out⟩
        have n4_ : zh (((w47.setCell ⟨gb162, 3, none⟩ (.int .i64 a2_3)).setCell ⟨gb163, 3, none⟩ (.int .i64 (wrap64 (a0_3 - a2_3)))).heap[gb162]? = some (.cells #[.int .i64 x163000_1, .int .i64 x163001_1, .int .i64 x163002_1, .int .i64 a2_3] 23 (0, 0))) := ⟨by (with_reducible repeat (first | refine ze ?_ _ | refine zf ?_ | refine za ?_ _)); refine zp ?_ NB162_163.out _; (with_reducible repeat (first | refine ze ?_ _ | refine zf ?_ | refine za ?_ _)); refine zw (cs := #[.int .i64 x163000_1, .int .i64 x163001_1, .int .i64 x163002_1, .int .i64 x163003_1]) ?_ 3 _ rfl; (with_reducible repeat (first | refine ze ?_ _ | refine zf ?_ | refine za ?_ _)); exact BK162.out⟩
        have n5_ : zh (((w47.setCell ⟨gb162, 3, none⟩ (.int .i64 a2_3)).setCell ⟨gb163, 3, none⟩ (.int .i64 (wrap64 (a0_3 - a2_3)))).heap[gb163]? = some (.cells #[.int .i64 x164000_1, .int .i64 x164001_1, .int .i64 x164002_1, .int .i64 (wrap64 (a0_3 - a2_3))] 23 (0, 0))) := ⟨by (with_reducible repeat (first | refine ze ?_ _ | refine zf ?_ | refine za ?_ _)); refine zw (cs := #[.int .i64 x164000_1, .int .i64 x164001_1, .int .i64 x164002_1, .int .i64 x164003_1]) ?_ 3 _ rfl; (with_reducible repeat (first | refine ze ?_ _ | refine zf ?_ | refine za ?_ _)); refine zp ?_ NB163_162.out _; (with_reducible repeat (first | refine ze ?_ _ | refine zf ?_ | refine za ?_ _)); exact BK163.out⟩
        have n6_ : zh (Below w.heap.size w ((w47.setCell ⟨gb162, 3, none⟩ (.int .i64 a2_3)).setCell ⟨gb163, 3, none⟩ (.int .i64 (wrap64 (a0_3 - a2_3))))) := ⟨by repeat (first | (with_reducible first | exact HB.out | apply zl | apply zj | apply zk | refine zg ?_ GE158.out | refine zg ?_ GE159.out | refine zg ?_ GE160.out | refine zg ?_ GE161.out | refine zg ?_ GE162.out | refine zg ?_ GE163.out) | exact HB.out)⟩
        (try clear BK158)
        (try clear BK159)
        (try clear BK160)
        (try clear BK161)
        (try clear BK162)
        (try clear BK163)
        (try clear HB)
        generalize ((w47.setCell ⟨gb162, 3, none⟩ (.int .i64 a2_3)).setCell ⟨gb163, 3, none⟩ (.int .i64 (wrap64 (a0_3 - a2_3)))) = w50 at n0_ n1_ n2_ n3_ n4_ n5_ n6_ ⊢
        have BK158 := n0_
        have BK159 := n1_
        have BK160 := n2_
        have BK161 := n3_
        have BK162 := n4_
        have BK163 := n5_
        have HB := n6_
        clear n0_ n1_ n2_ n3_ n4_ n5_ n6_
        have n0_ := zh.mk (zf BK158.out)
        have n1_ := zh.mk (zf BK159.out)
        have n2_ := zh.mk (zf BK160.out)
        have n3_ := zh.mk (zf BK161.out)
        have n4_ := zh.mk (zf BK162.out)
        have n5_ := zh.mk (zf BK163.out)
        have n6_ := zh.mk (zk HB.out)
        clear BK158
        clear BK159
        clear BK160
        clear BK161
        clear BK162
        clear BK163
        clear HB
        have BK158 := n0_
        have BK159 := n1_
        have BK160 := n2_
        have BK161 := n3_
        have BK162 := n4_
        have BK163 := n5_
        have HB := n6_
        clear n0_ n1_ n2_ n3_ n4_ n5_ n6_
        refine zla (n := 15) (S := fun w' => w'.cell? ⟨gb162, 0, none⟩ = some (.int .i64 x163000_1) ∧ w'.cell? ⟨gb162, 1, none⟩ = some (.int .i64 x163001_1) ∧ w'.cell? ⟨gb162, 2, none⟩ = some (.int .i64 x163002_1) ∧ w'.cell? ⟨gb162, 3, none⟩ = some (.int .i64 a2_3) ∧ w'.cell? ⟨gb158, 0, none⟩ = some (.int .i64 a0_0) ∧ w'.cell? ⟨gb158, 1, none⟩ = some (.int .i64 a0_1) ∧ w'.cell? ⟨gb158, 2, none⟩ = some (.int .i64 a0_2) ∧ w'.cell? ⟨gb158, 3, none⟩ = some (.int .i64 a0_3) ∧ w'.cell? ⟨gb159, 0, none⟩ = some (.int .i64 a2_0) ∧ w'.cell? ⟨gb159, 1, none⟩ = some (.int .i64 a2_1) ∧ w'.cell? ⟨gb159, 2, none⟩ = some (.int .i64 a2_2) ∧ w'.cell? ⟨gb159, 3, none⟩ = some (.int .i64 a2_3)) (ds := [14]) #[false, false, false, false, false, false, false, false, false, false, false, false, false, false, false] (by kernel_rfl) rfl rfl ⟨(zi BK162.out 0).trans rfl, (zi BK162.out 1).trans rfl, (zi BK162.out 2).trans rfl, (zi BK162.out 3).trans rfl, (zi BK158.out 0).trans rfl, (zi BK158.out 1).trans rfl, (zi BK158.out 2).trans rfl, (zi BK158.out 3).trans rfl, (zi BK159.out 0).trans rfl, (zi BK159.out 1).trans rfl, (zi BK159.out 2).trans rfl, (zi BK159.out 3).trans rfl⟩ (fun hHeld => ?_); refine zfa impl_State_split.tab7 impl_State_split.bits7 (fun HT_ HW_ => ?_)
        generalize w50.drew = w51 at BK158 BK159 BK160 BK161 BK162 BK163 HB hHeld ⊢
        refine zx (i := 0) (N := some 34) (v := ?_) (a' := ?_) #[true, false, false, false, false, false, false, false, false, false, false, false, false, false, false] rfl rfl (zv HT_.out (by kernel_rfl)) (fun _ _ _ h => h) (Or.inl ⟨by rfl, ?_⟩) ?_ ?_
        rotate_left
        ·intro w'
         go_simp
         with_reducible rfl
        rotate_left
        ·simp only [Act.put, List.setIfInBounds_toArray, List.set_cons_zero, List.set_cons_succ, zu, zt]
         rfl
        refine zx (i := 1) (N := some 35) (v := ?_) (a' := ?_) #[true, true, false, false, false, false, false, false, false, false, false, false, false, false, false] rfl rfl (zv HT_.out (by kernel_rfl)) (fun _ _ _ h => h) (Or.inl ⟨by rfl, ?_⟩) ?_ ?_
        rotate_left
        ·intro w'
         go_simp
         with_reducible rfl
        rotate_left
        ·simp only [Act.put, List.setIfInBounds_toArray, List.set_cons_zero, List.set_cons_succ, zu, zt]
         rfl
        refine zx (i := 3) (N := some 37) (v := ?_) (a' := ?_) #[true, true, false, true, false, false, false, false, false, false, false, false, false, false, false] rfl rfl (zv HT_.out (by kernel_rfl)) (fun _ _ _ h => h) (Or.inl ⟨by rfl, ?_⟩) ?_ ?_
        rotate_left
        ·intro w'
         go_simp
         with_reducible rfl
        rotate_left
        ·simp only [Act.put, List.setIfInBounds_toArray, List.set_cons_zero, List.set_cons_succ, zu, zt]
         rfl
        refine zx (i := 4) (N := some 38) (v := ?_) (a' := ?_) #[true, true, false, true, true, false, false, false, false, false, false, false, false, false, false] rfl rfl (zv HT_.out (by kernel_rfl)) (fun _ _ _ h => h) (Or.inl ⟨by rfl, ?_⟩) ?_ ?_
        rotate_left
        ·intro w'
         go_simp
         with_reducible rfl
        rotate_left
        ·simp only [Act.put, List.setIfInBounds_toArray, List.set_cons_zero, List.set_cons_succ, zu, zt]
         rfl
        refine zx (i := 5) (N := some 39) (v := ?_) (a' := ?_) #[true, true, false, true, true, true, false, false, false, false, false, false, false, false, false] rfl rfl (zv HT_.out (by kernel_rfl)) (fun _ _ _ h => h) (Or.inl ⟨by rfl, ?_⟩) ?_ ?_
        rotate_left
        ·intro w'
         go_simp
         with_reducible rfl
        rotate_left
        ·simp only [Act.put, List.setIfInBounds_toArray, List.set_cons_zero, List.set_cons_succ, zu, zt]
         rfl
        refine zx (i := 7) (N := some 41) (v := ?_) (a' := ?_) #[true, true, false, true, true, true, false, true, false, false, false, false, false, false, false] rfl rfl (zv HT_.out (by kernel_rfl)) (fun _ _ _ h => h) (Or.inl ⟨by rfl, ?_⟩) ?_ ?_
        rotate_left
        ·intro w'
         go_simp
         with_reducible rfl
        rotate_left
        ·simp only [Act.put, List.setIfInBounds_toArray, List.set_cons_zero, List.set_cons_succ, zu, zt]
         rfl
        refine zx (i := 8) (N := some 42) (v := ?_) (a' := ?_) #[true, true, false, true, true, true, false, true, true, false, false, false, false, false, false] rfl rfl (zv HT_.out (by kernel_rfl)) (fun _ _ _ h => h) (Or.inl ⟨by rfl, ?_⟩) ?_ ?_
        rotate_left
        ·intro w'
         go_simp
         with_reducible rfl
        rotate_left
        ·simp only [Act.put, List.setIfInBounds_toArray, List.set_cons_zero, List.set_cons_succ, zu, zt]
         rfl
        refine zx (i := 9) (N := some 43) (v := ?_) (a' := ?_) #[true, true, false, true, true, true, false, true, true, true, false, false, false, false, false] rfl rfl (zv HT_.out (by kernel_rfl)) (fun _ _ _ h => h) (Or.inl ⟨by rfl, ?_⟩) ?_ ?_
        rotate_left
        ·intro w'
         go_simp
         with_reducible rfl
        rotate_left
        ·simp only [Act.put, List.setIfInBounds_toArray, List.set_cons_zero, List.set_cons_succ, zu, zt]
         rfl
        refine zga (i := 2) (N := some 36) (v := ?_) (a' := ?_) #[true, true, true, true, true, true, false, true, true, true, false, false, false, false, false] rfl rfl (zz HT_.out HW_.out (by kernel_rfl)) (fun _ _ _ h => h) (Or.inl ⟨by rfl, ?_⟩) hHeld ?_ ?_
        rotate_left
        ·rintro w' ⟨s0, s1, s2, s3, s4, s5, s6, s7, s8, s9, s10, s11⟩
         go_simp
         with_reducible rfl
        rotate_left
        ·simp only [Act.put, List.setIfInBounds_toArray, List.set_cons_zero, List.set_cons_succ, zu, zt]
         rfl
        refine zga (i := 6) (N := some 40) (v := ?_) (a' := ?_) #[true, true, true, true, true, true, true, true, true, true, false, false, false, false, false] rfl rfl (zz HT_.out HW_.out (by kernel_rfl)) (fun _ _ _ h => h) (Or.inl ⟨by rfl, ?_⟩) hHeld ?_ ?_
        rotate_left
        ·rintro w' ⟨s0, s1, s2, s3, s4, s5, s6, s7, s8, s9, s10, s11⟩
         go_simp
         with_reducible rfl
        rotate_left
        ·simp only [Act.put, List.setIfInBounds_toArray, List.set_cons_zero, List.set_cons_succ, zu, zt]
         rfl
        refine zga (i := 10) (N := some 44) (v := ?_) (a' := ?_) #[true, true, true, true, true, true, true, true, true, true, true, false, false, false, false] rfl rfl (zz HT_.out HW_.out (by kernel_rfl)) (fun _ _ _ h => h) (Or.inl ⟨by rfl, ?_⟩) hHeld ?_ ?_
        rotate_left
        ·rintro w' ⟨s0, s1, s2, s3, s4, s5, s6, s7, s8, s9, s10, s11⟩
         go_simp
         with_reducible rfl
        rotate_left
        ·simp only [Act.put, List.setIfInBounds_toArray, List.set_cons_zero, List.set_cons_succ, zu, zt]
         rfl
        refine zx (i := 11) (N := some 45) (v := ?_) (a' := ?_) #[true, true, true, true, true, true, true, true, true, true, true, true, false, false, false] rfl rfl (zv HT_.out (by kernel_rfl)) (fun _ _ _ h => h) (Or.inl ⟨by rfl, ?_⟩) ?_ ?_
        rotate_left
        ·intro w'
         go_simp
         with_reducible rfl
        rotate_left
        ·simp only [Act.put, List.setIfInBounds_toArray, List.set_cons_zero, List.set_cons_succ, zu, zt]
         rfl
        refine zx (i := 12) (N := some 46) (v := ?_) (a' := ?_) #[true, true, true, true, true, true, true, true, true, true, true, true, true, false, false] rfl rfl (zv HT_.out (by kernel_rfl)) (fun _ _ _ h => h) (Or.inl ⟨by rfl, ?_⟩) ?_ ?_
        rotate_left
        ·intro w'
         go_simp
         with_reducible rfl
        rotate_left
        ·simp only [Act.put, List.setIfInBounds_toArray, List.set_cons_zero, List.set_cons_succ, zu, zt]
         rfl
        refine zx (i := 13) (N := some 47) (v := ?_) (a' := ?_) #[true, true, true, true, true, true, true, true, true, true, true, true, true, true, false] rfl rfl (zv HT_.out (by kernel_rfl)) (fun _ _ _ h => h) (Or.inl ⟨by rfl, ?_⟩) ?_ ?_
        rotate_left
        ·intro w'
         go_simp
         with_reducible rfl
        rotate_left
        ·simp only [Act.put, List.setIfInBounds_toArray, List.set_cons_zero, List.set_cons_succ, zu, zt]
         rfl
        refine last_ (i := 14) (N := none) #[true, true, true, true, true, true, true, true, true, true, true, true, true, true, true] rfl rfl (zia HT_.out (by kernel_rfl)) (by decide) (fun K hK => ?_)
        have hs52 : w51.cell? ⟨gb162, 3, none⟩ = some (.int .i64 a2_3) := (zi BK162.out 3).trans rfl
        have hfs52 := zm BK162.out 3
        have hns52_0 := NB158_162.out
        have hns52_1 := NB159_162.out
        have hns52_2 := NB160_162.out
        have hns52_3 := NB161_162.out
        have hns52_5 := NB163_162.out
        have hms52_0 := NB162_158.out
        have hms52_1 := NB162_159.out
        have hms52_2 := NB162_160.out
        have hms52_3 := NB162_161.out
        have hms52_5 := NB162_163.out
        refine zma (w1 := ?_) (by rfl) rfl ?_ ?_
        rotate_left
        ·go_simp
         rfl
        refine hK.out _ _ ?_
        clear hK K
        refine zqa (zja HT_.out (by kernel_rfl)) ?_
        try go_wp2
        have n0_ : zh ((w51.setCell ⟨gb162, 3, none⟩ (.int .i64 (wrap64 (a2_3 + (wrap64 (a0_2 - a2_2)))))).heap[gb158]? = some (.cells #[.int .i64 a0_0, .int .i64 a0_1, .int .i64 a0_2, .int .i64 a0_3] 23 (0, 0))) := ⟨by (with_reducible repeat (first | refine ze ?_ _ | refine zf ?_ | refine za ?_ _)); refine zp ?_ NB158_162.out _; (with_reducible repeat (first | refine ze ?_ _ | refine zf ?_ | refine za ?_ _)); exact BK158.out⟩
        have n1_ : zh ((w51.setCell ⟨gb162, 3, none⟩ (.int .i64 (wrap64 (a2_3 + (wrap64 (a0_2 - a2_2)))))).heap[gb159]? = some (.cells #[.int .i64 a2_0, .int .i64 a2_1, .int .i64 a2_2, .int .i64 a2_3] 23 (0, 0))) := ⟨by (with_reducible repeat (first | refine ze ?_ _ | refine zf ?_ | refine za ?_ _)); refine zp ?_ NB159_162.out _; (with_reducible repeat (first | refine ze ?_ _ | refine zf ?_ | refine za ?_ _)); exact BK159.out⟩
        have n2_ : zh ((w51.setCell ⟨gb162, 3, none⟩ (.int .i64 (wrap64 (a2_3 + (wrap64 (a0_2 - a2_2)))))).heap[gb160]? = some (.cells #[.int .i64 0, .int .i64 0, .int .i64 0, .int .i64 0] 23 (0, 0))) := ⟨by (with_reducible repeat (first | refine ze ?_ _ | refine zf ?_ | refine za ?_ _)); refine zp ?_ NB160_162.out _; (with_reducible repeat (first | refine ze ?_ _ | refine zf ?_ | refine za ?_ _)); exact BK160.out⟩
        have n3_ : zh ((w51.setCell ⟨gb162, 3, none⟩ (.int .i64 (wrap64 (a2_3 + (wrap64 (a0_2 - a2_2)))))).heap[gb161]? = some (.cells #[.int .i64 0, .int .i64 0, .int .i64 0, .int .i64 0] 23 (0, 0))) := ⟨by (with_reducible repeat (first | refine ze ?_ _ | refine zf ?_ | refine za ?_ _)); refine zp ?_ NB161_162.out _; (with_reducible repeat (first | refine ze ?_ _ | refine zf ?_ | refine za ?_ _)); exact BK161.out⟩
        have n4_ : zh ((w51.setCell ⟨gb162, 3, none⟩ (.int .i64 (wrap64 (a2_3 + (wrap64 (a0_2 - a2_2)))))).heap[gb162]? = some (.cells #[.int .i64 x163000_1, .int .i64 x163001_1, .int .i64 x163002_1, .int .i64 (wrap64 (a2_3 + (wrap64 (a0_2 - a2_2))))] 23 (0, 0))) := ⟨by (with_reducible repeat (first | refine ze ?_ _ | refine zf ?_ | refine za ?_ _)); refine zw (cs := #[.int .i64 x163000_1, .int .i64 x163001_1, .int .i64 x163002_1, .int .i64 a2_3]) ?_ 3 _ rfl; (with_reducible repeat (first | refine ze ?_ _ | refine zf ?_ | refine za ?_ _)); exact BK162.out⟩
        have n5_ : zh ((w51.setCell ⟨gb162, 3, none⟩ (.int .i64 (wrap64 (a2_3 + (wrap64 (a0_2 - a2_2)))))).heap[gb163]? = some (.cells #[.int .i64 x164000_1, .int .i64 x164001_1, .int .i64 x164002_1, .int .i64 (wrap64 (a0_3 - a2_3))] 23 (0, 0))) := ⟨by (with_reducible repeat (first | refine ze ?_ _ | refine zf ?_ | refine za ?_ _)); refine zp ?_ NB163_162.out _; (with_reducible repeat (first | refine ze ?_ _ | refine zf ?_ | refine za ?_ _)); exact BK163.out⟩
        have n6_ : zh (Below w.heap.size w (w51.setCell ⟨gb162, 3, none⟩ (.int .i64 (wrap64 (a2_3 + (wrap64 (a0_2 - a2_2))))))) := ⟨by repeat (first | (with_reducible first | exact HB.out | apply zl | apply zj | apply zk | refine zg ?_ GE158.out | refine zg ?_ GE159.out | refine zg ?_ GE160.out | refine zg ?_ GE161.out | refine zg ?_ GE162.out | refine zg ?_ GE163.out) | exact HB.out)⟩
        (try clear BK158)
        (try clear BK159)
        (try clear BK160)
        (try clear BK161)
        (try clear BK162)
        (try clear BK163)
        (try clear HB)
        generalize (w51.setCell ⟨gb162, 3, none⟩ (.int .i64 (wrap64 (a2_3 + (wrap64 (a0_2 - a2_2)))))) = w53 at n0_ n1_ n2_ n3_ n4_ n5_ n6_ ⊢
        have BK158 := n0_
        have BK159 := n1_
        have BK160 := n2_
        have BK161 := n3_
        have BK162 := n4_
        have BK163 := n5_
        have HB := n6_
        clear n0_ n1_ n2_ n3_ n4_ n5_ n6_
        have n0_ := zh.mk (zf BK158.out)
        have n1_ := zh.mk (zf BK159.out)
        have n2_ := zh.mk (zf BK160.out)
        have n3_ := zh.mk (zf BK161.out)
        have n4_ := zh.mk (zf BK162.out)
        have n5_ := zh.mk (zf BK163.out)
        have n6_ := zh.mk (zk HB.out)
        clear BK158
        clear BK159
        clear BK160
        clear BK161
        clear BK162
        clear BK163
        clear HB
        have BK158 := n0_
        have BK159 := n1_
        have BK160 := n2_
        have BK161 := n3_
        have BK162 := n4_
        have BK163 := n5_
        have HB := n6_
        clear n0_ n1_ n2_ n3_ n4_ n5_ n6_
        refine zla (n := 10) (S := fun w' => w'.cell? ⟨gb163, 0, none⟩ = some (.int .i64 x164000_1) ∧ w'.cell? ⟨gb163, 1, none⟩ = some (.int .i64 x164001_1) ∧ w'.cell? ⟨gb163, 2, none⟩ = some (.int .i64 x164002_1) ∧ w'.cell? ⟨gb163, 3, none⟩ = some (.int .i64 (wrap64 (a0_3 - a2_3))) ∧ w'.cell? ⟨gb159, 0, none⟩ = some (.int .i64 a2_0) ∧ w'.cell? ⟨gb159, 1, none⟩ = some (.int .i64 a2_1) ∧ w'.cell? ⟨gb159, 2, none⟩ = some (.int .i64 a2_2) ∧ w'.cell? ⟨gb159, 3, none⟩ = some (.int .i64 a2_3)) (ds := [9]) #[false, false, false, false, false, false, false, false, false, false] (by kernel_rfl) rfl rfl ⟨(zi BK163.out 0).trans rfl, (zi BK163.out 1).trans rfl, (zi BK163.out 2).trans rfl, (zi BK163.out 3).trans rfl, (zi BK159.out 0).trans rfl, (zi BK159.out 1).trans rfl, (zi BK159.out 2).trans rfl, (zi BK159.out 3).trans rfl⟩ (fun hHeld => ?_); refine zfa impl_State_split.tab8 impl_State_split.bits8 (fun HT_ HW_ => ?_)
        generalize w53.drew = w54 at BK158 BK159 BK160 BK161 BK162 BK163 HB hHeld ⊢
        refine zx (i := 0) (N := some 48) (v := ?_) (a' := ?_) #[true, false, false, false, false, false, false, false, false, false] rfl rfl (zv HT_.out (by kernel_rfl)) (fun _ _ _ h => h) (Or.inl ⟨by rfl, ?_⟩) ?_ ?_
        rotate_left
        ·intro w'
         go_simp
         with_reducible rfl
        rotate_left
        ·simp only [Act.put, List.setIfInBounds_toArray, List.set_cons_zero, List.set_cons_succ, zu, zt]
         rfl
        refine zx (i := 1) (N := some 49) (v := ?_) (a' := ?_) #[true, true, false, false, false, false, false, false, false, false] rfl rfl (zv HT_.out (by kernel_rfl)) (fun _ _ _ h => h) (Or.inl ⟨by rfl, ?_⟩) ?_ ?_
        rotate_left
        ·intro w'
         go_simp
         with_reducible rfl
        rotate_left
        ·simp only [Act.put, List.setIfInBounds_toArray, List.set_cons_zero, List.set_cons_succ, zu, zt]
         rfl
        refine zx (i := 3) (N := some 51) (v := ?_) (a' := ?_) #[true, true, false, true, false, false, false, false, false, false] rfl rfl (zv HT_.out (by kernel_rfl)) (fun _ _ _ h => h) (Or.inl ⟨by rfl, ?_⟩) ?_ ?_
        rotate_left
        ·intro w'
         go_simp
         with_reducible rfl
        rotate_left
        ·simp only [Act.put, List.setIfInBounds_toArray, List.set_cons_zero, List.set_cons_succ, zu, zt]
         rfl
        refine zx (i := 4) (N := some 52) (v := ?_) (a' := ?_) #[true, true, false, true, true, false, false, false, false, false] rfl rfl (zv HT_.out (by kernel_rfl)) (fun _ _ _ h => h) (Or.inl ⟨by rfl, ?_⟩) ?_ ?_
        rotate_left
        ·intro w'
         go_simp
         with_reducible rfl
        rotate_left
        ·simp only [Act.put, List.setIfInBounds_toArray, List.set_cons_zero, List.set_cons_succ, zu, zt]
         rfl
        refine zx (i := 5) (N := some 53) (v := ?_) (a' := ?_) #[true, true, false, true, true, true, false, false, false, false] rfl rfl (zv HT_.out (by kernel_rfl)) (fun _ _ _ h => h) (Or.inl ⟨by rfl, ?_⟩) ?_ ?_
        rotate_left
        ·intro w'
         go_simp
         with_reducible rfl
        rotate_left
        ·simp only [Act.put, List.setIfInBounds_toArray, List.set_cons_zero, List.set_cons_succ, zu, zt]
         rfl
        refine zga (i := 2) (N := some 50) (v := ?_) (a' := ?_) #[true, true, true, true, true, true, false, false, false, false] rfl rfl (zz HT_.out HW_.out (by kernel_rfl)) (fun _ _ _ h => h) (Or.inl ⟨by rfl, ?_⟩) hHeld ?_ ?_
        rotate_left
        ·rintro w' ⟨s0, s1, s2, s3, s4, s5, s6, s7⟩
         go_simp
         with_reducible rfl
        rotate_left
        ·simp only [Act.put, List.setIfInBounds_toArray, List.set_cons_zero, List.set_cons_succ, zu, zt]
         rfl
        refine zga (i := 6) (N := some 54) (v := ?_) (a' := ?_) #[true, true, true, true, true, true, true, false, false, false] rfl rfl (zz HT_.out HW_.out (by kernel_rfl)) (fun _ _ _ h => h) (Or.inl ⟨by rfl, ?_⟩) hHeld ?_ ?_
        rotate_left
        ·rintro w' ⟨s0, s1, s2, s3, s4, s5, s6, s7⟩
         go_simp
         with_reducible rfl
        rotate_left
        ·simp only [Act.put, List.setIfInBounds_toArray, List.set_cons_zero, List.set_cons_succ, zu, zt]
         rfl
        refine zx (i := 7) (N := some 55) (v := ?_) (a' := ?_) #[true, true, true, true, true, true, true, true, false, false] rfl rfl (zv HT_.out (by kernel_rfl)) (fun _ _ _ h => h) (Or.inl ⟨by rfl, ?_⟩) ?_ ?_
        rotate_left
        ·intro w'
         go_simp
         with_reducible rfl
        rotate_left
        ·simp only [Act.put, List.setIfInBounds_toArray, List.set_cons_zero, List.set_cons_succ, zu, zt]
         rfl
        refine zx (i := 8) (N := some 56) (v := ?_) (a' := ?_) #[true, true, true, true, true, true, true, true, true, false] rfl rfl (zv HT_.out (by kernel_rfl)) (fun _ _ _ h => h) (Or.inl ⟨by rfl, ?_⟩) ?_ ?_
        rotate_left
        ·intro w'
         go_simp
         with_reducible rfl
        rotate_left
        ·simp only [Act.put, List.setIfInBounds_toArray, List.set_cons_zero, List.set_cons_succ, zu, zt]
         rfl
        refine last_ (i := 9) (N := none) #[true, true, true, true, true, true, true, true, true, true] rfl rfl (zia HT_.out (by kernel_rfl)) (by decide) (fun K hK => ?_)
        have hs55 : w54.cell? ⟨gb163, 3, none⟩ = some (.int .i64 (wrap64 (a0_3 - a2_3))) := (zi BK163.out 3).trans rfl
        have hfs55 := zm BK163.out 3
        have hns55_0 := NB158_163.out
        have hns55_1 := NB159_163.out
        have hns55_2 := NB160_163.out
        have hns55_3 := NB161_163.out
        have hns55_4 := NB162_163.out
        have hms55_0 := NB163_158.out
        have hms55_1 := NB163_159.out
        have hms55_2 := NB163_160.out
        have hms55_3 := NB163_161.out
        have hms55_4 := NB163_162.out
        refine zma (w1 := ?_) (by rfl) rfl ?_ ?_
        rotate_left
        ·go_simp
         rfl
        refine hK.out _ _ ?_
        clear hK K
        refine zqa (zja HT_.out (by kernel_rfl)) ?_
        try go_wp2
        go_roundg k1
        case measure => have := HK1.out; omega
        case rel => exact ⟨(3 + 1), (x163000_1), (x163001_1), (x163002_1), (wrap64 (a2_3 + (wrap64 (a0_2 - a2_2)))), (x164000_1), (x164001_1), (x164002_1), (wrap64 ((wrap64 (a0_3 - a2_3)) + a2_2)), (by first | rfl | (simp; done) | (simp [*]; done)), H', ⟨by have := HK1.out; omega⟩, ⟨by (with_reducible repeat (first | refine ze ?_ _ | refine zf ?_ | refine za ?_ _)); refine zp ?_ NB158_163.out _; (with_reducible repeat (first | refine ze ?_ _ | refine zf ?_ | refine za ?_ _)); exact BK158.out⟩, ⟨by (with_reducible repeat (first | refine ze ?_ _ | refine zf ?_ | refine za ?_ _)); refine zp ?_ NB159_163.out _; (with_reducible repeat (first | refine ze ?_ _ | refine zf ?_ | refine za ?_ _)); exact BK159.out⟩, ⟨by (with_reducible repeat (first | refine ze ?_ _ | refine zf ?_ | refine za ?_ _)); refine zp ?_ NB160_163.out _; (with_reducible repeat (first | refine ze ?_ _ | refine zf ?_ | refine za ?_ _)); exact BK160.out⟩, ⟨by (with_reducible repeat (first | refine ze ?_ _ | refine zf ?_ | refine za ?_ _)); refine zp ?_ NB161_163.out _; (with_reducible repeat (first | refine ze ?_ _ | refine zf ?_ | refine za ?_ _)); exact BK161.out⟩, ⟨by (with_reducible repeat (first | refine ze ?_ _ | refine zf ?_ | refine za ?_ _)); refine zp ?_ NB162_163.out _; (with_reducible repeat (first | refine ze ?_ _ | refine zf ?_ | refine za ?_ _)); exact BK162.out⟩, ⟨by (with_reducible repeat (first | refine ze ?_ _ | refine zf ?_ | refine za ?_ _)); refine zw (cs := #[.int .i64 x164000_1, .int .i64 x164001_1, .int .i64 x164002_1, .int .i64 (wrap64 (a0_3 - a2_3))]) ?_ 3 _ rfl; (with_reducible repeat (first | refine ze ?_ _ | refine zf ?_ | refine za ?_ _)); exact BK163.out⟩, ⟨by repeat (first | (with_reducible first | exact HB.out | apply zl | apply zj | apply zk | refine zg ?_ GE158.out | refine zg ?_ GE159.out | refine zg ?_ GE160.out | refine zg ?_ GE161.out | refine zg ?_ GE162.out | refine zg ?_ GE163.out) | exact HB.out)⟩⟩
       ·rw [if_neg c46] at H
        clear c46
        exact absurd H (by simp)
   ·rw [if_neg c21] at H
    have c21b0 : decide (x15_1 < (wrap64 (a1 + 1))) = false := decide_eq_false c21
    (try (have c21b1 : decide (x15_1 < (IntKind.i64.wrap (a1 + 1))) = false := by have h_ : decide (x15_1 < (wrap64 (a1 + 1))) = false := decide_eq_false c21; simpa only [zu, zt] using h_))
    clear c21
    simp only [Option.some.injEq, Prod.mk.injEq] at H
    obtain ⟨rfl, rfl, rfl, rfl, rfl, rfl, rfl, rfl⟩ := H
    try go_wp2
    have n0_ := zh.mk (zf BK158.out)
    have n1_ := zh.mk (zf BK159.out)
    have n2_ := zh.mk (zf BK160.out)
    have n3_ := zh.mk (zf BK161.out)
    have n4_ := zh.mk (zf BK162.out)
    have n5_ := zh.mk (zf BK163.out)
    have n6_ := zh.mk (zk HB.out)
    clear BK158
    clear BK159
    clear BK160
    clear BK161
    clear BK162
    clear BK163
    clear HB
    have BK158 := n0_
    have BK159 := n1_
    have BK160 := n2_
    have BK161 := n3_
    have BK162 := n4_
    have BK163 := n5_
    have HB := n6_
    clear n0_ n1_ n2_ n3_ n4_ n5_ n6_
    refine zla (n := 4) (S := fun w' => w'.cell? ⟨gb162, 0, none⟩ = some (.int .i64 x163000_1) ∧ w'.cell? ⟨gb162, 1, none⟩ = some (.int .i64 x163001_1) ∧ w'.cell? ⟨gb162, 2, none⟩ = some (.int .i64 x163002_1) ∧ w'.cell? ⟨gb162, 3, none⟩ = some (.int .i64 x163003_1) ∧ w'.cell? ⟨gb163, 0, none⟩ = some (.int .i64 x164000_1) ∧ w'.cell? ⟨gb163, 1, none⟩ = some (.int .i64 x164001_1) ∧ w'.cell? ⟨gb163, 2, none⟩ = some (.int .i64 x164002_1) ∧ w'.cell? ⟨gb163, 3, none⟩ = some (.int .i64 x164003_1)) (ds := []) #[false, false, false, false] (by kernel_rfl) rfl rfl ⟨(zi BK162.out 0).trans rfl, (zi BK162.out 1).trans rfl, (zi BK162.out 2).trans rfl, (zi BK162.out 3).trans rfl, (zi BK163.out 0).trans rfl, (zi BK163.out 1).trans rfl, (zi BK163.out 2).trans rfl, (zi BK163.out 3).trans rfl⟩ (fun hHeld => ?_)
    generalize wr.drew = w56 at BK158 BK159 BK160 BK161 BK162 BK163 HB hHeld ⊢
    refine zga (i := 0) (N := some 58) (v := ?_) (a' := ?_) #[true, false, false, false] rfl rfl (by kernel_rfl) (fun _ _ _ h => h) (Or.inl ⟨by rfl, ?_⟩) hHeld ?_ ?_
    rotate_left
    ·rintro w' ⟨s0, s1, s2, s3, s4, s5, s6, s7⟩
     go_simp
     with_reducible rfl
    rotate_left
    ·simp only [Act.put, List.setIfInBounds_toArray, List.set_cons_zero, List.set_cons_succ, zu, zt]
     rfl
    refine zga (i := 1) (N := some 59) (v := ?_) (a' := ?_) #[true, true, false, false] rfl rfl (by kernel_rfl) (fun _ _ _ h => h) (Or.inl ⟨by rfl, ?_⟩) hHeld ?_ ?_
    rotate_left
    ·rintro w' ⟨s0, s1, s2, s3, s4, s5, s6, s7⟩
     go_simp
     with_reducible rfl
    rotate_left
    ·simp only [Act.put, List.setIfInBounds_toArray, List.set_cons_zero, List.set_cons_succ, zu, zt]
     rfl
    refine one_ (i := 2) (N := none) #[true, true, true, false] rfl rfl (by kernel_rfl) (by decide) (fun K hK => ?_)
    have hs57 : w56.cell? ⟨gb160, 0, none⟩ = some (.int .i64 0) := (zi BK160.out 0).trans rfl
    have hfs57 := zm BK160.out 0
    have hns57_0 := NB158_160.out
    have hns57_1 := NB159_160.out
    have hns57_3 := NB161_160.out
    have hns57_4 := NB162_160.out
    have hns57_5 := NB163_160.out
    have hms57_0 := NB160_158.out
    have hms57_1 := NB160_159.out
    have hms57_3 := NB160_161.out
    have hms57_4 := NB160_162.out
    have hms57_5 := NB160_163.out
    have hs58 : w56.cell? ⟨gb160, 1, none⟩ = some (.int .i64 0) := (zi BK160.out 1).trans rfl
    have hfs58 := zm BK160.out 1
    have hns58_0 := NB158_160.out
    have hns58_1 := NB159_160.out
    have hns58_3 := NB161_160.out
    have hns58_4 := NB162_160.out
    have hns58_5 := NB163_160.out
    have hms58_0 := NB160_158.out
    have hms58_1 := NB160_159.out
    have hms58_3 := NB160_161.out
    have hms58_4 := NB160_162.out
    have hms58_5 := NB160_163.out
    have hs59 : w56.cell? ⟨gb160, 2, none⟩ = some (.int .i64 0) := (zi BK160.out 2).trans rfl
    have hfs59 := zm BK160.out 2
    have hns59_0 := NB158_160.out
    have hns59_1 := NB159_160.out
    have hns59_3 := NB161_160.out
    have hns59_4 := NB162_160.out
    have hns59_5 := NB163_160.out
    have hms59_0 := NB160_158.out
    have hms59_1 := NB160_159.out
    have hms59_3 := NB160_161.out
    have hms59_4 := NB160_162.out
    have hms59_5 := NB160_163.out
    have hs60 : w56.cell? ⟨gb160, 3, none⟩ = some (.int .i64 0) := (zi BK160.out 3).trans rfl
    have hfs60 := zm BK160.out 3
    have hns60_0 := NB158_160.out
    have hns60_1 := NB159_160.out
    have hns60_3 := NB161_160.out
    have hns60_4 := NB162_160.out
    have hns60_5 := NB163_160.out
    have hms60_0 := NB160_158.out
    have hms60_1 := NB160_159.out
    have hms60_3 := NB160_161.out
    have hms60_4 := NB160_162.out
    have hms60_5 := NB160_163.out
    refine zma (w1 := ?_) (by rfl) rfl ?_ ?_
    rotate_left
    ·go_simp
     rfl
    refine hK.out _ _ ⟨((zn (p := ⟨gb160, _, none⟩) NB162_160.out _).trans (((zn (p := ⟨gb160, _, none⟩) NB162_160.out _).trans (((zn (p := ⟨gb160, _, none⟩) NB162_160.out _).trans (((zn (p := ⟨gb160, _, none⟩) NB162_160.out _).trans (hHeld.1)))))))), ((zn (p := ⟨gb160, _, none⟩) NB162_160.out _).trans (((zn (p := ⟨gb160, _, none⟩) NB162_160.out _).trans (((zn (p := ⟨gb160, _, none⟩) NB162_160.out _).trans (((zn (p := ⟨gb160, _, none⟩) NB162_160.out _).trans (hHeld.2.1)))))))), ((zn (p := ⟨gb160, _, none⟩) NB162_160.out _).trans (((zn (p := ⟨gb160, _, none⟩) NB162_160.out _).trans (((zn (p := ⟨gb160, _, none⟩) NB162_160.out _).trans (((zn (p := ⟨gb160, _, none⟩) NB162_160.out _).trans (hHeld.2.2.1)))))))), ((zn (p := ⟨gb160, _, none⟩) NB162_160.out _).trans (((zn (p := ⟨gb160, _, none⟩) NB162_160.out _).trans (((zn (p := ⟨gb160, _, none⟩) NB162_160.out _).trans (((zn (p := ⟨gb160, _, none⟩) NB162_160.out _).trans (hHeld.2.2.2.1)))))))), ((zn (p := ⟨gb160, _, none⟩) NB163_160.out _).trans (((zn (p := ⟨gb160, _, none⟩) NB163_160.out _).trans (((zn (p := ⟨gb160, _, none⟩) NB163_160.out _).trans (((zn (p := ⟨gb160, _, none⟩) NB163_160.out _).trans (hHeld.2.2.2.2.1)))))))), ((zn (p := ⟨gb160, _, none⟩) NB163_160.out _).trans (((zn (p := ⟨gb160, _, none⟩) NB163_160.out _).trans (((zn (p := ⟨gb160, _, none⟩) NB163_160.out _).trans (((zn (p := ⟨gb160, _, none⟩) NB163_160.out _).trans (hHeld.2.2.2.2.2.1)))))))), ((zn (p := ⟨gb160, _, none⟩) NB163_160.out _).trans (((zn (p := ⟨gb160, _, none⟩) NB163_160.out _).trans (((zn (p := ⟨gb160, _, none⟩) NB163_160.out _).trans (((zn (p := ⟨gb160, _, none⟩) NB163_160.out _).trans (hHeld.2.2.2.2.2.2.1)))))))), ((zn (p := ⟨gb160, _, none⟩) NB163_160.out _).trans (((zn (p := ⟨gb160, _, none⟩) NB163_160.out _).trans (((zn (p := ⟨gb160, _, none⟩) NB163_160.out _).trans (((zn (p := ⟨gb160, _, none⟩) NB163_160.out _).trans (hHeld.2.2.2.2.2.2.2))))))))⟩ (fun hHeld => ?_)
    clear hK K
    refine one_ (i := 3) (N := none) #[true, true, true, true] rfl rfl (by kernel_rfl) (by decide) (fun K hK => ?_)
    have hs61 : w56.cell? ⟨gb161, 0, none⟩ = some (.int .i64 0) := (zi BK161.out 0).trans rfl
    have hfs61 := zm BK161.out 0
    have hns61_0 := NB158_161.out
    have hns61_1 := NB159_161.out
    have hns61_2 := NB160_161.out
    have hns61_4 := NB162_161.out
    have hns61_5 := NB163_161.out
    have hms61_0 := NB161_158.out
    have hms61_1 := NB161_159.out
    have hms61_2 := NB161_160.out
    have hms61_4 := NB161_162.out
    have hms61_5 := NB161_163.out
    have hs62 : w56.cell? ⟨gb161, 1, none⟩ = some (.int .i64 0) := (zi BK161.out 1).trans rfl
    have hfs62 := zm BK161.out 1
    have hns62_0 := NB158_161.out
    have hns62_1 := NB159_161.out
    have hns62_2 := NB160_161.out
    have hns62_4 := NB162_161.out
    have hns62_5 := NB163_161.out
    have hms62_0 := NB161_158.out
    have hms62_1 := NB161_159.out
    have hms62_2 := NB161_160.out
    have hms62_4 := NB161_162.out
    have hms62_5 := NB161_163.out
    have hs63 : w56.cell? ⟨gb161, 2, none⟩ = some (.int .i64 0) := (zi BK161.out 2).trans rfl
    have hfs63 := zm BK161.out 2
    have hns63_0 := NB158_161.out
    have hns63_1 := NB159_161.out
    have hns63_2 := NB160_161.out
    have hns63_4 := NB162_161.out
    have hns63_5 := NB163_161.out
    have hms63_0 := NB161_158.out
    have hms63_1 := NB161_159.out
    have hms63_2 := NB161_160.out
    have hms63_4 := NB161_162.out
    have hms63_5 := NB161_163.out
    have hs64 : w56.cell? ⟨gb161, 3, none⟩ = some (.int .i64 0) := (zi BK161.out 3).trans rfl
    have hfs64 := zm BK161.out 3
    have hns64_0 := NB158_161.out
    have hns64_1 := NB159_161.out
    have hns64_2 := NB160_161.out
    have hns64_4 := NB162_161.out
    have hns64_5 := NB163_161.out
    have hms64_0 := NB161_158.out
    have hms64_1 := NB161_159.out
    have hms64_2 := NB161_160.out
    have hms64_4 := NB161_162.out
    have hms64_5 := NB161_163.out
    refine zma (w1 := ?_) (by rfl) rfl ?_ ?_
    rotate_left
    ·go_simp
     rfl
    refine hK.out _ _ ⟨((zn (p := ⟨gb161, _, none⟩) NB162_161.out _).trans (((zn (p := ⟨gb161, _, none⟩) NB162_161.out _).trans (((zn (p := ⟨gb161, _, none⟩) NB162_161.out _).trans (((zn (p := ⟨gb161, _, none⟩) NB162_161.out _).trans (hHeld.1)))))))), ((zn (p := ⟨gb161, _, none⟩) NB162_161.out _).trans (((zn (p := ⟨gb161, _, none⟩) NB162_161.out _).trans (((zn (p := ⟨gb161, _, none⟩) NB162_161.out _).trans (((zn (p := ⟨gb161, _, none⟩) NB162_161.out _).trans (hHeld.2.1)))))))), ((zn (p := ⟨gb161, _, none⟩) NB162_161.out _).trans (((zn (p := ⟨gb161, _, none⟩) NB162_161.out _).trans (((zn (p := ⟨gb161, _, none⟩) NB162_161.out _).trans (((zn (p := ⟨gb161, _, none⟩) NB162_161.out _).trans (hHeld.2.2.1)))))))), ((zn (p := ⟨gb161, _, none⟩) NB162_161.out _).trans (((zn (p := ⟨gb161, _, none⟩) NB162_161.out _).trans (((zn (p := ⟨gb161, _, none⟩) NB162_161.out _).trans (((zn (p := ⟨gb161, _, none⟩) NB162_161.out _).trans (hHeld.2.2.2.1)))))))), ((zn (p := ⟨gb161, _, none⟩) NB163_161.out _).trans (((zn (p := ⟨gb161, _, none⟩) NB163_161.out _).trans (((zn (p := ⟨gb161, _, none⟩) NB163_161.out _).trans (((zn (p := ⟨gb161, _, none⟩) NB163_161.out _).trans (hHeld.2.2.2.2.1)))))))), ((zn (p := ⟨gb161, _, none⟩) NB163_161.out _).trans (((zn (p := ⟨gb161, _, none⟩) NB163_161.out _).trans (((zn (p := ⟨gb161, _, none⟩) NB163_161.out _).trans (((zn (p := ⟨gb161, _, none⟩) NB163_161.out _).trans (hHeld.2.2.2.2.2.1)))))))), ((zn (p := ⟨gb161, _, none⟩) NB163_161.out _).trans (((zn (p := ⟨gb161, _, none⟩) NB163_161.out _).trans (((zn (p := ⟨gb161, _, none⟩) NB163_161.out _).trans (((zn (p := ⟨gb161, _, none⟩) NB163_161.out _).trans (hHeld.2.2.2.2.2.2.1)))))))), ((zn (p := ⟨gb161, _, none⟩) NB163_161.out _).trans (((zn (p := ⟨gb161, _, none⟩) NB163_161.out _).trans (((zn (p := ⟨gb161, _, none⟩) NB163_161.out _).trans (((zn (p := ⟨gb161, _, none⟩) NB163_161.out _).trans (hHeld.2.2.2.2.2.2.2))))))))⟩ (fun hHeld => ?_)
    clear hK K
    refine zqa (by kernel_rfl) ?_
    try go_wp2
    refine bodyPost_ret (results_cc rfl _ _ gb160 gb161 23 23 #[.int .i64 x163000_1, .int .i64 x163001_1, .int .i64 x163002_1, .int .i64 x163003_1] #[.int .i64 x164000_1, .int .i64 x164001_1, .int .i64 x164002_1, .int .i64 x164003_1] (0, 0) (0, 0) _ _ rfl (by (with_reducible repeat (first | refine ze ?_ _ | refine zf ?_ | refine za ?_ _)); refine zp ?_ NB160_161.out _; (with_reducible repeat (first | refine ze ?_ _ | refine zf ?_ | refine za ?_ _)); refine zp ?_ NB160_161.out _; (with_reducible repeat (first | refine ze ?_ _ | refine zf ?_ | refine za ?_ _)); refine zp ?_ NB160_161.out _; (with_reducible repeat (first | refine ze ?_ _ | refine zf ?_ | refine za ?_ _)); refine zp ?_ NB160_161.out _; (with_reducible repeat (first | refine ze ?_ _ | refine zf ?_ | refine za ?_ _)); refine zw (cs := #[.int .i64 x163000_1, .int .i64 x163001_1, .int .i64 x163002_1, .int .i64 0]) ?_ 3 _ rfl; (with_reducible repeat (first | refine ze ?_ _ | refine zf ?_ | refine za ?_ _)); refine zw (cs := #[.int .i64 x163000_1, .int .i64 x163001_1, .int .i64 0, .int .i64 0]) ?_ 2 _ rfl; (with_reducible repeat (first | refine ze ?_ _ | refine zf ?_ | refine za ?_ _)); refine zw (cs := #[.int .i64 x163000_1, .int .i64 0, .int .i64 0, .int .i64 0]) ?_ 1 _ rfl; (with_reducible repeat (first | refine ze ?_ _ | refine zf ?_ | refine za ?_ _)); refine zw (cs := #[.int .i64 0, .int .i64 0, .int .i64 0, .int .i64 0]) ?_ 0 _ rfl; (with_reducible repeat (first | refine ze ?_ _ | refine zf ?_ | refine za ?_ _)); exact BK160.out) Try.underlying23 rfl (by kernel_rfl) rfl (by (with_reducible repeat (first | refine ze ?_ _ | refine zf ?_ | refine za ?_ _)); refine zw (cs := #[.int .i64 x164000_1, .int .i64 x164001_1, .int .i64 x164002_1, .int .i64 0]) ?_ 3 _ rfl; (with_reducible repeat (first | refine ze ?_ _ | refine zf ?_ | refine za ?_ _)); refine zw (cs := #[.int .i64 x164000_1, .int .i64 x164001_1, .int .i64 0, .int .i64 0]) ?_ 2 _ rfl; (with_reducible repeat (first | refine ze ?_ _ | refine zf ?_ | refine za ?_ _)); refine zw (cs := #[.int .i64 x164000_1, .int .i64 0, .int .i64 0, .int .i64 0]) ?_ 1 _ rfl; (with_reducible repeat (first | refine ze ?_ _ | refine zf ?_ | refine za ?_ _)); refine zw (cs := #[.int .i64 0, .int .i64 0, .int .i64 0, .int .i64 0]) ?_ 0 _ rfl; (with_reducible repeat (first | refine ze ?_ _ | refine zf ?_ | refine za ?_ _)); refine zp ?_ NB161_160.out _; (with_reducible repeat (first | refine ze ?_ _ | refine zf ?_ | refine za ?_ _)); refine zp ?_ NB161_160.out _; (with_reducible repeat (first | refine ze ?_ _ | refine zf ?_ | refine za ?_ _)); refine zp ?_ NB161_160.out _; (with_reducible repeat (first | refine ze ?_ _ | refine zf ?_ | refine za ?_ _)); refine zp ?_ NB161_160.out _; (with_reducible repeat (first | refine ze ?_ _ | refine zf ?_ | refine za ?_ _)); exact BK161.out) Try.underlying23 rfl (by kernel_rfl)) rfl ?_
    exact ⟨by first | rfl | (simp [errW_none, errW_some] <;> rfl) | (simp [*, errW_none, errW_some] <;> rfl), by repeat (first | (with_reducible first | exact HB.out | apply zl | apply zj | apply zk | refine zg ?_ GE158.out | refine zg ?_ GE159.out | refine zg ?_ GE160.out | refine zg ?_ GE161.out | refine zg ?_ GE162.out | refine zg ?_ GE163.out) | exact HB.out)⟩

end Go.Proofs.Ytidblojobcgkjaa.M
