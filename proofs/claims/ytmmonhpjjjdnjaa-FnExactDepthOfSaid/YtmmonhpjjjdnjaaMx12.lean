-- Written by wip/tools/myprint.py, a program of this session, by way of the kit's print.
import Derived.Test.YtmmonhpjjjdnjaaMx0
import Derived.Test.YtmmonhpjjjdnjaaLLoad
namespace Go.Proofs.Ytmmonhpjjjdnjaa.M
open Go.RowKit Go.Proofs.YtmmonhpjjjdnjaaW.PrintWords Go.Proofs.YtmmonhpjjjdnjaaW.PrintLast Go.Proofs.YtmmonhpjjjdnjaaW.PrintMore
attribute [local go_sem] zea zca zka zja zy zz zfa zda   -- for this text's walks alone
set_option linter.unusedVariables false
set_option linter.unusedSimpArgs false

/-! ### laws_toWeighing: function 42 -/
def laws_toWeighing.l0 : Nat → Int → Int → Int → Int → Int → Int → Int → Int → Int → Int → Int → Int → Int → Int → Int → Int → Int → Int → Int → Int → Int → Int → Int → Int → Int → Int → Int → Int → Int → Option (Int × Int × Int × Int × Int × Int × Int × Int × Int × Int × Int × Int × Int × Int)
 | 0, _, _, _, _, _, _, _, _, _, _, _, _, _, _, _, _, _, _, _, _, _, _, _, _, _, _, _, _, _ => none
 | k + 1, x4, x186000, x186001, x186002, x186003, x186004, x186005, x186006, x186007, x186008, x186009, x186010, x186011, x186012, x186013, x188000, x188001, x188002, x188003, x188004, x188005, x188006, x188007, x188008, x188009, x188010, x188011, x188012, x188013 => if x4 < 14 then (if 0 ≤ x4 then (laws_toWeighing.l0 k (wrap64 (x4 + 1)) x186000 x186001 x186002 x186003 x186004 x186005 x186006 x186007 x186008 x186009 x186010 x186011 x186012 x186013 (pickA x4 0 (rd [x186000, x186001, x186002, x186003, x186004, x186005, x186006, x186007, x186008, x186009, x186010, x186011, x186012, x186013] x4) x188000) (pickA x4 1 (rd [x186000, x186001, x186002, x186003, x186004, x186005, x186006, x186007, x186008, x186009, x186010, x186011, x186012, x186013] x4) x188001) (pickA x4 2 (rd [x186000, x186001, x186002, x186003, x186004, x186005, x186006, x186007, x186008, x186009, x186010, x186011, x186012, x186013] x4) x188002) (pickA x4 3 (rd [x186000, x186001, x186002, x186003, x186004, x186005, x186006, x186007, x186008, x186009, x186010, x186011, x186012, x186013] x4) x188003) (pickA x4 4 (rd [x186000, x186001, x186002, x186003, x186004, x186005, x186006, x186007, x186008, x186009, x186010, x186011, x186012, x186013] x4) x188004) (pickA x4 5 (rd [x186000, x186001, x186002, x186003, x186004, x186005, x186006, x186007, x186008, x186009, x186010, x186011, x186012, x186013] x4) x188005) (pickA x4 6 (rd [x186000, x186001, x186002, x186003, x186004, x186005, x186006, x186007, x186008, x186009, x186010, x186011, x186012, x186013] x4) x188006) (pickA x4 7 (rd [x186000, x186001, x186002, x186003, x186004, x186005, x186006, x186007, x186008, x186009, x186010, x186011, x186012, x186013] x4) x188007) (pickA x4 8 (rd [x186000, x186001, x186002, x186003, x186004, x186005, x186006, x186007, x186008, x186009, x186010, x186011, x186012, x186013] x4) x188008) (pickA x4 9 (rd [x186000, x186001, x186002, x186003, x186004, x186005, x186006, x186007, x186008, x186009, x186010, x186011, x186012, x186013] x4) x188009) (pickA x4 10 (rd [x186000, x186001, x186002, x186003, x186004, x186005, x186006, x186007, x186008, x186009, x186010, x186011, x186012, x186013] x4) x188010) (pickA x4 11 (rd [x186000, x186001, x186002, x186003, x186004, x186005, x186006, x186007, x186008, x186009, x186010, x186011, x186012, x186013] x4) x188011) (pickA x4 12 (rd [x186000, x186001, x186002, x186003, x186004, x186005, x186006, x186007, x186008, x186009, x186010, x186011, x186012, x186013] x4) x188012) (pickA x4 13 (rd [x186000, x186001, x186002, x186003, x186004, x186005, x186006, x186007, x186008, x186009, x186010, x186011, x186012, x186013] x4) x188013)) else (none)) else (some (x188000, x188001, x188002, x188003, x188004, x188005, x188006, x188007, x188008, x188009, x188010, x188011, x188012, x188013))
def laws_toWeighing.f (k : Nat) (a0_0 : Int) (a0_1 : Int) (a0_2 : Int) (a0_3 : Int) (a0_4 : Int) (a0_5 : Int) (a0_6 : Int) (a0_7 : Int) (a0_8 : Int) (a0_9 : Int) (a0_10 : Int) (a0_11 : Int) (a0_12 : Int) (a0_13 : Int) : Option (Int × Int × Int × Int × Int × Int × Int × Int × Int × Int × Int × Int × Int × Int) := laws_toWeighing.l0 k 0 a0_0 a0_1 a0_2 a0_3 a0_4 a0_5 a0_6 a0_7 a0_8 a0_9 a0_10 a0_11 a0_12 a0_13 0 0 0 0 0 0 0 0 0 0 0 0 0 0
theorem laws_toWeighing.mono_l : ∀ k, (∀ y0 y1 y2 y3 y4 y5 y6 y7 y8 y9 y10 y11 y12 y13 y14 y15 y16 y17 y18 y19 y20 y21 y22 y23 y24 y25 y26 y27 y28, LeO (laws_toWeighing.l0 k y0 y1 y2 y3 y4 y5 y6 y7 y8 y9 y10 y11 y12 y13 y14 y15 y16 y17 y18 y19 y20 y21 y22 y23 y24 y25 y26 y27 y28) (laws_toWeighing.l0 (k + 1) y0 y1 y2 y3 y4 y5 y6 y7 y8 y9 y10 y11 y12 y13 y14 y15 y16 y17 y18 y19 y20 y21 y22 y23 y24 y25 y26 y27 y28))
 | 0 => fun _ _ _ _ _ _ _ _ _ _ _ _ _ _ _ _ _ _ _ _ _ _ _ _ _ _ _ _ _ r h => by simp [laws_toWeighing.l0] at h
 | k + 1 => by
  have ih0 := laws_toWeighing.mono_l k
  ·intro y0 y1 y2 y3 y4 y5 y6 y7 y8 y9 y10 y11 y12 y13 y14 y15 y16 y17 y18 y19 y20 y21 y22 y23 y24 y25 y26 y27 y28
   unfold laws_toWeighing.l0
   repeat' first
   | (with_reducible exact ih0 _ _ _ _ _ _ _ _ _ _ _ _ _ _ _ _ _ _ _ _ _ _ _ _ _ _ _ _ _)
   | (with_reducible exact LeO.refl _)
   | (with_reducible exact LeO.none _)
   | (with_reducible refine LeO.ite ?_ ?_)
   | (with_reducible refine LeO.bind ?_ (fun _ => ?_))
   | exact ih0 _ _ _ _ _ _ _ _ _ _ _ _ _ _ _ _ _ _ _ _ _ _ _ _ _ _ _ _ _
   | exact LeO.none _
   | refine LeO.ite ?_ ?_
   | refine LeO.bind ?_ (fun _ => ?_)
theorem laws_toWeighing.mono : ∀ a0 a1 a2 a3 a4 a5 a6 a7 a8 a9 a10 a11 a12 a13 k, LeO (laws_toWeighing.f k a0 a1 a2 a3 a4 a5 a6 a7 a8 a9 a10 a11 a12 a13) (laws_toWeighing.f (k + 1) a0 a1 a2 a3 a4 a5 a6 a7 a8 a9 a10 a11 a12 a13) := by
 intro a0 a1 a2 a3 a4 a5 a6 a7 a8 a9 a10 a11 a12 a13 k
 have ih0 := laws_toWeighing.mono_l k
 unfold laws_toWeighing.f
 repeat' first
   | (with_reducible exact ih0 _ _ _ _ _ _ _ _ _ _ _ _ _ _ _ _ _ _ _ _ _ _ _ _ _ _ _ _ _)
   | (with_reducible exact LeO.refl _)
   | (with_reducible exact LeO.none _)
   | (with_reducible refine LeO.ite ?_ ?_)
   | (with_reducible refine LeO.bind ?_ (fun _ => ?_))
   | exact ih0 _ _ _ _ _ _ _ _ _ _ _ _ _ _ _ _ _ _ _ _ _ _ _ _ _ _ _ _ _
   | exact LeO.none _
   | refine LeO.ite ?_ ?_
   | refine LeO.bind ?_ (fun _ => ?_)
set_option maxHeartbeats 8000000 in
set_option maxRecDepth 100000 in
theorem laws_toWeighing.calls (k : Nat) (a0_0 : Int) (a0_1 : Int) (a0_2 : Int) (a0_3 : Int) (a0_4 : Int) (a0_5 : Int) (a0_6 : Int) (a0_7 : Int) (a0_8 : Int) (a0_9 : Int) (a0_10 : Int) (a0_11 : Int) (a0_12 : Int) (a0_13 : Int) (r1 : Int) (r2 : Int) (r3 : Int) (r4 : Int) (r5 : Int) (r6 : Int) (r7 : Int) (r8 : Int) (r9 : Int) (r10 : Int) (r11 : Int) (r12 : Int) (r13 : Int) (r14 : Int) (w : World) (h : laws_toWeighing.f k a0_0 a0_1 a0_2 a0_3 a0_4 a0_5 a0_6 a0_7 a0_8 a0_9 a0_10 a0_11 a0_12 a0_13 = some (r1, r2, r3, r4, r5, r6, r7, r8, r9, r10, r11, r12, r13, r14)) :
  Calls Try.prog 42 #[.agg #[.int .i8 a0_0, .int .i8 a0_1, .int .i8 a0_2, .int .i8 a0_3, .int .i8 a0_4, .int .i8 a0_5, .int .i8 a0_6, .int .i8 a0_7, .int .i8 a0_8, .int .i8 a0_9, .int .i8 a0_10, .int .i8 a0_11, .int .i8 a0_12, .int .i8 a0_13]] w fun e w' => e = .returned (.agg #[.int .i8 r1, .int .i8 r2, .int .i8 r3, .int .i8 r4, .int .i8 r5, .int .i8 r6, .int .i8 r7, .int .i8 r8, .int .i8 r9, .int .i8 r10, .int .i8 r11, .int .i8 r12, .int .i8 r13, .int .i8 r14]) ∧ Below w.heap.size w w' := by
 have hu49 := Try.underlying49
 have hu50 := Try.underlying50
 have HB := ze.mk (Below.refl w.heap.size w)
 have H : (laws_toWeighing.l0 k 0 a0_0 a0_1 a0_2 a0_3 a0_4 a0_5 a0_6 a0_7 a0_8 a0_9 a0_10 a0_11 a0_12 a0_13 0 0 0 0 0 0 0 0 0 0 0 0 0 0) = some (r1, r2, r3, r4, r5, r6, r7, r8, r9, r10, r11, r12, r13, r14) := h
 clear h
 have H' := ze.mk H
 clear H
 go_enter Try.func42, Try.ntmps42
 go_wp2_with (first | ((with_reducible refine zn (N := 1) rfl ?_); refine zm ?hg (N := 1) ?hd (cs := #[.int .i8 a0_0, .int .i8 a0_1, .int .i8 a0_2, .int .i8 a0_3, .int .i8 a0_4, .int .i8 a0_5, .int .i8 a0_6, .int .i8 a0_7, .int .i8 a0_8, .int .i8 a0_9, .int .i8 a0_10, .int .i8 a0_11, .int .i8 a0_12, .int .i8 a0_13]) (t := 49) ?hr ?_; (case hd => rfl); (case hg => rfl); (case hr => first | (go_simp; done) | (go_simp; rfl)); intro gb185 hg w2 hbox hb; have n0_ := ze.mk (zk (by repeat (first | (with_reducible first | exact HB.out | apply zc | apply za | apply zb) | exact HB.out)) hb); have n1_ := ze.mk (hbox); have n2_ := ze.mk ((by rw [hg]; exact (zj (by repeat (first | (with_reducible first | exact HB.out | apply zc | apply za | apply zb) | exact HB.out))) : w.heap.size ≤ gb185)); have n3_ := ze.mk ((by rw [hg]; exact (zj (by repeat (first | (with_reducible first | exact HB.out | apply zc | apply za | apply zb) | exact HB.out))) : w.heap.size ≤ gb185)); clear HB; have HB := n0_; have BK185 := n1_; have GW185 := n2_; have GE185 := n3_; clear n0_ n1_ n2_ n3_; clear hb hbox hg) | ((with_reducible refine zn (N := 2) rfl ?_); refine zm ?hg (N := 2) ?hd (cs := #[.int .i8 0, .int .i8 0, .int .i8 0, .int .i8 0, .int .i8 0, .int .i8 0, .int .i8 0, .int .i8 0, .int .i8 0, .int .i8 0, .int .i8 0, .int .i8 0, .int .i8 0, .int .i8 0]) (t := 50) ?hr ?_; (case hd => rfl); (case hg => rfl); (case hr => first | (go_simp; done) | (go_simp; rfl)); intro gb186 hg w3 hbox hb; have n0_ := ze.mk (zl (g := gb185) (o := .cells #[.int .i8 a0_0, .int .i8 a0_1, .int .i8 a0_2, .int .i8 a0_3, .int .i8 a0_4, .int .i8 a0_5, .int .i8 a0_6, .int .i8 a0_7, .int .i8 a0_8, .int .i8 a0_9, .int .i8 a0_10, .int .i8 a0_11, .int .i8 a0_12, .int .i8 a0_13] 49 (0, 0)) (by (with_reducible repeat (first | refine zh ?_ _ | refine zi ?_ | refine zg ?_ _)); exact BK185.out) hb); have n1_ := ze.mk (zk (by repeat (first | (with_reducible first | exact HB.out | apply zc | apply za | apply zb | refine zf ?_ GE185.out) | exact HB.out)) hb); have n2_ := ze.mk (hbox); have n3_ := ze.mk ((by rw [hg]; exact (zj (by repeat (first | (with_reducible first | exact HB.out | apply zc | apply za | apply zb | refine zf ?_ GE185.out) | exact HB.out))) : w.heap.size ≤ gb186)); have n4_ := ze.mk ((by rw [hg]; exact (zj (by repeat (first | (with_reducible first | exact HB.out | apply zc | apply za | apply zb | refine zf ?_ GE185.out) | exact HB.out))) : w.heap.size ≤ gb186)); have n5_ := ze.mk ((by rw [hg]; exact Nat.ne_of_lt (zu (g := gb185) (o := .cells #[.int .i8 a0_0, .int .i8 a0_1, .int .i8 a0_2, .int .i8 a0_3, .int .i8 a0_4, .int .i8 a0_5, .int .i8 a0_6, .int .i8 a0_7, .int .i8 a0_8, .int .i8 a0_9, .int .i8 a0_10, .int .i8 a0_11, .int .i8 a0_12, .int .i8 a0_13] 49 (0, 0)) (by (with_reducible repeat (first | refine zh ?_ _ | refine zi ?_ | refine zg ?_ _)); exact BK185.out)) : gb185 ≠ gb186)); have n6_ := ze.mk ((by rw [hg]; exact Nat.ne_of_gt (zu (g := gb185) (o := .cells #[.int .i8 a0_0, .int .i8 a0_1, .int .i8 a0_2, .int .i8 a0_3, .int .i8 a0_4, .int .i8 a0_5, .int .i8 a0_6, .int .i8 a0_7, .int .i8 a0_8, .int .i8 a0_9, .int .i8 a0_10, .int .i8 a0_11, .int .i8 a0_12, .int .i8 a0_13] 49 (0, 0)) (by (with_reducible repeat (first | refine zh ?_ _ | refine zi ?_ | refine zg ?_ _)); exact BK185.out)) : gb186 ≠ gb185)); clear BK185; clear HB; have BK185 := n0_; have HB := n1_; have BK186 := n2_; have GW186 := n3_; have GE186 := n4_; have NB185_186 := n5_; have NB186_185 := n6_; clear n0_ n1_ n2_ n3_ n4_ n5_ n6_; clear hb hbox hg) | ((with_reducible refine zn (N := 3) rfl ?_); refine zm ?hg (N := 3) ?hd (cs := #[.int .i8 0, .int .i8 0, .int .i8 0, .int .i8 0, .int .i8 0, .int .i8 0, .int .i8 0, .int .i8 0, .int .i8 0, .int .i8 0, .int .i8 0, .int .i8 0, .int .i8 0, .int .i8 0]) (t := 50) ?hr ?_; (case hd => rfl); (case hg => rfl); (case hr => first | (go_simp; done) | (go_simp; rfl)); intro gb187 hg w4 hbox hb; have n0_ := ze.mk (zl (g := gb185) (o := .cells #[.int .i8 a0_0, .int .i8 a0_1, .int .i8 a0_2, .int .i8 a0_3, .int .i8 a0_4, .int .i8 a0_5, .int .i8 a0_6, .int .i8 a0_7, .int .i8 a0_8, .int .i8 a0_9, .int .i8 a0_10, .int .i8 a0_11, .int .i8 a0_12, .int .i8 a0_13] 49 (0, 0)) (by (with_reducible repeat (first | refine zh ?_ _ | refine zi ?_ | refine zg ?_ _)); exact BK185.out) hb); have n1_ := ze.mk (zl (g := gb186) (o := .cells #[.int .i8 0, .int .i8 0, .int .i8 0, .int .i8 0, .int .i8 0, .int .i8 0, .int .i8 0, .int .i8 0, .int .i8 0, .int .i8 0, .int .i8 0, .int .i8 0, .int .i8 0, .int .i8 0] 50 (0, 0)) (by (with_reducible repeat (first | refine zh ?_ _ | refine zi ?_ | refine zg ?_ _)); exact BK186.out) hb); have n2_ := ze.mk (zk (by repeat (first | (with_reducible first | exact HB.out | apply zc | apply za | apply zb | refine zf ?_ GE185.out | refine zf ?_ GE186.out) | exact HB.out)) hb); have n3_ := ze.mk (hbox); have n4_ := ze.mk ((by rw [hg]; exact (zj (by repeat (first | (with_reducible first | exact HB.out | apply zc | apply za | apply zb | refine zf ?_ GE185.out | refine zf ?_ GE186.out) | exact HB.out))) : w.heap.size ≤ gb187)); have n5_ := ze.mk ((by rw [hg]; exact (zj (by repeat (first | (with_reducible first | exact HB.out | apply zc | apply za | apply zb | refine zf ?_ GE185.out | refine zf ?_ GE186.out) | exact HB.out))) : w.heap.size ≤ gb187)); have n6_ := ze.mk ((by rw [hg]; exact Nat.ne_of_lt (zu (g := gb185) (o := .cells #[.int .i8 a0_0, .int .i8 a0_1, .int .i8 a0_2, .int .i8 a0_3, .int .i8 a0_4, .int .i8 a0_5, .int .i8 a0_6, .int .i8 a0_7, .int .i8 a0_8, .int .i8 a0_9, .int .i8 a0_10, .int .i8 a0_11, .int .i8 a0_12, .int .i8 a0_13] 49 (0, 0)) (by (with_reducible repeat (first | refine zh ?_ _ | refine zi ?_ | refine zg ?_ _)); exact BK185.out)) : gb185 ≠ gb187)); have n7_ := ze.mk ((by rw [hg]; exact Nat.ne_of_gt (zu (g := gb185) (o := .cells #[.int .i8 a0_0, .int .i8 a0_1, .int .i8 a0_2, .int .i8 a0_3, .int .i8 a0_4, .int .i8 a0_5, .int .i8 a0_6, .int .i8 a0_7, .int .i8 a0_8, .int .i8 a0_9, .int .i8 a0_10, .int .i8 a0_11, .int .i8 a0_12, .int .i8 a0_13] 49 (0, 0)) (by (with_reducible repeat (first | refine zh ?_ _ | refine zi ?_ | refine zg ?_ _)); exact BK185.out)) : gb187 ≠ gb185)); have n8_ := ze.mk ((by rw [hg]; exact Nat.ne_of_lt (zu (g := gb186) (o := .cells #[.int .i8 0, .int .i8 0, .int .i8 0, .int .i8 0, .int .i8 0, .int .i8 0, .int .i8 0, .int .i8 0, .int .i8 0, .int .i8 0, .int .i8 0, .int .i8 0, .int .i8 0, .int .i8 0] 50 (0, 0)) (by (with_reducible repeat (first | refine zh ?_ _ | refine zi ?_ | refine zg ?_ _)); exact BK186.out)) : gb186 ≠ gb187)); have n9_ := ze.mk ((by rw [hg]; exact Nat.ne_of_gt (zu (g := gb186) (o := .cells #[.int .i8 0, .int .i8 0, .int .i8 0, .int .i8 0, .int .i8 0, .int .i8 0, .int .i8 0, .int .i8 0, .int .i8 0, .int .i8 0, .int .i8 0, .int .i8 0, .int .i8 0, .int .i8 0] 50 (0, 0)) (by (with_reducible repeat (first | refine zh ?_ _ | refine zi ?_ | refine zg ?_ _)); exact BK186.out)) : gb187 ≠ gb186)); clear BK185; clear BK186; clear HB; have BK185 := n0_; have BK186 := n1_; have HB := n2_; have BK187 := n3_; have GW187 := n4_; have GE187 := n5_; have NB185_187 := n6_; have NB187_185 := n7_; have NB186_187 := n8_; have NB187_186 := n9_; clear n0_ n1_ n2_ n3_ n4_ n5_ n6_ n7_ n8_ n9_; clear hb hbox hg))
 go_loopg [4] k (fun kq v4 w' => ∃ (x4_1 : Int) (x188000_1 : Int) (x188001_1 : Int) (x188002_1 : Int) (x188003_1 : Int) (x188004_1 : Int) (x188005_1 : Int) (x188006_1 : Int) (x188007_1 : Int) (x188008_1 : Int) (x188009_1 : Int) (x188010_1 : Int) (x188011_1 : Int) (x188012_1 : Int) (x188013_1 : Int), v4 = .int .i64 x4_1 ∧ ze (laws_toWeighing.l0 kq x4_1 a0_0 a0_1 a0_2 a0_3 a0_4 a0_5 a0_6 a0_7 a0_8 a0_9 a0_10 a0_11 a0_12 a0_13 x188000_1 x188001_1 x188002_1 x188003_1 x188004_1 x188005_1 x188006_1 x188007_1 x188008_1 x188009_1 x188010_1 x188011_1 x188012_1 x188013_1 = some (r1, r2, r3, r4, r5, r6, r7, r8, r9, r10, r11, r12, r13, r14)) ∧ ze (kq ≤ k) ∧ ze (w'.heap[gb185]? = some (.cells #[.int .i8 a0_0, .int .i8 a0_1, .int .i8 a0_2, .int .i8 a0_3, .int .i8 a0_4, .int .i8 a0_5, .int .i8 a0_6, .int .i8 a0_7, .int .i8 a0_8, .int .i8 a0_9, .int .i8 a0_10, .int .i8 a0_11, .int .i8 a0_12, .int .i8 a0_13] 49 (0, 0))) ∧ ze (w'.heap[gb186]? = some (.cells #[.int .i8 0, .int .i8 0, .int .i8 0, .int .i8 0, .int .i8 0, .int .i8 0, .int .i8 0, .int .i8 0, .int .i8 0, .int .i8 0, .int .i8 0, .int .i8 0, .int .i8 0, .int .i8 0] 50 (0, 0))) ∧ ze (w'.heap[gb187]? = some (.cells #[.int .i8 x188000_1, .int .i8 x188001_1, .int .i8 x188002_1, .int .i8 x188003_1, .int .i8 x188004_1, .int .i8 x188005_1, .int .i8 x188006_1, .int .i8 x188007_1, .int .i8 x188008_1, .int .i8 x188009_1, .int .i8 x188010_1, .int .i8 x188011_1, .int .i8 x188012_1, .int .i8 x188013_1] 50 (0, 0))) ∧ ze (Below w.heap.size w w'))
 case atStart => exact ⟨(0), (0), (0), (0), (0), (0), (0), (0), (0), (0), (0), (0), (0), (0), (0), (by first | rfl | (simp; done) | (simp [*]; done)), H', ⟨Nat.le_refl _⟩, ⟨by (with_reducible repeat (first | refine zh ?_ _ | refine zi ?_ | refine zg ?_ _)); exact BK185.out⟩, ⟨by (with_reducible repeat (first | refine zh ?_ _ | refine zi ?_ | refine zg ?_ _)); exact BK186.out⟩, ⟨by (with_reducible repeat (first | refine zh ?_ _ | refine zi ?_ | refine zg ?_ _)); exact BK187.out⟩, ⟨by repeat (first | (with_reducible first | exact HB.out | apply zc | apply za | apply zb | refine zf ?_ GE185.out | refine zf ?_ GE186.out | refine zf ?_ GE187.out) | exact HB.out)⟩⟩
 case round =>
  clear H'
  try clear p2
  try clear c4
  obtain ⟨x4_1, x188000_1, x188001_1, x188002_1, x188003_1, x188004_1, x188005_1, x188006_1, x188007_1, x188008_1, x188009_1, x188010_1, x188011_1, x188012_1, x188013_1, rfl, HA, HK1, BK185, BK186, BK187, HB⟩ := hrel
  cases gk with
  | zero => exact absurd HA.out (by simp [laws_toWeighing.l0])
  | succ k1 =>
   have H := HA.out
   clear HA
   simp only [laws_toWeighing.l0] at H
   by_cases c5 : x4_1 < 14
   ·rw [if_pos c5] at H
    have c5b0 : decide (x4_1 < 14) = true := decide_eq_true c5
    clear c5
    by_cases c6 : 0 ≤ x4_1
    ·rw [if_pos c6] at H
     have c6b0 : decide (0 ≤ x4_1) = true := decide_eq_true c6
     clear c6
     have H' := ze.mk H
     clear H
     have p7 : 0 ≤ (x4_1 : Int) := of_decide_eq_true (by first | (with_reducible assumption) | assumption)
     have q7 : x4_1 < (14 : Int) := of_decide_eq_true (by first | (with_reducible assumption) | assumption)
     replace p7 := eq_true p7
     replace q7 := eq_true q7
     have hnb8 := NB185_186.out
     have hnc8 := NB186_185.out
     have hnb9 := NB185_187.out
     have hnc9 := NB187_185.out
     have hcz10_0 := cz BK185.out 0 rfl
     have hcz10_1 := cz BK185.out 1 rfl
     have hcz10_2 := cz BK185.out 2 rfl
     have hcz10_3 := cz BK185.out 3 rfl
     have hcz10_4 := cz BK185.out 4 rfl
     have hcz10_5 := cz BK185.out 5 rfl
     have hcz10_6 := cz BK185.out 6 rfl
     have hcz10_7 := cz BK185.out 7 rfl
     have hcz10_8 := cz BK185.out 8 rfl
     have hcz10_9 := cz BK185.out 9 rfl
     have hcz10_10 := cz BK185.out 10 rfl
     have hcz10_11 := cz BK185.out 11 rfl
     have hcz10_12 := cz BK185.out 12 rfl
     have hcz10_13 := cz BK185.out 13 rfl
     have hfz10_0 := zd BK185.out 0
     have hfz10_1 := zd BK185.out 1
     have hfz10_2 := zd BK185.out 2
     have hfz10_3 := zd BK185.out 3
     have hfz10_4 := zd BK185.out 4
     have hfz10_5 := zd BK185.out 5
     have hfz10_6 := zd BK185.out 6
     have hfz10_7 := zd BK185.out 7
     have hfz10_8 := zd BK185.out 8
     have hfz10_9 := zd BK185.out 9
     have hfz10_10 := zd BK185.out 10
     have hfz10_11 := zd BK185.out 11
     have hfz10_12 := zd BK185.out 12
     have hfz10_13 := zd BK185.out 13
     have hx11_0 : wr.cell? ⟨gb185, (x4_1).toNat, none⟩ = some (.int .i8 (rd [a0_0, a0_1, a0_2, a0_3, a0_4, a0_5, a0_6, a0_7, a0_8, a0_9, a0_10, a0_11, a0_12, a0_13] x4_1)) := (zt BK185.out _).trans (by rcases (show (x4_1 : Int) = 0 ∨ (x4_1 : Int) = 1 ∨ (x4_1 : Int) = 2 ∨ (x4_1 : Int) = 3 ∨ (x4_1 : Int) = 4 ∨ (x4_1 : Int) = 5 ∨ (x4_1 : Int) = 6 ∨ (x4_1 : Int) = 7 ∨ (x4_1 : Int) = 8 ∨ (x4_1 : Int) = 9 ∨ (x4_1 : Int) = 10 ∨ (x4_1 : Int) = 11 ∨ (x4_1 : Int) = 12 ∨ (x4_1 : Int) = 13 by have hp_ : 0 ≤ (x4_1 : Int) := of_decide_eq_true (by first | (with_reducible assumption) | assumption); have hq_ : x4_1 < (14 : Int) := of_decide_eq_true (by first | (with_reducible assumption) | assumption); omega) with h_ | h_ | h_ | h_ | h_ | h_ | h_ | h_ | h_ | h_ | h_ | h_ | h_ | h_ <;> rw [h_] <;> rfl)
     have p12 : 0 ≤ (x4_1 : Int) := of_decide_eq_true (by first | (with_reducible assumption) | assumption)
     have q12 : x4_1 < (14 : Int) := of_decide_eq_true (by first | (with_reducible assumption) | assumption)
     replace p12 := eq_true p12
     replace q12 := eq_true q12
     have hnb13 := NB187_186.out
     have hnc13 := NB186_187.out
     have hcz14_0 := cz BK187.out 0 rfl
     have hcz14_1 := cz BK187.out 1 rfl
     have hcz14_2 := cz BK187.out 2 rfl
     have hcz14_3 := cz BK187.out 3 rfl
     have hcz14_4 := cz BK187.out 4 rfl
     have hcz14_5 := cz BK187.out 5 rfl
     have hcz14_6 := cz BK187.out 6 rfl
     have hcz14_7 := cz BK187.out 7 rfl
     have hcz14_8 := cz BK187.out 8 rfl
     have hcz14_9 := cz BK187.out 9 rfl
     have hcz14_10 := cz BK187.out 10 rfl
     have hcz14_11 := cz BK187.out 11 rfl
     have hcz14_12 := cz BK187.out 12 rfl
     have hcz14_13 := cz BK187.out 13 rfl
     have hfz14_0 := zd BK187.out 0
     have hfz14_1 := zd BK187.out 1
     have hfz14_2 := zd BK187.out 2
     have hfz14_3 := zd BK187.out 3
     have hfz14_4 := zd BK187.out 4
     have hfz14_5 := zd BK187.out 5
     have hfz14_6 := zd BK187.out 6
     have hfz14_7 := zd BK187.out 7
     have hfz14_8 := zd BK187.out 8
     have hfz14_9 := zd BK187.out 9
     have hfz14_10 := zd BK187.out 10
     have hfz14_11 := zd BK187.out 11
     have hfz14_12 := zd BK187.out 12
     have hfz14_13 := zd BK187.out 13
     go_wp2_with (first | ((with_reducible refine zga (t := 22) (p := 13) rfl ?_); have hx15_0 : wr.cell? ⟨gb187, (x4_1).toNat, none⟩ = some (.int .i8 (rd [x188000_1, x188001_1, x188002_1, x188003_1, x188004_1, x188005_1, x188006_1, x188007_1, x188008_1, x188009_1, x188010_1, x188011_1, x188012_1, x188013_1] x4_1)) := (zt BK187.out _).trans (by rcases (show (x4_1 : Int) = 0 ∨ (x4_1 : Int) = 1 ∨ (x4_1 : Int) = 2 ∨ (x4_1 : Int) = 3 ∨ (x4_1 : Int) = 4 ∨ (x4_1 : Int) = 5 ∨ (x4_1 : Int) = 6 ∨ (x4_1 : Int) = 7 ∨ (x4_1 : Int) = 8 ∨ (x4_1 : Int) = 9 ∨ (x4_1 : Int) = 10 ∨ (x4_1 : Int) = 11 ∨ (x4_1 : Int) = 12 ∨ (x4_1 : Int) = 13 by have hp_ : 0 ≤ (x4_1 : Int) := of_decide_eq_true (by first | (with_reducible assumption) | assumption); have hq_ : x4_1 < (14 : Int) := of_decide_eq_true (by first | (with_reducible assumption) | assumption); omega) with h_ | h_ | h_ | h_ | h_ | h_ | h_ | h_ | h_ | h_ | h_ | h_ | h_ | h_ <;> rw [h_] <;> rfl); have hfz15_0 := zd BK187.out ((x4_1).toNat); refine store_event (t := 22) (p := 13) (v := ?vo_w16) (w1 := (wr.setCell ⟨gb187, (x4_1).toNat, none⟩ (.int .i8 (rd [a0_0, a0_1, a0_2, a0_3, a0_4, a0_5, a0_6, a0_7, a0_8, a0_9, a0_10, a0_11, a0_12, a0_13] x4_1)))) ?hg ?ho ?hn ?hr ?_; (case ho => rfl); (case hg => rfl); (case hn => rfl); (case hr => first | (go_simp; done) | (go_simp; rfl)); intro w16 hw; have n0_ : ze (w16.heap[gb185]? = some (.cells #[.int .i8 a0_0, .int .i8 a0_1, .int .i8 a0_2, .int .i8 a0_3, .int .i8 a0_4, .int .i8 a0_5, .int .i8 a0_6, .int .i8 a0_7, .int .i8 a0_8, .int .i8 a0_9, .int .i8 a0_10, .int .i8 a0_11, .int .i8 a0_12, .int .i8 a0_13] 49 (0, 0))) := ⟨(by rw [hw]; exact (by (with_reducible repeat (first | refine zh ?_ _ | refine zi ?_ | refine zg ?_ _)); refine zha ?_ NB185_187.out _; (with_reducible repeat (first | refine zh ?_ _ | refine zi ?_ | refine zg ?_ _)); exact BK185.out))⟩; have n1_ : ze (w16.heap[gb186]? = some (.cells #[.int .i8 0, .int .i8 0, .int .i8 0, .int .i8 0, .int .i8 0, .int .i8 0, .int .i8 0, .int .i8 0, .int .i8 0, .int .i8 0, .int .i8 0, .int .i8 0, .int .i8 0, .int .i8 0] 50 (0, 0))) := ⟨(by rw [hw]; exact (by (with_reducible repeat (first | refine zh ?_ _ | refine zi ?_ | refine zg ?_ _)); refine zha ?_ NB186_187.out _; (with_reducible repeat (first | refine zh ?_ _ | refine zi ?_ | refine zg ?_ _)); exact BK186.out))⟩; have n2_ : ze (w16.heap[gb187]? = some (.cells #[.int .i8 (pickA x4_1 0 (rd [a0_0, a0_1, a0_2, a0_3, a0_4, a0_5, a0_6, a0_7, a0_8, a0_9, a0_10, a0_11, a0_12, a0_13] x4_1) x188000_1), .int .i8 (pickA x4_1 1 (rd [a0_0, a0_1, a0_2, a0_3, a0_4, a0_5, a0_6, a0_7, a0_8, a0_9, a0_10, a0_11, a0_12, a0_13] x4_1) x188001_1), .int .i8 (pickA x4_1 2 (rd [a0_0, a0_1, a0_2, a0_3, a0_4, a0_5, a0_6, a0_7, a0_8, a0_9, a0_10, a0_11, a0_12, a0_13] x4_1) x188002_1), .int .i8 (pickA x4_1 3 (rd [a0_0, a0_1, a0_2, a0_3, a0_4, a0_5, a0_6, a0_7, a0_8, a0_9, a0_10, a0_11, a0_12, a0_13] x4_1) x188003_1), .int .i8 (pickA x4_1 4 (rd [a0_0, a0_1, a0_2, a0_3, a0_4, a0_5, a0_6, a0_7, a0_8, a0_9, a0_10, a0_11, a0_12, a0_13] x4_1) x188004_1), .int .i8 (pickA x4_1 5 (rd [a0_0, a0_1, a0_2, a0_3, a0_4, a0_5, a0_6, a0_7, a0_8, a0_9, a0_10, a0_11, a0_12, a0_13] x4_1) x188005_1), .int .i8 (pickA x4_1 6 (rd [a0_0, a0_1, a0_2, a0_3, a0_4, a0_5, a0_6, a0_7, a0_8, a0_9, a0_10, a0_11, a0_12, a0_13] x4_1) x188006_1), .int .i8 (pickA x4_1 7 (rd [a0_0, a0_1, a0_2, a0_3, a0_4, a0_5, a0_6, a0_7, a0_8, a0_9, a0_10, a0_11, a0_12, a0_13] x4_1) x188007_1), .int .i8 (pickA x4_1 8 (rd [a0_0, a0_1, a0_2, a0_3, a0_4, a0_5, a0_6, a0_7, a0_8, a0_9, a0_10, a0_11, a0_12, a0_13] x4_1) x188008_1), .int .i8 (pickA x4_1 9 (rd [a0_0, a0_1, a0_2, a0_3, a0_4, a0_5, a0_6, a0_7, a0_8, a0_9, a0_10, a0_11, a0_12, a0_13] x4_1) x188009_1), .int .i8 (pickA x4_1 10 (rd [a0_0, a0_1, a0_2, a0_3, a0_4, a0_5, a0_6, a0_7, a0_8, a0_9, a0_10, a0_11, a0_12, a0_13] x4_1) x188010_1), .int .i8 (pickA x4_1 11 (rd [a0_0, a0_1, a0_2, a0_3, a0_4, a0_5, a0_6, a0_7, a0_8, a0_9, a0_10, a0_11, a0_12, a0_13] x4_1) x188011_1), .int .i8 (pickA x4_1 12 (rd [a0_0, a0_1, a0_2, a0_3, a0_4, a0_5, a0_6, a0_7, a0_8, a0_9, a0_10, a0_11, a0_12, a0_13] x4_1) x188012_1), .int .i8 (pickA x4_1 13 (rd [a0_0, a0_1, a0_2, a0_3, a0_4, a0_5, a0_6, a0_7, a0_8, a0_9, a0_10, a0_11, a0_12, a0_13] x4_1) x188013_1)] 50 (0, 0))) := ⟨(by rw [hw]; exact (by (with_reducible repeat (first | refine zh ?_ _ | refine zi ?_ | refine zg ?_ _)); refine zw (cs := #[.int .i8 x188000_1, .int .i8 x188001_1, .int .i8 x188002_1, .int .i8 x188003_1, .int .i8 x188004_1, .int .i8 x188005_1, .int .i8 x188006_1, .int .i8 x188007_1, .int .i8 x188008_1, .int .i8 x188009_1, .int .i8 x188010_1, .int .i8 x188011_1, .int .i8 x188012_1, .int .i8 x188013_1]) ?_ ((x4_1).toNat) _ (by rcases (show (x4_1 : Int) = 0 ∨ (x4_1 : Int) = 1 ∨ (x4_1 : Int) = 2 ∨ (x4_1 : Int) = 3 ∨ (x4_1 : Int) = 4 ∨ (x4_1 : Int) = 5 ∨ (x4_1 : Int) = 6 ∨ (x4_1 : Int) = 7 ∨ (x4_1 : Int) = 8 ∨ (x4_1 : Int) = 9 ∨ (x4_1 : Int) = 10 ∨ (x4_1 : Int) = 11 ∨ (x4_1 : Int) = 12 ∨ (x4_1 : Int) = 13 by have hp_ : 0 ≤ (x4_1 : Int) := of_decide_eq_true (by first | (with_reducible assumption) | assumption); have hq_ : x4_1 < (14 : Int) := of_decide_eq_true (by first | (with_reducible assumption) | assumption); omega) with h_ | h_ | h_ | h_ | h_ | h_ | h_ | h_ | h_ | h_ | h_ | h_ | h_ | h_ <;> rw [h_] <;> rfl); (with_reducible repeat (first | refine zh ?_ _ | refine zi ?_ | refine zg ?_ _)); exact BK187.out))⟩; have n3_ : ze (Below w.heap.size w w16) := ⟨(by rw [hw]; exact (by repeat (first | (with_reducible first | exact HB.out | apply zc | apply za | apply zb | refine zf ?_ GE185.out | refine zf ?_ GE186.out | refine zf ?_ GE187.out) | exact HB.out)))⟩; clear hw; clear BK185; clear BK186; clear BK187; clear HB; have BK185 := n0_; have BK186 := n1_; have BK187 := n2_; have HB := n3_; clear n0_ n1_ n2_ n3_))
     go_roundg k1
     case measure => have := HK1.out; omega
     case rel => exact ⟨(wrap64 (x4_1 + 1)), ((pickA x4_1 0 (rd [a0_0, a0_1, a0_2, a0_3, a0_4, a0_5, a0_6, a0_7, a0_8, a0_9, a0_10, a0_11, a0_12, a0_13] x4_1) x188000_1)), ((pickA x4_1 1 (rd [a0_0, a0_1, a0_2, a0_3, a0_4, a0_5, a0_6, a0_7, a0_8, a0_9, a0_10, a0_11, a0_12, a0_13] x4_1) x188001_1)), ((pickA x4_1 2 (rd [a0_0, a0_1, a0_2, a0_3, a0_4, a0_5, a0_6, a0_7, a0_8, a0_9, a0_10, a0_11, a0_12, a0_13] x4_1) x188002_1)), ((pickA x4_1 3 (rd [a0_0, a0_1, a0_2, a0_3, a0_4, a0_5, a0_6, a0_7, a0_8, a0_9, a0_10, a0_11, a0_12, a0_13] x4_1) x188003_1)), ((pickA x4_1 4 (rd [a0_0, a0_1, a0_2, a0_3, a0_4, a0_5, a0_6, a0_7, a0_8, a0_9, a0_10, a0_11, a0_12, a0_13] x4_1) x188004_1)), ((pickA x4_1 5 (rd [a0_0, a0_1, a0_2, a0_3, a0_4, a0_5, a0_6, a0_7, a0_8, a0_9, a0_10, a0_11, a0_12, a0_13] x4_1) x188005_1)), ((pickA x4_1 6 (rd [a0_0, a0_1, a0_2, a0_3, a0_4, a0_5, a0_6, a0_7, a0_8, a0_9, a0_10, a0_11, a0_12, a0_13] x4_1) x188006_1)), ((pickA x4_1 7 (rd [a0_0, a0_1, a0_2, a0_3, a0_4, a0_5, a0_6, a0_7, a0_8, a0_9, a0_10, a0_11, a0_12, a0_13] x4_1) x188007_1)), ((pickA x4_1 8 (rd [a0_0, a0_1, a0_2, a0_3, a0_4, a0_5, a0_6, a0_7, a0_8, a0_9, a0_10, a0_11, a0_12, a0_13] x4_1) x188008_1)), ((pickA x4_1 9 (rd [a0_0, a0_1, a0_2, a0_3, a0_4, a0_5, a0_6, a0_7, a0_8, a0_9, a0_10, a0_11, a0_12, a0_13] x4_1) x188009_1)), ((pickA x4_1 10 (rd [a0_0, a0_1, a0_2, a0_3, a0_4, a0_5, a0_6, a0_7, a0_8, a0_9, a0_10, a0_11, a0_12, a0_13] x4_1) x188010_1)), ((pickA x4_1 11 (rd [a0_0, a0_1, a0_2, a0_3, a0_4, a0_5, a0_6, a0_7, a0_8, a0_9, a0_10, a0_11, a0_12, a0_13] x4_1) x188011_1)), ((pickA x4_1 12 (rd [a0_0, a0_1, a0_2, a0_3, a0_4, a0_5, a0_6, a0_7, a0_8, a0_9, a0_10, a0_11, a0_12, a0_13] x4_1) x188012_1)), ((pickA x4_1 13 (rd [a0_0, a0_1, a0_2, a0_3, a0_4, a0_5, a0_6, a0_7, a0_8, a0_9, a0_10, a0_11, a0_12, a0_13] x4_1) x188013_1)), (by first | rfl | (simp; done) | (simp [*]; done)), H', ⟨by have := HK1.out; omega⟩, ⟨by (with_reducible repeat (first | refine zh ?_ _ | refine zi ?_ | refine zg ?_ _)); exact BK185.out⟩, ⟨by (with_reducible repeat (first | refine zh ?_ _ | refine zi ?_ | refine zg ?_ _)); exact BK186.out⟩, ⟨by (with_reducible repeat (first | refine zh ?_ _ | refine zi ?_ | refine zg ?_ _)); exact BK187.out⟩, ⟨by repeat (first | (with_reducible first | exact HB.out | apply zc | apply za | apply zb | refine zf ?_ GE185.out | refine zf ?_ GE186.out | refine zf ?_ GE187.out) | exact HB.out)⟩⟩
    ·rw [if_neg c6] at H
     exact absurd H (by simp)
   ·rw [if_neg c5] at H
    have c5b0 : decide (x4_1 < 14) = false := decide_eq_false c5
    clear c5
    simp only [Option.some.injEq, Prod.mk.injEq] at H
    obtain ⟨rfl, rfl, rfl, rfl, rfl, rfl, rfl, rfl, rfl, rfl, rfl, rfl, rfl, rfl⟩ := H
    have hnb17 := NB187_185.out
    have hnc17 := NB185_187.out
    have hnb18 := NB187_186.out
    have hnc18 := NB186_187.out
    have hcz19_0 := cz BK187.out 0 rfl
    have hcz19_1 := cz BK187.out 1 rfl
    have hcz19_2 := cz BK187.out 2 rfl
    have hcz19_3 := cz BK187.out 3 rfl
    have hcz19_4 := cz BK187.out 4 rfl
    have hcz19_5 := cz BK187.out 5 rfl
    have hcz19_6 := cz BK187.out 6 rfl
    have hcz19_7 := cz BK187.out 7 rfl
    have hcz19_8 := cz BK187.out 8 rfl
    have hcz19_9 := cz BK187.out 9 rfl
    have hcz19_10 := cz BK187.out 10 rfl
    have hcz19_11 := cz BK187.out 11 rfl
    have hcz19_12 := cz BK187.out 12 rfl
    have hcz19_13 := cz BK187.out 13 rfl
    have hfz19_0 := zd BK187.out 0
    have hfz19_1 := zd BK187.out 1
    have hfz19_2 := zd BK187.out 2
    have hfz19_3 := zd BK187.out 3
    have hfz19_4 := zd BK187.out 4
    have hfz19_5 := zd BK187.out 5
    have hfz19_6 := zd BK187.out 6
    have hfz19_7 := zd BK187.out 7
    have hfz19_8 := zd BK187.out 8
    have hfz19_9 := zd BK187.out 9
    have hfz19_10 := zd BK187.out 10
    have hfz19_11 := zd BK187.out 11
    have hfz19_12 := zd BK187.out 12
    have hfz19_13 := zd BK187.out 13
    have hnb20 := NB186_185.out
    have hnc20 := NB185_186.out
    have hcz21_0 := cz BK186.out 0 rfl
    have hcz21_1 := cz BK186.out 1 rfl
    have hcz21_2 := cz BK186.out 2 rfl
    have hcz21_3 := cz BK186.out 3 rfl
    have hcz21_4 := cz BK186.out 4 rfl
    have hcz21_5 := cz BK186.out 5 rfl
    have hcz21_6 := cz BK186.out 6 rfl
    have hcz21_7 := cz BK186.out 7 rfl
    have hcz21_8 := cz BK186.out 8 rfl
    have hcz21_9 := cz BK186.out 9 rfl
    have hcz21_10 := cz BK186.out 10 rfl
    have hcz21_11 := cz BK186.out 11 rfl
    have hcz21_12 := cz BK186.out 12 rfl
    have hcz21_13 := cz BK186.out 13 rfl
    have hfz21_0 := zd BK186.out 0
    have hfz21_1 := zd BK186.out 1
    have hfz21_2 := zd BK186.out 2
    have hfz21_3 := zd BK186.out 3
    have hfz21_4 := zd BK186.out 4
    have hfz21_5 := zd BK186.out 5
    have hfz21_6 := zd BK186.out 6
    have hfz21_7 := zd BK186.out 7
    have hfz21_8 := zd BK186.out 8
    have hfz21_9 := zd BK186.out 9
    have hfz21_10 := zd BK186.out 10
    have hfz21_11 := zd BK186.out 11
    have hfz21_12 := zd BK186.out 12
    have hfz21_13 := zd BK186.out 13
    go_wp2
    refine bodyPost_ret (results_cell_row rfl _ _ gb186 50 #[.int .i8 x188000_1, .int .i8 x188001_1, .int .i8 x188002_1, .int .i8 x188003_1, .int .i8 x188004_1, .int .i8 x188005_1, .int .i8 x188006_1, .int .i8 x188007_1, .int .i8 x188008_1, .int .i8 x188009_1, .int .i8 x188010_1, .int .i8 x188011_1, .int .i8 x188012_1, .int .i8 x188013_1] (0, 0) _ rfl (by (with_reducible repeat (first | refine zh ?_ _ | refine zi ?_ | refine zg ?_ _)); refine zw (cs := #[.int .i8 x188000_1, .int .i8 x188001_1, .int .i8 x188002_1, .int .i8 x188003_1, .int .i8 x188004_1, .int .i8 x188005_1, .int .i8 x188006_1, .int .i8 x188007_1, .int .i8 x188008_1, .int .i8 x188009_1, .int .i8 x188010_1, .int .i8 x188011_1, .int .i8 x188012_1, .int .i8 0]) ?_ 13 _ rfl; (with_reducible repeat (first | refine zh ?_ _ | refine zi ?_ | refine zg ?_ _)); refine zw (cs := #[.int .i8 x188000_1, .int .i8 x188001_1, .int .i8 x188002_1, .int .i8 x188003_1, .int .i8 x188004_1, .int .i8 x188005_1, .int .i8 x188006_1, .int .i8 x188007_1, .int .i8 x188008_1, .int .i8 x188009_1, .int .i8 x188010_1, .int .i8 x188011_1, .int .i8 0, .int .i8 0]) ?_ 12 _ rfl; (with_reducible repeat (first | refine zh ?_ _ | refine zi ?_ | refine zg ?_ _)); refine zw (cs := #[.int .i8 x188000_1, .int .i8 x188001_1, .int .i8 x188002_1, .int .i8 x188003_1, .int .i8 x188004_1, .int .i8 x188005_1, .int .i8 x188006_1, .int .i8 x188007_1, .int .i8 x188008_1, .int .i8 x188009_1, .int .i8 x188010_1, .int .i8 0, .int .i8 0, .int .i8 0]) ?_ 11 _ rfl; (with_reducible repeat (first | refine zh ?_ _ | refine zi ?_ | refine zg ?_ _)); refine zw (cs := #[.int .i8 x188000_1, .int .i8 x188001_1, .int .i8 x188002_1, .int .i8 x188003_1, .int .i8 x188004_1, .int .i8 x188005_1, .int .i8 x188006_1, .int .i8 x188007_1, .int .i8 x188008_1, .int .i8 x188009_1, .int .i8 0, .int .i8 0, .int .i8 0, .int .i8 0]) ?_ 10 _ rfl; (with_reducible repeat (first | refine zh ?_ _ | refine zi ?_ | refine zg ?_ _)); refine zw (cs := #[.int .i8 x188000_1, .int .i8 x188001_1, .int .i8 x188002_1, .int .i8 x188003_1, .int .i8 x188004_1, .int .i8 x188005_1, .int .i8 x188006_1, .int .i8 x188007_1, .int .i8 x188008_1, .int .i8 0, .int .i8 0, .int .i8 0, .int .i8 0, .int .i8 0]) ?_ 9 _ rfl; (with_reducible repeat (first | refine zh ?_ _ | refine zi ?_ | refine zg ?_ _)); refine zw (cs := #[.int .i8 x188000_1, .int .i8 x188001_1, .int .i8 x188002_1, .int .i8 x188003_1, .int .i8 x188004_1, .int .i8 x188005_1, .int .i8 x188006_1, .int .i8 x188007_1, .int .i8 0, .int .i8 0, .int .i8 0, .int .i8 0, .int .i8 0, .int .i8 0]) ?_ 8 _ rfl; (with_reducible repeat (first | refine zh ?_ _ | refine zi ?_ | refine zg ?_ _)); refine zw (cs := #[.int .i8 x188000_1, .int .i8 x188001_1, .int .i8 x188002_1, .int .i8 x188003_1, .int .i8 x188004_1, .int .i8 x188005_1, .int .i8 x188006_1, .int .i8 0, .int .i8 0, .int .i8 0, .int .i8 0, .int .i8 0, .int .i8 0, .int .i8 0]) ?_ 7 _ rfl; (with_reducible repeat (first | refine zh ?_ _ | refine zi ?_ | refine zg ?_ _)); refine zw (cs := #[.int .i8 x188000_1, .int .i8 x188001_1, .int .i8 x188002_1, .int .i8 x188003_1, .int .i8 x188004_1, .int .i8 x188005_1, .int .i8 0, .int .i8 0, .int .i8 0, .int .i8 0, .int .i8 0, .int .i8 0, .int .i8 0, .int .i8 0]) ?_ 6 _ rfl; (with_reducible repeat (first | refine zh ?_ _ | refine zi ?_ | refine zg ?_ _)); refine zw (cs := #[.int .i8 x188000_1, .int .i8 x188001_1, .int .i8 x188002_1, .int .i8 x188003_1, .int .i8 x188004_1, .int .i8 0, .int .i8 0, .int .i8 0, .int .i8 0, .int .i8 0, .int .i8 0, .int .i8 0, .int .i8 0, .int .i8 0]) ?_ 5 _ rfl; (with_reducible repeat (first | refine zh ?_ _ | refine zi ?_ | refine zg ?_ _)); refine zw (cs := #[.int .i8 x188000_1, .int .i8 x188001_1, .int .i8 x188002_1, .int .i8 x188003_1, .int .i8 0, .int .i8 0, .int .i8 0, .int .i8 0, .int .i8 0, .int .i8 0, .int .i8 0, .int .i8 0, .int .i8 0, .int .i8 0]) ?_ 4 _ rfl; (with_reducible repeat (first | refine zh ?_ _ | refine zi ?_ | refine zg ?_ _)); refine zw (cs := #[.int .i8 x188000_1, .int .i8 x188001_1, .int .i8 x188002_1, .int .i8 0, .int .i8 0, .int .i8 0, .int .i8 0, .int .i8 0, .int .i8 0, .int .i8 0, .int .i8 0, .int .i8 0, .int .i8 0, .int .i8 0]) ?_ 3 _ rfl; (with_reducible repeat (first | refine zh ?_ _ | refine zi ?_ | refine zg ?_ _)); refine zw (cs := #[.int .i8 x188000_1, .int .i8 x188001_1, .int .i8 0, .int .i8 0, .int .i8 0, .int .i8 0, .int .i8 0, .int .i8 0, .int .i8 0, .int .i8 0, .int .i8 0, .int .i8 0, .int .i8 0, .int .i8 0]) ?_ 2 _ rfl; (with_reducible repeat (first | refine zh ?_ _ | refine zi ?_ | refine zg ?_ _)); refine zw (cs := #[.int .i8 x188000_1, .int .i8 0, .int .i8 0, .int .i8 0, .int .i8 0, .int .i8 0, .int .i8 0, .int .i8 0, .int .i8 0, .int .i8 0, .int .i8 0, .int .i8 0, .int .i8 0, .int .i8 0]) ?_ 1 _ rfl; (with_reducible repeat (first | refine zh ?_ _ | refine zi ?_ | refine zg ?_ _)); refine zw (cs := #[.int .i8 0, .int .i8 0, .int .i8 0, .int .i8 0, .int .i8 0, .int .i8 0, .int .i8 0, .int .i8 0, .int .i8 0, .int .i8 0, .int .i8 0, .int .i8 0, .int .i8 0, .int .i8 0]) ?_ 0 _ rfl; (with_reducible repeat (first | refine zh ?_ _ | refine zi ?_ | refine zg ?_ _)); exact BK186.out) Try.underlying50 rfl (by kernel_rfl)) rfl ?_
    exact ⟨by first | rfl | (simp [errW_none, errW_some] <;> rfl) | (simp [*, errW_none, errW_some] <;> rfl), by repeat (first | (with_reducible first | exact HB.out | apply zc | apply za | apply zb | refine zf ?_ GE185.out | refine zf ?_ GE186.out | refine zf ?_ GE187.out) | exact HB.out)⟩

/-! ### laws_toInt16A3: function 43 -/
def laws_toInt16A3.l0 : Nat → Int → Int → Int → Int → Int → Int → Int → Option (Int × Int × Int)
 | 0, _, _, _, _, _, _, _ => none
 | k + 1, x4, x193000, x193001, x193002, x195000, x195001, x195002 => if x4 < 3 then (if 0 ≤ x4 then (laws_toInt16A3.l0 k (wrap64 (x4 + 1)) x193000 x193001 x193002 (pickA x4 0 (rd [x193000, x193001, x193002] x4) x195000) (pickA x4 1 (rd [x193000, x193001, x193002] x4) x195001) (pickA x4 2 (rd [x193000, x193001, x193002] x4) x195002)) else (none)) else (some (x195000, x195001, x195002))
def laws_toInt16A3.f (k : Nat) (a0_0 : Int) (a0_1 : Int) (a0_2 : Int) : Option (Int × Int × Int) := laws_toInt16A3.l0 k 0 a0_0 a0_1 a0_2 0 0 0
theorem laws_toInt16A3.mono_l : ∀ k, (∀ y0 y1 y2 y3 y4 y5 y6, LeO (laws_toInt16A3.l0 k y0 y1 y2 y3 y4 y5 y6) (laws_toInt16A3.l0 (k + 1) y0 y1 y2 y3 y4 y5 y6))
 | 0 => fun _ _ _ _ _ _ _ r h => by simp [laws_toInt16A3.l0] at h
 | k + 1 => by
  have ih0 := laws_toInt16A3.mono_l k
  ·intro y0 y1 y2 y3 y4 y5 y6
   unfold laws_toInt16A3.l0
   repeat' first
   | (with_reducible exact ih0 _ _ _ _ _ _ _)
   | (with_reducible exact LeO.refl _)
   | (with_reducible exact LeO.none _)
   | (with_reducible refine LeO.ite ?_ ?_)
   | (with_reducible refine LeO.bind ?_ (fun _ => ?_))
   | exact ih0 _ _ _ _ _ _ _
   | exact LeO.none _
   | refine LeO.ite ?_ ?_
   | refine LeO.bind ?_ (fun _ => ?_)
theorem laws_toInt16A3.mono : ∀ a0 a1 a2 k, LeO (laws_toInt16A3.f k a0 a1 a2) (laws_toInt16A3.f (k + 1) a0 a1 a2) := by
 intro a0 a1 a2 k
 have ih0 := laws_toInt16A3.mono_l k
 unfold laws_toInt16A3.f
 repeat' first
   | (with_reducible exact ih0 _ _ _ _ _ _ _)
   | (with_reducible exact LeO.refl _)
   | (with_reducible exact LeO.none _)
   | (with_reducible refine LeO.ite ?_ ?_)
   | (with_reducible refine LeO.bind ?_ (fun _ => ?_))
   | exact ih0 _ _ _ _ _ _ _
   | exact LeO.none _
   | refine LeO.ite ?_ ?_
   | refine LeO.bind ?_ (fun _ => ?_)
set_option maxHeartbeats 8000000 in
set_option maxRecDepth 100000 in
theorem laws_toInt16A3.calls (k : Nat) (a0_0 : Int) (a0_1 : Int) (a0_2 : Int) (r1 : Int) (r2 : Int) (r3 : Int) (w : World) (h : laws_toInt16A3.f k a0_0 a0_1 a0_2 = some (r1, r2, r3)) :
  Calls Try.prog 43 #[.agg #[.int .i16 a0_0, .int .i16 a0_1, .int .i16 a0_2]] w fun e w' => e = .returned (.agg #[.int .i16 r1, .int .i16 r2, .int .i16 r3]) ∧ Below w.heap.size w w' := by
 have hu52 := Try.underlying52
 have HB := ze.mk (Below.refl w.heap.size w)
 have H : (laws_toInt16A3.l0 k 0 a0_0 a0_1 a0_2 0 0 0) = some (r1, r2, r3) := h
 clear h
 have H' := ze.mk H
 clear H
 go_enter Try.func43, Try.ntmps43
 go_wp2_with (first | ((with_reducible refine zn (N := 1) rfl ?_); refine zm ?hg (N := 1) ?hd (cs := #[.int .i16 a0_0, .int .i16 a0_1, .int .i16 a0_2]) (t := 52) ?hr ?_; (case hd => rfl); (case hg => rfl); (case hr => first | (go_simp; done) | (go_simp; rfl)); intro gb192 hg w2 hbox hb; have n0_ := ze.mk (zk (by repeat (first | (with_reducible first | exact HB.out | apply zc | apply za | apply zb) | exact HB.out)) hb); have n1_ := ze.mk (hbox); have n2_ := ze.mk ((by rw [hg]; exact (zj (by repeat (first | (with_reducible first | exact HB.out | apply zc | apply za | apply zb) | exact HB.out))) : w.heap.size ≤ gb192)); have n3_ := ze.mk ((by rw [hg]; exact (zj (by repeat (first | (with_reducible first | exact HB.out | apply zc | apply za | apply zb) | exact HB.out))) : w.heap.size ≤ gb192)); clear HB; have HB := n0_; have BK192 := n1_; have GW192 := n2_; have GE192 := n3_; clear n0_ n1_ n2_ n3_; clear hb hbox hg) | ((with_reducible refine zn (N := 2) rfl ?_); refine zm ?hg (N := 2) ?hd (cs := #[.int .i16 0, .int .i16 0, .int .i16 0]) (t := 52) ?hr ?_; (case hd => rfl); (case hg => rfl); (case hr => first | (go_simp; done) | (go_simp; rfl)); intro gb193 hg w3 hbox hb; have n0_ := ze.mk (zl (g := gb192) (o := .cells #[.int .i16 a0_0, .int .i16 a0_1, .int .i16 a0_2] 52 (0, 0)) (by (with_reducible repeat (first | refine zh ?_ _ | refine zi ?_ | refine zg ?_ _)); exact BK192.out) hb); have n1_ := ze.mk (zk (by repeat (first | (with_reducible first | exact HB.out | apply zc | apply za | apply zb | refine zf ?_ GE192.out) | exact HB.out)) hb); have n2_ := ze.mk (hbox); have n3_ := ze.mk ((by rw [hg]; exact (zj (by repeat (first | (with_reducible first | exact HB.out | apply zc | apply za | apply zb | refine zf ?_ GE192.out) | exact HB.out))) : w.heap.size ≤ gb193)); have n4_ := ze.mk ((by rw [hg]; exact (zj (by repeat (first | (with_reducible first | exact HB.out | apply zc | apply za | apply zb | refine zf ?_ GE192.out) | exact HB.out))) : w.heap.size ≤ gb193)); have n5_ := ze.mk ((by rw [hg]; exact Nat.ne_of_lt (zu (g := gb192) (o := .cells #[.int .i16 a0_0, .int .i16 a0_1, .int .i16 a0_2] 52 (0, 0)) (by (with_reducible repeat (first | refine zh ?_ _ | refine zi ?_ | refine zg ?_ _)); exact BK192.out)) : gb192 ≠ gb193)); have n6_ := ze.mk ((by rw [hg]; exact Nat.ne_of_gt (zu (g := gb192) (o := .cells #[.int .i16 a0_0, .int .i16 a0_1, .int .i16 a0_2] 52 (0, 0)) (by (with_reducible repeat (first | refine zh ?_ _ | refine zi ?_ | refine zg ?_ _)); exact BK192.out)) : gb193 ≠ gb192)); clear BK192; clear HB; have BK192 := n0_; have HB := n1_; have BK193 := n2_; have GW193 := n3_; have GE193 := n4_; have NB192_193 := n5_; have NB193_192 := n6_; clear n0_ n1_ n2_ n3_ n4_ n5_ n6_; clear hb hbox hg) | ((with_reducible refine zn (N := 3) rfl ?_); refine zm ?hg (N := 3) ?hd (cs := #[.int .i16 0, .int .i16 0, .int .i16 0]) (t := 52) ?hr ?_; (case hd => rfl); (case hg => rfl); (case hr => first | (go_simp; done) | (go_simp; rfl)); intro gb194 hg w4 hbox hb; have n0_ := ze.mk (zl (g := gb192) (o := .cells #[.int .i16 a0_0, .int .i16 a0_1, .int .i16 a0_2] 52 (0, 0)) (by (with_reducible repeat (first | refine zh ?_ _ | refine zi ?_ | refine zg ?_ _)); exact BK192.out) hb); have n1_ := ze.mk (zl (g := gb193) (o := .cells #[.int .i16 0, .int .i16 0, .int .i16 0] 52 (0, 0)) (by (with_reducible repeat (first | refine zh ?_ _ | refine zi ?_ | refine zg ?_ _)); exact BK193.out) hb); have n2_ := ze.mk (zk (by repeat (first | (with_reducible first | exact HB.out | apply zc | apply za | apply zb | refine zf ?_ GE192.out | refine zf ?_ GE193.out) | exact HB.out)) hb); have n3_ := ze.mk (hbox); have n4_ := ze.mk ((by rw [hg]; exact (zj (by repeat (first | (with_reducible first | exact HB.out | apply zc | apply za | apply zb | refine zf ?_ GE192.out | refine zf ?_ GE193.out) | exact HB.out))) : w.heap.size ≤ gb194)); have n5_ := ze.mk ((by rw [hg]; exact (zj (by repeat (first | (with_reducible first | exact HB.out | apply zc | apply za | apply zb | refine zf ?_ GE192.out | refine zf ?_ GE193.out) | exact HB.out))) : w.heap.size ≤ gb194)); have n6_ := ze.mk ((by rw [hg]; exact Nat.ne_of_lt (zu (g := gb192) (o := .cells #[.int .i16 a0_0, .int .i16 a0_1, .int .i16 a0_2] 52 (0, 0)) (by (with_reducible repeat (first | refine zh ?_ _ | refine zi ?_ | refine zg ?_ _)); exact BK192.out)) : gb192 ≠ gb194)); have n7_ := ze.mk ((by rw [hg]; exact Nat.ne_of_gt (zu (g := gb192) (o := .cells #[.int .i16 a0_0, .int .i16 a0_1, .int .i16 a0_2] 52 (0, 0)) (by (with_reducible repeat (first | refine zh ?_ _ | refine zi ?_ | refine zg ?_ _)); exact BK192.out)) : gb194 ≠ gb192)); have n8_ := ze.mk ((by rw [hg]; exact Nat.ne_of_lt (zu (g := gb193) (o := .cells #[.int .i16 0, .int .i16 0, .int .i16 0] 52 (0, 0)) (by (with_reducible repeat (first | refine zh ?_ _ | refine zi ?_ | refine zg ?_ _)); exact BK193.out)) : gb193 ≠ gb194)); have n9_ := ze.mk ((by rw [hg]; exact Nat.ne_of_gt (zu (g := gb193) (o := .cells #[.int .i16 0, .int .i16 0, .int .i16 0] 52 (0, 0)) (by (with_reducible repeat (first | refine zh ?_ _ | refine zi ?_ | refine zg ?_ _)); exact BK193.out)) : gb194 ≠ gb193)); clear BK192; clear BK193; clear HB; have BK192 := n0_; have BK193 := n1_; have HB := n2_; have BK194 := n3_; have GW194 := n4_; have GE194 := n5_; have NB192_194 := n6_; have NB194_192 := n7_; have NB193_194 := n8_; have NB194_193 := n9_; clear n0_ n1_ n2_ n3_ n4_ n5_ n6_ n7_ n8_ n9_; clear hb hbox hg))
 go_loopg [4] k (fun kq v4 w' => ∃ (x4_1 : Int) (x195000_1 : Int) (x195001_1 : Int) (x195002_1 : Int), v4 = .int .i64 x4_1 ∧ ze (laws_toInt16A3.l0 kq x4_1 a0_0 a0_1 a0_2 x195000_1 x195001_1 x195002_1 = some (r1, r2, r3)) ∧ ze (kq ≤ k) ∧ ze (w'.heap[gb192]? = some (.cells #[.int .i16 a0_0, .int .i16 a0_1, .int .i16 a0_2] 52 (0, 0))) ∧ ze (w'.heap[gb193]? = some (.cells #[.int .i16 0, .int .i16 0, .int .i16 0] 52 (0, 0))) ∧ ze (w'.heap[gb194]? = some (.cells #[.int .i16 x195000_1, .int .i16 x195001_1, .int .i16 x195002_1] 52 (0, 0))) ∧ ze (Below w.heap.size w w'))
 case atStart => exact ⟨(0), (0), (0), (0), (by first | rfl | (simp; done) | (simp [*]; done)), H', ⟨Nat.le_refl _⟩, ⟨by (with_reducible repeat (first | refine zh ?_ _ | refine zi ?_ | refine zg ?_ _)); exact BK192.out⟩, ⟨by (with_reducible repeat (first | refine zh ?_ _ | refine zi ?_ | refine zg ?_ _)); exact BK193.out⟩, ⟨by (with_reducible repeat (first | refine zh ?_ _ | refine zi ?_ | refine zg ?_ _)); exact BK194.out⟩, ⟨by repeat (first | (with_reducible first | exact HB.out | apply zc | apply za | apply zb | refine zf ?_ GE192.out | refine zf ?_ GE193.out | refine zf ?_ GE194.out) | exact HB.out)⟩⟩
 case round =>
  clear H'
  try clear p2
  try clear c4
  obtain ⟨x4_1, x195000_1, x195001_1, x195002_1, rfl, HA, HK1, BK192, BK193, BK194, HB⟩ := hrel
  cases gk with
  | zero => exact absurd HA.out (by simp [laws_toInt16A3.l0])
  | succ k1 =>
   have H := HA.out
   clear HA
   simp only [laws_toInt16A3.l0] at H
   by_cases c5 : x4_1 < 3
   ·rw [if_pos c5] at H
    have c5b0 : decide (x4_1 < 3) = true := decide_eq_true c5
    clear c5
    by_cases c6 : 0 ≤ x4_1
    ·rw [if_pos c6] at H
     have c6b0 : decide (0 ≤ x4_1) = true := decide_eq_true c6
     clear c6
     have H' := ze.mk H
     clear H
     have p7 : 0 ≤ (x4_1 : Int) := of_decide_eq_true (by first | (with_reducible assumption) | assumption)
     have q7 : x4_1 < (3 : Int) := of_decide_eq_true (by first | (with_reducible assumption) | assumption)
     replace p7 := eq_true p7
     replace q7 := eq_true q7
     have hnb8 := NB192_193.out
     have hnc8 := NB193_192.out
     have hnb9 := NB192_194.out
     have hnc9 := NB194_192.out
     have hcz10_0 := cz BK192.out 0 rfl
     have hcz10_1 := cz BK192.out 1 rfl
     have hcz10_2 := cz BK192.out 2 rfl
     have hfz10_0 := zd BK192.out 0
     have hfz10_1 := zd BK192.out 1
     have hfz10_2 := zd BK192.out 2
     have hx11_0 : wr.cell? ⟨gb192, (x4_1).toNat, none⟩ = some (.int .i16 (rd [a0_0, a0_1, a0_2] x4_1)) := (zt BK192.out _).trans (by rcases (show (x4_1 : Int) = 0 ∨ (x4_1 : Int) = 1 ∨ (x4_1 : Int) = 2 by have hp_ : 0 ≤ (x4_1 : Int) := of_decide_eq_true (by first | (with_reducible assumption) | assumption); have hq_ : x4_1 < (3 : Int) := of_decide_eq_true (by first | (with_reducible assumption) | assumption); omega) with h_ | h_ | h_ <;> rw [h_] <;> rfl)
     have p12 : 0 ≤ (x4_1 : Int) := of_decide_eq_true (by first | (with_reducible assumption) | assumption)
     have q12 : x4_1 < (3 : Int) := of_decide_eq_true (by first | (with_reducible assumption) | assumption)
     replace p12 := eq_true p12
     replace q12 := eq_true q12
     have hnb13 := NB194_193.out
     have hnc13 := NB193_194.out
     have hcz14_0 := cz BK194.out 0 rfl
     have hcz14_1 := cz BK194.out 1 rfl
     have hcz14_2 := cz BK194.out 2 rfl
     have hfz14_0 := zd BK194.out 0
     have hfz14_1 := zd BK194.out 1
     have hfz14_2 := zd BK194.out 2
     go_wp2_with (first | ((with_reducible refine zga (t := 51) (p := 13) rfl ?_); have hx15_0 : wr.cell? ⟨gb194, (x4_1).toNat, none⟩ = some (.int .i16 (rd [x195000_1, x195001_1, x195002_1] x4_1)) := (zt BK194.out _).trans (by rcases (show (x4_1 : Int) = 0 ∨ (x4_1 : Int) = 1 ∨ (x4_1 : Int) = 2 by have hp_ : 0 ≤ (x4_1 : Int) := of_decide_eq_true (by first | (with_reducible assumption) | assumption); have hq_ : x4_1 < (3 : Int) := of_decide_eq_true (by first | (with_reducible assumption) | assumption); omega) with h_ | h_ | h_ <;> rw [h_] <;> rfl); have hfz15_0 := zd BK194.out ((x4_1).toNat); refine store_event (t := 51) (p := 13) (v := ?vo_w16) (w1 := (wr.setCell ⟨gb194, (x4_1).toNat, none⟩ (.int .i16 (rd [a0_0, a0_1, a0_2] x4_1)))) ?hg ?ho ?hn ?hr ?_; (case ho => rfl); (case hg => rfl); (case hn => rfl); (case hr => first | (go_simp; done) | (go_simp; rfl)); intro w16 hw; have n0_ : ze (w16.heap[gb192]? = some (.cells #[.int .i16 a0_0, .int .i16 a0_1, .int .i16 a0_2] 52 (0, 0))) := ⟨(by rw [hw]; exact (by (with_reducible repeat (first | refine zh ?_ _ | refine zi ?_ | refine zg ?_ _)); refine zha ?_ NB192_194.out _; (with_reducible repeat (first | refine zh ?_ _ | refine zi ?_ | refine zg ?_ _)); exact BK192.out))⟩; have n1_ : ze (w16.heap[gb193]? = some (.cells #[.int .i16 0, .int .i16 0, .int .i16 0] 52 (0, 0))) := ⟨(by rw [hw]; exact (by (with_reducible repeat (first | refine zh ?_ _ | refine zi ?_ | refine zg ?_ _)); refine zha ?_ NB193_194.out _; (with_reducible repeat (first | refine zh ?_ _ | refine zi ?_ | refine zg ?_ _)); exact BK193.out))⟩; have n2_ : ze (w16.heap[gb194]? = some (.cells #[.int .i16 (pickA x4_1 0 (rd [a0_0, a0_1, a0_2] x4_1) x195000_1), .int .i16 (pickA x4_1 1 (rd [a0_0, a0_1, a0_2] x4_1) x195001_1), .int .i16 (pickA x4_1 2 (rd [a0_0, a0_1, a0_2] x4_1) x195002_1)] 52 (0, 0))) := ⟨(by rw [hw]; exact (by (with_reducible repeat (first | refine zh ?_ _ | refine zi ?_ | refine zg ?_ _)); refine zw (cs := #[.int .i16 x195000_1, .int .i16 x195001_1, .int .i16 x195002_1]) ?_ ((x4_1).toNat) _ (by rcases (show (x4_1 : Int) = 0 ∨ (x4_1 : Int) = 1 ∨ (x4_1 : Int) = 2 by have hp_ : 0 ≤ (x4_1 : Int) := of_decide_eq_true (by first | (with_reducible assumption) | assumption); have hq_ : x4_1 < (3 : Int) := of_decide_eq_true (by first | (with_reducible assumption) | assumption); omega) with h_ | h_ | h_ <;> rw [h_] <;> rfl); (with_reducible repeat (first | refine zh ?_ _ | refine zi ?_ | refine zg ?_ _)); exact BK194.out))⟩; have n3_ : ze (Below w.heap.size w w16) := ⟨(by rw [hw]; exact (by repeat (first | (with_reducible first | exact HB.out | apply zc | apply za | apply zb | refine zf ?_ GE192.out | refine zf ?_ GE193.out | refine zf ?_ GE194.out) | exact HB.out)))⟩; clear hw; clear BK192; clear BK193; clear BK194; clear HB; have BK192 := n0_; have BK193 := n1_; have BK194 := n2_; have HB := n3_; clear n0_ n1_ n2_ n3_))
     go_roundg k1
     case measure => have := HK1.out; omega
     case rel => exact ⟨(wrap64 (x4_1 + 1)), ((pickA x4_1 0 (rd [a0_0, a0_1, a0_2] x4_1) x195000_1)), ((pickA x4_1 1 (rd [a0_0, a0_1, a0_2] x4_1) x195001_1)), ((pickA x4_1 2 (rd [a0_0, a0_1, a0_2] x4_1) x195002_1)), (by first | rfl | (simp; done) | (simp [*]; done)), H', ⟨by have := HK1.out; omega⟩, ⟨by (with_reducible repeat (first | refine zh ?_ _ | refine zi ?_ | refine zg ?_ _)); exact BK192.out⟩, ⟨by (with_reducible repeat (first | refine zh ?_ _ | refine zi ?_ | refine zg ?_ _)); exact BK193.out⟩, ⟨by (with_reducible repeat (first | refine zh ?_ _ | refine zi ?_ | refine zg ?_ _)); exact BK194.out⟩, ⟨by repeat (first | (with_reducible first | exact HB.out | apply zc | apply za | apply zb | refine zf ?_ GE192.out | refine zf ?_ GE193.out | refine zf ?_ GE194.out) | exact HB.out)⟩⟩
    ·rw [if_neg c6] at H
     exact absurd H (by simp)
   ·rw [if_neg c5] at H
    have c5b0 : decide (x4_1 < 3) = false := decide_eq_false c5
    clear c5
    simp only [Option.some.injEq, Prod.mk.injEq] at H
    obtain ⟨rfl, rfl, rfl⟩ := H
    have hnb17 := NB194_192.out
    have hnc17 := NB192_194.out
    have hnb18 := NB194_193.out
    have hnc18 := NB193_194.out
    have hcz19_0 := cz BK194.out 0 rfl
    have hcz19_1 := cz BK194.out 1 rfl
    have hcz19_2 := cz BK194.out 2 rfl
    have hfz19_0 := zd BK194.out 0
    have hfz19_1 := zd BK194.out 1
    have hfz19_2 := zd BK194.out 2
    have hnb20 := NB193_192.out
    have hnc20 := NB192_193.out
    have hcz21_0 := cz BK193.out 0 rfl
    have hcz21_1 := cz BK193.out 1 rfl
    have hcz21_2 := cz BK193.out 2 rfl
    have hfz21_0 := zd BK193.out 0
    have hfz21_1 := zd BK193.out 1
    have hfz21_2 := zd BK193.out 2
    go_wp2
    refine bodyPost_ret (results_cell_row rfl _ _ gb193 52 #[.int .i16 x195000_1, .int .i16 x195001_1, .int .i16 x195002_1] (0, 0) _ rfl (by (with_reducible repeat (first | refine zh ?_ _ | refine zi ?_ | refine zg ?_ _)); refine zw (cs := #[.int .i16 x195000_1, .int .i16 x195001_1, .int .i16 0]) ?_ 2 _ rfl; (with_reducible repeat (first | refine zh ?_ _ | refine zi ?_ | refine zg ?_ _)); refine zw (cs := #[.int .i16 x195000_1, .int .i16 0, .int .i16 0]) ?_ 1 _ rfl; (with_reducible repeat (first | refine zh ?_ _ | refine zi ?_ | refine zg ?_ _)); refine zw (cs := #[.int .i16 0, .int .i16 0, .int .i16 0]) ?_ 0 _ rfl; (with_reducible repeat (first | refine zh ?_ _ | refine zi ?_ | refine zg ?_ _)); exact BK193.out) Try.underlying52 rfl (by kernel_rfl)) rfl ?_
    exact ⟨by first | rfl | (simp [errW_none, errW_some] <;> rfl) | (simp [*, errW_none, errW_some] <;> rfl), by repeat (first | (with_reducible first | exact HB.out | apply zc | apply za | apply zb | refine zf ?_ GE192.out | refine zf ?_ GE193.out | refine zf ?_ GE194.out) | exact HB.out)⟩

end Go.Proofs.Ytmmonhpjjjdnjaa.M
