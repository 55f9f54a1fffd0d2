/- The program's hardest water. -/
import Derived.Test.YteciomagemjjaaaJx3
import Derived.Test.YteciomagemjjaaaLSearchJ
import Derived.Test.YteciomagemjjaaaLIdxWJ
namespace Go.Proofs.Yteciomagemjjaaa.J
open Go.RowKit Go.Proofs.YteciomagemjjaaaW.PrintWords Go.Proofs.YteciomagemjjaaaW.PrintLast Go.Proofs.YteciomagemjjaaaW.PrintMore
attribute [local go_sem] zta zva zya zza zma zna zua zsa
set_option linter.unusedVariables false
set_option linter.unusedSimpArgs false
def impl_HardestWater.l0 : Nat → List (S82) → Int → Int → List Int → Int → Int → Int → Int → Bool → Int → Int → Int → Int → Int → Int → Int → Int → Int → Option (Int × Int × Int × Int × Int × Int)
 | 0, _, _, _, _, _, _, _, _, _, _, _, _, _, _, _, _, _, _ => none
 | k + 1, x14, x15, x16, x152000, x152001, x152002, x152003, x152004, x152005, x155000, x155001, x155002, x155003, x155004, x155005, x155006, x155007, x155008 => if x16 < x15 then (if 0 ≤ x16 then (if x16 < (x14.length : Int) then (if ((zl x14 x16).f3) > x155008 then (impl_HardestWater.l0 k x14 x15 (wrap64 (x16 + 1)) x152000 x152001 x152002 x152003 x152004 x152005 ((zl x14 x16).f0.f0) ((zl x14 x16).f0.f1) ((zl x14 x16).f0.f2) ((zl x14 x16).f0.f3) ((zl x14 x16).f1) ((zl x14 x16).f2.f0) ((zl x14 x16).f2.f1) ((zl x14 x16).f2.f2) ((zl x14 x16).f3)) else (if ((zl x14 x16).f3) = x155008 then ((impl_Puzzle_index.f x152000 x152001 x152002 x152003 x152004 x152005 ((zl x14 x16).f0.f0) ((zl x14 x16).f0.f1) ((zl x14 x16).f0.f2) ((zl x14 x16).f0.f3)).bind fun t160 => ((impl_Puzzle_index.f x152000 x152001 x152002 x152003 x152004 x152005 x155000 x155001 x155002 x155003).bind fun t161 => (if t160 < t161 then (impl_HardestWater.l0 k x14 x15 (wrap64 (x16 + 1)) x152000 x152001 x152002 x152003 x152004 x152005 ((zl x14 x16).f0.f0) ((zl x14 x16).f0.f1) ((zl x14 x16).f0.f2) ((zl x14 x16).f0.f3) ((zl x14 x16).f1) ((zl x14 x16).f2.f0) ((zl x14 x16).f2.f1) ((zl x14 x16).f2.f2) ((zl x14 x16).f3)) else (impl_HardestWater.l0 k x14 x15 (wrap64 (x16 + 1)) x152000 x152001 x152002 x152003 x152004 x152005 x155000 x155001 x155002 x155003 x155004 x155005 x155006 x155007 x155008)))) else (impl_HardestWater.l0 k x14 x15 (wrap64 (x16 + 1)) x152000 x152001 x152002 x152003 x152004 x152005 x155000 x155001 x155002 x155003 x155004 x155005 x155006 x155007 x155008))) else (none)) else (none)) else (some (x155000, x155001, x155002, x155003, x155008, 0))
def impl_HardestWater.f (k : Nat) (l0_0 : List Int) (a0_1 : Int) (a0_2 : Int) (a0_3 : Int) (a0_4 : Int) (a0_5 : Bool) : Option (Int × Int × Int × Int × Int × Int) := (impl_ValidPuzzle.f k l0_0 a0_1 a0_2 a0_3 a0_4 a0_5).bind fun t153 => (if t153 = true then ((impl_Puzzle_search.f k l0_0 a0_1 a0_2 a0_3 a0_4 a0_5).bind fun t155 => (impl_HardestWater.l0 k t155 (t155.length : Int) 0 l0_0 a0_1 a0_2 a0_3 a0_4 a0_5 0 0 0 0 0 0 0 0 (-1))) else (some (0, 0, 0, 0, 0, 1)))
def impl_HardestWater.T7 : Bool × List (List Nat × List Nat) := (true, [([], []), ([0], [0]), ([], []), ([2], [2]), ([1, 3], [1, 3]), ([4], [4]), ([5], [5]), ([6, 5], [5, 6]), ([5], [5]), ([8, 5], [5, 8]), ([7, 9, 5], [5, 7, 9]), ([10, 5, 5], [5, 10]), ([11], [11]), ([11], [11]), ([13, 11], [11, 13]), ([12, 14, 11, 11], [11, 12, 14]), ([11], [11]), ([11], [11]), ([17, 11], [11, 17]), ([16, 18, 15, 11], [11, 16, 18]), ([15, 19, 11], [11, 15, 19]), ([11, 20, 5], [5, 11, 20]), ([5, 21], [5, 21])])
def impl_HardestWater.B7 : List Nat := [0, 1, 0, 4, 15, 31, 63, 127, 63, 319, 1023, 2047, 4095, 4095, 12287, 32767, 4095, 4095, 135167, 524287, 1048575, 2097151, 4194303]
theorem impl_HardestWater.tab7 : rtab .any (zke Try.f28 7) = impl_HardestWater.T7 := by kernel_rfl
theorem impl_HardestWater.bits7 : zpb impl_HardestWater.T7.2 impl_HardestWater.B7 = true := by kernel_rfl
set_option maxHeartbeats 8000000 in
set_option maxRecDepth 100000 in
theorem impl_HardestWater.calls (k : Nat) (A0_0 : Option Addr) (c0_0 : Nat) (l0_0 : List Int) (a0_1 : Int) (a0_2 : Int) (a0_3 : Int) (a0_4 : Int) (a0_5 : Bool) (r1 : Int) (r2 : Int) (r3 : Int) (r4 : Int) (r5 : Int) (r6 : Int) (w : World) (hr0_0 : Kd.C (Kd.int .i16) w A0_0 l0_0.length l0_0) (hc0_0 : l0_0.length ≤ c0_0) (h : impl_HardestWater.f k l0_0 a0_1 a0_2 a0_3 a0_4 a0_5 = some (r1, r2, r3, r4, r5, r6)) :
  Calls Try.prog 28 #[.agg #[.slice A0_0 l0_0.length c0_0, .int .i16 a0_1, .int .i16 a0_2, .int .i16 a0_3, .int .i16 a0_4, .bool a0_5]] w fun e w' => e = .returned (.tuple #[.agg #[.int .i16 r1, .int .i16 r2, .int .i16 r3, .int .i16 r4], .int .i64 r5, .int .i64 r6]) ∧ Below w.heap.size w w' := by
 have hu29 := Try.underlying29
 have hu27 := Try.underlying27
 have hu82 := Try.underlying82
 have HR0_0 := zh.mk hr0_0
 have HC0_0 := zh.mk hc0_0
 clear hr0_0 hc0_0
 have HB := zh.mk (Below.refl w.heap.size w)
 have H : ((impl_ValidPuzzle.f k l0_0 a0_1 a0_2 a0_3 a0_4 a0_5).bind fun t153 => (if t153 = true then ((impl_Puzzle_search.f k l0_0 a0_1 a0_2 a0_3 a0_4 a0_5).bind fun t155 => (impl_HardestWater.l0 k t155 (t155.length : Int) 0 l0_0 a0_1 a0_2 a0_3 a0_4 a0_5 0 0 0 0 0 0 0 0 (-1))) else (some (0, 0, 0, 0, 0, 1)))) = some (r1, r2, r3, r4, r5, r6) := h
 clear h
 replace H := Option.bind_eq_some_iff.mp H
 obtain ⟨t153, A20, H⟩ := H
 replace H : (if t153 = true then ((impl_Puzzle_search.f k l0_0 a0_1 a0_2 a0_3 a0_4 a0_5).bind fun t155 => (impl_HardestWater.l0 k t155 (t155.length : Int) 0 l0_0 a0_1 a0_2 a0_3 a0_4 a0_5 0 0 0 0 0 0 0 0 (-1))) else (some (0, 0, 0, 0, 0, 1))) = some (r1, r2, r3, r4, r5, r6) := H
 have A2 := zh.mk A20
 clear A20
 by_cases c3 : t153 = true
 ·subst c3
  have H1 : ((impl_Puzzle_search.f k l0_0 a0_1 a0_2 a0_3 a0_4 a0_5).bind fun t155 => (impl_HardestWater.l0 k t155 (t155.length : Int) 0 l0_0 a0_1 a0_2 a0_3 a0_4 a0_5 0 0 0 0 0 0 0 0 (-1))) = some (r1, r2, r3, r4, r5, r6) := by rw [if_pos rfl] at H; exact H
  clear H
  have H := H1
  clear H1
  replace H := Option.bind_eq_some_iff.mp H
  obtain ⟨t155, A40, H⟩ := H
  replace H : (impl_HardestWater.l0 k t155 (t155.length : Int) 0 l0_0 a0_1 a0_2 a0_3 a0_4 a0_5 0 0 0 0 0 0 0 0 (-1)) = some (r1, r2, r3, r4, r5, r6) := H
  have A4 := zh.mk A40
  clear A40
  have H' := zh.mk H
  clear H
  go_enter Try.func28, Try.ntmps28
  go_wp2_with (first | ((with_reducible refine zda (N := 1) rfl ?_); refine zca ?hg (N := 1) ?hd (cs := #[.slice A0_0 l0_0.length c0_0, .int .i16 a0_1, .int .i16 a0_2, .int .i16 a0_3, .int .i16 a0_4, .bool a0_5]) (t := 29) ?hr ?_; (case hd => rfl); (case hg => rfl); (case hr => first | (go_simp; done) | (go_simp; rfl)); intro gb151 hg w5 hbox hb; have n0_ := zh.mk (zo (by repeat (first | (with_reducible first | exact HB.out | apply zk | apply zg | apply zj) | exact HB.out)) hb); have n1_ := zh.mk (hbox); have n2_ := zh.mk ((by rw [hg]; exact (zq (by repeat (first | (with_reducible first | exact HB.out | apply zk | apply zg | apply zj) | exact HB.out))) : w.heap.size ≤ gb151)); have n3_ := n2_; clear HB; have HB := n0_; have BK151 := n1_; have GW151 := n2_; have GE151 := n3_; clear n0_ n1_ n2_ n3_; clear hb hbox hg) | ((with_reducible refine zda (N := 2) rfl ?_); refine zca ?hg (N := 2) ?hd (cs := #[.int .i16 0, .int .i16 0, .int .i16 0, .int .i16 0]) (t := 27) ?hr ?_; (case hd => rfl); (case hg => rfl); (case hr => first | (go_simp; done) | (go_simp; rfl)); intro gb152 hg w6 hbox hb; have n0_ := zh.mk (zm (by (with_reducible repeat (first | refine zc ?_ _ | refine zf ?_ | refine zb ?_ _)); exact BK151.out) hb); have n1_ := zh.mk (zo (by repeat (first | (with_reducible first | exact HB.out | apply zk | apply zg | apply zj | refine zi ?_ GE151.out) | exact HB.out)) hb); have n2_ := zh.mk (hbox); have n3_ := zh.mk ((by rw [hg]; exact (zq (by repeat (first | (with_reducible first | exact HB.out | apply zk | apply zg | apply zj | refine zi ?_ GE151.out) | exact HB.out))) : w.heap.size ≤ gb152)); have n4_ := n3_; have n5_ := zh.mk ((by rw [hg]; exact Nat.ne_of_lt (zfa (by (with_reducible repeat (first | refine zc ?_ _ | refine zf ?_ | refine zb ?_ _)); exact BK151.out)) : gb151 ≠ gb152)); have n6_ := zh.mk n5_.out.symm; clear BK151; clear HB; have BK151 := n0_; have HB := n1_; have BK152 := n2_; have GW152 := n3_; have GE152 := n4_; have NB151_152 := n5_; have NB152_151 := n6_; clear n0_ n1_ n2_ n3_ n4_ n5_ n6_; clear hb hbox hg; have hnb7 := NB151_152.out; have hnc7 := NB152_151.out; have hcz8_0 : w6.cell? ⟨gb151, 0, none⟩ = some (.slice A0_0 l0_0.length c0_0) := (za BK151.out 0).trans rfl; have hcz8_1 : w6.cell? ⟨gb151, 1, none⟩ = some (.int .i16 a0_1) := (za BK151.out 1).trans rfl; have hcz8_2 : w6.cell? ⟨gb151, 2, none⟩ = some (.int .i16 a0_2) := (za BK151.out 2).trans rfl; have hcz8_3 : w6.cell? ⟨gb151, 3, none⟩ = some (.int .i16 a0_3) := (za BK151.out 3).trans rfl; have hcz8_4 : w6.cell? ⟨gb151, 4, none⟩ = some (.int .i16 a0_4) := (za BK151.out 4).trans rfl; have hcz8_5 : w6.cell? ⟨gb151, 5, none⟩ = some (.bool a0_5) := (za BK151.out 5).trans rfl; have hfz8_0 := ze BK151.out 0; have hfz8_1 := ze BK151.out 1; have hfz8_2 := ze BK151.out 2; have hfz8_3 := ze BK151.out 3; have hfz8_4 := ze BK151.out 4; have hfz8_5 := ze BK151.out 5) | ((with_reducible refine zba (f := 52) rfl ?_); refine zja (some 9) rfl rfl Try.func52 (by kernel_rfl) rfl #[.agg #[.slice A0_0 l0_0.length c0_0, .int .i16 a0_1, .int .i16 a0_2, .int .i16 a0_3, .int .i16 a0_4, .bool a0_5]] rfl (by (try simp only [List.map_toArray, List.map_cons, List.map_nil]); first | done | rfl | (simp only [List.length_drop, List.length_take]; rfl)) ?_; (with_reducible refine (impl_ValidPuzzle.calls k _ _ l0_0 a0_1 a0_2 a0_3 a0_4 a0_5 true _ ?side1 ?side2 A2.out).mono ?_); (case side1 => repeat (first | exact (Kd.C_below HR0_0.out HB.out) | (with_reducible refine Kd.C_alloc ?_ _) | (with_reducible refine Kd.C_drewN ?_ _) | (with_reducible refine Kd.C_drew ?_))); (case side2 => exact HC0_0.out); rintro e w9 ⟨rfl, hb⟩; refine ⟨_, rfl, ?_⟩; have n0_ := zh.mk (zm (by (with_reducible repeat (first | refine zc ?_ _ | refine zf ?_ | refine zb ?_ _)); exact BK151.out) hb); have n1_ := zh.mk (zm (by (with_reducible repeat (first | refine zc ?_ _ | refine zf ?_ | refine zb ?_ _)); exact BK152.out) hb); have n2_ := zh.mk (zo (by repeat (first | (with_reducible first | exact HB.out | apply zk | apply zg | apply zj | refine zi ?_ GE151.out | refine zi ?_ GE152.out) | exact HB.out)) hb); clear BK151; clear BK152; clear HB; have BK151 := n0_; have BK152 := n1_; have HB := n2_; clear n0_ n1_ n2_; (try clear hb); (try clear hb2); (try clear hk); (try clear hi)) | ((with_reducible refine zda (N := 5) rfl ?_); refine zca ?hg (N := 5) ?hd (cs := #[.int .i16 0, .int .i16 0, .int .i16 0, .int .i16 0, .int .i64 0, .int .i8 0, .int .i8 0, .int .i8 0, .int .i64 0]) (t := 82) ?hr ?_; (case hd => rfl); (case hg => rfl); (case hr => first | (go_simp; done) | (go_simp; rfl)); intro gb154 hg w10 hbox hb; have n0_ := zh.mk (zm (by (with_reducible repeat (first | refine zc ?_ _ | refine zf ?_ | refine zb ?_ _)); exact BK151.out) hb); have n1_ := zh.mk (zm (by (with_reducible repeat (first | refine zc ?_ _ | refine zf ?_ | refine zb ?_ _)); exact BK152.out) hb); have n2_ := zh.mk (zo (by repeat (first | (with_reducible first | exact HB.out | apply zk | apply zg | apply zj | refine zi ?_ GE151.out | refine zi ?_ GE152.out) | exact HB.out)) hb); have n3_ := zh.mk (hbox); have n4_ := zh.mk ((by rw [hg]; exact (zq (by repeat (first | (with_reducible first | exact HB.out | apply zk | apply zg | apply zj | refine zi ?_ GE151.out | refine zi ?_ GE152.out) | exact HB.out))) : w.heap.size ≤ gb154)); have n5_ := n4_; have n6_ := zh.mk ((by rw [hg]; exact Nat.ne_of_lt (zfa (by (with_reducible repeat (first | refine zc ?_ _ | refine zf ?_ | refine zb ?_ _)); exact BK151.out)) : gb151 ≠ gb154)); have n7_ := zh.mk n6_.out.symm; have n8_ := zh.mk ((by rw [hg]; exact Nat.ne_of_lt (zfa (by (with_reducible repeat (first | refine zc ?_ _ | refine zf ?_ | refine zb ?_ _)); exact BK152.out)) : gb152 ≠ gb154)); have n9_ := zh.mk n8_.out.symm; clear BK151; clear BK152; clear HB; have BK151 := n0_; have BK152 := n1_; have HB := n2_; have BK154 := n3_; have GW154 := n4_; have GE154 := n5_; have NB151_154 := n6_; have NB154_151 := n7_; have NB152_154 := n8_; have NB154_152 := n9_; clear n0_ n1_ n2_ n3_ n4_ n5_ n6_ n7_ n8_ n9_; clear hb hbox hg; have hnb11 := NB154_151.out; have hnc11 := NB151_154.out; have hnb12 := NB154_152.out; have hnc12 := NB152_154.out; have hcz13_0 : w10.cell? ⟨gb154, 0, none⟩ = some (.int .i16 0) := (za BK154.out 0).trans rfl; have hcz13_1 : w10.cell? ⟨gb154, 1, none⟩ = some (.int .i16 0) := (za BK154.out 1).trans rfl; have hcz13_2 : w10.cell? ⟨gb154, 2, none⟩ = some (.int .i16 0) := (za BK154.out 2).trans rfl; have hcz13_3 : w10.cell? ⟨gb154, 3, none⟩ = some (.int .i16 0) := (za BK154.out 3).trans rfl; have hcz13_4 : w10.cell? ⟨gb154, 4, none⟩ = some (.int .i64 0) := (za BK154.out 4).trans rfl; have hcz13_5 : w10.cell? ⟨gb154, 5, none⟩ = some (.int .i8 0) := (za BK154.out 5).trans rfl; have hcz13_6 : w10.cell? ⟨gb154, 6, none⟩ = some (.int .i8 0) := (za BK154.out 6).trans rfl; have hcz13_7 : w10.cell? ⟨gb154, 7, none⟩ = some (.int .i8 0) := (za BK154.out 7).trans rfl; have hcz13_8 : w10.cell? ⟨gb154, 8, none⟩ = some (.int .i64 0) := (za BK154.out 8).trans rfl; have hfz13_0 := ze BK154.out 0; have hfz13_1 := ze BK154.out 1; have hfz13_2 := ze BK154.out 2; have hfz13_3 := ze BK154.out 3; have hfz13_4 := ze BK154.out 4; have hfz13_5 := ze BK154.out 5; have hfz13_6 := ze BK154.out 6; have hfz13_7 := ze BK154.out 7; have hfz13_8 := ze BK154.out 8; have hcz14_0 : w10.cell? ⟨gb151, 0, none⟩ = some (.slice A0_0 l0_0.length c0_0) := (za BK151.out 0).trans rfl; have hcz14_1 : w10.cell? ⟨gb151, 1, none⟩ = some (.int .i16 a0_1) := (za BK151.out 1).trans rfl; have hcz14_2 : w10.cell? ⟨gb151, 2, none⟩ = some (.int .i16 a0_2) := (za BK151.out 2).trans rfl; have hcz14_3 : w10.cell? ⟨gb151, 3, none⟩ = some (.int .i16 a0_3) := (za BK151.out 3).trans rfl; have hcz14_4 : w10.cell? ⟨gb151, 4, none⟩ = some (.int .i16 a0_4) := (za BK151.out 4).trans rfl; have hcz14_5 : w10.cell? ⟨gb151, 5, none⟩ = some (.bool a0_5) := (za BK151.out 5).trans rfl; have hfz14_0 := ze BK151.out 0; have hfz14_1 := ze BK151.out 1; have hfz14_2 := ze BK151.out 2; have hfz14_3 := ze BK151.out 3; have hfz14_4 := ze BK151.out 4; have hfz14_5 := ze BK151.out 5) | ((with_reducible refine zba (f := 55) rfl ?_); refine zja (some 14) rfl rfl Try.func55 (by kernel_rfl) rfl #[.agg #[.slice A0_0 l0_0.length c0_0, .int .i16 a0_1, .int .i16 a0_2, .int .i16 a0_3, .int .i16 a0_4, .bool a0_5]] rfl (by (try simp only [List.map_toArray, List.map_cons, List.map_nil]); first | done | rfl | (simp only [List.length_drop, List.length_take]; rfl)) ?_; (with_reducible refine (impl_Puzzle_search.calls k _ _ l0_0 a0_1 a0_2 a0_3 a0_4 a0_5 t155 _ ?side1 ?side2 A4.out).mono ?_); (case side1 => exact Kd.C_below HR0_0.out (by repeat (first | (with_reducible first | exact HB.out | apply zk | apply zg | apply zj | refine zi ?_ GE151.out | refine zi ?_ GE152.out | refine zi ?_ GE154.out) | exact HB.out))); (case side2 => exact HC0_0.out); rintro e w15 ⟨v156, rfl, ho0, hb⟩; refine ⟨_, rfl, ?_⟩; have n0_ := zh.mk (Kd.R_lower (Kd.R_newB ho0 (g := gb154) (o := .cells #[.int .i16 0, .int .i16 0, .int .i16 0, .int .i16 0, .int .i64 0, .int .i8 0, .int .i8 0, .int .i8 0, .int .i64 (-1)] 82 (0, 0)) (by (with_reducible repeat (first | refine zc ?_ _ | refine zf ?_ | refine zb ?_ _)); refine zw (cs := #[.int .i16 0, .int .i16 0, .int .i16 0, .int .i16 0, .int .i64 0, .int .i8 0, .int .i8 0, .int .i8 0, .int .i64 0]) ?_ 8 _ rfl; (with_reducible repeat (first | refine zc ?_ _ | refine zf ?_ | refine zb ?_ _)); refine zw (cs := #[.int .i16 0, .int .i16 0, .int .i16 0, .int .i16 0, .int .i64 0, .int .i8 0, .int .i8 0, .int .i8 0, .int .i64 0]) ?_ 7 _ rfl; (with_reducible repeat (first | refine zc ?_ _ | refine zf ?_ | refine zb ?_ _)); refine zw (cs := #[.int .i16 0, .int .i16 0, .int .i16 0, .int .i16 0, .int .i64 0, .int .i8 0, .int .i8 0, .int .i8 0, .int .i64 0]) ?_ 6 _ rfl; (with_reducible repeat (first | refine zc ?_ _ | refine zf ?_ | refine zb ?_ _)); refine zw (cs := #[.int .i16 0, .int .i16 0, .int .i16 0, .int .i16 0, .int .i64 0, .int .i8 0, .int .i8 0, .int .i8 0, .int .i64 0]) ?_ 5 _ rfl; (with_reducible repeat (first | refine zc ?_ _ | refine zf ?_ | refine zb ?_ _)); refine zw (cs := #[.int .i16 0, .int .i16 0, .int .i16 0, .int .i16 0, .int .i64 0, .int .i8 0, .int .i8 0, .int .i8 0, .int .i64 0]) ?_ 4 _ rfl; (with_reducible repeat (first | refine zc ?_ _ | refine zf ?_ | refine zb ?_ _)); refine zw (cs := #[.int .i16 0, .int .i16 0, .int .i16 0, .int .i16 0, .int .i64 0, .int .i8 0, .int .i8 0, .int .i8 0, .int .i64 0]) ?_ 3 _ rfl; (with_reducible repeat (first | refine zc ?_ _ | refine zf ?_ | refine zb ?_ _)); refine zw (cs := #[.int .i16 0, .int .i16 0, .int .i16 0, .int .i16 0, .int .i64 0, .int .i8 0, .int .i8 0, .int .i8 0, .int .i64 0]) ?_ 2 _ rfl; (with_reducible repeat (first | refine zc ?_ _ | refine zf ?_ | refine zb ?_ _)); refine zw (cs := #[.int .i16 0, .int .i16 0, .int .i16 0, .int .i16 0, .int .i64 0, .int .i8 0, .int .i8 0, .int .i8 0, .int .i64 0]) ?_ 1 _ rfl; (with_reducible repeat (first | refine zc ?_ _ | refine zf ?_ | refine zb ?_ _)); refine zw (cs := #[.int .i16 0, .int .i16 0, .int .i16 0, .int .i16 0, .int .i64 0, .int .i8 0, .int .i8 0, .int .i8 0, .int .i64 0]) ?_ 0 _ rfl; (with_reducible repeat (first | refine zc ?_ _ | refine zf ?_ | refine zb ?_ _)); exact BK154.out)) (zq (by repeat (first | (with_reducible first | exact HB.out | apply zk | apply zg | apply zj | refine zi ?_ GE151.out | refine zi ?_ GE152.out | refine zi ?_ GE154.out) | exact HB.out)))); have n1_ := zh.mk (zm (g := gb151) (o := .cells #[.slice A0_0 l0_0.length c0_0, .int .i16 a0_1, .int .i16 a0_2, .int .i16 a0_3, .int .i16 a0_4, .bool a0_5] 29 (0, 0)) (by (with_reducible repeat (first | refine zc ?_ _ | refine zf ?_ | refine zb ?_ _)); refine zn ?_ NB151_154.out _; (with_reducible repeat (first | refine zc ?_ _ | refine zf ?_ | refine zb ?_ _)); refine zn ?_ NB151_154.out _; (with_reducible repeat (first | refine zc ?_ _ | refine zf ?_ | refine zb ?_ _)); refine zn ?_ NB151_154.out _; (with_reducible repeat (first | refine zc ?_ _ | refine zf ?_ | refine zb ?_ _)); refine zn ?_ NB151_154.out _; (with_reducible repeat (first | refine zc ?_ _ | refine zf ?_ | refine zb ?_ _)); refine zn ?_ NB151_154.out _; (with_reducible repeat (first | refine zc ?_ _ | refine zf ?_ | refine zb ?_ _)); refine zn ?_ NB151_154.out _; (with_reducible repeat (first | refine zc ?_ _ | refine zf ?_ | refine zb ?_ _)); refine zn ?_ NB151_154.out _; (with_reducible repeat (first | refine zc ?_ _ | refine zf ?_ | refine zb ?_ _)); refine zn ?_ NB151_154.out _; (with_reducible repeat (first | refine zc ?_ _ | refine zf ?_ | refine zb ?_ _)); refine zn ?_ NB151_154.out _; (with_reducible repeat (first | refine zc ?_ _ | refine zf ?_ | refine zb ?_ _)); exact BK151.out) hb); have n2_ := zh.mk (zm (g := gb152) (o := .cells #[.int .i16 0, .int .i16 0, .int .i16 0, .int .i16 0] 27 (0, 0)) (by (with_reducible repeat (first | refine zc ?_ _ | refine zf ?_ | refine zb ?_ _)); refine zn ?_ NB152_154.out _; (with_reducible repeat (first | refine zc ?_ _ | refine zf ?_ | refine zb ?_ _)); refine zn ?_ NB152_154.out _; (with_reducible repeat (first | refine zc ?_ _ | refine zf ?_ | refine zb ?_ _)); refine zn ?_ NB152_154.out _; (with_reducible repeat (first | refine zc ?_ _ | refine zf ?_ | refine zb ?_ _)); refine zn ?_ NB152_154.out _; (with_reducible repeat (first | refine zc ?_ _ | refine zf ?_ | refine zb ?_ _)); refine zn ?_ NB152_154.out _; (with_reducible repeat (first | refine zc ?_ _ | refine zf ?_ | refine zb ?_ _)); refine zn ?_ NB152_154.out _; (with_reducible repeat (first | refine zc ?_ _ | refine zf ?_ | refine zb ?_ _)); refine zn ?_ NB152_154.out _; (with_reducible repeat (first | refine zc ?_ _ | refine zf ?_ | refine zb ?_ _)); refine zn ?_ NB152_154.out _; (with_reducible repeat (first | refine zc ?_ _ | refine zf ?_ | refine zb ?_ _)); refine zn ?_ NB152_154.out _; (with_reducible repeat (first | refine zc ?_ _ | refine zf ?_ | refine zb ?_ _)); exact BK152.out) hb); have n3_ := zh.mk (zm (g := gb154) (o := .cells #[.int .i16 0, .int .i16 0, .int .i16 0, .int .i16 0, .int .i64 0, .int .i8 0, .int .i8 0, .int .i8 0, .int .i64 (-1)] 82 (0, 0)) (by (with_reducible repeat (first | refine zc ?_ _ | refine zf ?_ | refine zb ?_ _)); refine zw (cs := #[.int .i16 0, .int .i16 0, .int .i16 0, .int .i16 0, .int .i64 0, .int .i8 0, .int .i8 0, .int .i8 0, .int .i64 0]) ?_ 8 _ rfl; (with_reducible repeat (first | refine zc ?_ _ | refine zf ?_ | refine zb ?_ _)); refine zw (cs := #[.int .i16 0, .int .i16 0, .int .i16 0, .int .i16 0, .int .i64 0, .int .i8 0, .int .i8 0, .int .i8 0, .int .i64 0]) ?_ 7 _ rfl; (with_reducible repeat (first | refine zc ?_ _ | refine zf ?_ | refine zb ?_ _)); refine zw (cs := #[.int .i16 0, .int .i16 0, .int .i16 0, .int .i16 0, .int .i64 0, .int .i8 0, .int .i8 0, .int .i8 0, .int .i64 0]) ?_ 6 _ rfl; (with_reducible repeat (first | refine zc ?_ _ | refine zf ?_ | refine zb ?_ _)); refine zw (cs := #[.int .i16 0, .int .i16 0, .int .i16 0, .int .i16 0, .int .i64 0, .int .i8 0, .int .i8 0, .int .i8 0, .int .i64 0]) ?_ 5 _ rfl; (with_reducible repeat (first | refine zc ?_ _ | refine zf ?_ | refine zb ?_ _)); refine zw (cs := #[.int .i16 0, .int .i16 0, .int .i16 0, .int .i16 0, .int .i64 0, .int .i8 0, .int .i8 0, .int .i8 0, .int .i64 0]) ?_ 4 _ rfl; (with_reducible repeat (first | refine zc ?_ _ | refine zf ?_ | refine zb ?_ _)); refine zw (cs := #[.int .i16 0, .int .i16 0, .int .i16 0, .int .i16 0, .int .i64 0, .int .i8 0, .int .i8 0, .int .i8 0, .int .i64 0]) ?_ 3 _ rfl; (with_reducible repeat (first | refine zc ?_ _ | refine zf ?_ | refine zb ?_ _)); refine zw (cs := #[.int .i16 0, .int .i16 0, .int .i16 0, .int .i16 0, .int .i64 0, .int .i8 0, .int .i8 0, .int .i8 0, .int .i64 0]) ?_ 2 _ rfl; (with_reducible repeat (first | refine zc ?_ _ | refine zf ?_ | refine zb ?_ _)); refine zw (cs := #[.int .i16 0, .int .i16 0, .int .i16 0, .int .i16 0, .int .i64 0, .int .i8 0, .int .i8 0, .int .i8 0, .int .i64 0]) ?_ 1 _ rfl; (with_reducible repeat (first | refine zc ?_ _ | refine zf ?_ | refine zb ?_ _)); refine zw (cs := #[.int .i16 0, .int .i16 0, .int .i16 0, .int .i16 0, .int .i64 0, .int .i8 0, .int .i8 0, .int .i8 0, .int .i64 0]) ?_ 0 _ rfl; (with_reducible repeat (first | refine zc ?_ _ | refine zf ?_ | refine zb ?_ _)); exact BK154.out) hb); have n4_ := zh.mk (zo (by repeat (first | (with_reducible first | exact HB.out | apply zk | apply zg | apply zj | refine zi ?_ GE151.out | refine zi ?_ GE152.out | refine zi ?_ GE154.out) | exact HB.out)) hb); clear BK151; clear BK152; clear BK154; clear HB; have HO157 := n0_; have BK151 := n1_; have BK152 := n2_; have BK154 := n3_; have HB := n4_; clear n0_ n1_ n2_ n3_ n4_; (try clear hb); (try clear hb2); (try clear hk); (try clear hi); (try clear ho0); obtain ⟨Ao16, co16, eo16⟩ := Kd.R_slice HO157.out; subst eo16))
  go_loopg [16] k (fun kq v16 w' => ∃ (x16_1 : Int) (x155000_1 : Int) (x155001_1 : Int) (x155002_1 : Int) (x155003_1 : Int) (x155004_1 : Int) (x155005_1 : Int) (x155006_1 : Int) (x155007_1 : Int) (x155008_1 : Int), v16 = .int .i64 x16_1 ∧ zh (impl_HardestWater.l0 kq t155 (t155.length : Int) x16_1 l0_0 a0_1 a0_2 a0_3 a0_4 a0_5 x155000_1 x155001_1 x155002_1 x155003_1 x155004_1 x155005_1 x155006_1 x155007_1 x155008_1 = some (r1, r2, r3, r4, r5, r6)) ∧ zh (kq ≤ k) ∧ zh (Kd.R k82 82 w' w.heap.size (fun k_ => k_ ≠ gb154) (.slice Ao16 t155.length co16) t155) ∧ zh (w'.heap[gb151]? = some (.cells #[(.slice A0_0 l0_0.length c0_0), .int .i16 a0_1, .int .i16 a0_2, .int .i16 a0_3, .int .i16 a0_4, .bool a0_5] 29 (0, 0))) ∧ zh (w'.heap[gb152]? = some (.cells #[.int .i16 0, .int .i16 0, .int .i16 0, .int .i16 0] 27 (0, 0))) ∧ zh (w'.heap[gb154]? = some (.cells #[.int .i16 x155000_1, .int .i16 x155001_1, .int .i16 x155002_1, .int .i16 x155003_1, .int .i64 x155004_1, .int .i8 x155005_1, .int .i8 x155006_1, .int .i8 x155007_1, .int .i64 x155008_1] 82 (0, 0))) ∧ zh (Below w.heap.size w w'))
  case atStart => exact ⟨(0), (0), (0), (0), (0), (0), (0), (0), (0), ((-1)), (by first | rfl | (simp; done) | (simp [*]; done)), H', ⟨Nat.le_refl _⟩, ⟨by (with_reducible repeat (first | apply Kd.R_alloc | apply Kd.R_drewN | apply Kd.R_drew)); exact Kd.R_mono HO157.out (fun _ hk => hk.2)⟩, ⟨by (with_reducible repeat (first | refine zc ?_ _ | refine zf ?_ | refine zb ?_ _)); exact BK151.out⟩, ⟨by (with_reducible repeat (first | refine zc ?_ _ | refine zf ?_ | refine zb ?_ _)); exact BK152.out⟩, ⟨by (with_reducible repeat (first | refine zc ?_ _ | refine zf ?_ | refine zb ?_ _)); exact BK154.out⟩, ⟨by repeat (first | (with_reducible first | exact HB.out | apply zk | apply zg | apply zj | refine zi ?_ GE151.out | refine zi ?_ GE152.out | refine zi ?_ GE154.out) | exact HB.out)⟩⟩
  case round =>
   clear H'
   try clear c1
   try clear c2
   try clear p2
   try clear c3
   try clear c5
   try clear c7
   try clear c11
   try clear c12
   try clear hcz13_0 hcz13_1 hcz13_2 hcz13_3 hcz13_4 hcz13_5 hcz13_6 hcz13_7 hcz13_8
   try clear hcz14_0 hcz14_1 hcz14_2 hcz14_3 hcz14_4 hcz14_5
   try clear hcz8_0 hcz8_1 hcz8_2 hcz8_3 hcz8_4 hcz8_5
   try clear hfz13_0 hfz13_1 hfz13_2 hfz13_3 hfz13_4 hfz13_5 hfz13_6 hfz13_7 hfz13_8
   try clear hfz14_0 hfz14_1 hfz14_2 hfz14_3 hfz14_4 hfz14_5
   try clear hfz8_0 hfz8_1 hfz8_2 hfz8_3 hfz8_4 hfz8_5
   obtain ⟨x16_1, x155000_1, x155001_1, x155002_1, x155003_1, x155004_1, x155005_1, x155006_1, x155007_1, x155008_1, rfl, HA, HK1, HO_14, BK151, BK152, BK154, HB⟩ := hrel
   cases gk with
   | zero => exact absurd HA.out (by simp [impl_HardestWater.l0])
   | succ k1 =>
    have H := HA.out
    clear HA
    simp only [impl_HardestWater.l0] at H
    by_cases c17 : x16_1 < (t155.length : Int)
    ·rw [if_pos c17] at H
     have c17b0 : decide (x16_1 < (t155.length : Int)) = true := decide_eq_true c17
     clear c17
     by_cases c18 : 0 ≤ x16_1
     rotate_left
     ·rw [if_neg c18] at H
      exact absurd H (by simp)
     rw [if_pos c18] at H
     have c18b0 : decide (0 ≤ x16_1) = true := decide_eq_true c18
     clear c18
     by_cases c19 : x16_1 < (t155.length : Int)
     rotate_left
     ·rw [if_neg c19] at H
      exact absurd H (by simp)
     rw [if_pos c19] at H
     have c19b0 : decide (x16_1 < (t155.length : Int)) = true := decide_eq_true c19
     clear c19
     have HS_ := zh.mk H
     clear H
     have p158 : 0 ≤ (x16_1 : Int) := of_decide_eq_true (by first | (with_reducible assumption) | assumption)
     have q158 : x16_1 < (t155.length : Int) := of_decide_eq_true (by first | (with_reducible assumption) | assumption)
     obtain ⟨ad158, e158, hx158_0, hx158_1, hx158_2, hx158_3, hx158_4, hx158_5, hx158_6, hx158_7, hx158_8⟩ := at_T82 (Kd.R_reads' HO_14.out).2.2 x16_1 p158 q158
     cases e158
     replace p158 := eq_true p158
     replace q158 := eq_true q158
     try go_wp2_with (first | ((with_reducible refine zda (N := 7) rfl ?_); refine zca ?hg (N := 7) ?hd (cs := #[.int .i16 0, .int .i16 0, .int .i16 0, .int .i16 0, .int .i64 0, .int .i8 0, .int .i8 0, .int .i8 0, .int .i64 0]) (t := 82) ?hr ?_; (case hd => rfl); (case hg => rfl); (case hr => first | (go_simp; done) | (go_simp; rfl)); intro gb159 hg w21 hbox hb; have n0_ := zh.mk (Kd.R_below (Kd.R_elderB (by (with_reducible repeat (first | apply Kd.R_alloc | apply Kd.R_drewN | apply Kd.R_drew)); exact HO_14.out) gb159 (Nat.le_of_eq hg.symm)) hb); have n1_ := zh.mk (zm (by (with_reducible repeat (first | refine zc ?_ _ | refine zf ?_ | refine zb ?_ _)); exact BK151.out) hb); have n2_ := zh.mk (zm (by (with_reducible repeat (first | refine zc ?_ _ | refine zf ?_ | refine zb ?_ _)); exact BK152.out) hb); have n3_ := zh.mk (zm (by (with_reducible repeat (first | refine zc ?_ _ | refine zf ?_ | refine zb ?_ _)); exact BK154.out) hb); have n4_ := zh.mk (zo (by repeat (first | (with_reducible first | exact HB.out | apply zk | apply zg | apply zj | refine zi ?_ GE151.out | refine zi ?_ GE152.out | refine zi ?_ GE154.out) | exact HB.out)) hb); have n5_ := zh.mk (hbox); have n6_ := zh.mk ((by rw [hg]; exact (zq (by repeat (first | (with_reducible first | exact HB.out | apply zk | apply zg | apply zj | refine zi ?_ GE151.out | refine zi ?_ GE152.out | refine zi ?_ GE154.out) | exact HB.out))) : w.heap.size ≤ gb159)); have n7_ := n6_; have n8_ := zh.mk ((by rw [hg]; exact Nat.ne_of_lt (zfa (by (with_reducible repeat (first | refine zc ?_ _ | refine zf ?_ | refine zb ?_ _)); exact BK151.out)) : gb151 ≠ gb159)); have n9_ := zh.mk n8_.out.symm; have n10_ := zh.mk ((by rw [hg]; exact Nat.ne_of_lt (zfa (by (with_reducible repeat (first | refine zc ?_ _ | refine zf ?_ | refine zb ?_ _)); exact BK152.out)) : gb152 ≠ gb159)); have n11_ := zh.mk n10_.out.symm; have n12_ := zh.mk ((by rw [hg]; exact Nat.ne_of_lt (zfa (by (with_reducible repeat (first | refine zc ?_ _ | refine zf ?_ | refine zb ?_ _)); exact BK154.out)) : gb154 ≠ gb159)); have n13_ := zh.mk n12_.out.symm; clear HO_14; clear BK151; clear BK152; clear BK154; clear HB; have HO_14 := n0_; have BK151 := n1_; have BK152 := n2_; have BK154 := n3_; have HB := n4_; have BK159 := n5_; have GW159 := n6_; have GE159 := n7_; have NB151_159 := n8_; have NB159_151 := n9_; have NB152_159 := n10_; have NB159_152 := n11_; have NB154_159 := n12_; have NB159_154 := n13_; clear n0_ n1_ n2_ n3_ n4_ n5_ n6_ n7_ n8_ n9_ n10_ n11_ n12_ n13_; clear hb hbox hg; have hnb22 := NB159_151.out; have hnc22 := NB151_159.out; have hnb23 := NB159_152.out; have hnc23 := NB152_159.out; have hnb24 := NB159_154.out; have hnc24 := NB154_159.out; have hcz25_0 : w21.cell? ⟨gb159, 0, none⟩ = some (.int .i16 0) := (za BK159.out 0).trans rfl; have hcz25_1 : w21.cell? ⟨gb159, 1, none⟩ = some (.int .i16 0) := (za BK159.out 1).trans rfl; have hcz25_2 : w21.cell? ⟨gb159, 2, none⟩ = some (.int .i16 0) := (za BK159.out 2).trans rfl; have hcz25_3 : w21.cell? ⟨gb159, 3, none⟩ = some (.int .i16 0) := (za BK159.out 3).trans rfl; have hcz25_4 : w21.cell? ⟨gb159, 4, none⟩ = some (.int .i64 0) := (za BK159.out 4).trans rfl; have hcz25_5 : w21.cell? ⟨gb159, 5, none⟩ = some (.int .i8 0) := (za BK159.out 5).trans rfl; have hcz25_6 : w21.cell? ⟨gb159, 6, none⟩ = some (.int .i8 0) := (za BK159.out 6).trans rfl; have hcz25_7 : w21.cell? ⟨gb159, 7, none⟩ = some (.int .i8 0) := (za BK159.out 7).trans rfl; have hcz25_8 : w21.cell? ⟨gb159, 8, none⟩ = some (.int .i64 0) := (za BK159.out 8).trans rfl; have hfz25_0 := ze BK159.out 0; have hfz25_1 := ze BK159.out 1; have hfz25_2 := ze BK159.out 2; have hfz25_3 := ze BK159.out 3; have hfz25_4 := ze BK159.out 4; have hfz25_5 := ze BK159.out 5; have hfz25_6 := ze BK159.out 6; have hfz25_7 := ze BK159.out 7; have hfz25_8 := ze BK159.out 8))
     have n0_ : zh (Kd.R k82 82 (((((((((w21.setCell ⟨gb159, 0, none⟩ (.int .i16 ((zl t155 x16_1).f0.f0))).setCell ⟨gb159, 1, none⟩ (.int .i16 ((zl t155 x16_1).f0.f1))).setCell ⟨gb159, 2, none⟩ (.int .i16 ((zl t155 x16_1).f0.f2))).setCell ⟨gb159, 3, none⟩ (.int .i16 ((zl t155 x16_1).f0.f3))).setCell ⟨gb159, 4, none⟩ (.int .i64 ((zl t155 x16_1).f1))).setCell ⟨gb159, 5, none⟩ (.int .i8 ((zl t155 x16_1).f2.f0))).setCell ⟨gb159, 6, none⟩ (.int .i8 ((zl t155 x16_1).f2.f1))).setCell ⟨gb159, 7, none⟩ (.int .i8 ((zl t155 x16_1).f2.f2))).setCell ⟨gb159, 8, none⟩ (.int .i64 ((zl t155 x16_1).f3))) w.heap.size (fun k_ => k_ ≠ gb154 ∧ k_ ≠ gb159) (.slice (some ad158) t155.length co16) t155) := ⟨by (with_reducible repeat (first | apply Kd.R_alloc | apply Kd.R_drewN | apply Kd.R_drew)); exact Kd.R_mono (Kd.R_far (p := ⟨gb159, 8, none⟩) (Kd.R_far (p := ⟨gb159, 7, none⟩) (Kd.R_far (p := ⟨gb159, 6, none⟩) (Kd.R_far (p := ⟨gb159, 5, none⟩) (Kd.R_far (p := ⟨gb159, 4, none⟩) (Kd.R_far (p := ⟨gb159, 3, none⟩) (Kd.R_far (p := ⟨gb159, 2, none⟩) (Kd.R_far (p := ⟨gb159, 1, none⟩) (Kd.R_far (p := ⟨gb159, 0, none⟩) (Kd.R_mono HO_14.out (fun k_ hk => (⟨hk, hk.2⟩ : _ ∧ k_ ≠ gb159))) (fun _ hk => hk.2) (.int .i16 ((zl t155 x16_1).f0.f0))) (fun _ hk => hk.2) (.int .i16 ((zl t155 x16_1).f0.f1))) (fun _ hk => hk.2) (.int .i16 ((zl t155 x16_1).f0.f2))) (fun _ hk => hk.2) (.int .i16 ((zl t155 x16_1).f0.f3))) (fun _ hk => hk.2) (.int .i64 ((zl t155 x16_1).f1))) (fun _ hk => hk.2) (.int .i8 ((zl t155 x16_1).f2.f0))) (fun _ hk => hk.2) (.int .i8 ((zl t155 x16_1).f2.f1))) (fun _ hk => hk.2) (.int .i8 ((zl t155 x16_1).f2.f2))) (fun _ hk => hk.2) (.int .i64 ((zl t155 x16_1).f3))) (fun _ hk => ⟨hk.1.1, hk.1.2⟩)⟩
     have n1_ : zh ((((((((((w21.setCell ⟨gb159, 0, none⟩ (.int .i16 ((zl t155 x16_1).f0.f0))).setCell ⟨gb159, 1, none⟩ (.int .i16 ((zl t155 x16_1).f0.f1))).setCell ⟨gb159, 2, none⟩ (.int .i16 ((zl t155 x16_1).f0.f2))).setCell ⟨gb159, 3, none⟩ (.int .i16 ((zl t155 x16_1).f0.f3))).setCell ⟨gb159, 4, none⟩ (.int .i64 ((zl t155 x16_1).f1))).setCell ⟨gb159, 5, none⟩ (.int .i8 ((zl t155 x16_1).f2.f0))).setCell ⟨gb159, 6, none⟩ (.int .i8 ((zl t155 x16_1).f2.f1))).setCell ⟨gb159, 7, none⟩ (.int .i8 ((zl t155 x16_1).f2.f2))).setCell ⟨gb159, 8, none⟩ (.int .i64 ((zl t155 x16_1).f3))).heap[gb151]? = some (.cells #[.slice A0_0 l0_0.length c0_0, .int .i16 a0_1, .int .i16 a0_2, .int .i16 a0_3, .int .i16 a0_4, .bool a0_5] 29 (0, 0))) := ⟨by (with_reducible repeat (first | refine zc ?_ _ | refine zf ?_ | refine zb ?_ _)); refine zn ?_ NB151_159.out _; (with_reducible repeat (first | refine zc ?_ _ | refine zf ?_ | refine zb ?_ _)); refine zn ?_ NB151_159.out _; (with_reducible repeat (first | refine zc ?_ _ | refine zf ?_ | refine zb ?_ _)); refine zn ?_ NB151_159.out _; (with_reducible repeat (first | refine zc ?_ _ | refine zf ?_ | refine zb ?_ _)); refine zn ?_ NB151_159.out _; (with_reducible repeat (first | refine zc ?_ _ | refine zf ?_ | refine zb ?_ _)); refine zn ?_ NB151_159.out _; (with_reducible repeat (first | refine zc ?_ _ | refine zf ?_ | refine zb ?_ _)); refine zn ?_ NB151_159.out _; (with_reducible repeat (first | refine zc ?_ _ | refine zf ?_ | refine zb ?_ _)); refine zn ?_ NB151_159.out _; (with_reducible repeat (first | refine zc ?_ _ | refine zf ?_ | refine zb ?_ _)); refine zn ?_ NB151_159.out _; (with_reducible repeat (first | refine zc ?_ _ | refine zf ?_ | refine zb ?_ _)); refine zn ?_ NB151_159.out _; (with_reducible repeat (first | refine zc ?_ _ | refine zf ?_ | refine zb ?_ _)); exact BK151.out⟩
     have n2_ : zh ((((((((((w21.setCell ⟨gb159, 0, none⟩ (.int .i16 ((zl t155 x16_1).f0.f0))).setCell ⟨gb159, 1, none⟩ (.int .i16 ((zl t155 x16_1).f0.f1))).setCell ⟨gb159, 2, none⟩ (.int .i16 ((zl t155 x16_1).f0.f2))).setCell ⟨gb159, 3, none⟩ (.int .i16 ((zl t155 x16_1).f0.f3))).setCell ⟨gb159, 4, none⟩ (.int .i64 ((zl t155 x16_1).f1))).setCell ⟨gb159, 5, none⟩ (.int .i8 ((zl t155 x16_1).f2.f0))).setCell ⟨gb159, 6, none⟩ (.int .i8 ((zl t155 x16_1).f2.f1))).setCell ⟨gb159, 7, none⟩ (.int .i8 ((zl t155 x16_1).f2.f2))).setCell ⟨gb159, 8, none⟩ (.int .i64 ((zl t155 x16_1).f3))).heap[gb152]? = some (.cells #[.int .i16 0, .int .i16 0, .int .i16 0, .int .i16 0] 27 (0, 0))) := ⟨by (with_reducible repeat (first | refine zc ?_ _ | refine zf ?_ | refine zb ?_ _)); refine zn ?_ NB152_159.out _; (with_reducible repeat (first | refine zc ?_ _ | refine zf ?_ | refine zb ?_ _)); refine zn ?_ NB152_159.out _; (with_reducible repeat (first | refine zc ?_ _ | refine zf ?_ | refine zb ?_ _)); refine zn ?_ NB152_159.out _; (with_reducible repeat (first | refine zc ?_ _ | refine zf ?_ | refine zb ?_ _)); refine zn ?_ NB152_159.out _; (with_reducible repeat (first | refine zc ?_ _ | refine zf ?_ | refine zb ?_ _)); refine zn ?_ NB152_159.out _; (with_reducible repeat (first | refine zc ?_ _ | refine zf ?_ | refine zb ?_ _)); refine zn ?_ NB152_159.out _; (with_reducible repeat (first | refine zc ?_ _ | refine zf ?_ | refine zb ?_ _)); refine zn ?_ NB152_159.out _; (with_reducible repeat (first | refine zc ?_ _ | refine zf ?_ | refine zb ?_ _)); refine zn ?_ NB152_159.out _; (with_reducible repeat (first | refine zc ?_ _ | refine zf ?_ | refine zb ?_ _)); refine zn ?_ NB152_159.out _; (with_reducible repeat (first | refine zc ?_ _ | refine zf ?_ | refine zb ?_ _)); exact BK152.out⟩
     have n3_ : zh ((((((((((w21.setCell ⟨gb159, 0, none⟩ (.int .i16 ((zl t155 x16_1).f0.f0))).setCell ⟨gb159, 1, none⟩ (.int .i16 ((zl t155 x16_1).f0.f1))).setCell ⟨gb159, 2, none⟩ (.int .i16 ((zl t155 x16_1).f0.f2))).setCell ⟨gb159, 3, none⟩ (.int .i16 ((zl t155 x16_1).f0.f3))).setCell ⟨gb159, 4, none⟩ (.int .i64 ((zl t155 x16_1).f1))).setCell ⟨gb159, 5, none⟩ (.int .i8 ((zl t155 x16_1).f2.f0))).setCell ⟨gb159, 6, none⟩ (.int .i8 ((zl t155 x16_1).f2.f1))).setCell ⟨gb159, 7, none⟩ (.int .i8 ((zl t155 x16_1).f2.f2))).setCell ⟨gb159, 8, none⟩ (.int .i64 ((zl t155 x16_1).f3))).heap[gb154]? = some (.cells #[.int .i16 x155000_1, .int .i16 x155001_1, .int .i16 x155002_1, .int .i16 x155003_1, .int .i64 x155004_1, .int .i8 x155005_1, .int .i8 x155006_1, .int .i8 x155007_1, .int .i64 x155008_1] 82 (0, 0))) := ⟨by (with_reducible repeat (first | refine zc ?_ _ | refine zf ?_ | refine zb ?_ _)); refine zn ?_ NB154_159.out _; (with_reducible repeat (first | refine zc ?_ _ | refine zf ?_ | refine zb ?_ _)); refine zn ?_ NB154_159.out _; (with_reducible repeat (first | refine zc ?_ _ | refine zf ?_ | refine zb ?_ _)); refine zn ?_ NB154_159.out _; (with_reducible repeat (first | refine zc ?_ _ | refine zf ?_ | refine zb ?_ _)); refine zn ?_ NB154_159.out _; (with_reducible repeat (first | refine zc ?_ _ | refine zf ?_ | refine zb ?_ _)); refine zn ?_ NB154_159.out _; (with_reducible repeat (first | refine zc ?_ _ | refine zf ?_ | refine zb ?_ _)); refine zn ?_ NB154_159.out _; (with_reducible repeat (first | refine zc ?_ _ | refine zf ?_ | refine zb ?_ _)); refine zn ?_ NB154_159.out _; (with_reducible repeat (first | refine zc ?_ _ | refine zf ?_ | refine zb ?_ _)); refine zn ?_ NB154_159.out _; (with_reducible repeat (first | refine zc ?_ _ | refine zf ?_ | refine zb ?_ _)); refine zn ?_ NB154_159.out _; (with_reducible repeat (first | refine zc ?_ _ | refine zf ?_ | refine zb ?_ _)); exact BK154.out⟩
     have n4_ : zh ((((((((((w21.setCell ⟨gb159, 0, none⟩ (.int .i16 ((zl t155 x16_1).f0.f0))).setCell ⟨gb159, 1, none⟩ (.int .i16 ((zl t155 x16_1).f0.f1))).setCell ⟨gb159, 2, none⟩ (.int .i16 ((zl t155 x16_1).f0.f2))).setCell ⟨gb159, 3, none⟩ (.int .i16 ((zl t155 x16_1).f0.f3))).setCell ⟨gb159, 4, none⟩ (.int .i64 ((zl t155 x16_1).f1))).setCell ⟨gb159, 5, none⟩ (.int .i8 ((zl t155 x16_1).f2.f0))).setCell ⟨gb159, 6, none⟩ (.int .i8 ((zl t155 x16_1).f2.f1))).setCell ⟨gb159, 7, none⟩ (.int .i8 ((zl t155 x16_1).f2.f2))).setCell ⟨gb159, 8, none⟩ (.int .i64 ((zl t155 x16_1).f3))).heap[gb159]? = some (.cells #[.int .i16 ((zl t155 x16_1).f0.f0), .int .i16 ((zl t155 x16_1).f0.f1), .int .i16 ((zl t155 x16_1).f0.f2), .int .i16 ((zl t155 x16_1).f0.f3), .int .i64 ((zl t155 x16_1).f1), .int .i8 ((zl t155 x16_1).f2.f0), .int .i8 ((zl t155 x16_1).f2.f1), .int .i8 ((zl t155 x16_1).f2.f2), .int .i64 ((zl t155 x16_1).f3)] 82 (0, 0))) := ⟨by (with_reducible repeat (first | refine zc ?_ _ | refine zf ?_ | refine zb ?_ _)); refine zw (cs := #[.int .i16 ((zl t155 x16_1).f0.f0), .int .i16 ((zl t155 x16_1).f0.f1), .int .i16 ((zl t155 x16_1).f0.f2), .int .i16 ((zl t155 x16_1).f0.f3), .int .i64 ((zl t155 x16_1).f1), .int .i8 ((zl t155 x16_1).f2.f0), .int .i8 ((zl t155 x16_1).f2.f1), .int .i8 ((zl t155 x16_1).f2.f2), .int .i64 0]) ?_ 8 _ rfl; (with_reducible repeat (first | refine zc ?_ _ | refine zf ?_ | refine zb ?_ _)); refine zw (cs := #[.int .i16 ((zl t155 x16_1).f0.f0), .int .i16 ((zl t155 x16_1).f0.f1), .int .i16 ((zl t155 x16_1).f0.f2), .int .i16 ((zl t155 x16_1).f0.f3), .int .i64 ((zl t155 x16_1).f1), .int .i8 ((zl t155 x16_1).f2.f0), .int .i8 ((zl t155 x16_1).f2.f1), .int .i8 0, .int .i64 0]) ?_ 7 _ rfl; (with_reducible repeat (first | refine zc ?_ _ | refine zf ?_ | refine zb ?_ _)); refine zw (cs := #[.int .i16 ((zl t155 x16_1).f0.f0), .int .i16 ((zl t155 x16_1).f0.f1), .int .i16 ((zl t155 x16_1).f0.f2), .int .i16 ((zl t155 x16_1).f0.f3), .int .i64 ((zl t155 x16_1).f1), .int .i8 ((zl t155 x16_1).f2.f0), .int .i8 0, .int .i8 0, .int .i64 0]) ?_ 6 _ rfl; (with_reducible repeat (first | refine zc ?_ _ | refine zf ?_ | refine zb ?_ _)); refine zw (cs := #[.int .i16 ((zl t155 x16_1).f0.f0), .int .i16 ((zl t155 x16_1).f0.f1), .int .i16 ((zl t155 x16_1).f0.f2), .int .i16 ((zl t155 x16_1).f0.f3), .int .i64 ((zl t155 x16_1).f1), .int .i8 0, .int .i8 0, .int .i8 0, .int .i64 0]) ?_ 5 _ rfl; (with_reducible repeat (first | refine zc ?_ _ | refine zf ?_ | refine zb ?_ _)); refine zw (cs := #[.int .i16 ((zl t155 x16_1).f0.f0), .int .i16 ((zl t155 x16_1).f0.f1), .int .i16 ((zl t155 x16_1).f0.f2), .int .i16 ((zl t155 x16_1).f0.f3), .int .i64 0, .int .i8 0, .int .i8 0, .int .i8 0, .int .i64 0]) ?_ 4 _ rfl; (with_reducible repeat (first | refine zc ?_ _ | refine zf ?_ | refine zb ?_ _)); refine zw (cs := #[.int .i16 ((zl t155 x16_1).f0.f0), .int .i16 ((zl t155 x16_1).f0.f1), .int .i16 ((zl t155 x16_1).f0.f2), .int .i16 0, .int .i64 0, .int .i8 0, .int .i8 0, .int .i8 0, .int .i64 0]) ?_ 3 _ rfl; (with_reducible repeat (first | refine zc ?_ _ | refine zf ?_ | refine zb ?_ _)); refine zw (cs := #[.int .i16 ((zl t155 x16_1).f0.f0), .int .i16 ((zl t155 x16_1).f0.f1), .int .i16 0, .int .i16 0, .int .i64 0, .int .i8 0, .int .i8 0, .int .i8 0, .int .i64 0]) ?_ 2 _ rfl; (with_reducible repeat (first | refine zc ?_ _ | refine zf ?_ | refine zb ?_ _)); refine zw (cs := #[.int .i16 ((zl t155 x16_1).f0.f0), .int .i16 0, .int .i16 0, .int .i16 0, .int .i64 0, .int .i8 0, .int .i8 0, .int .i8 0, .int .i64 0]) ?_ 1 _ rfl; (with_reducible repeat (first | refine zc ?_ _ | refine zf ?_ | refine zb ?_ _)); refine zw (cs := #[.int .i16 0, .int .i16 0, .int .i16 0, .int .i16 0, .int .i64 0, .int .i8 0, .int .i8 0, .int .i8 0, .int .i64 0]) ?_ 0 _ rfl; (with_reducible repeat (first | refine zc ?_ _ | refine zf ?_ | refine zb ?_ _)); exact BK159.out⟩
     have n5_ : zh (Below w.heap.size w (((((((((w21.setCell ⟨gb159, 0, none⟩ (.int .i16 ((zl t155 x16_1).f0.f0))).setCell ⟨gb159, 1, none⟩ (.int .i16 ((zl t155 x16_1).f0.f1))).setCell ⟨gb159, 2, none⟩ (.int .i16 ((zl t155 x16_1).f0.f2))).setCell ⟨gb159, 3, none⟩ (.int .i16 ((zl t155 x16_1).f0.f3))).setCell ⟨gb159, 4, none⟩ (.int .i64 ((zl t155 x16_1).f1))).setCell ⟨gb159, 5, none⟩ (.int .i8 ((zl t155 x16_1).f2.f0))).setCell ⟨gb159, 6, none⟩ (.int .i8 ((zl t155 x16_1).f2.f1))).setCell ⟨gb159, 7, none⟩ (.int .i8 ((zl t155 x16_1).f2.f2))).setCell ⟨gb159, 8, none⟩ (.int .i64 ((zl t155 x16_1).f3)))) := ⟨by repeat (first | (with_reducible first | exact HB.out | apply zk | apply zg | apply zj | refine zi ?_ GE151.out | refine zi ?_ GE152.out | refine zi ?_ GE154.out | refine zi ?_ GE159.out) | exact HB.out)⟩
     (try clear HO_14)
     (try clear BK151)
     (try clear BK152)
     (try clear BK154)
     (try clear BK159)
     (try clear HB)
     generalize (((((((((w21.setCell ⟨gb159, 0, none⟩ (.int .i16 ((zl t155 x16_1).f0.f0))).setCell ⟨gb159, 1, none⟩ (.int .i16 ((zl t155 x16_1).f0.f1))).setCell ⟨gb159, 2, none⟩ (.int .i16 ((zl t155 x16_1).f0.f2))).setCell ⟨gb159, 3, none⟩ (.int .i16 ((zl t155 x16_1).f0.f3))).setCell ⟨gb159, 4, none⟩ (.int .i64 ((zl t155 x16_1).f1))).setCell ⟨gb159, 5, none⟩ (.int .i8 ((zl t155 x16_1).f2.f0))).setCell ⟨gb159, 6, none⟩ (.int .i8 ((zl t155 x16_1).f2.f1))).setCell ⟨gb159, 7, none⟩ (.int .i8 ((zl t155 x16_1).f2.f2))).setCell ⟨gb159, 8, none⟩ (.int .i64 ((zl t155 x16_1).f3))) = w26 at n0_ n1_ n2_ n3_ n4_ n5_ ⊢
     have HO_14 := n0_
     have BK151 := n1_
     have BK152 := n2_
     have BK154 := n3_
     have BK159 := n4_
     have HB := n5_
     clear n0_ n1_ n2_ n3_ n4_ n5_
     have n0_ := zh.mk (Kd.R_drew HO_14.out)
     have n1_ := zh.mk (zf BK151.out)
     have n2_ := zh.mk (zf BK152.out)
     have n3_ := zh.mk (zf BK154.out)
     have n4_ := zh.mk (zf BK159.out)
     have n5_ := zh.mk (zj HB.out)
     clear HO_14
     clear BK151
     clear BK152
     clear BK154
     clear BK159
     clear HB
     have HO_14 := n0_
     have BK151 := n1_
     have BK152 := n2_
     have BK154 := n3_
     have BK159 := n4_
     have HB := n5_
     clear n0_ n1_ n2_ n3_ n4_ n5_
     have H := HS_.out
     clear HS_
     by_cases c20 : ((zl t155 x16_1).f3) > x155008_1
     ·rw [if_pos c20] at H
      have c20b0 : decide (x155008_1 < ((zl t155 x16_1).f3)) = true := decide_eq_true c20
      clear c20
      have H' := zh.mk H
      clear H
      refine zrb (n := 23) (S := fun w' => w'.cell? ⟨gb159, 0, none⟩ = some (.int .i16 ((zl t155 x16_1).f0.f0)) ∧ w'.cell? ⟨gb159, 1, none⟩ = some (.int .i16 ((zl t155 x16_1).f0.f1)) ∧ w'.cell? ⟨gb159, 2, none⟩ = some (.int .i16 ((zl t155 x16_1).f0.f2)) ∧ w'.cell? ⟨gb159, 3, none⟩ = some (.int .i16 ((zl t155 x16_1).f0.f3)) ∧ w'.cell? ⟨gb159, 4, none⟩ = some (.int .i64 ((zl t155 x16_1).f1)) ∧ w'.cell? ⟨gb159, 5, none⟩ = some (.int .i8 ((zl t155 x16_1).f2.f0)) ∧ w'.cell? ⟨gb159, 6, none⟩ = some (.int .i8 ((zl t155 x16_1).f2.f1)) ∧ w'.cell? ⟨gb159, 7, none⟩ = some (.int .i8 ((zl t155 x16_1).f2.f2)) ∧ w'.cell? ⟨gb159, 8, none⟩ = some (.int .i64 ((zl t155 x16_1).f3)) ∧ w'.cell? ⟨gb154, 0, none⟩ = some (.int .i16 x155000_1) ∧ w'.cell? ⟨gb154, 1, none⟩ = some (.int .i16 x155001_1) ∧ w'.cell? ⟨gb154, 2, none⟩ = some (.int .i16 x155002_1) ∧ w'.cell? ⟨gb154, 3, none⟩ = some (.int .i16 x155003_1) ∧ w'.cell? ⟨gb154, 4, none⟩ = some (.int .i64 x155004_1) ∧ w'.cell? ⟨gb154, 5, none⟩ = some (.int .i8 x155005_1) ∧ w'.cell? ⟨gb154, 6, none⟩ = some (.int .i8 x155006_1) ∧ w'.cell? ⟨gb154, 7, none⟩ = some (.int .i8 x155007_1) ∧ w'.cell? ⟨gb154, 8, none⟩ = some (.int .i64 x155008_1)) (ds := []) #[false, false, false, false, false, false, false, false, false, false, false, false, false, false, false, false, false, false, false, false, false, false, false] (by kernel_rfl) rfl rfl ⟨(za BK159.out 0).trans rfl, (za BK159.out 1).trans rfl, (za BK159.out 2).trans rfl, (za BK159.out 3).trans rfl, (za BK159.out 4).trans rfl, (za BK159.out 5).trans rfl, (za BK159.out 6).trans rfl, (za BK159.out 7).trans rfl, (za BK159.out 8).trans rfl, (za BK154.out 0).trans rfl, (za BK154.out 1).trans rfl, (za BK154.out 2).trans rfl, (za BK154.out 3).trans rfl, (za BK154.out 4).trans rfl, (za BK154.out 5).trans rfl, (za BK154.out 6).trans rfl, (za BK154.out 7).trans rfl, (za BK154.out 8).trans rfl⟩ (fun hHeld => ?_); refine zab impl_HardestWater.tab7 impl_HardestWater.bits7 (fun HT_ HW_ => ?_)
      generalize w26.drew = w27 at HO_14 BK151 BK152 BK154 BK159 HB hHeld ⊢
      refine zea (i := 0) (N := some 20) (v := ?_) (a' := ?_) #[true, false, false, false, false, false, false, false, false, false, false, false, false, false, false, false, false, false, false, false, false, false, false] rfl rfl (zaa HT_.out (by kernel_rfl)) (fun _ _ _ h => h) (Or.inl ⟨by rfl, ?_⟩) ?_ ?_
      rotate_left
      ·intro w'
       go_simp
       with_reducible rfl
      rotate_left
      ·simp only [Act.put, List.setIfInBounds_toArray, List.set_cons_zero, List.set_cons_succ, zu, zz]
       rfl
      refine zea (i := 2) (N := some 22) (v := ?_) (a' := ?_) #[true, false, true, false, false, false, false, false, false, false, false, false, false, false, false, false, false, false, false, false, false, false, false] rfl rfl (zaa HT_.out (by kernel_rfl)) (fun _ _ _ h => h) (Or.inl ⟨by rfl, ?_⟩) ?_ ?_
      rotate_left
      ·intro w'
       go_simp
       with_reducible rfl
      rotate_left
      ·simp only [Act.put, List.setIfInBounds_toArray, List.set_cons_zero, List.set_cons_succ, zu, zz]
       rfl
      refine take_ (i := 1) (N := some 21) (v := ?_) (a' := ?_) #[true, true, true, false, false, false, false, false, false, false, false, false, false, false, false, false, false, false, false, false, false, false, false] rfl rfl (zia HT_.out HW_.out (by kernel_rfl)) (fun _ _ _ h => h) (Or.inl ⟨by rfl, ?_⟩) hHeld ?_ ?_
      rotate_left
      ·rintro w' ⟨s0, s1, s2, s3, s4, s5, s6, s7, s8, s9, s10, s11, s12, s13, s14, s15, s16, s17⟩
       go_simp
       with_reducible rfl
      rotate_left
      ·simp only [Act.put, List.setIfInBounds_toArray, List.set_cons_zero, List.set_cons_succ, zu, zz]
       rfl
      refine take_ (i := 3) (N := some 23) (v := ?_) (a' := ?_) #[true, true, true, true, false, false, false, false, false, false, false, false, false, false, false, false, false, false, false, false, false, false, false] rfl rfl (zia HT_.out HW_.out (by kernel_rfl)) (fun _ _ _ h => h) (Or.inl ⟨by rfl, ?_⟩) hHeld ?_ ?_
      rotate_left
      ·rintro w' ⟨s0, s1, s2, s3, s4, s5, s6, s7, s8, s9, s10, s11, s12, s13, s14, s15, s16, s17⟩
       go_simp
       with_reducible rfl
      rotate_left
      ·simp only [Act.put, List.setIfInBounds_toArray, List.set_cons_zero, List.set_cons_succ, zu, zz]
       rfl
      refine zea (i := 4) (N := some 24) (v := ?_) (a' := ?_) #[true, true, true, true, true, false, false, false, false, false, false, false, false, false, false, false, false, false, false, false, false, false, false] rfl rfl (zaa HT_.out (by kernel_rfl)) (fun _ _ _ h => h) (Or.inl ⟨by rfl, ?_⟩) ?_ ?_
      rotate_left
      ·intro w'
       go_simp
       with_reducible rfl
      rotate_left
      ·simp only [Act.put, List.setIfInBounds_toArray, List.set_cons_zero, List.set_cons_succ, zu, zz]
       rfl
      refine zea (i := 5) (N := some 25) (v := ?_) (a' := ?_) #[true, true, true, true, true, true, false, false, false, false, false, false, false, false, false, false, false, false, false, false, false, false, false] rfl rfl (zaa HT_.out (by kernel_rfl)) (fun _ _ _ h => h) (Or.inl ⟨by rfl, ?_⟩) ?_ ?_
      rotate_left
      ·intro w'
       go_simp
       with_reducible rfl
      rotate_left
      ·simp only [Act.put, List.setIfInBounds_toArray, List.set_cons_zero, List.set_cons_succ, zu, zz]
       rfl
      refine zea (i := 6) (N := some 26) (v := undef) (a' := ?_) #[true, true, true, true, true, true, true, false, false, false, false, false, false, false, false, false, false, false, false, false, false, false, false] rfl rfl (zaa HT_.out (by kernel_rfl)) (fun _ _ _ h => h) (Or.inr ⟨by rfl, rfl⟩) ?_ ?_
      rotate_left
      ·simp only [Act.put, List.setIfInBounds_toArray, List.set_cons_zero, List.set_cons_succ, zu, zz]
       rfl
      refine zea (i := 7) (N := some 27) (v := undef) (a' := ?_) #[true, true, true, true, true, true, true, true, false, false, false, false, false, false, false, false, false, false, false, false, false, false, false] rfl rfl (zaa HT_.out (by kernel_rfl)) (fun _ _ _ h => h) (Or.inr ⟨by rfl, rfl⟩) ?_ ?_
      rotate_left
      ·simp only [Act.put, List.setIfInBounds_toArray, List.set_cons_zero, List.set_cons_succ, zu, zz]
       rfl
      refine zea (i := 8) (N := some 28) (v := undef) (a' := ?_) #[true, true, true, true, true, true, true, true, true, false, false, false, false, false, false, false, false, false, false, false, false, false, false] rfl rfl (zaa HT_.out (by kernel_rfl)) (fun _ _ _ h => h) (Or.inr ⟨by rfl, rfl⟩) ?_ ?_
      rotate_left
      ·simp only [Act.put, List.setIfInBounds_toArray, List.set_cons_zero, List.set_cons_succ, zu, zz]
       rfl
      refine zea (i := 9) (N := some 29) (v := undef) (a' := ?_) #[true, true, true, true, true, true, true, true, true, true, false, false, false, false, false, false, false, false, false, false, false, false, false] rfl rfl (zaa HT_.out (by kernel_rfl)) (fun _ _ _ h => h) (Or.inr ⟨by rfl, rfl⟩) ?_ ?_
      rotate_left
      ·simp only [Act.put, List.setIfInBounds_toArray, List.set_cons_zero, List.set_cons_succ, zu, zz]
       rfl
      refine zea (i := 10) (N := some 30) (v := undef) (a' := ?_) #[true, true, true, true, true, true, true, true, true, true, true, false, false, false, false, false, false, false, false, false, false, false, false] rfl rfl (zaa HT_.out (by kernel_rfl)) (fun _ _ _ h => h) (Or.inr ⟨by rfl, rfl⟩) ?_ ?_
      rotate_left
      ·simp only [Act.put, List.setIfInBounds_toArray, List.set_cons_zero, List.set_cons_succ, zu, zz]
       rfl
      refine zea (i := 11) (N := some 31) (v := undef) (a' := ?_) #[true, true, true, true, true, true, true, true, true, true, true, true, false, false, false, false, false, false, false, false, false, false, false] rfl rfl (zaa HT_.out (by kernel_rfl)) (fun _ _ _ h => h) (Or.inr ⟨by rfl, rfl⟩) ?_ ?_
      rotate_left
      ·simp only [Act.put, List.setIfInBounds_toArray, List.set_cons_zero, List.set_cons_succ, zu, zz]
       rfl
      refine zea (i := 12) (N := some 32) (v := undef) (a' := ?_) #[true, true, true, true, true, true, true, true, true, true, true, true, true, false, false, false, false, false, false, false, false, false, false] rfl rfl (zaa HT_.out (by kernel_rfl)) (fun _ _ _ h => h) (Or.inr ⟨by rfl, rfl⟩) ?_ ?_
      rotate_left
      ·simp only [Act.put, List.setIfInBounds_toArray, List.set_cons_zero, List.set_cons_succ, zu, zz]
       rfl
      refine zea (i := 13) (N := some 33) (v := undef) (a' := ?_) #[true, true, true, true, true, true, true, true, true, true, true, true, true, true, false, false, false, false, false, false, false, false, false] rfl rfl (zaa HT_.out (by kernel_rfl)) (fun _ _ _ h => h) (Or.inr ⟨by rfl, rfl⟩) ?_ ?_
      rotate_left
      ·simp only [Act.put, List.setIfInBounds_toArray, List.set_cons_zero, List.set_cons_succ, zu, zz]
       rfl
      refine zea (i := 14) (N := some 34) (v := undef) (a' := ?_) #[true, true, true, true, true, true, true, true, true, true, true, true, true, true, true, false, false, false, false, false, false, false, false] rfl rfl (zaa HT_.out (by kernel_rfl)) (fun _ _ _ h => h) (Or.inr ⟨by rfl, rfl⟩) ?_ ?_
      rotate_left
      ·simp only [Act.put, List.setIfInBounds_toArray, List.set_cons_zero, List.set_cons_succ, zu, zz]
       rfl
      refine zea (i := 15) (N := some 35) (v := undef) (a' := ?_) #[true, true, true, true, true, true, true, true, true, true, true, true, true, true, true, true, false, false, false, false, false, false, false] rfl rfl (zaa HT_.out (by kernel_rfl)) (fun _ _ _ h => h) (Or.inr ⟨by rfl, rfl⟩) ?_ ?_
      rotate_left
      ·simp only [Act.put, List.setIfInBounds_toArray, List.set_cons_zero, List.set_cons_succ, zu, zz]
       rfl
      refine zea (i := 16) (N := some 36) (v := undef) (a' := ?_) #[true, true, true, true, true, true, true, true, true, true, true, true, true, true, true, true, true, false, false, false, false, false, false] rfl rfl (zaa HT_.out (by kernel_rfl)) (fun _ _ _ h => h) (Or.inr ⟨by rfl, rfl⟩) ?_ ?_
      rotate_left
      ·simp only [Act.put, List.setIfInBounds_toArray, List.set_cons_zero, List.set_cons_succ, zu, zz]
       rfl
      refine zea (i := 17) (N := some 37) (v := undef) (a' := ?_) #[true, true, true, true, true, true, true, true, true, true, true, true, true, true, true, true, true, true, false, false, false, false, false] rfl rfl (zaa HT_.out (by kernel_rfl)) (fun _ _ _ h => h) (Or.inr ⟨by rfl, rfl⟩) ?_ ?_
      rotate_left
      ·simp only [Act.put, List.setIfInBounds_toArray, List.set_cons_zero, List.set_cons_succ, zu, zz]
       rfl
      refine zea (i := 18) (N := some 38) (v := undef) (a' := ?_) #[true, true, true, true, true, true, true, true, true, true, true, true, true, true, true, true, true, true, true, false, false, false, false] rfl rfl (zaa HT_.out (by kernel_rfl)) (fun _ _ _ h => h) (Or.inr ⟨by rfl, rfl⟩) ?_ ?_
      rotate_left
      ·simp only [Act.put, List.setIfInBounds_toArray, List.set_cons_zero, List.set_cons_succ, zu, zz]
       rfl
      refine zea (i := 19) (N := some 39) (v := undef) (a' := ?_) #[true, true, true, true, true, true, true, true, true, true, true, true, true, true, true, true, true, true, true, true, false, false, false] rfl rfl (zaa HT_.out (by kernel_rfl)) (fun _ _ _ h => h) (Or.inr ⟨by rfl, rfl⟩) ?_ ?_
      rotate_left
      ·simp only [Act.put, List.setIfInBounds_toArray, List.set_cons_zero, List.set_cons_succ, zu, zz]
       rfl
      refine zea (i := 20) (N := some 40) (v := undef) (a' := ?_) #[true, true, true, true, true, true, true, true, true, true, true, true, true, true, true, true, true, true, true, true, true, false, false] rfl rfl (zaa HT_.out (by kernel_rfl)) (fun _ _ _ h => h) (Or.inr ⟨by rfl, rfl⟩) ?_ ?_
      rotate_left
      ·simp only [Act.put, List.setIfInBounds_toArray, List.set_cons_zero, List.set_cons_succ, zu, zz]
       rfl
      refine zea (i := 21) (N := some 41) (v := undef) (a' := ?_) #[true, true, true, true, true, true, true, true, true, true, true, true, true, true, true, true, true, true, true, true, true, true, false] rfl rfl (zaa HT_.out (by kernel_rfl)) (fun _ _ _ h => h) (Or.inr ⟨by rfl, rfl⟩) ?_ ?_
      rotate_left
      ·simp only [Act.put, List.setIfInBounds_toArray, List.set_cons_zero, List.set_cons_succ, zu, zz]
       rfl
      refine zea (i := 22) (N := some 42) (v := ?_) (a' := ?_) #[true, true, true, true, true, true, true, true, true, true, true, true, true, true, true, true, true, true, true, true, true, true, true] rfl rfl (zaa HT_.out (by kernel_rfl)) (fun _ _ _ h => h) (Or.inl ⟨by rfl, ?_⟩) ?_ ?_
      rotate_left
      ·intro w'
       go_simp
       with_reducible rfl
      rotate_left
      ·simp only [Act.put, List.setIfInBounds_toArray, List.set_cons_zero, List.set_cons_succ, zu, zz]
       rfl
      refine zmc (znb HT_.out (by kernel_rfl)) ?_
      have hcz28_0 : w27.cell? ⟨gb159, 0, none⟩ = some (.int .i16 ((zl t155 x16_1).f0.f0)) := (za BK159.out 0).trans rfl
      have hcz28_1 : w27.cell? ⟨gb159, 1, none⟩ = some (.int .i16 ((zl t155 x16_1).f0.f1)) := (za BK159.out 1).trans rfl
      have hcz28_2 : w27.cell? ⟨gb159, 2, none⟩ = some (.int .i16 ((zl t155 x16_1).f0.f2)) := (za BK159.out 2).trans rfl
      have hcz28_3 : w27.cell? ⟨gb159, 3, none⟩ = some (.int .i16 ((zl t155 x16_1).f0.f3)) := (za BK159.out 3).trans rfl
      have hcz28_4 : w27.cell? ⟨gb159, 4, none⟩ = some (.int .i64 ((zl t155 x16_1).f1)) := (za BK159.out 4).trans rfl
      have hcz28_5 : w27.cell? ⟨gb159, 5, none⟩ = some (.int .i8 ((zl t155 x16_1).f2.f0)) := (za BK159.out 5).trans rfl
      have hcz28_6 : w27.cell? ⟨gb159, 6, none⟩ = some (.int .i8 ((zl t155 x16_1).f2.f1)) := (za BK159.out 6).trans rfl
      have hcz28_7 : w27.cell? ⟨gb159, 7, none⟩ = some (.int .i8 ((zl t155 x16_1).f2.f2)) := (za BK159.out 7).trans rfl
      have hcz28_8 : w27.cell? ⟨gb159, 8, none⟩ = some (.int .i64 ((zl t155 x16_1).f3)) := (za BK159.out 8).trans rfl
      have hfz28_0 := ze BK159.out 0
      have hfz28_1 := ze BK159.out 1
      have hfz28_2 := ze BK159.out 2
      have hfz28_3 := ze BK159.out 3
      have hfz28_4 := ze BK159.out 4
      have hfz28_5 := ze BK159.out 5
      have hfz28_6 := ze BK159.out 6
      have hfz28_7 := ze BK159.out 7
      have hfz28_8 := ze BK159.out 8
      have hnb29 := NB154_151.out
      have hnc29 := NB151_154.out
      have hnb30 := NB154_152.out
      have hnc30 := NB152_154.out
      have hcz31_0 : w27.cell? ⟨gb154, 0, none⟩ = some (.int .i16 x155000_1) := (za BK154.out 0).trans rfl
      have hcz31_1 : w27.cell? ⟨gb154, 1, none⟩ = some (.int .i16 x155001_1) := (za BK154.out 1).trans rfl
      have hcz31_2 : w27.cell? ⟨gb154, 2, none⟩ = some (.int .i16 x155002_1) := (za BK154.out 2).trans rfl
      have hcz31_3 : w27.cell? ⟨gb154, 3, none⟩ = some (.int .i16 x155003_1) := (za BK154.out 3).trans rfl
      have hcz31_4 : w27.cell? ⟨gb154, 4, none⟩ = some (.int .i64 x155004_1) := (za BK154.out 4).trans rfl
      have hcz31_5 : w27.cell? ⟨gb154, 5, none⟩ = some (.int .i8 x155005_1) := (za BK154.out 5).trans rfl
      have hcz31_6 : w27.cell? ⟨gb154, 6, none⟩ = some (.int .i8 x155006_1) := (za BK154.out 6).trans rfl
      have hcz31_7 : w27.cell? ⟨gb154, 7, none⟩ = some (.int .i8 x155007_1) := (za BK154.out 7).trans rfl
      have hcz31_8 : w27.cell? ⟨gb154, 8, none⟩ = some (.int .i64 x155008_1) := (za BK154.out 8).trans rfl
      have hfz31_0 := ze BK154.out 0
      have hfz31_1 := ze BK154.out 1
      have hfz31_2 := ze BK154.out 2
      have hfz31_3 := ze BK154.out 3
      have hfz31_4 := ze BK154.out 4
      have hfz31_5 := ze BK154.out 5
      have hfz31_6 := ze BK154.out 6
      have hfz31_7 := ze BK154.out 7
      have hfz31_8 := ze BK154.out 8
      try go_wp2
      go_roundg k1
      case measure => have := HK1.out; omega
      case rel => exact ⟨(wrap64 (x16_1 + 1)), ((zl t155 x16_1).f0.f0), ((zl t155 x16_1).f0.f1), ((zl t155 x16_1).f0.f2), ((zl t155 x16_1).f0.f3), ((zl t155 x16_1).f1), ((zl t155 x16_1).f2.f0), ((zl t155 x16_1).f2.f1), ((zl t155 x16_1).f2.f2), ((zl t155 x16_1).f3), (by first | rfl | (simp; done) | (simp [*]; done)), H', ⟨by have := HK1.out; omega⟩, ⟨by (with_reducible repeat (first | apply Kd.R_alloc | apply Kd.R_drewN | apply Kd.R_drew)); exact Kd.R_mono (Kd.R_far (p := ⟨gb154, 8, none⟩) (Kd.R_far (p := ⟨gb154, 7, none⟩) (Kd.R_far (p := ⟨gb154, 6, none⟩) (Kd.R_far (p := ⟨gb154, 5, none⟩) (Kd.R_far (p := ⟨gb154, 4, none⟩) (Kd.R_far (p := ⟨gb154, 3, none⟩) (Kd.R_far (p := ⟨gb154, 2, none⟩) (Kd.R_far (p := ⟨gb154, 1, none⟩) (Kd.R_far (p := ⟨gb154, 0, none⟩) (Kd.R_mono HO_14.out (fun k_ hk => (⟨hk, hk.1⟩ : _ ∧ k_ ≠ gb154))) (fun _ hk => hk.2) (.int .i16 ((zl t155 x16_1).f0.f0))) (fun _ hk => hk.2) (.int .i16 ((zl t155 x16_1).f0.f1))) (fun _ hk => hk.2) (.int .i16 ((zl t155 x16_1).f0.f2))) (fun _ hk => hk.2) (.int .i16 ((zl t155 x16_1).f0.f3))) (fun _ hk => hk.2) (.int .i64 ((zl t155 x16_1).f1))) (fun _ hk => hk.2) (.int .i8 ((zl t155 x16_1).f2.f0))) (fun _ hk => hk.2) (.int .i8 ((zl t155 x16_1).f2.f1))) (fun _ hk => hk.2) (.int .i8 ((zl t155 x16_1).f2.f2))) (fun _ hk => hk.2) (.int .i64 ((zl t155 x16_1).f3))) (fun _ hk => hk.1.1)⟩, ⟨by (with_reducible repeat (first | refine zc ?_ _ | refine zf ?_ | refine zb ?_ _)); refine zn ?_ NB151_154.out _; (with_reducible repeat (first | refine zc ?_ _ | refine zf ?_ | refine zb ?_ _)); refine zn ?_ NB151_154.out _; (with_reducible repeat (first | refine zc ?_ _ | refine zf ?_ | refine zb ?_ _)); refine zn ?_ NB151_154.out _; (with_reducible repeat (first | refine zc ?_ _ | refine zf ?_ | refine zb ?_ _)); refine zn ?_ NB151_154.out _; (with_reducible repeat (first | refine zc ?_ _ | refine zf ?_ | refine zb ?_ _)); refine zn ?_ NB151_154.out _; (with_reducible repeat (first | refine zc ?_ _ | refine zf ?_ | refine zb ?_ _)); refine zn ?_ NB151_154.out _; (with_reducible repeat (first | refine zc ?_ _ | refine zf ?_ | refine zb ?_ _)); refine zn ?_ NB151_154.out _; (with_reducible repeat (first | refine zc ?_ _ | refine zf ?_ | refine zb ?_ _)); refine zn ?_ NB151_154.out _; (with_reducible repeat (first | refine zc ?_ _ | refine zf ?_ | refine zb ?_ _)); refine zn ?_ NB151_154.out _; (with_reducible repeat (first | refine zc ?_ _ | refine zf ?_ | refine zb ?_ _)); exact BK151.out⟩, ⟨by (with_reducible repeat (first | refine zc ?_ _ | refine zf ?_ | refine zb ?_ _)); refine zn ?_ NB152_154.out _; (with_reducible repeat (first | refine zc ?_ _ | refine zf ?_ | refine zb ?_ _)); refine zn ?_ NB152_154.out _; (with_reducible repeat (first | refine zc ?_ _ | refine zf ?_ | refine zb ?_ _)); refine zn ?_ NB152_154.out _; (with_reducible repeat (first | refine zc ?_ _ | refine zf ?_ | refine zb ?_ _)); refine zn ?_ NB152_154.out _; (with_reducible repeat (first | refine zc ?_ _ | refine zf ?_ | refine zb ?_ _)); refine zn ?_ NB152_154.out _; (with_reducible repeat (first | refine zc ?_ _ | refine zf ?_ | refine zb ?_ _)); refine zn ?_ NB152_154.out _; (with_reducible repeat (first | refine zc ?_ _ | refine zf ?_ | refine zb ?_ _)); refine zn ?_ NB152_154.out _; (with_reducible repeat (first | refine zc ?_ _ | refine zf ?_ | refine zb ?_ _)); refine zn ?_ NB152_154.out _; (with_reducible repeat (first | refine zc ?_ _ | refine zf ?_ | refine zb ?_ _)); refine zn ?_ NB152_154.out _; (with_reducible repeat (first | refine zc ?_ _ | refine zf ?_ | refine zb ?_ _)); exact BK152.out⟩, ⟨by (with_reducible repeat (first | refine zc ?_ _ | refine zf ?_ | refine zb ?_ _)); refine zw (cs := #[.int .i16 ((zl t155 x16_1).f0.f0), .int .i16 ((zl t155 x16_1).f0.f1), .int .i16 ((zl t155 x16_1).f0.f2), .int .i16 ((zl t155 x16_1).f0.f3), .int .i64 ((zl t155 x16_1).f1), .int .i8 ((zl t155 x16_1).f2.f0), .int .i8 ((zl t155 x16_1).f2.f1), .int .i8 ((zl t155 x16_1).f2.f2), .int .i64 x155008_1]) ?_ 8 _ rfl; (with_reducible repeat (first | refine zc ?_ _ | refine zf ?_ | refine zb ?_ _)); refine zw (cs := #[.int .i16 ((zl t155 x16_1).f0.f0), .int .i16 ((zl t155 x16_1).f0.f1), .int .i16 ((zl t155 x16_1).f0.f2), .int .i16 ((zl t155 x16_1).f0.f3), .int .i64 ((zl t155 x16_1).f1), .int .i8 ((zl t155 x16_1).f2.f0), .int .i8 ((zl t155 x16_1).f2.f1), .int .i8 x155007_1, .int .i64 x155008_1]) ?_ 7 _ rfl; (with_reducible repeat (first | refine zc ?_ _ | refine zf ?_ | refine zb ?_ _)); refine zw (cs := #[.int .i16 ((zl t155 x16_1).f0.f0), .int .i16 ((zl t155 x16_1).f0.f1), .int .i16 ((zl t155 x16_1).f0.f2), .int .i16 ((zl t155 x16_1).f0.f3), .int .i64 ((zl t155 x16_1).f1), .int .i8 ((zl t155 x16_1).f2.f0), .int .i8 x155006_1, .int .i8 x155007_1, .int .i64 x155008_1]) ?_ 6 _ rfl; (with_reducible repeat (first | refine zc ?_ _ | refine zf ?_ | refine zb ?_ _)); refine zw (cs := #[.int .i16 ((zl t155 x16_1).f0.f0), .int .i16 ((zl t155 x16_1).f0.f1), .int .i16 ((zl t155 x16_1).f0.f2), .int .i16 ((zl t155 x16_1).f0.f3), .int .i64 ((zl t155 x16_1).f1), .int .i8 x155005_1, .int .i8 x155006_1, .int .i8 x155007_1, .int .i64 x155008_1]) ?_ 5 _ rfl; (with_reducible repeat (first | refine zc ?_ _ | refine zf ?_ | refine zb ?_ _)); refine zw (cs := #[.int .i16 ((zl t155 x16_1).f0.f0), .int .i16 ((zl t155 x16_1).f0.f1), .int .i16 ((zl t155 x16_1).f0.f2), .int .i16 ((zl t155 x16_1).f0.f3), .int .i64 x155004_1, .int .i8 x155005_1, .int .i8 x155006_1, .int .i8 x155007_1, .int .i64 x155008_1]) ?_ 4 _ rfl; (with_reducible repeat (first | refine zc ?_ _ | refine zf ?_ | refine zb ?_ _)); refine zw (cs := #[.int .i16 ((zl t155 x16_1).f0.f0), .int .i16 ((zl t155 x16_1).f0.f1), .int .i16 ((zl t155 x16_1).f0.f2), .int .i16 x155003_1, .int .i64 x155004_1, .int .i8 x155005_1, .int .i8 x155006_1, .int .i8 x155007_1, .int .i64 x155008_1]) ?_ 3 _ rfl; (with_reducible repeat (first | refine zc ?_ _ | refine zf ?_ | refine zb ?_ _)); refine zw (cs := #[.int .i16 ((zl t155 x16_1).f0.f0), .int .i16 ((zl t155 x16_1).f0.f1), .int .i16 x155002_1, .int .i16 x155003_1, .int .i64 x155004_1, .int .i8 x155005_1, .int .i8 x155006_1, .int .i8 x155007_1, .int .i64 x155008_1]) ?_ 2 _ rfl; (with_reducible repeat (first | refine zc ?_ _ | refine zf ?_ | refine zb ?_ _)); refine zw (cs := #[.int .i16 ((zl t155 x16_1).f0.f0), .int .i16 x155001_1, .int .i16 x155002_1, .int .i16 x155003_1, .int .i64 x155004_1, .int .i8 x155005_1, .int .i8 x155006_1, .int .i8 x155007_1, .int .i64 x155008_1]) ?_ 1 _ rfl; (with_reducible repeat (first | refine zc ?_ _ | refine zf ?_ | refine zb ?_ _)); refine zw (cs := #[.int .i16 x155000_1, .int .i16 x155001_1, .int .i16 x155002_1, .int .i16 x155003_1, .int .i64 x155004_1, .int .i8 x155005_1, .int .i8 x155006_1, .int .i8 x155007_1, .int .i64 x155008_1]) ?_ 0 _ rfl; (with_reducible repeat (first | refine zc ?_ _ | refine zf ?_ | refine zb ?_ _)); exact BK154.out⟩, ⟨by repeat (first | (with_reducible first | exact HB.out | apply zk | apply zg | apply zj | refine zi ?_ GE151.out | refine zi ?_ GE152.out | refine zi ?_ GE154.out | refine zi ?_ GE159.out) | exact HB.out)⟩⟩
     rw [if_neg c20] at H
     have c20b0 : decide (x155008_1 < ((zl t155 x16_1).f3)) = false := decide_eq_false c20
     clear c20
     by_cases c32 : ((zl t155 x16_1).f3) = x155008_1
     ·rw [if_pos c32] at H
      have c32b0 : (((zl t155 x16_1).f3) == x155008_1) = true := beq_iff_eq.mpr c32
      have c32b1 : (((zl t155 x16_1).f3) != x155008_1) = false := bne_eq_false_iff_eq.mpr c32
      clear c32
      replace H := Option.bind_eq_some_iff.mp H
      obtain ⟨t160, A330, H⟩ := H
      replace H : ((impl_Puzzle_index.f l0_0 a0_1 a0_2 a0_3 a0_4 a0_5 x155000_1 x155001_1 x155002_1 x155003_1).bind fun t161 => (if t160 < t161 then (impl_HardestWater.l0 k1 t155 (t155.length : Int) (wrap64 (x16_1 + 1)) l0_0 a0_1 a0_2 a0_3 a0_4 a0_5 ((zl t155 x16_1).f0.f0) ((zl t155 x16_1).f0.f1) ((zl t155 x16_1).f0.f2) ((zl t155 x16_1).f0.f3) ((zl t155 x16_1).f1) ((zl t155 x16_1).f2.f0) ((zl t155 x16_1).f2.f1) ((zl t155 x16_1).f2.f2) ((zl t155 x16_1).f3)) else (impl_HardestWater.l0 k1 t155 (t155.length : Int) (wrap64 (x16_1 + 1)) l0_0 a0_1 a0_2 a0_3 a0_4 a0_5 x155000_1 x155001_1 x155002_1 x155003_1 x155004_1 x155005_1 x155006_1 x155007_1 x155008_1))) = some (r1, r2, r3, r4, r5, r6) := H
      have A33 := zh.mk A330
      clear A330
      replace H := Option.bind_eq_some_iff.mp H
      obtain ⟨t161, A340, H⟩ := H
      replace H : (if t160 < t161 then (impl_HardestWater.l0 k1 t155 (t155.length : Int) (wrap64 (x16_1 + 1)) l0_0 a0_1 a0_2 a0_3 a0_4 a0_5 ((zl t155 x16_1).f0.f0) ((zl t155 x16_1).f0.f1) ((zl t155 x16_1).f0.f2) ((zl t155 x16_1).f0.f3) ((zl t155 x16_1).f1) ((zl t155 x16_1).f2.f0) ((zl t155 x16_1).f2.f1) ((zl t155 x16_1).f2.f2) ((zl t155 x16_1).f3)) else (impl_HardestWater.l0 k1 t155 (t155.length : Int) (wrap64 (x16_1 + 1)) l0_0 a0_1 a0_2 a0_3 a0_4 a0_5 x155000_1 x155001_1 x155002_1 x155003_1 x155004_1 x155005_1 x155006_1 x155007_1 x155008_1)) = some (r1, r2, r3, r4, r5, r6) := H
      have A34 := zh.mk A340
      clear A340
      have HS_ := zh.mk H
      clear H
      refine zrb (n := 23) (S := fun w' => w'.cell? ⟨gb159, 0, none⟩ = some (.int .i16 ((zl t155 x16_1).f0.f0)) ∧ w'.cell? ⟨gb159, 1, none⟩ = some (.int .i16 ((zl t155 x16_1).f0.f1)) ∧ w'.cell? ⟨gb159, 2, none⟩ = some (.int .i16 ((zl t155 x16_1).f0.f2)) ∧ w'.cell? ⟨gb159, 3, none⟩ = some (.int .i16 ((zl t155 x16_1).f0.f3)) ∧ w'.cell? ⟨gb159, 4, none⟩ = some (.int .i64 ((zl t155 x16_1).f1)) ∧ w'.cell? ⟨gb159, 5, none⟩ = some (.int .i8 ((zl t155 x16_1).f2.f0)) ∧ w'.cell? ⟨gb159, 6, none⟩ = some (.int .i8 ((zl t155 x16_1).f2.f1)) ∧ w'.cell? ⟨gb159, 7, none⟩ = some (.int .i8 ((zl t155 x16_1).f2.f2)) ∧ w'.cell? ⟨gb159, 8, none⟩ = some (.int .i64 ((zl t155 x16_1).f3)) ∧ w'.cell? ⟨gb154, 0, none⟩ = some (.int .i16 x155000_1) ∧ w'.cell? ⟨gb154, 1, none⟩ = some (.int .i16 x155001_1) ∧ w'.cell? ⟨gb154, 2, none⟩ = some (.int .i16 x155002_1) ∧ w'.cell? ⟨gb154, 3, none⟩ = some (.int .i16 x155003_1) ∧ w'.cell? ⟨gb154, 4, none⟩ = some (.int .i64 x155004_1) ∧ w'.cell? ⟨gb154, 5, none⟩ = some (.int .i8 x155005_1) ∧ w'.cell? ⟨gb154, 6, none⟩ = some (.int .i8 x155006_1) ∧ w'.cell? ⟨gb154, 7, none⟩ = some (.int .i8 x155007_1) ∧ w'.cell? ⟨gb154, 8, none⟩ = some (.int .i64 x155008_1) ∧ w'.cell? ⟨gb151, 0, none⟩ = some (.slice A0_0 l0_0.length c0_0) ∧ w'.cell? ⟨gb151, 1, none⟩ = some (.int .i16 a0_1) ∧ w'.cell? ⟨gb151, 2, none⟩ = some (.int .i16 a0_2) ∧ w'.cell? ⟨gb151, 3, none⟩ = some (.int .i16 a0_3) ∧ w'.cell? ⟨gb151, 4, none⟩ = some (.int .i16 a0_4) ∧ w'.cell? ⟨gb151, 5, none⟩ = some (.bool a0_5)) (ds := []) #[false, false, false, false, false, false, false, false, false, false, false, false, false, false, false, false, false, false, false, false, false, false, false] (by kernel_rfl) rfl rfl ⟨(za BK159.out 0).trans rfl, (za BK159.out 1).trans rfl, (za BK159.out 2).trans rfl, (za BK159.out 3).trans rfl, (za BK159.out 4).trans rfl, (za BK159.out 5).trans rfl, (za BK159.out 6).trans rfl, (za BK159.out 7).trans rfl, (za BK159.out 8).trans rfl, (za BK154.out 0).trans rfl, (za BK154.out 1).trans rfl, (za BK154.out 2).trans rfl, (za BK154.out 3).trans rfl, (za BK154.out 4).trans rfl, (za BK154.out 5).trans rfl, (za BK154.out 6).trans rfl, (za BK154.out 7).trans rfl, (za BK154.out 8).trans rfl, (za BK151.out 0).trans rfl, (za BK151.out 1).trans rfl, (za BK151.out 2).trans rfl, (za BK151.out 3).trans rfl, (za BK151.out 4).trans rfl, (za BK151.out 5).trans rfl⟩ (fun hHeld => ?_); refine zab impl_HardestWater.tab7 impl_HardestWater.bits7 (fun HT_ HW_ => ?_)
      generalize w26.drew = w42 at HO_14 BK151 BK152 BK154 BK159 HB hHeld ⊢
      refine zea (i := 0) (N := some 20) (v := ?_) (a' := ?_) #[true, false, false, false, false, false, false, false, false, false, false, false, false, false, false, false, false, false, false, false, false, false, false] rfl rfl (zaa HT_.out (by kernel_rfl)) (fun _ _ _ h => h) (Or.inl ⟨by rfl, ?_⟩) ?_ ?_
      rotate_left
      ·intro w'
       go_simp
       with_reducible rfl
      rotate_left
      ·simp only [Act.put, List.setIfInBounds_toArray, List.set_cons_zero, List.set_cons_succ, zu, zz]
       rfl
      refine zea (i := 2) (N := some 22) (v := ?_) (a' := ?_) #[true, false, true, false, false, false, false, false, false, false, false, false, false, false, false, false, false, false, false, false, false, false, false] rfl rfl (zaa HT_.out (by kernel_rfl)) (fun _ _ _ h => h) (Or.inl ⟨by rfl, ?_⟩) ?_ ?_
      rotate_left
      ·intro w'
       go_simp
       with_reducible rfl
      rotate_left
      ·simp only [Act.put, List.setIfInBounds_toArray, List.set_cons_zero, List.set_cons_succ, zu, zz]
       rfl
      refine take_ (i := 1) (N := some 21) (v := ?_) (a' := ?_) #[true, true, true, false, false, false, false, false, false, false, false, false, false, false, false, false, false, false, false, false, false, false, false] rfl rfl (zia HT_.out HW_.out (by kernel_rfl)) (fun _ _ _ h => h) (Or.inl ⟨by rfl, ?_⟩) hHeld ?_ ?_
      rotate_left
      ·rintro w' ⟨s0, s1, s2, s3, s4, s5, s6, s7, s8, s9, s10, s11, s12, s13, s14, s15, s16, s17, s18, s19, s20, s21, s22, s23⟩
       go_simp
       with_reducible rfl
      rotate_left
      ·simp only [Act.put, List.setIfInBounds_toArray, List.set_cons_zero, List.set_cons_succ, zu, zz]
       rfl
      refine take_ (i := 3) (N := some 23) (v := ?_) (a' := ?_) #[true, true, true, true, false, false, false, false, false, false, false, false, false, false, false, false, false, false, false, false, false, false, false] rfl rfl (zia HT_.out HW_.out (by kernel_rfl)) (fun _ _ _ h => h) (Or.inl ⟨by rfl, ?_⟩) hHeld ?_ ?_
      rotate_left
      ·rintro w' ⟨s0, s1, s2, s3, s4, s5, s6, s7, s8, s9, s10, s11, s12, s13, s14, s15, s16, s17, s18, s19, s20, s21, s22, s23⟩
       go_simp
       with_reducible rfl
      rotate_left
      ·simp only [Act.put, List.setIfInBounds_toArray, List.set_cons_zero, List.set_cons_succ, zu, zz]
       rfl
      refine zea (i := 4) (N := some 24) (v := ?_) (a' := ?_) #[true, true, true, true, true, false, false, false, false, false, false, false, false, false, false, false, false, false, false, false, false, false, false] rfl rfl (zaa HT_.out (by kernel_rfl)) (fun _ _ _ h => h) (Or.inl ⟨by rfl, ?_⟩) ?_ ?_
      rotate_left
      ·intro w'
       go_simp
       with_reducible rfl
      rotate_left
      ·simp only [Act.put, List.setIfInBounds_toArray, List.set_cons_zero, List.set_cons_succ, zu, zz]
       rfl
      refine zea (i := 5) (N := some 25) (v := ?_) (a' := ?_) #[true, true, true, true, true, true, false, false, false, false, false, false, false, false, false, false, false, false, false, false, false, false, false] rfl rfl (zaa HT_.out (by kernel_rfl)) (fun _ _ _ h => h) (Or.inl ⟨by rfl, ?_⟩) ?_ ?_
      rotate_left
      ·intro w'
       go_simp
       with_reducible rfl
      rotate_left
      ·simp only [Act.put, List.setIfInBounds_toArray, List.set_cons_zero, List.set_cons_succ, zu, zz]
       rfl
      refine zea (i := 6) (N := some 26) (v := ?_) (a' := ?_) #[true, true, true, true, true, true, true, false, false, false, false, false, false, false, false, false, false, false, false, false, false, false, false] rfl rfl (zaa HT_.out (by kernel_rfl)) (fun _ _ _ h => h) (Or.inl ⟨by rfl, ?_⟩) ?_ ?_
      rotate_left
      ·intro w'
       go_simp
       with_reducible rfl
      rotate_left
      ·simp only [Act.put, List.setIfInBounds_toArray, List.set_cons_zero, List.set_cons_succ, zu, zz]
       rfl
      refine zea (i := 8) (N := some 28) (v := ?_) (a' := ?_) #[true, true, true, true, true, true, true, false, true, false, false, false, false, false, false, false, false, false, false, false, false, false, false] rfl rfl (zaa HT_.out (by kernel_rfl)) (fun _ _ _ h => h) (Or.inl ⟨by rfl, ?_⟩) ?_ ?_
      rotate_left
      ·intro w'
       go_simp
       with_reducible rfl
      rotate_left
      ·simp only [Act.put, List.setIfInBounds_toArray, List.set_cons_zero, List.set_cons_succ, zu, zz]
       rfl
      refine take_ (i := 7) (N := some 27) (v := ?_) (a' := ?_) #[true, true, true, true, true, true, true, true, true, false, false, false, false, false, false, false, false, false, false, false, false, false, false] rfl rfl (zia HT_.out HW_.out (by kernel_rfl)) (fun _ _ _ h => h) (Or.inl ⟨by rfl, ?_⟩) hHeld ?_ ?_
      rotate_left
      ·rintro w' ⟨s0, s1, s2, s3, s4, s5, s6, s7, s8, s9, s10, s11, s12, s13, s14, s15, s16, s17, s18, s19, s20, s21, s22, s23⟩
       go_simp
       with_reducible rfl
      rotate_left
      ·simp only [Act.put, List.setIfInBounds_toArray, List.set_cons_zero, List.set_cons_succ, zu, zz]
       rfl
      refine take_ (i := 9) (N := some 29) (v := ?_) (a' := ?_) #[true, true, true, true, true, true, true, true, true, true, false, false, false, false, false, false, false, false, false, false, false, false, false] rfl rfl (zia HT_.out HW_.out (by kernel_rfl)) (fun _ _ _ h => h) (Or.inl ⟨by rfl, ?_⟩) hHeld ?_ ?_
      rotate_left
      ·rintro w' ⟨s0, s1, s2, s3, s4, s5, s6, s7, s8, s9, s10, s11, s12, s13, s14, s15, s16, s17, s18, s19, s20, s21, s22, s23⟩
       go_simp
       with_reducible rfl
      rotate_left
      ·simp only [Act.put, List.setIfInBounds_toArray, List.set_cons_zero, List.set_cons_succ, zu, zz]
       rfl
      refine zea (i := 10) (N := some 30) (v := ?_) (a' := ?_) #[true, true, true, true, true, true, true, true, true, true, true, false, false, false, false, false, false, false, false, false, false, false, false] rfl rfl (zaa HT_.out (by kernel_rfl)) (fun _ _ _ h => h) (Or.inl ⟨by rfl, ?_⟩) ?_ ?_
      rotate_left
      ·intro w'
       go_simp
       with_reducible rfl
      rotate_left
      ·simp only [Act.put, List.setIfInBounds_toArray, List.set_cons_zero, List.set_cons_succ, zu, zz]
       rfl
      refine zea (i := 11) (N := some 31) (v := ?_) (a' := ?_) #[true, true, true, true, true, true, true, true, true, true, true, true, false, false, false, false, false, false, false, false, false, false, false] rfl rfl (zaa HT_.out (by kernel_rfl)) (fun _ _ _ h => h) (Or.inl ⟨by rfl, ?_⟩) ?_ ?_
      rotate_left
      ·intro w'
       go_simp
       with_reducible rfl
      rotate_left
      ·simp only [Act.put, List.setIfInBounds_toArray, List.set_cons_zero, List.set_cons_succ, zu, zz]
       rfl
      refine zea (i := 13) (N := some 33) (v := ?_) (a' := ?_) #[true, true, true, true, true, true, true, true, true, true, true, true, false, true, false, false, false, false, false, false, false, false, false] rfl rfl (zaa HT_.out (by kernel_rfl)) (fun _ _ _ h => h) (Or.inl ⟨by rfl, ?_⟩) ?_ ?_
      rotate_left
      ·intro w'
       go_simp
       with_reducible rfl
      rotate_left
      ·simp only [Act.put, List.setIfInBounds_toArray, List.set_cons_zero, List.set_cons_succ, zu, zz]
       rfl
      refine zea (i := 17) (N := some 37) (v := ?_) (a' := ?_) #[true, true, true, true, true, true, true, true, true, true, true, true, false, true, false, false, false, true, false, false, false, false, false] rfl rfl (zaa HT_.out (by kernel_rfl)) (fun _ _ _ h => h) (Or.inl ⟨by rfl, ?_⟩) ?_ ?_
      rotate_left
      ·intro w'
       go_simp
       with_reducible rfl
      rotate_left
      ·simp only [Act.put, List.setIfInBounds_toArray, List.set_cons_zero, List.set_cons_succ, zu, zz]
       rfl
      refine take_ (i := 12) (N := some 32) (v := ?_) (a' := ?_) #[true, true, true, true, true, true, true, true, true, true, true, true, true, true, false, false, false, true, false, false, false, false, false] rfl rfl (zia HT_.out HW_.out (by kernel_rfl)) (fun _ _ _ h => h) (Or.inl ⟨by rfl, ?_⟩) hHeld ?_ ?_
      rotate_left
      ·rintro w' ⟨s0, s1, s2, s3, s4, s5, s6, s7, s8, s9, s10, s11, s12, s13, s14, s15, s16, s17, s18, s19, s20, s21, s22, s23⟩
       go_simp
       with_reducible rfl
      rotate_left
      ·simp only [Act.put, List.setIfInBounds_toArray, List.set_cons_zero, List.set_cons_succ, zu, zz]
       rfl
      refine take_ (i := 14) (N := some 34) (v := ?_) (a' := ?_) #[true, true, true, true, true, true, true, true, true, true, true, true, true, true, true, false, false, true, false, false, false, false, false] rfl rfl (zia HT_.out HW_.out (by kernel_rfl)) (fun _ _ _ h => h) (Or.inl ⟨by rfl, ?_⟩) hHeld ?_ ?_
      rotate_left
      ·rintro w' ⟨s0, s1, s2, s3, s4, s5, s6, s7, s8, s9, s10, s11, s12, s13, s14, s15, s16, s17, s18, s19, s20, s21, s22, s23⟩
       go_simp
       with_reducible rfl
      rotate_left
      ·simp only [Act.put, List.setIfInBounds_toArray, List.set_cons_zero, List.set_cons_succ, zu, zz]
       rfl
      refine take_ (i := 16) (N := some 36) (v := ?_) (a' := ?_) #[true, true, true, true, true, true, true, true, true, true, true, true, true, true, true, false, true, true, false, false, false, false, false] rfl rfl (zia HT_.out HW_.out (by kernel_rfl)) (fun _ _ _ h => h) (Or.inl ⟨by rfl, ?_⟩) hHeld ?_ ?_
      rotate_left
      ·rintro w' ⟨s0, s1, s2, s3, s4, s5, s6, s7, s8, s9, s10, s11, s12, s13, s14, s15, s16, s17, s18, s19, s20, s21, s22, s23⟩
       go_simp
       with_reducible rfl
      rotate_left
      ·simp only [Act.put, List.setIfInBounds_toArray, List.set_cons_zero, List.set_cons_succ, zu, zz]
       rfl
      refine take_ (i := 18) (N := some 38) (v := ?_) (a' := ?_) #[true, true, true, true, true, true, true, true, true, true, true, true, true, true, true, false, true, true, true, false, false, false, false] rfl rfl (zia HT_.out HW_.out (by kernel_rfl)) (fun _ _ _ h => h) (Or.inl ⟨by rfl, ?_⟩) hHeld ?_ ?_
      rotate_left
      ·rintro w' ⟨s0, s1, s2, s3, s4, s5, s6, s7, s8, s9, s10, s11, s12, s13, s14, s15, s16, s17, s18, s19, s20, s21, s22, s23⟩
       go_simp
       with_reducible rfl
      rotate_left
      ·simp only [Act.put, List.setIfInBounds_toArray, List.set_cons_zero, List.set_cons_succ, zu, zz]
       rfl
      refine one_ (i := 15) (N := some 35) #[true, true, true, true, true, true, true, true, true, true, true, true, true, true, true, true, true, true, true, false, false, false, false] rfl rfl (zgb HT_.out (by kernel_rfl)) (by decide) (fun K hK => ?_)
      refine zbd Try.func56 (by kernel_rfl) rfl #[.agg #[.slice A0_0 l0_0.length c0_0, .int .i16 a0_1, .int .i16 a0_2, .int .i16 a0_3, .int .i16 a0_4, .bool a0_5], .agg #[.int .i16 ((zl t155 x16_1).f0.f0), .int .i16 ((zl t155 x16_1).f0.f1), .int .i16 ((zl t155 x16_1).f0.f2), .int .i16 ((zl t155 x16_1).f0.f3)]] (by rfl) rfl rfl (by (try simp only [List.map_toArray, List.map_cons, List.map_nil]); first | done | rfl | (simp only [List.length_drop, List.length_take]; rfl)) ?_
      with_reducible refine (impl_Puzzle_index.calls _ _ l0_0 a0_1 a0_2 a0_3 a0_4 a0_5 ((zl t155 x16_1).f0.f0) ((zl t155 x16_1).f0.f1) ((zl t155 x16_1).f0.f2) ((zl t155 x16_1).f0.f3) t160 _ ?side1 ?side2 A33.out).mono ?_
      (case side1 => repeat (first | exact (Kd.C_below HR0_0.out HB.out) | (with_reducible refine Kd.C_alloc ?_ _) | (with_reducible refine Kd.C_drewN ?_ _) | (with_reducible refine Kd.C_drew ?_)))
      (case side2 => exact HC0_0.out)
      rintro e w43 ⟨rfl, hb⟩
      refine ⟨_, rfl, ?_⟩
      have n0_ := zh.mk (Kd.R_below (by (with_reducible repeat (first | apply Kd.R_alloc | apply Kd.R_drewN | apply Kd.R_drew)); exact HO_14.out) hb)
      have n1_ := zh.mk (zm (by (with_reducible repeat (first | refine zc ?_ _ | refine zf ?_ | refine zb ?_ _)); exact BK151.out) hb)
      have n2_ := zh.mk (zm (by (with_reducible repeat (first | refine zc ?_ _ | refine zf ?_ | refine zb ?_ _)); exact BK152.out) hb)
      have n3_ := zh.mk (zm (by (with_reducible repeat (first | refine zc ?_ _ | refine zf ?_ | refine zb ?_ _)); exact BK154.out) hb)
      have n4_ := zh.mk (zm (by (with_reducible repeat (first | refine zc ?_ _ | refine zf ?_ | refine zb ?_ _)); exact BK159.out) hb)
      have n5_ := zh.mk (zo (by repeat (first | (with_reducible first | exact HB.out | apply zk | apply zg | apply zj | refine zi ?_ GE151.out | refine zi ?_ GE152.out | refine zi ?_ GE154.out | refine zi ?_ GE159.out) | exact HB.out)) hb)
      clear HO_14
      clear BK151
      clear BK152
      clear BK154
      clear BK159
      clear HB
      have HO_14 := n0_
      have BK151 := n1_
      have BK152 := n2_
      have BK154 := n3_
      have BK159 := n4_
      have HB := n5_
      clear n0_ n1_ n2_ n3_ n4_ n5_
      (try clear hb)
      (try clear hb2)
      (try clear hk)
      (try clear hi)
      refine hK.out _ _ ⟨(za BK159.out 0).trans rfl, (za BK159.out 1).trans rfl, (za BK159.out 2).trans rfl, (za BK159.out 3).trans rfl, (za BK159.out 4).trans rfl, (za BK159.out 5).trans rfl, (za BK159.out 6).trans rfl, (za BK159.out 7).trans rfl, (za BK159.out 8).trans rfl, (za BK154.out 0).trans rfl, (za BK154.out 1).trans rfl, (za BK154.out 2).trans rfl, (za BK154.out 3).trans rfl, (za BK154.out 4).trans rfl, (za BK154.out 5).trans rfl, (za BK154.out 6).trans rfl, (za BK154.out 7).trans rfl, (za BK154.out 8).trans rfl, (za BK151.out 0).trans rfl, (za BK151.out 1).trans rfl, (za BK151.out 2).trans rfl, (za BK151.out 3).trans rfl, (za BK151.out 4).trans rfl, (za BK151.out 5).trans rfl⟩ (fun hHeld => ?_)
      clear hK K
      refine zqa (a' := ?_) ?_ ?_
      rotate_left
      ·show Act.put _ (some 35) _ = _
       simp only [Act.put, List.setIfInBounds_toArray, List.set_cons_zero, List.set_cons_succ, zu, zz]
       rfl
      refine one_ (i := 19) (N := some 39) #[true, true, true, true, true, true, true, true, true, true, true, true, true, true, true, true, true, true, true, true, false, false, false] rfl rfl (zgb HT_.out (by kernel_rfl)) (by decide) (fun K hK => ?_)
      refine zbd Try.func56 (by kernel_rfl) rfl #[.agg #[.slice A0_0 l0_0.length c0_0, .int .i16 a0_1, .int .i16 a0_2, .int .i16 a0_3, .int .i16 a0_4, .bool a0_5], .agg #[.int .i16 x155000_1, .int .i16 x155001_1, .int .i16 x155002_1, .int .i16 x155003_1]] (by rfl) rfl rfl (by (try simp only [List.map_toArray, List.map_cons, List.map_nil]); first | done | rfl | (simp only [List.length_drop, List.length_take]; rfl)) ?_
      with_reducible refine (impl_Puzzle_index.calls _ _ l0_0 a0_1 a0_2 a0_3 a0_4 a0_5 x155000_1 x155001_1 x155002_1 x155003_1 t161 _ ?side1 ?side2 A34.out).mono ?_
      (case side1 => repeat (first | exact (Kd.C_below HR0_0.out HB.out) | (with_reducible refine Kd.C_alloc ?_ _) | (with_reducible refine Kd.C_drewN ?_ _) | (with_reducible refine Kd.C_drew ?_)))
      (case side2 => exact HC0_0.out)
      rintro e w44 ⟨rfl, hb⟩
      refine ⟨_, rfl, ?_⟩
      have n0_ := zh.mk (Kd.R_below (by (with_reducible repeat (first | apply Kd.R_alloc | apply Kd.R_drewN | apply Kd.R_drew)); exact HO_14.out) hb)
      have n1_ := zh.mk (zm (by (with_reducible repeat (first | refine zc ?_ _ | refine zf ?_ | refine zb ?_ _)); exact BK151.out) hb)
      have n2_ := zh.mk (zm (by (with_reducible repeat (first | refine zc ?_ _ | refine zf ?_ | refine zb ?_ _)); exact BK152.out) hb)
      have n3_ := zh.mk (zm (by (with_reducible repeat (first | refine zc ?_ _ | refine zf ?_ | refine zb ?_ _)); exact BK154.out) hb)
      have n4_ := zh.mk (zm (by (with_reducible repeat (first | refine zc ?_ _ | refine zf ?_ | refine zb ?_ _)); exact BK159.out) hb)
      have n5_ := zh.mk (zo (by repeat (first | (with_reducible first | exact HB.out | apply zk | apply zg | apply zj | refine zi ?_ GE151.out | refine zi ?_ GE152.out | refine zi ?_ GE154.out | refine zi ?_ GE159.out) | exact HB.out)) hb)
      clear HO_14
      clear BK151
      clear BK152
      clear BK154
      clear BK159
      clear HB
      have HO_14 := n0_
      have BK151 := n1_
      have BK152 := n2_
      have BK154 := n3_
      have BK159 := n4_
      have HB := n5_
      clear n0_ n1_ n2_ n3_ n4_ n5_
      (try clear hb)
      (try clear hb2)
      (try clear hk)
      (try clear hi)
      refine hK.out _ _ ⟨(za BK159.out 0).trans rfl, (za BK159.out 1).trans rfl, (za BK159.out 2).trans rfl, (za BK159.out 3).trans rfl, (za BK159.out 4).trans rfl, (za BK159.out 5).trans rfl, (za BK159.out 6).trans rfl, (za BK159.out 7).trans rfl, (za BK159.out 8).trans rfl, (za BK154.out 0).trans rfl, (za BK154.out 1).trans rfl, (za BK154.out 2).trans rfl, (za BK154.out 3).trans rfl, (za BK154.out 4).trans rfl, (za BK154.out 5).trans rfl, (za BK154.out 6).trans rfl, (za BK154.out 7).trans rfl, (za BK154.out 8).trans rfl, (za BK151.out 0).trans rfl, (za BK151.out 1).trans rfl, (za BK151.out 2).trans rfl, (za BK151.out 3).trans rfl, (za BK151.out 4).trans rfl, (za BK151.out 5).trans rfl⟩ (fun hHeld => ?_)
      clear hK K
      refine zqa (a' := ?_) ?_ ?_
      rotate_left
      ·show Act.put _ (some 39) _ = _
       simp only [Act.put, List.setIfInBounds_toArray, List.set_cons_zero, List.set_cons_succ, zu, zz]
       rfl
      refine zea (i := 20) (N := some 40) (v := ?_) (a' := ?_) #[true, true, true, true, true, true, true, true, true, true, true, true, true, true, true, true, true, true, true, true, true, false, false] rfl rfl (zaa HT_.out (by kernel_rfl)) (fun _ _ _ h => h) (Or.inl ⟨by rfl, ?_⟩) ?_ ?_
      rotate_left
      ·intro w'
       go_simp
       with_reducible rfl
      rotate_left
      ·simp only [Act.put, List.setIfInBounds_toArray, List.set_cons_zero, List.set_cons_succ, zu, zz]
       rfl
      refine zea (i := 21) (N := some 41) (v := ?_) (a' := ?_) #[true, true, true, true, true, true, true, true, true, true, true, true, true, true, true, true, true, true, true, true, true, true, false] rfl rfl (zaa HT_.out (by kernel_rfl)) (fun _ _ _ h => h) (Or.inl ⟨by rfl, ?_⟩) ?_ ?_
      rotate_left
      ·intro w'
       go_simp
       with_reducible rfl
      rotate_left
      ·simp only [Act.put, List.setIfInBounds_toArray, List.set_cons_zero, List.set_cons_succ, zu, zz]
       rfl
      refine zea (i := 22) (N := some 42) (v := ?_) (a' := ?_) #[true, true, true, true, true, true, true, true, true, true, true, true, true, true, true, true, true, true, true, true, true, true, true] rfl rfl (zaa HT_.out (by kernel_rfl)) (fun _ _ _ h => h) (Or.inl ⟨by rfl, ?_⟩) ?_ ?_
      rotate_left
      ·intro w'
       go_simp
       with_reducible rfl
      rotate_left
      ·simp only [Act.put, List.setIfInBounds_toArray, List.set_cons_zero, List.set_cons_succ, zu, zz]
       rfl
      refine zmc (znb HT_.out (by kernel_rfl)) ?_
      have H := HS_.out
      clear HS_
      by_cases c35 : t160 < t161
      ·rw [if_pos c35] at H
       have c35b0 : decide (t160 < t161) = true := decide_eq_true c35
       clear c35
       (try simp only [c35b0])
       have H' := zh.mk H
       clear H
       have hcz45_0 : w44.cell? ⟨gb159, 0, none⟩ = some (.int .i16 ((zl t155 x16_1).f0.f0)) := (za BK159.out 0).trans rfl
       have hcz45_1 : w44.cell? ⟨gb159, 1, none⟩ = some (.int .i16 ((zl t155 x16_1).f0.f1)) := (za BK159.out 1).trans rfl
       have hcz45_2 : w44.cell? ⟨gb159, 2, none⟩ = some (.int .i16 ((zl t155 x16_1).f0.f2)) := (za BK159.out 2).trans rfl
       have hcz45_3 : w44.cell? ⟨gb159, 3, none⟩ = some (.int .i16 ((zl t155 x16_1).f0.f3)) := (za BK159.out 3).trans rfl
       have hcz45_4 : w44.cell? ⟨gb159, 4, none⟩ = some (.int .i64 ((zl t155 x16_1).f1)) := (za BK159.out 4).trans rfl
       have hcz45_5 : w44.cell? ⟨gb159, 5, none⟩ = some (.int .i8 ((zl t155 x16_1).f2.f0)) := (za BK159.out 5).trans rfl
       have hcz45_6 : w44.cell? ⟨gb159, 6, none⟩ = some (.int .i8 ((zl t155 x16_1).f2.f1)) := (za BK159.out 6).trans rfl
       have hcz45_7 : w44.cell? ⟨gb159, 7, none⟩ = some (.int .i8 ((zl t155 x16_1).f2.f2)) := (za BK159.out 7).trans rfl
       have hcz45_8 : w44.cell? ⟨gb159, 8, none⟩ = some (.int .i64 ((zl t155 x16_1).f3)) := (za BK159.out 8).trans rfl
       have hfz45_0 := ze BK159.out 0
       have hfz45_1 := ze BK159.out 1
       have hfz45_2 := ze BK159.out 2
       have hfz45_3 := ze BK159.out 3
       have hfz45_4 := ze BK159.out 4
       have hfz45_5 := ze BK159.out 5
       have hfz45_6 := ze BK159.out 6
       have hfz45_7 := ze BK159.out 7
       have hfz45_8 := ze BK159.out 8
       have hnb46 := NB154_151.out
       have hnc46 := NB151_154.out
       have hnb47 := NB154_152.out
       have hnc47 := NB152_154.out
       have hcz48_0 : w44.cell? ⟨gb154, 0, none⟩ = some (.int .i16 x155000_1) := (za BK154.out 0).trans rfl
       have hcz48_1 : w44.cell? ⟨gb154, 1, none⟩ = some (.int .i16 x155001_1) := (za BK154.out 1).trans rfl
       have hcz48_2 : w44.cell? ⟨gb154, 2, none⟩ = some (.int .i16 x155002_1) := (za BK154.out 2).trans rfl
       have hcz48_3 : w44.cell? ⟨gb154, 3, none⟩ = some (.int .i16 x155003_1) := (za BK154.out 3).trans rfl
       have hcz48_4 : w44.cell? ⟨gb154, 4, none⟩ = some (.int .i64 x155004_1) := (za BK154.out 4).trans rfl
       have hcz48_5 : w44.cell? ⟨gb154, 5, none⟩ = some (.int .i8 x155005_1) := (za BK154.out 5).trans rfl
       have hcz48_6 : w44.cell? ⟨gb154, 6, none⟩ = some (.int .i8 x155006_1) := (za BK154.out 6).trans rfl
       have hcz48_7 : w44.cell? ⟨gb154, 7, none⟩ = some (.int .i8 x155007_1) := (za BK154.out 7).trans rfl
       have hcz48_8 : w44.cell? ⟨gb154, 8, none⟩ = some (.int .i64 x155008_1) := (za BK154.out 8).trans rfl
       have hfz48_0 := ze BK154.out 0
       have hfz48_1 := ze BK154.out 1
       have hfz48_2 := ze BK154.out 2
       have hfz48_3 := ze BK154.out 3
       have hfz48_4 := ze BK154.out 4
       have hfz48_5 := ze BK154.out 5
       have hfz48_6 := ze BK154.out 6
       have hfz48_7 := ze BK154.out 7
       have hfz48_8 := ze BK154.out 8
       try go_wp2
       go_roundg k1
       case measure => have := HK1.out; omega
       case rel => exact ⟨(wrap64 (x16_1 + 1)), ((zl t155 x16_1).f0.f0), ((zl t155 x16_1).f0.f1), ((zl t155 x16_1).f0.f2), ((zl t155 x16_1).f0.f3), ((zl t155 x16_1).f1), ((zl t155 x16_1).f2.f0), ((zl t155 x16_1).f2.f1), ((zl t155 x16_1).f2.f2), ((zl t155 x16_1).f3), (by first | rfl | (simp; done) | (simp [*]; done)), H', ⟨by have := HK1.out; omega⟩, ⟨by (with_reducible repeat (first | apply Kd.R_alloc | apply Kd.R_drewN | apply Kd.R_drew)); exact Kd.R_mono (Kd.R_far (p := ⟨gb154, 8, none⟩) (Kd.R_far (p := ⟨gb154, 7, none⟩) (Kd.R_far (p := ⟨gb154, 6, none⟩) (Kd.R_far (p := ⟨gb154, 5, none⟩) (Kd.R_far (p := ⟨gb154, 4, none⟩) (Kd.R_far (p := ⟨gb154, 3, none⟩) (Kd.R_far (p := ⟨gb154, 2, none⟩) (Kd.R_far (p := ⟨gb154, 1, none⟩) (Kd.R_far (p := ⟨gb154, 0, none⟩) (Kd.R_mono HO_14.out (fun k_ hk => (⟨hk, hk.1⟩ : _ ∧ k_ ≠ gb154))) (fun _ hk => hk.2) (.int .i16 ((zl t155 x16_1).f0.f0))) (fun _ hk => hk.2) (.int .i16 ((zl t155 x16_1).f0.f1))) (fun _ hk => hk.2) (.int .i16 ((zl t155 x16_1).f0.f2))) (fun _ hk => hk.2) (.int .i16 ((zl t155 x16_1).f0.f3))) (fun _ hk => hk.2) (.int .i64 ((zl t155 x16_1).f1))) (fun _ hk => hk.2) (.int .i8 ((zl t155 x16_1).f2.f0))) (fun _ hk => hk.2) (.int .i8 ((zl t155 x16_1).f2.f1))) (fun _ hk => hk.2) (.int .i8 ((zl t155 x16_1).f2.f2))) (fun _ hk => hk.2) (.int .i64 ((zl t155 x16_1).f3))) (fun _ hk => hk.1.1)⟩, ⟨by (with_reducible repeat (first | refine zc ?_ _ | refine zf ?_ | refine zb ?_ _)); refine zn ?_ NB151_154.out _; (with_reducible repeat (first | refine zc ?_ _ | refine zf ?_ | refine zb ?_ _)); refine zn ?_ NB151_154.out _; (with_reducible repeat (first | refine zc ?_ _ | refine zf ?_ | refine zb ?_ _)); refine zn ?_ NB151_154.out _; (with_reducible repeat (first | refine zc ?_ _ | refine zf ?_ | refine zb ?_ _)); refine zn ?_ NB151_154.out _; (with_reducible repeat (first | refine zc ?_ _ | refine zf ?_ | refine zb ?_ _)); refine zn ?_ NB151_154.out _; (with_reducible repeat (first | refine zc ?_ _ | refine zf ?_ | refine zb ?_ _)); refine zn ?_ NB151_154.out _; (with_reducible repeat (first | refine zc ?_ _ | refine zf ?_ | refine zb ?_ _)); refine zn ?_ NB151_154.out _; (with_reducible repeat (first | refine zc ?_ _ | refine zf ?_ | refine zb ?_ _)); refine zn ?_ NB151_154.out _; (with_reducible repeat (first | refine zc ?_ _ | refine zf ?_ | refine zb ?_ _)); refine zn ?_ NB151_154.out _; (with_reducible repeat (first | refine zc ?_ _ | refine zf ?_ | refine zb ?_ _)); exact BK151.out⟩, ⟨by (with_reducible repeat (first | refine zc ?_ _ | refine zf ?_ | refine zb ?_ _)); refine zn ?_ NB152_154.out _; (with_reducible repeat (first | refine zc ?_ _ | refine zf ?_ | refine zb ?_ _)); refine zn ?_ NB152_154.out _; (with_reducible repeat (first | refine zc ?_ _ | refine zf ?_ | refine zb ?_ _)); refine zn ?_ NB152_154.out _; (with_reducible repeat (first | refine zc ?_ _ | refine zf ?_ | refine zb ?_ _)); refine zn ?_ NB152_154.out _; (with_reducible repeat (first | refine zc ?_ _ | refine zf ?_ | refine zb ?_ _)); refine zn ?_ NB152_154.out _; (with_reducible repeat (first | refine zc ?_ _ | refine zf ?_ | refine zb ?_ _)); refine zn ?_ NB152_154.out _; (with_reducible repeat (first | refine zc ?_ _ | refine zf ?_ | refine zb ?_ _)); refine zn ?_ NB152_154.out _; (with_reducible repeat (first | refine zc ?_ _ | refine zf ?_ | refine zb ?_ _)); refine zn ?_ NB152_154.out _; (with_reducible repeat (first | refine zc ?_ _ | refine zf ?_ | refine zb ?_ _)); refine zn ?_ NB152_154.out _; (with_reducible repeat (first | refine zc ?_ _ | refine zf ?_ | refine zb ?_ _)); exact BK152.out⟩, ⟨by (with_reducible repeat (first | refine zc ?_ _ | refine zf ?_ | refine zb ?_ _)); refine zw (cs := #[.int .i16 ((zl t155 x16_1).f0.f0), .int .i16 ((zl t155 x16_1).f0.f1), .int .i16 ((zl t155 x16_1).f0.f2), .int .i16 ((zl t155 x16_1).f0.f3), .int .i64 ((zl t155 x16_1).f1), .int .i8 ((zl t155 x16_1).f2.f0), .int .i8 ((zl t155 x16_1).f2.f1), .int .i8 ((zl t155 x16_1).f2.f2), .int .i64 x155008_1]) ?_ 8 _ rfl; (with_reducible repeat (first | refine zc ?_ _ | refine zf ?_ | refine zb ?_ _)); refine zw (cs := #[.int .i16 ((zl t155 x16_1).f0.f0), .int .i16 ((zl t155 x16_1).f0.f1), .int .i16 ((zl t155 x16_1).f0.f2), .int .i16 ((zl t155 x16_1).f0.f3), .int .i64 ((zl t155 x16_1).f1), .int .i8 ((zl t155 x16_1).f2.f0), .int .i8 ((zl t155 x16_1).f2.f1), .int .i8 x155007_1, .int .i64 x155008_1]) ?_ 7 _ rfl; (with_reducible repeat (first | refine zc ?_ _ | refine zf ?_ | refine zb ?_ _)); refine zw (cs := #[.int .i16 ((zl t155 x16_1).f0.f0), .int .i16 ((zl t155 x16_1).f0.f1), .int .i16 ((zl t155 x16_1).f0.f2), .int .i16 ((zl t155 x16_1).f0.f3), .int .i64 ((zl t155 x16_1).f1), .int .i8 ((zl t155 x16_1).f2.f0), .int .i8 x155006_1, .int .i8 x155007_1, .int .i64 x155008_1]) ?_ 6 _ rfl; (with_reducible repeat (first | refine zc ?_ _ | refine zf ?_ | refine zb ?_ _)); refine zw (cs := #[.int .i16 ((zl t155 x16_1).f0.f0), .int .i16 ((zl t155 x16_1).f0.f1), .int .i16 ((zl t155 x16_1).f0.f2), .int .i16 ((zl t155 x16_1).f0.f3), .int .i64 ((zl t155 x16_1).f1), .int .i8 x155005_1, .int .i8 x155006_1, .int .i8 x155007_1, .int .i64 x155008_1]) ?_ 5 _ rfl; (with_reducible repeat (first | refine zc ?_ _ | refine zf ?_ | refine zb ?_ _)); refine zw (cs := #[.int .i16 ((zl t155 x16_1).f0.f0), .int .i16 ((zl t155 x16_1).f0.f1), .int .i16 ((zl t155 x16_1).f0.f2), .int .i16 ((zl t155 x16_1).f0.f3), .int .i64 x155004_1, .int .i8 x155005_1, .int .i8 x155006_1, .int .i8 x155007_1, .int .i64 x155008_1]) ?_ 4 _ rfl; (with_reducible repeat (first | refine zc ?_ _ | refine zf ?_ | refine zb ?_ _)); refine zw (cs := #[.int .i16 ((zl t155 x16_1).f0.f0), .int .i16 ((zl t155 x16_1).f0.f1), .int .i16 ((zl t155 x16_1).f0.f2), .int .i16 x155003_1, .int .i64 x155004_1, .int .i8 x155005_1, .int .i8 x155006_1, .int .i8 x155007_1, .int .i64 x155008_1]) ?_ 3 _ rfl; (with_reducible repeat (first | refine zc ?_ _ | refine zf ?_ | refine zb ?_ _)); refine zw (cs := #[.int .i16 ((zl t155 x16_1).f0.f0), .int .i16 ((zl t155 x16_1).f0.f1), .int .i16 x155002_1, .int .i16 x155003_1, .int .i64 x155004_1, .int .i8 x155005_1, .int .i8 x155006_1, .int .i8 x155007_1, .int .i64 x155008_1]) ?_ 2 _ rfl; (with_reducible repeat (first | refine zc ?_ _ | refine zf ?_ | refine zb ?_ _)); refine zw (cs := #[.int .i16 ((zl t155 x16_1).f0.f0), .int .i16 x155001_1, .int .i16 x155002_1, .int .i16 x155003_1, .int .i64 x155004_1, .int .i8 x155005_1, .int .i8 x155006_1, .int .i8 x155007_1, .int .i64 x155008_1]) ?_ 1 _ rfl; (with_reducible repeat (first | refine zc ?_ _ | refine zf ?_ | refine zb ?_ _)); refine zw (cs := #[.int .i16 x155000_1, .int .i16 x155001_1, .int .i16 x155002_1, .int .i16 x155003_1, .int .i64 x155004_1, .int .i8 x155005_1, .int .i8 x155006_1, .int .i8 x155007_1, .int .i64 x155008_1]) ?_ 0 _ rfl; (with_reducible repeat (first | refine zc ?_ _ | refine zf ?_ | refine zb ?_ _)); exact BK154.out⟩, ⟨by repeat (first | (with_reducible first | exact HB.out | apply zk | apply zg | apply zj | refine zi ?_ GE151.out | refine zi ?_ GE152.out | refine zi ?_ GE154.out | refine zi ?_ GE159.out) | exact HB.out)⟩⟩
      rw [if_neg c35] at H
      have c35b0 : decide (t160 < t161) = false := decide_eq_false c35
      clear c35
      (try simp only [c35b0])
      have H' := zh.mk H
      clear H
      try go_wp2
      go_roundg k1
      case measure => have := HK1.out; omega
      case rel => exact ⟨(wrap64 (x16_1 + 1)), (x155000_1), (x155001_1), (x155002_1), (x155003_1), (x155004_1), (x155005_1), (x155006_1), (x155007_1), (x155008_1), (by first | rfl | (simp; done) | (simp [*]; done)), H', ⟨by have := HK1.out; omega⟩, ⟨by (with_reducible repeat (first | apply Kd.R_alloc | apply Kd.R_drewN | apply Kd.R_drew)); exact Kd.R_mono HO_14.out (fun _ hk => hk.1)⟩, ⟨by (with_reducible repeat (first | refine zc ?_ _ | refine zf ?_ | refine zb ?_ _)); exact BK151.out⟩, ⟨by (with_reducible repeat (first | refine zc ?_ _ | refine zf ?_ | refine zb ?_ _)); exact BK152.out⟩, ⟨by (with_reducible repeat (first | refine zc ?_ _ | refine zf ?_ | refine zb ?_ _)); exact BK154.out⟩, ⟨by repeat (first | (with_reducible first | exact HB.out | apply zk | apply zg | apply zj | refine zi ?_ GE151.out | refine zi ?_ GE152.out | refine zi ?_ GE154.out | refine zi ?_ GE159.out) | exact HB.out)⟩⟩
     rw [if_neg c32] at H
     have c32b0 : (((zl t155 x16_1).f3) == x155008_1) = false := beq_eq_false_iff_ne.mpr c32
     have c32b1 : (((zl t155 x16_1).f3) != x155008_1) = true := bne_iff_ne.mpr c32
     have H' := zh.mk H
     clear H
     refine zrb (n := 23) (S := fun w' => w'.cell? ⟨gb159, 0, none⟩ = some (.int .i16 ((zl t155 x16_1).f0.f0)) ∧ w'.cell? ⟨gb159, 1, none⟩ = some (.int .i16 ((zl t155 x16_1).f0.f1)) ∧ w'.cell? ⟨gb159, 2, none⟩ = some (.int .i16 ((zl t155 x16_1).f0.f2)) ∧ w'.cell? ⟨gb159, 3, none⟩ = some (.int .i16 ((zl t155 x16_1).f0.f3)) ∧ w'.cell? ⟨gb159, 4, none⟩ = some (.int .i64 ((zl t155 x16_1).f1)) ∧ w'.cell? ⟨gb159, 5, none⟩ = some (.int .i8 ((zl t155 x16_1).f2.f0)) ∧ w'.cell? ⟨gb159, 6, none⟩ = some (.int .i8 ((zl t155 x16_1).f2.f1)) ∧ w'.cell? ⟨gb159, 7, none⟩ = some (.int .i8 ((zl t155 x16_1).f2.f2)) ∧ w'.cell? ⟨gb159, 8, none⟩ = some (.int .i64 ((zl t155 x16_1).f3)) ∧ w'.cell? ⟨gb154, 0, none⟩ = some (.int .i16 x155000_1) ∧ w'.cell? ⟨gb154, 1, none⟩ = some (.int .i16 x155001_1) ∧ w'.cell? ⟨gb154, 2, none⟩ = some (.int .i16 x155002_1) ∧ w'.cell? ⟨gb154, 3, none⟩ = some (.int .i16 x155003_1) ∧ w'.cell? ⟨gb154, 4, none⟩ = some (.int .i64 x155004_1) ∧ w'.cell? ⟨gb154, 5, none⟩ = some (.int .i8 x155005_1) ∧ w'.cell? ⟨gb154, 6, none⟩ = some (.int .i8 x155006_1) ∧ w'.cell? ⟨gb154, 7, none⟩ = some (.int .i8 x155007_1) ∧ w'.cell? ⟨gb154, 8, none⟩ = some (.int .i64 x155008_1)) (ds := []) #[false, false, false, false, false, false, false, false, false, false, false, false, false, false, false, false, false, false, false, false, false, false, false] (by kernel_rfl) rfl rfl ⟨(za BK159.out 0).trans rfl, (za BK159.out 1).trans rfl, (za BK159.out 2).trans rfl, (za BK159.out 3).trans rfl, (za BK159.out 4).trans rfl, (za BK159.out 5).trans rfl, (za BK159.out 6).trans rfl, (za BK159.out 7).trans rfl, (za BK159.out 8).trans rfl, (za BK154.out 0).trans rfl, (za BK154.out 1).trans rfl, (za BK154.out 2).trans rfl, (za BK154.out 3).trans rfl, (za BK154.out 4).trans rfl, (za BK154.out 5).trans rfl, (za BK154.out 6).trans rfl, (za BK154.out 7).trans rfl, (za BK154.out 8).trans rfl⟩ (fun hHeld => ?_); refine zab impl_HardestWater.tab7 impl_HardestWater.bits7 (fun HT_ HW_ => ?_)
     generalize w26.drew = w64 at HO_14 BK151 BK152 BK154 BK159 HB hHeld ⊢
     refine zea (i := 0) (N := some 20) (v := ?_) (a' := ?_) #[true, false, false, false, false, false, false, false, false, false, false, false, false, false, false, false, false, false, false, false, false, false, false] rfl rfl (zaa HT_.out (by kernel_rfl)) (fun _ _ _ h => h) (Or.inl ⟨by rfl, ?_⟩) ?_ ?_
     rotate_left
     ·intro w'
      go_simp
      with_reducible rfl
     rotate_left
     ·simp only [Act.put, List.setIfInBounds_toArray, List.set_cons_zero, List.set_cons_succ, zu, zz]
      rfl
     refine zea (i := 2) (N := some 22) (v := ?_) (a' := ?_) #[true, false, true, false, false, false, false, false, false, false, false, false, false, false, false, false, false, false, false, false, false, false, false] rfl rfl (zaa HT_.out (by kernel_rfl)) (fun _ _ _ h => h) (Or.inl ⟨by rfl, ?_⟩) ?_ ?_
     rotate_left
     ·intro w'
      go_simp
      with_reducible rfl
     rotate_left
     ·simp only [Act.put, List.setIfInBounds_toArray, List.set_cons_zero, List.set_cons_succ, zu, zz]
      rfl
     refine take_ (i := 1) (N := some 21) (v := ?_) (a' := ?_) #[true, true, true, false, false, false, false, false, false, false, false, false, false, false, false, false, false, false, false, false, false, false, false] rfl rfl (zia HT_.out HW_.out (by kernel_rfl)) (fun _ _ _ h => h) (Or.inl ⟨by rfl, ?_⟩) hHeld ?_ ?_
     rotate_left
     ·rintro w' ⟨s0, s1, s2, s3, s4, s5, s6, s7, s8, s9, s10, s11, s12, s13, s14, s15, s16, s17⟩
      go_simp
      with_reducible rfl
     rotate_left
     ·simp only [Act.put, List.setIfInBounds_toArray, List.set_cons_zero, List.set_cons_succ, zu, zz]
      rfl
     refine take_ (i := 3) (N := some 23) (v := ?_) (a' := ?_) #[true, true, true, true, false, false, false, false, false, false, false, false, false, false, false, false, false, false, false, false, false, false, false] rfl rfl (zia HT_.out HW_.out (by kernel_rfl)) (fun _ _ _ h => h) (Or.inl ⟨by rfl, ?_⟩) hHeld ?_ ?_
     rotate_left
     ·rintro w' ⟨s0, s1, s2, s3, s4, s5, s6, s7, s8, s9, s10, s11, s12, s13, s14, s15, s16, s17⟩
      go_simp
      with_reducible rfl
     rotate_left
     ·simp only [Act.put, List.setIfInBounds_toArray, List.set_cons_zero, List.set_cons_succ, zu, zz]
      rfl
     refine zea (i := 4) (N := some 24) (v := ?_) (a' := ?_) #[true, true, true, true, true, false, false, false, false, false, false, false, false, false, false, false, false, false, false, false, false, false, false] rfl rfl (zaa HT_.out (by kernel_rfl)) (fun _ _ _ h => h) (Or.inl ⟨by rfl, ?_⟩) ?_ ?_
     rotate_left
     ·intro w'
      go_simp
      with_reducible rfl
     rotate_left
     ·simp only [Act.put, List.setIfInBounds_toArray, List.set_cons_zero, List.set_cons_succ, zu, zz]
      rfl
     refine zea (i := 5) (N := some 25) (v := ?_) (a' := ?_) #[true, true, true, true, true, true, false, false, false, false, false, false, false, false, false, false, false, false, false, false, false, false, false] rfl rfl (zaa HT_.out (by kernel_rfl)) (fun _ _ _ h => h) (Or.inl ⟨by rfl, ?_⟩) ?_ ?_
     rotate_left
     ·intro w'
      go_simp
      with_reducible rfl
     rotate_left
     ·simp only [Act.put, List.setIfInBounds_toArray, List.set_cons_zero, List.set_cons_succ, zu, zz]
      rfl
     refine zea (i := 6) (N := some 26) (v := ?_) (a' := ?_) #[true, true, true, true, true, true, true, false, false, false, false, false, false, false, false, false, false, false, false, false, false, false, false] rfl rfl (zaa HT_.out (by kernel_rfl)) (fun _ _ _ h => h) (Or.inl ⟨by rfl, ?_⟩) ?_ ?_
     rotate_left
     ·intro w'
      go_simp
      with_reducible rfl
     rotate_left
     ·simp only [Act.put, List.setIfInBounds_toArray, List.set_cons_zero, List.set_cons_succ, zu, zz]
      rfl
     refine zea (i := 8) (N := some 28) (v := ?_) (a' := ?_) #[true, true, true, true, true, true, true, false, true, false, false, false, false, false, false, false, false, false, false, false, false, false, false] rfl rfl (zaa HT_.out (by kernel_rfl)) (fun _ _ _ h => h) (Or.inl ⟨by rfl, ?_⟩) ?_ ?_
     rotate_left
     ·intro w'
      go_simp
      with_reducible rfl
     rotate_left
     ·simp only [Act.put, List.setIfInBounds_toArray, List.set_cons_zero, List.set_cons_succ, zu, zz]
      rfl
     refine take_ (i := 7) (N := some 27) (v := ?_) (a' := ?_) #[true, true, true, true, true, true, true, true, true, false, false, false, false, false, false, false, false, false, false, false, false, false, false] rfl rfl (zia HT_.out HW_.out (by kernel_rfl)) (fun _ _ _ h => h) (Or.inl ⟨by rfl, ?_⟩) hHeld ?_ ?_
     rotate_left
     ·rintro w' ⟨s0, s1, s2, s3, s4, s5, s6, s7, s8, s9, s10, s11, s12, s13, s14, s15, s16, s17⟩
      go_simp
      with_reducible rfl
     rotate_left
     ·simp only [Act.put, List.setIfInBounds_toArray, List.set_cons_zero, List.set_cons_succ, zu, zz]
      rfl
     refine take_ (i := 9) (N := some 29) (v := ?_) (a' := ?_) #[true, true, true, true, true, true, true, true, true, true, false, false, false, false, false, false, false, false, false, false, false, false, false] rfl rfl (zia HT_.out HW_.out (by kernel_rfl)) (fun _ _ _ h => h) (Or.inl ⟨by rfl, ?_⟩) hHeld ?_ ?_
     rotate_left
     ·rintro w' ⟨s0, s1, s2, s3, s4, s5, s6, s7, s8, s9, s10, s11, s12, s13, s14, s15, s16, s17⟩
      go_simp
      with_reducible rfl
     rotate_left
     ·simp only [Act.put, List.setIfInBounds_toArray, List.set_cons_zero, List.set_cons_succ, zu, zz]
      rfl
     refine zea (i := 10) (N := some 30) (v := ?_) (a' := ?_) #[true, true, true, true, true, true, true, true, true, true, true, false, false, false, false, false, false, false, false, false, false, false, false] rfl rfl (zaa HT_.out (by kernel_rfl)) (fun _ _ _ h => h) (Or.inl ⟨by rfl, ?_⟩) ?_ ?_
     rotate_left
     ·intro w'
      go_simp
      with_reducible rfl
     rotate_left
     ·simp only [Act.put, List.setIfInBounds_toArray, List.set_cons_zero, List.set_cons_succ, zu, zz]
      rfl
     refine zea (i := 11) (N := some 31) (v := ?_) (a' := ?_) #[true, true, true, true, true, true, true, true, true, true, true, true, false, false, false, false, false, false, false, false, false, false, false] rfl rfl (zaa HT_.out (by kernel_rfl)) (fun _ _ _ h => h) (Or.inl ⟨by rfl, ?_⟩) ?_ ?_
     rotate_left
     ·intro w'
      go_simp
      with_reducible rfl
     rotate_left
     ·simp only [Act.put, List.setIfInBounds_toArray, List.set_cons_zero, List.set_cons_succ, zu, zz]
      rfl
     refine zea (i := 12) (N := some 32) (v := undef) (a' := ?_) #[true, true, true, true, true, true, true, true, true, true, true, true, true, false, false, false, false, false, false, false, false, false, false] rfl rfl (zaa HT_.out (by kernel_rfl)) (fun _ _ _ h => h) (Or.inr ⟨by rfl, rfl⟩) ?_ ?_
     rotate_left
     ·simp only [Act.put, List.setIfInBounds_toArray, List.set_cons_zero, List.set_cons_succ, zu, zz]
      rfl
     refine zea (i := 13) (N := some 33) (v := undef) (a' := ?_) #[true, true, true, true, true, true, true, true, true, true, true, true, true, true, false, false, false, false, false, false, false, false, false] rfl rfl (zaa HT_.out (by kernel_rfl)) (fun _ _ _ h => h) (Or.inr ⟨by rfl, rfl⟩) ?_ ?_
     rotate_left
     ·simp only [Act.put, List.setIfInBounds_toArray, List.set_cons_zero, List.set_cons_succ, zu, zz]
      rfl
     refine zea (i := 14) (N := some 34) (v := undef) (a' := ?_) #[true, true, true, true, true, true, true, true, true, true, true, true, true, true, true, false, false, false, false, false, false, false, false] rfl rfl (zaa HT_.out (by kernel_rfl)) (fun _ _ _ h => h) (Or.inr ⟨by rfl, rfl⟩) ?_ ?_
     rotate_left
     ·simp only [Act.put, List.setIfInBounds_toArray, List.set_cons_zero, List.set_cons_succ, zu, zz]
      rfl
     refine zea (i := 15) (N := some 35) (v := undef) (a' := ?_) #[true, true, true, true, true, true, true, true, true, true, true, true, true, true, true, true, false, false, false, false, false, false, false] rfl rfl (zaa HT_.out (by kernel_rfl)) (fun _ _ _ h => h) (Or.inr ⟨by rfl, rfl⟩) ?_ ?_
     rotate_left
     ·simp only [Act.put, List.setIfInBounds_toArray, List.set_cons_zero, List.set_cons_succ, zu, zz]
      rfl
     refine zea (i := 16) (N := some 36) (v := undef) (a' := ?_) #[true, true, true, true, true, true, true, true, true, true, true, true, true, true, true, true, true, false, false, false, false, false, false] rfl rfl (zaa HT_.out (by kernel_rfl)) (fun _ _ _ h => h) (Or.inr ⟨by rfl, rfl⟩) ?_ ?_
     rotate_left
     ·simp only [Act.put, List.setIfInBounds_toArray, List.set_cons_zero, List.set_cons_succ, zu, zz]
      rfl
     refine zea (i := 17) (N := some 37) (v := undef) (a' := ?_) #[true, true, true, true, true, true, true, true, true, true, true, true, true, true, true, true, true, true, false, false, false, false, false] rfl rfl (zaa HT_.out (by kernel_rfl)) (fun _ _ _ h => h) (Or.inr ⟨by rfl, rfl⟩) ?_ ?_
     rotate_left
     ·simp only [Act.put, List.setIfInBounds_toArray, List.set_cons_zero, List.set_cons_succ, zu, zz]
      rfl
     refine zea (i := 18) (N := some 38) (v := undef) (a' := ?_) #[true, true, true, true, true, true, true, true, true, true, true, true, true, true, true, true, true, true, true, false, false, false, false] rfl rfl (zaa HT_.out (by kernel_rfl)) (fun _ _ _ h => h) (Or.inr ⟨by rfl, rfl⟩) ?_ ?_
     rotate_left
     ·simp only [Act.put, List.setIfInBounds_toArray, List.set_cons_zero, List.set_cons_succ, zu, zz]
      rfl
     refine zea (i := 19) (N := some 39) (v := undef) (a' := ?_) #[true, true, true, true, true, true, true, true, true, true, true, true, true, true, true, true, true, true, true, true, false, false, false] rfl rfl (zaa HT_.out (by kernel_rfl)) (fun _ _ _ h => h) (Or.inr ⟨by rfl, rfl⟩) ?_ ?_
     rotate_left
     ·simp only [Act.put, List.setIfInBounds_toArray, List.set_cons_zero, List.set_cons_succ, zu, zz]
      rfl
     refine zea (i := 20) (N := some 40) (v := undef) (a' := ?_) #[true, true, true, true, true, true, true, true, true, true, true, true, true, true, true, true, true, true, true, true, true, false, false] rfl rfl (zaa HT_.out (by kernel_rfl)) (fun _ _ _ h => h) (Or.inr ⟨by rfl, rfl⟩) ?_ ?_
     rotate_left
     ·simp only [Act.put, List.setIfInBounds_toArray, List.set_cons_zero, List.set_cons_succ, zu, zz]
      rfl
     refine zea (i := 21) (N := some 41) (v := ?_) (a' := ?_) #[true, true, true, true, true, true, true, true, true, true, true, true, true, true, true, true, true, true, true, true, true, true, false] rfl rfl (zaa HT_.out (by kernel_rfl)) (fun _ _ _ h => h) (Or.inl ⟨by rfl, ?_⟩) ?_ ?_
     rotate_left
     ·intro w'
      go_simp
      with_reducible rfl
     rotate_left
     ·simp only [Act.put, List.setIfInBounds_toArray, List.set_cons_zero, List.set_cons_succ, zu, zz]
      rfl
     refine zea (i := 22) (N := some 42) (v := ?_) (a' := ?_) #[true, true, true, true, true, true, true, true, true, true, true, true, true, true, true, true, true, true, true, true, true, true, true] rfl rfl (zaa HT_.out (by kernel_rfl)) (fun _ _ _ h => h) (Or.inl ⟨by rfl, ?_⟩) ?_ ?_
     rotate_left
     ·intro w'
      go_simp
      with_reducible rfl
     rotate_left
     ·simp only [Act.put, List.setIfInBounds_toArray, List.set_cons_zero, List.set_cons_succ, zu, zz]
      rfl
     refine zmc (znb HT_.out (by kernel_rfl)) ?_
     try go_wp2
     go_roundg k1
     case measure => have := HK1.out; omega
     case rel => exact ⟨(wrap64 (x16_1 + 1)), (x155000_1), (x155001_1), (x155002_1), (x155003_1), (x155004_1), (x155005_1), (x155006_1), (x155007_1), (x155008_1), (by first | rfl | (simp; done) | (simp [*]; done)), H', ⟨by have := HK1.out; omega⟩, ⟨by (with_reducible repeat (first | apply Kd.R_alloc | apply Kd.R_drewN | apply Kd.R_drew)); exact Kd.R_mono HO_14.out (fun _ hk => hk.1)⟩, ⟨by (with_reducible repeat (first | refine zc ?_ _ | refine zf ?_ | refine zb ?_ _)); exact BK151.out⟩, ⟨by (with_reducible repeat (first | refine zc ?_ _ | refine zf ?_ | refine zb ?_ _)); exact BK152.out⟩, ⟨by (with_reducible repeat (first | refine zc ?_ _ | refine zf ?_ | refine zb ?_ _)); exact BK154.out⟩, ⟨by repeat (first | (with_reducible first | exact HB.out | apply zk | apply zg | apply zj | refine zi ?_ GE151.out | refine zi ?_ GE152.out | refine zi ?_ GE154.out | refine zi ?_ GE159.out) | exact HB.out)⟩⟩
    rw [if_neg c17] at H
    have c17b0 : decide (x16_1 < (t155.length : Int)) = false := decide_eq_false c17
    clear c17
    simp only [Option.some.injEq, Prod.mk.injEq] at H
    obtain ⟨rfl, rfl, rfl, rfl, rfl, rfl⟩ := H
    try go_wp2
    have n0_ := zh.mk (Kd.R_drew HO_14.out)
    have n1_ := zh.mk (zf BK151.out)
    have n2_ := zh.mk (zf BK152.out)
    have n3_ := zh.mk (zf BK154.out)
    have n4_ := zh.mk (zj HB.out)
    clear HO_14
    clear BK151
    clear BK152
    clear BK154
    clear HB
    have HO_14 := n0_
    have BK151 := n1_
    have BK152 := n2_
    have BK154 := n3_
    have HB := n4_
    clear n0_ n1_ n2_ n3_ n4_
    refine zrb (n := 7) (S := fun w' => w'.cell? ⟨gb154, 0, none⟩ = some (.int .i16 x155000_1) ∧ w'.cell? ⟨gb154, 1, none⟩ = some (.int .i16 x155001_1) ∧ w'.cell? ⟨gb154, 2, none⟩ = some (.int .i16 x155002_1) ∧ w'.cell? ⟨gb154, 3, none⟩ = some (.int .i16 x155003_1) ∧ w'.cell? ⟨gb154, 4, none⟩ = some (.int .i64 x155004_1) ∧ w'.cell? ⟨gb154, 5, none⟩ = some (.int .i8 x155005_1) ∧ w'.cell? ⟨gb154, 6, none⟩ = some (.int .i8 x155006_1) ∧ w'.cell? ⟨gb154, 7, none⟩ = some (.int .i8 x155007_1) ∧ w'.cell? ⟨gb154, 8, none⟩ = some (.int .i64 x155008_1)) (ds := []) #[false, false, false, false, false, false, false] (by kernel_rfl) rfl rfl ⟨(za BK154.out 0).trans rfl, (za BK154.out 1).trans rfl, (za BK154.out 2).trans rfl, (za BK154.out 3).trans rfl, (za BK154.out 4).trans rfl, (za BK154.out 5).trans rfl, (za BK154.out 6).trans rfl, (za BK154.out 7).trans rfl, (za BK154.out 8).trans rfl⟩ (fun hHeld => ?_)
    generalize wr.drew = w65 at HO_14 BK151 BK152 BK154 HB hHeld ⊢
    refine zea (i := 0) (N := some 45) (v := ?_) (a' := ?_) #[true, false, false, false, false, false, false] rfl rfl (by kernel_rfl) (fun _ _ _ h => h) (Or.inl ⟨by rfl, ?_⟩) ?_ ?_
    rotate_left
    ·intro w'
     go_simp
     with_reducible rfl
    rotate_left
    ·simp only [Act.put, List.setIfInBounds_toArray, List.set_cons_zero, List.set_cons_succ, zu, zz]
     rfl
    refine zea (i := 2) (N := some 47) (v := ?_) (a' := ?_) #[true, false, true, false, false, false, false] rfl rfl (by kernel_rfl) (fun _ _ _ h => h) (Or.inl ⟨by rfl, ?_⟩) ?_ ?_
    rotate_left
    ·intro w'
     go_simp
     with_reducible rfl
    rotate_left
    ·simp only [Act.put, List.setIfInBounds_toArray, List.set_cons_zero, List.set_cons_succ, zu, zz]
     rfl
    refine take_ (i := 1) (N := some 46) (v := ?_) (a' := ?_) #[true, true, true, false, false, false, false] rfl rfl (by kernel_rfl) (fun _ _ _ h => h) (Or.inl ⟨by rfl, ?_⟩) hHeld ?_ ?_
    rotate_left
    ·rintro w' ⟨s0, s1, s2, s3, s4, s5, s6, s7, s8⟩
     go_simp
     with_reducible rfl
    rotate_left
    ·simp only [Act.put, List.setIfInBounds_toArray, List.set_cons_zero, List.set_cons_succ, zu, zz]
     rfl
    refine take_ (i := 3) (N := some 48) (v := ?_) (a' := ?_) #[true, true, true, true, false, false, false] rfl rfl (by kernel_rfl) (fun _ _ _ h => h) (Or.inl ⟨by rfl, ?_⟩) hHeld ?_ ?_
    rotate_left
    ·rintro w' ⟨s0, s1, s2, s3, s4, s5, s6, s7, s8⟩
     go_simp
     with_reducible rfl
    rotate_left
    ·simp only [Act.put, List.setIfInBounds_toArray, List.set_cons_zero, List.set_cons_succ, zu, zz]
     rfl
    refine one_ (i := 4) (N := none) #[true, true, true, true, true, false, false] rfl rfl (by kernel_rfl) (by decide) (fun K hK => ?_)
    have hs66 : w65.cell? ⟨gb152, 0, none⟩ = some (.int .i16 0) := (za BK152.out 0).trans rfl
    have hfs66 := ze BK152.out 0
    have hns66_0 := NB151_152.out
    have hns66_2 := NB154_152.out
    have hms66_0 := NB152_151.out
    have hms66_2 := NB152_154.out
    have hs67 : w65.cell? ⟨gb152, 1, none⟩ = some (.int .i16 0) := (za BK152.out 1).trans rfl
    have hfs67 := ze BK152.out 1
    have hns67_0 := NB151_152.out
    have hns67_2 := NB154_152.out
    have hms67_0 := NB152_151.out
    have hms67_2 := NB152_154.out
    have hs68 : w65.cell? ⟨gb152, 2, none⟩ = some (.int .i16 0) := (za BK152.out 2).trans rfl
    have hfs68 := ze BK152.out 2
    have hns68_0 := NB151_152.out
    have hns68_2 := NB154_152.out
    have hms68_0 := NB152_151.out
    have hms68_2 := NB152_154.out
    have hs69 : w65.cell? ⟨gb152, 3, none⟩ = some (.int .i16 0) := (za BK152.out 3).trans rfl
    have hfs69 := ze BK152.out 3
    have hns69_0 := NB151_152.out
    have hns69_2 := NB154_152.out
    have hms69_0 := NB152_151.out
    have hms69_2 := NB152_154.out
    refine skip_ (w1 := ?_) (by rfl) rfl ?_ ?_
    rotate_left
    ·go_simp
     rfl
    refine hK.out _ _ ⟨((zr (p := ⟨gb152, _, none⟩) NB154_152.out _).trans (((zr (p := ⟨gb152, _, none⟩) NB154_152.out _).trans (((zr (p := ⟨gb152, _, none⟩) NB154_152.out _).trans (((zr (p := ⟨gb152, _, none⟩) NB154_152.out _).trans (hHeld.1)))))))), ((zr (p := ⟨gb152, _, none⟩) NB154_152.out _).trans (((zr (p := ⟨gb152, _, none⟩) NB154_152.out _).trans (((zr (p := ⟨gb152, _, none⟩) NB154_152.out _).trans (((zr (p := ⟨gb152, _, none⟩) NB154_152.out _).trans (hHeld.2.1)))))))), ((zr (p := ⟨gb152, _, none⟩) NB154_152.out _).trans (((zr (p := ⟨gb152, _, none⟩) NB154_152.out _).trans (((zr (p := ⟨gb152, _, none⟩) NB154_152.out _).trans (((zr (p := ⟨gb152, _, none⟩) NB154_152.out _).trans (hHeld.2.2.1)))))))), ((zr (p := ⟨gb152, _, none⟩) NB154_152.out _).trans (((zr (p := ⟨gb152, _, none⟩) NB154_152.out _).trans (((zr (p := ⟨gb152, _, none⟩) NB154_152.out _).trans (((zr (p := ⟨gb152, _, none⟩) NB154_152.out _).trans (hHeld.2.2.2.1)))))))), ((zr (p := ⟨gb152, _, none⟩) NB154_152.out _).trans (((zr (p := ⟨gb152, _, none⟩) NB154_152.out _).trans (((zr (p := ⟨gb152, _, none⟩) NB154_152.out _).trans (((zr (p := ⟨gb152, _, none⟩) NB154_152.out _).trans (hHeld.2.2.2.2.1)))))))), ((zr (p := ⟨gb152, _, none⟩) NB154_152.out _).trans (((zr (p := ⟨gb152, _, none⟩) NB154_152.out _).trans (((zr (p := ⟨gb152, _, none⟩) NB154_152.out _).trans (((zr (p := ⟨gb152, _, none⟩) NB154_152.out _).trans (hHeld.2.2.2.2.2.1)))))))), ((zr (p := ⟨gb152, _, none⟩) NB154_152.out _).trans (((zr (p := ⟨gb152, _, none⟩) NB154_152.out _).trans (((zr (p := ⟨gb152, _, none⟩) NB154_152.out _).trans (((zr (p := ⟨gb152, _, none⟩) NB154_152.out _).trans (hHeld.2.2.2.2.2.2.1)))))))), ((zr (p := ⟨gb152, _, none⟩) NB154_152.out _).trans (((zr (p := ⟨gb152, _, none⟩) NB154_152.out _).trans (((zr (p := ⟨gb152, _, none⟩) NB154_152.out _).trans (((zr (p := ⟨gb152, _, none⟩) NB154_152.out _).trans (hHeld.2.2.2.2.2.2.2.1)))))))), ((zr (p := ⟨gb152, _, none⟩) NB154_152.out _).trans (((zr (p := ⟨gb152, _, none⟩) NB154_152.out _).trans (((zr (p := ⟨gb152, _, none⟩) NB154_152.out _).trans (((zr (p := ⟨gb152, _, none⟩) NB154_152.out _).trans (hHeld.2.2.2.2.2.2.2.2))))))))⟩ (fun hHeld => ?_)
    clear hK K
    refine zea (i := 5) (N := some 3) (v := ?_) (a' := ?_) #[true, true, true, true, true, true, false] rfl rfl (by kernel_rfl) (fun _ _ _ h => h) (Or.inl ⟨by rfl, ?_⟩) ?_ ?_
    rotate_left
    ·intro w'
     go_simp
     with_reducible rfl
    rotate_left
    ·simp only [Act.put, List.setIfInBounds_toArray, List.set_cons_zero, List.set_cons_succ, zu, zz]
     rfl
    refine zea (i := 6) (N := some 4) (v := ?_) (a' := ?_) #[true, true, true, true, true, true, true] rfl rfl (by kernel_rfl) (fun _ _ _ h => h) (Or.inl ⟨by rfl, ?_⟩) ?_ ?_
    rotate_left
    ·intro w'
     go_simp
     with_reducible rfl
    rotate_left
    ·simp only [Act.put, List.setIfInBounds_toArray, List.set_cons_zero, List.set_cons_succ, zu, zz]
     rfl
    refine zmc (by kernel_rfl) ?_
    try go_wp2
    refine bodyPost_ret (zlc rfl _ _ gb152 27 #[.int .i16 x155000_1, .int .i16 x155001_1, .int .i16 x155002_1, .int .i16 x155003_1] (0, 0) _ rfl (by (with_reducible repeat (first | refine zc ?_ _ | refine zf ?_ | refine zb ?_ _)); refine zw (cs := #[.int .i16 x155000_1, .int .i16 x155001_1, .int .i16 x155002_1, .int .i16 0]) ?_ 3 _ rfl; (with_reducible repeat (first | refine zc ?_ _ | refine zf ?_ | refine zb ?_ _)); refine zw (cs := #[.int .i16 x155000_1, .int .i16 x155001_1, .int .i16 0, .int .i16 0]) ?_ 2 _ rfl; (with_reducible repeat (first | refine zc ?_ _ | refine zf ?_ | refine zb ?_ _)); refine zw (cs := #[.int .i16 x155000_1, .int .i16 0, .int .i16 0, .int .i16 0]) ?_ 1 _ rfl; (with_reducible repeat (first | refine zc ?_ _ | refine zf ?_ | refine zb ?_ _)); refine zw (cs := #[.int .i16 0, .int .i16 0, .int .i16 0, .int .i16 0]) ?_ 0 _ rfl; (with_reducible repeat (first | refine zc ?_ _ | refine zf ?_ | refine zb ?_ _)); exact BK152.out) Try.underlying27 rfl (by kernel_rfl)) rfl ?_
    exact ⟨by first | rfl | (simp [zy, zx] <;> rfl) | (simp [*, zy, zx] <;> rfl), by repeat (first | (with_reducible first | exact HB.out | apply zk | apply zg | apply zj | refine zi ?_ GE151.out | refine zi ?_ GE152.out | refine zi ?_ GE154.out) | exact HB.out)⟩
 replace c3 := Bool.eq_false_iff.mpr c3
 subst c3
 have H1 : (some (0, 0, 0, 0, 0, 1)) = some (r1, r2, r3, r4, r5, r6) := by rw [if_neg (show ¬ (false = true) by decide)] at H; exact H
 clear H
 have H := H1
 clear H1
 simp only [Option.some.injEq, Prod.mk.injEq] at H
 obtain ⟨rfl, rfl, rfl, rfl, rfl, rfl⟩ := H
 go_enter Try.func28, Try.ntmps28
 go_wp2_with (first | ((with_reducible refine zda (N := 1) rfl ?_); refine zca ?hg (N := 1) ?hd (cs := #[.slice A0_0 l0_0.length c0_0, .int .i16 a0_1, .int .i16 a0_2, .int .i16 a0_3, .int .i16 a0_4, .bool a0_5]) (t := 29) ?hr ?_; (case hd => rfl); (case hg => rfl); (case hr => first | (go_simp; done) | (go_simp; rfl)); intro gb151 hg w70 hbox hb; have n0_ := zh.mk (zo (by repeat (first | (with_reducible first | exact HB.out | apply zk | apply zg | apply zj) | exact HB.out)) hb); have n1_ := zh.mk (hbox); have n2_ := zh.mk ((by rw [hg]; exact (zq (by repeat (first | (with_reducible first | exact HB.out | apply zk | apply zg | apply zj) | exact HB.out))) : w.heap.size ≤ gb151)); have n3_ := n2_; clear HB; have HB := n0_; have BK151 := n1_; have GW151 := n2_; have GE151 := n3_; clear n0_ n1_ n2_ n3_; clear hb hbox hg) | ((with_reducible refine zda (N := 2) rfl ?_); refine zca ?hg (N := 2) ?hd (cs := #[.int .i16 0, .int .i16 0, .int .i16 0, .int .i16 0]) (t := 27) ?hr ?_; (case hd => rfl); (case hg => rfl); (case hr => first | (go_simp; done) | (go_simp; rfl)); intro gb152 hg w71 hbox hb; have n0_ := zh.mk (zm (by (with_reducible repeat (first | refine zc ?_ _ | refine zf ?_ | refine zb ?_ _)); exact BK151.out) hb); have n1_ := zh.mk (zo (by repeat (first | (with_reducible first | exact HB.out | apply zk | apply zg | apply zj | refine zi ?_ GE151.out) | exact HB.out)) hb); have n2_ := zh.mk (hbox); have n3_ := zh.mk ((by rw [hg]; exact (zq (by repeat (first | (with_reducible first | exact HB.out | apply zk | apply zg | apply zj | refine zi ?_ GE151.out) | exact HB.out))) : w.heap.size ≤ gb152)); have n4_ := n3_; have n5_ := zh.mk ((by rw [hg]; exact Nat.ne_of_lt (zfa (by (with_reducible repeat (first | refine zc ?_ _ | refine zf ?_ | refine zb ?_ _)); exact BK151.out)) : gb151 ≠ gb152)); have n6_ := zh.mk n5_.out.symm; clear BK151; clear HB; have BK151 := n0_; have HB := n1_; have BK152 := n2_; have GW152 := n3_; have GE152 := n4_; have NB151_152 := n5_; have NB152_151 := n6_; clear n0_ n1_ n2_ n3_ n4_ n5_ n6_; clear hb hbox hg; have hnb72 := NB151_152.out; have hnc72 := NB152_151.out; have hcz73_0 : w71.cell? ⟨gb151, 0, none⟩ = some (.slice A0_0 l0_0.length c0_0) := (za BK151.out 0).trans rfl; have hcz73_1 : w71.cell? ⟨gb151, 1, none⟩ = some (.int .i16 a0_1) := (za BK151.out 1).trans rfl; have hcz73_2 : w71.cell? ⟨gb151, 2, none⟩ = some (.int .i16 a0_2) := (za BK151.out 2).trans rfl; have hcz73_3 : w71.cell? ⟨gb151, 3, none⟩ = some (.int .i16 a0_3) := (za BK151.out 3).trans rfl; have hcz73_4 : w71.cell? ⟨gb151, 4, none⟩ = some (.int .i16 a0_4) := (za BK151.out 4).trans rfl; have hcz73_5 : w71.cell? ⟨gb151, 5, none⟩ = some (.bool a0_5) := (za BK151.out 5).trans rfl; have hfz73_0 := ze BK151.out 0; have hfz73_1 := ze BK151.out 1; have hfz73_2 := ze BK151.out 2; have hfz73_3 := ze BK151.out 3; have hfz73_4 := ze BK151.out 4; have hfz73_5 := ze BK151.out 5) | ((with_reducible refine zba (f := 52) rfl ?_); refine zja (some 9) rfl rfl Try.func52 (by kernel_rfl) rfl #[.agg #[.slice A0_0 l0_0.length c0_0, .int .i16 a0_1, .int .i16 a0_2, .int .i16 a0_3, .int .i16 a0_4, .bool a0_5]] rfl (by (try simp only [List.map_toArray, List.map_cons, List.map_nil]); first | done | rfl | (simp only [List.length_drop, List.length_take]; rfl)) ?_; (with_reducible refine (impl_ValidPuzzle.calls k _ _ l0_0 a0_1 a0_2 a0_3 a0_4 a0_5 false _ ?side1 ?side2 A2.out).mono ?_); (case side1 => repeat (first | exact (Kd.C_below HR0_0.out HB.out) | (with_reducible refine Kd.C_alloc ?_ _) | (with_reducible refine Kd.C_drewN ?_ _) | (with_reducible refine Kd.C_drew ?_))); (case side2 => exact HC0_0.out); rintro e w74 ⟨rfl, hb⟩; refine ⟨_, rfl, ?_⟩; have n0_ := zh.mk (zm (by (with_reducible repeat (first | refine zc ?_ _ | refine zf ?_ | refine zb ?_ _)); exact BK151.out) hb); have n1_ := zh.mk (zm (by (with_reducible repeat (first | refine zc ?_ _ | refine zf ?_ | refine zb ?_ _)); exact BK152.out) hb); have n2_ := zh.mk (zo (by repeat (first | (with_reducible first | exact HB.out | apply zk | apply zg | apply zj | refine zi ?_ GE151.out | refine zi ?_ GE152.out) | exact HB.out)) hb); clear BK151; clear BK152; clear HB; have BK151 := n0_; have BK152 := n1_; have HB := n2_; clear n0_ n1_ n2_; (try clear hb); (try clear hb2); (try clear hk); (try clear hi); have hcz75_0 : w74.cell? ⟨gb152, 0, none⟩ = some (.int .i16 0) := (za BK152.out 0).trans rfl; have hcz75_1 : w74.cell? ⟨gb152, 1, none⟩ = some (.int .i16 0) := (za BK152.out 1).trans rfl; have hcz75_2 : w74.cell? ⟨gb152, 2, none⟩ = some (.int .i16 0) := (za BK152.out 2).trans rfl; have hcz75_3 : w74.cell? ⟨gb152, 3, none⟩ = some (.int .i16 0) := (za BK152.out 3).trans rfl; have hfz75_0 := ze BK152.out 0; have hfz75_1 := ze BK152.out 1; have hfz75_2 := ze BK152.out 2; have hfz75_3 := ze BK152.out 3))
 refine bodyPost_ret (zlc rfl _ _ gb152 27 #[.int .i16 0, .int .i16 0, .int .i16 0, .int .i16 0] (0, 0) _ rfl (by (with_reducible repeat (first | refine zc ?_ _ | refine zf ?_ | refine zb ?_ _)); refine zw (cs := #[.int .i16 0, .int .i16 0, .int .i16 0, .int .i16 0]) ?_ 3 _ rfl; (with_reducible repeat (first | refine zc ?_ _ | refine zf ?_ | refine zb ?_ _)); refine zw (cs := #[.int .i16 0, .int .i16 0, .int .i16 0, .int .i16 0]) ?_ 2 _ rfl; (with_reducible repeat (first | refine zc ?_ _ | refine zf ?_ | refine zb ?_ _)); refine zw (cs := #[.int .i16 0, .int .i16 0, .int .i16 0, .int .i16 0]) ?_ 1 _ rfl; (with_reducible repeat (first | refine zc ?_ _ | refine zf ?_ | refine zb ?_ _)); refine zw (cs := #[.int .i16 0, .int .i16 0, .int .i16 0, .int .i16 0]) ?_ 0 _ rfl; (with_reducible repeat (first | refine zc ?_ _ | refine zf ?_ | refine zb ?_ _)); exact BK152.out) Try.underlying27 rfl (by kernel_rfl)) rfl ?_
 exact ⟨by first | rfl | (simp [zy, zx] <;> rfl) | (simp [*, zy, zx] <;> rfl), by repeat (first | (with_reducible first | exact HB.out | apply zk | apply zg | apply zj | refine zi ?_ GE151.out | refine zi ?_ GE152.out) | exact HB.out)⟩
end Go.Proofs.Yteciomagemjjaaa.J
