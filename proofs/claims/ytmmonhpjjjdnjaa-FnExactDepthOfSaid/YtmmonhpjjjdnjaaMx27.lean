-- Written by wip/tools/myprint.py, a program of this session, by way of the kit's print.
import Derived.Test.YtmmonhpjjjdnjaaMx0
import Derived.Test.YtmmonhpjjjdnjaaLLoad
import Derived.Test.YtmmonhpjjjdnjaaMx4
import Derived.Test.YtmmonhpjjjdnjaaMx11
import Derived.Test.YtmmonhpjjjdnjaaMx13
import Derived.Test.YtmmonhpjjjdnjaaMx23
import Derived.Test.YtmmonhpjjjdnjaaMx25
import Derived.Test.YtmmonhpjjjdnjaaMx26
namespace Go.Proofs.Ytmmonhpjjjdnjaa.M
open Go.RowKit Go.Proofs.YtmmonhpjjjdnjaaW.PrintWords Go.Proofs.YtmmonhpjjjdnjaaW.PrintLast Go.Proofs.YtmmonhpjjjdnjaaW.PrintMore
attribute [local go_sem] zea zca zka zja zy zz zfa zda   -- for this text's walks alone
set_option linter.unusedVariables false
set_option linter.unusedSimpArgs false

/-! ### laws_FnExactDepthOf: function 4 -/
def laws_FnExactDepthOf.j0 : Nat → List (S58) → List (S54) → Bool → Option (Bool)
 | 0, _, _, _ => none
 | k + 1, x1, x8, x40 => if x40 = true then (some false) else ((laws_toNodeS.f k x1).bind fun t415 => ((laws_eqNodeS.f k x8 t415).bind fun t418 => (if t418 = true then (some true) else (some false))))
def laws_FnExactDepthOf.f (k : Nat) (a0_0 : Int) (a0_1 : Int) (a0_2 : Bool) (a0_3 : Bool) (l1 : List (S58)) : Option (Bool) := (laws_szNodeS.f l1 1048576).bind fun t396 => (if t396 < 0 then (some true) else ((laws_toTask.f a0_0 a0_1 a0_2 a0_3).bind fun bt397 => ((laws_toNodeS.f k l1).bind fun t401 => ((spec_DepthOf.f k bt397.1 bt397.2.1 bt397.2.2.1 bt397.2.2.2 t401).bind fun bt404 => ((laws_toNodeS.f k l1).bind fun t406 => ((laws_toTask.f a0_0 a0_1 a0_2 a0_3).bind fun bt409 => ((impl_DepthOf.f k bt409.1 bt409.2.1 bt409.2.2.1 bt409.2.2.2 t406).bind fun bt413 => (if bt413.1 = bt404.1 then (laws_FnExactDepthOf.j0 k l1 t406 (bt413.2 != bt404.2)) else (laws_FnExactDepthOf.j0 k l1 t406 true)))))))))
theorem laws_FnExactDepthOf.mono_l : ∀ k, (∀ y0 y1 y2, LeO (laws_FnExactDepthOf.j0 k y0 y1 y2) (laws_FnExactDepthOf.j0 (k + 1) y0 y1 y2))
 | 0 => fun _ _ _ r h => by simp [laws_FnExactDepthOf.j0] at h
 | k + 1 => by
  have ih0 := laws_FnExactDepthOf.mono_l k
  ·intro y0 y1 y2
   unfold laws_FnExactDepthOf.j0
   repeat' first
   | (with_reducible exact ih0 _ _ _)
   | (with_reducible exact impl_DepthOf.mono _ _ _ _ _ _)
   | (with_reducible exact laws_eqNodeS.mono _ _ _)
   | (with_reducible exact laws_toNodeS.mono _ _)
   | (with_reducible exact spec_DepthOf.mono _ _ _ _ _ _)
   | (with_reducible exact LeO.refl _)
   | (with_reducible exact LeO.none _)
   | (with_reducible refine LeO.ite ?_ ?_)
   | (with_reducible refine LeO.bind ?_ (fun _ => ?_))
   | exact ih0 _ _ _
   | exact impl_DepthOf.mono _ _ _ _ _ _
   | exact laws_eqNodeS.mono _ _ _
   | exact laws_toNodeS.mono _ _
   | exact spec_DepthOf.mono _ _ _ _ _ _
   | exact LeO.none _
   | refine LeO.ite ?_ ?_
   | refine LeO.bind ?_ (fun _ => ?_)
theorem laws_FnExactDepthOf.mono : ∀ a0 a1 a2 a3 a4 k, LeO (laws_FnExactDepthOf.f k a0 a1 a2 a3 a4) (laws_FnExactDepthOf.f (k + 1) a0 a1 a2 a3 a4) := by
 intro a0 a1 a2 a3 a4 k
 have ih0 := laws_FnExactDepthOf.mono_l k
 unfold laws_FnExactDepthOf.f
 repeat' first
   | (with_reducible exact ih0 _ _ _)
   | (with_reducible exact impl_DepthOf.mono _ _ _ _ _ _)
   | (with_reducible exact laws_eqNodeS.mono _ _ _)
   | (with_reducible exact laws_toNodeS.mono _ _)
   | (with_reducible exact spec_DepthOf.mono _ _ _ _ _ _)
   | (with_reducible exact LeO.refl _)
   | (with_reducible exact LeO.none _)
   | (with_reducible refine LeO.ite ?_ ?_)
   | (with_reducible refine LeO.bind ?_ (fun _ => ?_))
   | exact ih0 _ _ _
   | exact impl_DepthOf.mono _ _ _ _ _ _
   | exact laws_eqNodeS.mono _ _ _
   | exact laws_toNodeS.mono _ _
   | exact spec_DepthOf.mono _ _ _ _ _ _
   | exact LeO.none _
   | refine LeO.ite ?_ ?_
   | refine LeO.bind ?_ (fun _ => ?_)
set_option maxHeartbeats 8000000 in
set_option maxRecDepth 100000 in
theorem laws_FnExactDepthOf.calls (k : Nat) (a0_0 : Int) (a0_1 : Int) (a0_2 : Bool) (a0_3 : Bool) (A1 : Option Addr) (c1 : Nat) (l1 : List (S58)) (r : Bool) (w : World) (hr1 : Kd.C k58 w A1 l1.length l1) (hc1 : l1.length ≤ c1) (h : laws_FnExactDepthOf.f k a0_0 a0_1 a0_2 a0_3 l1 = some r) :
  Calls Try.prog 4 #[.agg #[.int .i8 a0_0, .int .i8 a0_1, .bool a0_2, .bool a0_3], .slice A1 l1.length c1] w fun e w' => e = .returned (.bool r) ∧ Below w.heap.size w w' := by
 have hu24 := Try.underlying24
 have HR1 := ze.mk hr1
 have HC1 := ze.mk hc1
 clear hr1 hc1
 have HB := ze.mk (Below.refl w.heap.size w)
 have H : ((laws_szNodeS.f l1 1048576).bind fun t396 => (if t396 < 0 then (some true) else ((laws_toTask.f a0_0 a0_1 a0_2 a0_3).bind fun bt397 => ((laws_toNodeS.f k l1).bind fun t401 => ((spec_DepthOf.f k bt397.1 bt397.2.1 bt397.2.2.1 bt397.2.2.2 t401).bind fun bt404 => ((laws_toNodeS.f k l1).bind fun t406 => ((laws_toTask.f a0_0 a0_1 a0_2 a0_3).bind fun bt409 => ((impl_DepthOf.f k bt409.1 bt409.2.1 bt409.2.2.1 bt409.2.2.2 t406).bind fun bt413 => (if bt413.1 = bt404.1 then (laws_FnExactDepthOf.j0 k l1 t406 (bt413.2 != bt404.2)) else (laws_FnExactDepthOf.j0 k l1 t406 true)))))))))) = some r := h
 clear h
 replace H := Option.bind_eq_some_iff.mp H
 obtain ⟨t396, A30, H⟩ := H
 replace H : (if t396 < 0 then (some true) else ((laws_toTask.f a0_0 a0_1 a0_2 a0_3).bind fun bt397 => ((laws_toNodeS.f k l1).bind fun t401 => ((spec_DepthOf.f k bt397.1 bt397.2.1 bt397.2.2.1 bt397.2.2.2 t401).bind fun bt404 => ((laws_toNodeS.f k l1).bind fun t406 => ((laws_toTask.f a0_0 a0_1 a0_2 a0_3).bind fun bt409 => ((impl_DepthOf.f k bt409.1 bt409.2.1 bt409.2.2.1 bt409.2.2.2 t406).bind fun bt413 => (if bt413.1 = bt404.1 then (laws_FnExactDepthOf.j0 k l1 t406 (bt413.2 != bt404.2)) else (laws_FnExactDepthOf.j0 k l1 t406 true))))))))) = some r := H
 have A3 := ze.mk A30
 clear A30
 by_cases c4 : t396 < 0
 ·rw [if_pos c4] at H
  have c4b0 : decide (t396 < 0) = true := decide_eq_true c4
  clear c4
  obtain rfl := Option.some.inj H
  go_enter Try.func4, Try.ntmps4
  go_wp2_with (first | ((with_reducible refine zn (N := 2) rfl ?_); refine zm ?hg (N := 2) ?hd (cs := #[.int .i8 a0_0, .int .i8 a0_1, .bool a0_2, .bool a0_3]) (t := 24) ?hr ?_; (case hd => rfl); (case hg => rfl); (case hr => first | (go_simp; done) | (go_simp; rfl)); intro gb395 hg w5 hbox hb; have n0_ := ze.mk (zk (by repeat (first | (with_reducible first | exact HB.out | apply zc | apply za | apply zb) | exact HB.out)) hb); have n1_ := ze.mk (hbox); have n2_ := ze.mk ((by rw [hg]; exact (zj (by repeat (first | (with_reducible first | exact HB.out | apply zc | apply za | apply zb) | exact HB.out))) : w.heap.size ≤ gb395)); have n3_ := ze.mk ((by rw [hg]; exact (zj (by repeat (first | (with_reducible first | exact HB.out | apply zc | apply za | apply zb) | exact HB.out))) : w.heap.size ≤ gb395)); clear HB; have HB := n0_; have BK395 := n1_; have GW395 := n2_; have GE395 := n3_; clear n0_ n1_ n2_ n3_; clear hb hbox hg) | ((with_reducible refine zo (f := 8) rfl ?_); refine zx (some 13) rfl rfl Try.func8 (by kernel_rfl) rfl #[.slice A1 l1.length c1, .int .i64 1048576] rfl (by (try simp only [List.map_toArray, List.map_cons, List.map_nil]); first | done | rfl | (simp only [List.length_drop, List.length_take]; rfl)) ?_; (with_reducible refine (laws_szNodeS.calls _ _ l1 1048576 t396 _ ?side1 ?side2 A3.out).mono ?_); (case side1 => repeat (first | exact (Kd.C_below HR1.out HB.out) | (with_reducible refine Kd.C_alloc ?_ _) | (with_reducible refine Kd.C_drewN ?_ _) | (with_reducible refine Kd.C_drew ?_))); (case side2 => exact HC1.out); rintro e w' ⟨rfl, ⟨nd, rfl⟩⟩; refine ⟨_, rfl, ?_⟩))
  go_ret
  exact ⟨by first | rfl | (simp [errW_none, errW_some] <;> rfl) | (simp [*, errW_none, errW_some] <;> rfl), by repeat (first | (with_reducible first | exact HB.out | apply zc | apply za | apply zb | refine zf ?_ GE395.out) | exact HB.out)⟩
 ·rw [if_neg c4] at H
  have c4b0 : decide (t396 < 0) = false := decide_eq_false c4
  clear c4
  replace H := Option.bind_eq_some_iff.mp H
  obtain ⟨⟨t397, t398, t399, t400⟩, A60, H⟩ := H
  replace H : ((laws_toNodeS.f k l1).bind fun t401 => ((spec_DepthOf.f k t397 t398 t399 t400 t401).bind fun bt404 => ((laws_toNodeS.f k l1).bind fun t406 => ((laws_toTask.f a0_0 a0_1 a0_2 a0_3).bind fun bt409 => ((impl_DepthOf.f k bt409.1 bt409.2.1 bt409.2.2.1 bt409.2.2.2 t406).bind fun bt413 => (if bt413.1 = bt404.1 then (laws_FnExactDepthOf.j0 k l1 t406 (bt413.2 != bt404.2)) else (laws_FnExactDepthOf.j0 k l1 t406 true))))))) = some r := H
  have A6 := ze.mk A60
  clear A60
  replace H := Option.bind_eq_some_iff.mp H
  obtain ⟨t401, A70, H⟩ := H
  replace H : ((spec_DepthOf.f k t397 t398 t399 t400 t401).bind fun bt404 => ((laws_toNodeS.f k l1).bind fun t406 => ((laws_toTask.f a0_0 a0_1 a0_2 a0_3).bind fun bt409 => ((impl_DepthOf.f k bt409.1 bt409.2.1 bt409.2.2.1 bt409.2.2.2 t406).bind fun bt413 => (if bt413.1 = bt404.1 then (laws_FnExactDepthOf.j0 k l1 t406 (bt413.2 != bt404.2)) else (laws_FnExactDepthOf.j0 k l1 t406 true)))))) = some r := H
  have A7 := ze.mk A70
  clear A70
  replace H := Option.bind_eq_some_iff.mp H
  obtain ⟨⟨t404, t405⟩, A80, H⟩ := H
  replace H : ((laws_toNodeS.f k l1).bind fun t406 => ((laws_toTask.f a0_0 a0_1 a0_2 a0_3).bind fun bt409 => ((impl_DepthOf.f k bt409.1 bt409.2.1 bt409.2.2.1 bt409.2.2.2 t406).bind fun bt413 => (if bt413.1 = t404 then (laws_FnExactDepthOf.j0 k l1 t406 (bt413.2 != t405)) else (laws_FnExactDepthOf.j0 k l1 t406 true))))) = some r := H
  have A8 := ze.mk A80
  clear A80
  replace H := Option.bind_eq_some_iff.mp H
  obtain ⟨t406, A90, H⟩ := H
  replace H : ((laws_toTask.f a0_0 a0_1 a0_2 a0_3).bind fun bt409 => ((impl_DepthOf.f k bt409.1 bt409.2.1 bt409.2.2.1 bt409.2.2.2 t406).bind fun bt413 => (if bt413.1 = t404 then (laws_FnExactDepthOf.j0 k l1 t406 (bt413.2 != t405)) else (laws_FnExactDepthOf.j0 k l1 t406 true)))) = some r := H
  have A9 := ze.mk A90
  clear A90
  replace H := Option.bind_eq_some_iff.mp H
  obtain ⟨⟨t409, t410, t411, t412⟩, A100, H⟩ := H
  replace H : ((impl_DepthOf.f k t409 t410 t411 t412 t406).bind fun bt413 => (if bt413.1 = t404 then (laws_FnExactDepthOf.j0 k l1 t406 (bt413.2 != t405)) else (laws_FnExactDepthOf.j0 k l1 t406 true))) = some r := H
  have A10 := ze.mk A100
  clear A100
  replace H := Option.bind_eq_some_iff.mp H
  obtain ⟨⟨t413, t414⟩, A110, H⟩ := H
  replace H : (if t413 = t404 then (laws_FnExactDepthOf.j0 k l1 t406 (t414 != t405)) else (laws_FnExactDepthOf.j0 k l1 t406 true)) = some r := H
  have A11 := ze.mk A110
  clear A110
  have HC12 := ze.mk H
  clear H
  go_enter Try.func4, Try.ntmps4
  go_upto_region 8 with (first | ((with_reducible refine zn (N := 2) rfl ?_); refine zm ?hg (N := 2) ?hd (cs := #[.int .i8 a0_0, .int .i8 a0_1, .bool a0_2, .bool a0_3]) (t := 24) ?hr ?_; (case hd => rfl); (case hg => rfl); (case hr => first | (go_simp; done) | (go_simp; rfl)); intro gb395 hg w13 hbox hb; have n0_ := ze.mk (zk (by repeat (first | (with_reducible first | exact HB.out | apply zc | apply za | apply zb) | exact HB.out)) hb); have n1_ := ze.mk (hbox); have n2_ := ze.mk ((by rw [hg]; exact (zj (by repeat (first | (with_reducible first | exact HB.out | apply zc | apply za | apply zb) | exact HB.out))) : w.heap.size ≤ gb395)); have n3_ := ze.mk ((by rw [hg]; exact (zj (by repeat (first | (with_reducible first | exact HB.out | apply zc | apply za | apply zb) | exact HB.out))) : w.heap.size ≤ gb395)); clear HB; have HB := n0_; have BK395 := n1_; have GW395 := n2_; have GE395 := n3_; clear n0_ n1_ n2_ n3_; clear hb hbox hg) | ((with_reducible refine zo (f := 8) rfl ?_); refine zx (some 13) rfl rfl Try.func8 (by kernel_rfl) rfl #[.slice A1 l1.length c1, .int .i64 1048576] rfl (by (try simp only [List.map_toArray, List.map_cons, List.map_nil]); first | done | rfl | (simp only [List.length_drop, List.length_take]; rfl)) ?_; (with_reducible refine (laws_szNodeS.calls _ _ l1 1048576 t396 _ ?side1 ?side2 A3.out).mono ?_); (case side1 => repeat (first | exact (Kd.C_below HR1.out HB.out) | (with_reducible refine Kd.C_alloc ?_ _) | (with_reducible refine Kd.C_drewN ?_ _) | (with_reducible refine Kd.C_drew ?_))); (case side2 => exact HC1.out); rintro e w' ⟨rfl, ⟨nd, rfl⟩⟩; refine ⟨_, rfl, ?_⟩; have hcz14_0 := cz BK395.out 0 rfl; have hcz14_1 := cz BK395.out 1 rfl; have hcz14_2 := cz BK395.out 2 rfl; have hcz14_3 := cz BK395.out 3 rfl; have hfz14_0 := zd BK395.out 0; have hfz14_1 := zd BK395.out 1; have hfz14_2 := zd BK395.out 2; have hfz14_3 := zd BK395.out 3) | ((with_reducible refine zo (f := 10) rfl ?_); refine zx (some 18) rfl rfl Try.func10 (by kernel_rfl) rfl #[.agg #[.int .i8 a0_0, .int .i8 a0_1, .bool a0_2, .bool a0_3]] rfl (by (try simp only [List.map_toArray, List.map_cons, List.map_nil]); first | done | rfl | (simp only [List.length_drop, List.length_take]; rfl)) ?_; (with_reducible refine (laws_toTask.calls a0_0 a0_1 a0_2 a0_3 t397 t398 t399 t400 _ A6.out).mono ?_); rintro e w15 ⟨rfl, hb⟩; refine ⟨_, rfl, ?_⟩; have n0_ := ze.mk (zl (g := gb395) (o := .cells #[.int .i8 a0_0, .int .i8 a0_1, .bool a0_2, .bool a0_3] 24 (0, 0)) (by (with_reducible repeat (first | refine zh ?_ _ | refine zi ?_ | refine zg ?_ _)); exact BK395.out) hb); have n1_ := ze.mk (zk (by repeat (first | (with_reducible first | exact HB.out | apply zc | apply za | apply zb | refine zf ?_ GE395.out) | exact HB.out)) hb); clear BK395; clear HB; have BK395 := n0_; have HB := n1_; clear n0_ n1_; (try clear hb); (try clear hb2); (try clear hk); (try clear hi)) | ((with_reducible refine zo (f := 11) rfl ?_); refine zx (some 20) rfl rfl Try.func11 (by kernel_rfl) rfl #[.slice A1 l1.length c1] rfl (by (try simp only [List.map_toArray, List.map_cons, List.map_nil]); first | done | rfl | (simp only [List.length_drop, List.length_take]; rfl)) ?_; (with_reducible refine (laws_toNodeS.calls k _ _ l1 t401 _ ?side1 ?side2 A7.out).mono ?_); (case side1 => repeat (first | exact (Kd.C_below HR1.out HB.out) | (with_reducible refine Kd.C_alloc ?_ _) | (with_reducible refine Kd.C_drewN ?_ _) | (with_reducible refine Kd.C_drew ?_))); (case side2 => exact HC1.out); rintro e w16 ⟨v402, rfl, ho0, hb⟩; refine ⟨_, rfl, ?_⟩; have n0_ := ze.mk (Kd.R_lower ho0 (zj (by repeat (first | (with_reducible first | exact HB.out | apply zc | apply za | apply zb | refine zf ?_ GE395.out) | exact HB.out)))); have n1_ := ze.mk (zl (g := gb395) (o := .cells #[.int .i8 a0_0, .int .i8 a0_1, .bool a0_2, .bool a0_3] 24 (0, 0)) (by (with_reducible repeat (first | refine zh ?_ _ | refine zi ?_ | refine zg ?_ _)); exact BK395.out) hb); have n2_ := ze.mk (zk (by repeat (first | (with_reducible first | exact HB.out | apply zc | apply za | apply zb | refine zf ?_ GE395.out) | exact HB.out)) hb); clear BK395; clear HB; have HO403 := n0_; have BK395 := n1_; have HB := n2_; clear n0_ n1_ n2_; (try clear hb); (try clear hb2); (try clear hk); (try clear hi); (try clear ho0); obtain ⟨Ao17, co17, eo17⟩ := Kd.R_slice HO403.out; subst eo17) | ((with_reducible refine zo (f := 14) rfl ?_); refine zx (some 21) rfl rfl Try.func14 (by kernel_rfl) rfl #[.agg #[.int .i8 t397, .int .i8 t398, .bool t399, .bool t400], .slice Ao17 t401.length co17] rfl (by (try simp only [List.map_toArray, List.map_cons, List.map_nil]); first | done | rfl | (simp only [List.length_drop, List.length_take]; rfl)) ?_; (with_reducible refine (spec_DepthOf.calls k t397 t398 t399 t400 _ _ t401 t404 t405 _ ?side1 ?side2 A8.out).mono ?_); (case side1 => repeat (first | exact (Kd.R_reads' HO403.out).2.2 | (with_reducible refine Kd.C_alloc ?_ _) | (with_reducible refine Kd.C_drewN ?_ _) | (with_reducible refine Kd.C_drew ?_))); (case side2 => exact (Kd.R_reads' HO403.out).2.1); rintro e w18 ⟨rfl, hb⟩; refine ⟨_, rfl, ?_⟩; have n0_ := ze.mk (Kd.R_below (by (with_reducible repeat (first | apply Kd.R_alloc | apply Kd.R_drewN | apply Kd.R_drew)); exact HO403.out) hb); have n1_ := ze.mk (zl (g := gb395) (o := .cells #[.int .i8 a0_0, .int .i8 a0_1, .bool a0_2, .bool a0_3] 24 (0, 0)) (by (with_reducible repeat (first | refine zh ?_ _ | refine zi ?_ | refine zg ?_ _)); exact BK395.out) hb); have n2_ := ze.mk (zk (by repeat (first | (with_reducible first | exact HB.out | apply zc | apply za | apply zb | refine zf ?_ GE395.out) | exact HB.out)) hb); clear HO403; clear BK395; clear HB; have HO403 := n0_; have BK395 := n1_; have HB := n2_; clear n0_ n1_ n2_; (try clear hb); (try clear hb2); (try clear hk); (try clear hi)) | ((with_reducible refine zo (f := 11) rfl ?_); refine zx (some 25) rfl rfl Try.func11 (by kernel_rfl) rfl #[.slice A1 l1.length c1] rfl (by (try simp only [List.map_toArray, List.map_cons, List.map_nil]); first | done | rfl | (simp only [List.length_drop, List.length_take]; rfl)) ?_; (with_reducible refine (laws_toNodeS.calls k _ _ l1 t406 _ ?side1 ?side2 A9.out).mono ?_); (case side1 => repeat (first | exact (Kd.C_below HR1.out HB.out) | (with_reducible refine Kd.C_alloc ?_ _) | (with_reducible refine Kd.C_drewN ?_ _) | (with_reducible refine Kd.C_drew ?_))); (case side2 => exact HC1.out); rintro e w19 ⟨v407, rfl, ho0, hb⟩; refine ⟨_, rfl, ?_⟩; have n0_ := ze.mk (Kd.R_elder' (by (with_reducible repeat (first | apply Kd.R_alloc | apply Kd.R_drewN | apply Kd.R_drew)); exact HO403.out) (Kd.R_base ho0) hb); have n1_ := ze.mk (Kd.R_lower (Kd.R_new' ho0 (Kd.R_lt (by (with_reducible repeat (first | apply Kd.R_alloc | apply Kd.R_drewN | apply Kd.R_drew)); exact HO403.out))) (zj (by repeat (first | (with_reducible first | exact HB.out | apply zc | apply za | apply zb | refine zf ?_ GE395.out) | exact HB.out)))); have n2_ := ze.mk (zl (g := gb395) (o := .cells #[.int .i8 a0_0, .int .i8 a0_1, .bool a0_2, .bool a0_3] 24 (0, 0)) (by (with_reducible repeat (first | refine zh ?_ _ | refine zi ?_ | refine zg ?_ _)); exact BK395.out) hb); have n3_ := ze.mk (zk (by repeat (first | (with_reducible first | exact HB.out | apply zc | apply za | apply zb | refine zf ?_ GE395.out) | exact HB.out)) hb); clear HO403; clear BK395; clear HB; have HO403 := n0_; have HO408 := n1_; have BK395 := n2_; have HB := n3_; clear n0_ n1_ n2_ n3_; (try clear hb); (try clear hb2); (try clear hk); (try clear hi); (try clear ho0); have hcz20_0 := cz BK395.out 0 rfl; have hcz20_1 := cz BK395.out 1 rfl; have hcz20_2 := cz BK395.out 2 rfl; have hcz20_3 := cz BK395.out 3 rfl; have hfz20_0 := zd BK395.out 0; have hfz20_1 := zd BK395.out 1; have hfz20_2 := zd BK395.out 2; have hfz20_3 := zd BK395.out 3) | ((with_reducible refine zo (f := 10) rfl ?_); refine zx (some 28) rfl rfl Try.func10 (by kernel_rfl) rfl #[.agg #[.int .i8 a0_0, .int .i8 a0_1, .bool a0_2, .bool a0_3]] rfl (by (try simp only [List.map_toArray, List.map_cons, List.map_nil]); first | done | rfl | (simp only [List.length_drop, List.length_take]; rfl)) ?_; (with_reducible refine (laws_toTask.calls a0_0 a0_1 a0_2 a0_3 t409 t410 t411 t412 _ A10.out).mono ?_); rintro e w21 ⟨rfl, hb⟩; refine ⟨_, rfl, ?_⟩; have n0_ := ze.mk (Kd.R_below (by (with_reducible repeat (first | apply Kd.R_alloc | apply Kd.R_drewN | apply Kd.R_drew)); exact HO403.out) hb); have n1_ := ze.mk (Kd.R_below (by (with_reducible repeat (first | apply Kd.R_alloc | apply Kd.R_drewN | apply Kd.R_drew)); exact HO408.out) hb); have n2_ := ze.mk (zl (g := gb395) (o := .cells #[.int .i8 a0_0, .int .i8 a0_1, .bool a0_2, .bool a0_3] 24 (0, 0)) (by (with_reducible repeat (first | refine zh ?_ _ | refine zi ?_ | refine zg ?_ _)); exact BK395.out) hb); have n3_ := ze.mk (zk (by repeat (first | (with_reducible first | exact HB.out | apply zc | apply za | apply zb | refine zf ?_ GE395.out) | exact HB.out)) hb); clear HO403; clear HO408; clear BK395; clear HB; have HO403 := n0_; have HO408 := n1_; have BK395 := n2_; have HB := n3_; clear n0_ n1_ n2_ n3_; (try clear hb); (try clear hb2); (try clear hk); (try clear hi); obtain ⟨Ao22, co22, eo22⟩ := Kd.R_slice HO408.out; subst eo22) | ((with_reducible refine zo (f := 15) rfl ?_); refine zx (some 30) rfl rfl Try.func15 (by kernel_rfl) rfl #[.agg #[.int .i8 t409, .int .i8 t410, .bool t411, .bool t412], .slice Ao22 t406.length co22] rfl (by (try simp only [List.map_toArray, List.map_cons, List.map_nil]); first | done | rfl | (simp only [List.length_drop, List.length_take]; rfl)) ?_; (with_reducible refine (impl_DepthOf.calls k t409 t410 t411 t412 _ _ t406 t413 t414 _ ?side1 ?side2 A11.out).mono ?_); (case side1 => repeat (first | exact (Kd.R_reads' HO408.out).2.2 | (with_reducible refine Kd.C_alloc ?_ _) | (with_reducible refine Kd.C_drewN ?_ _) | (with_reducible refine Kd.C_drew ?_))); (case side2 => exact (Kd.R_reads' HO408.out).2.1); rintro e w23 ⟨rfl, hb⟩; refine ⟨_, rfl, ?_⟩; have n0_ := ze.mk (Kd.R_below (by (with_reducible repeat (first | apply Kd.R_alloc | apply Kd.R_drewN | apply Kd.R_drew)); exact HO403.out) hb); have n1_ := ze.mk (Kd.R_below (by (with_reducible repeat (first | apply Kd.R_alloc | apply Kd.R_drewN | apply Kd.R_drew)); exact HO408.out) hb); have n2_ := ze.mk (zl (g := gb395) (o := .cells #[.int .i8 a0_0, .int .i8 a0_1, .bool a0_2, .bool a0_3] 24 (0, 0)) (by (with_reducible repeat (first | refine zh ?_ _ | refine zi ?_ | refine zg ?_ _)); exact BK395.out) hb); have n3_ := ze.mk (zk (by repeat (first | (with_reducible first | exact HB.out | apply zc | apply za | apply zb | refine zf ?_ GE395.out) | exact HB.out)) hb); clear HO403; clear HO408; clear BK395; clear HB; have HO403 := n0_; have HO408 := n1_; have BK395 := n2_; have HB := n3_; clear n0_ n1_ n2_ n3_; (try clear hb); (try clear hb2); (try clear hk); (try clear hi)))
  (try simp only [Act.put, List.setIfInBounds_toArray, List.set_cons_zero, List.set_cons_succ])
  go_cut [40] (fun v40 wc => ∃ (kq : Nat) (x40_11 : Bool), v40 = .bool x40_11 ∧ ze (laws_FnExactDepthOf.j0 kq l1 t406 x40_11 = some r) ∧ ze (kq ≤ k) ∧ ze (Kd.R k54 54 wc w.heap.size (fun _ => True) (.slice Ao22 t406.length co22) t406) ∧ ze (wc.heap[gb395]? = some (.cells #[.int .i8 a0_0, .int .i8 a0_1, .bool a0_2, .bool a0_3] 24 (0, 0))) ∧ ze (Below w.heap.size w wc))
  case first =>
   have H := HC12.out
   clear HC12
   by_cases c24 : t413 = t404
   ·rw [if_pos c24] at H
    have c24b0 : (t413 == t404) = true := beq_iff_eq.mpr c24
    have c24b1 : (t413 != t404) = false := bne_eq_false_iff_eq.mpr c24
    clear c24
    (first | rw [c24b0] | (simp only [zq, zr]; rw [c24b0]) | skip)
    have H' := ze.mk H
    clear H
    go_wp2
    go_meet
    case rel => exact ⟨_, ((t414 != t405)), (by first | rfl | (simp; done) | (simp [*]; done)), H', ⟨by first | omega | exact Nat.le_refl _⟩, ⟨by (with_reducible repeat (first | apply Kd.R_alloc | apply Kd.R_drewN | apply Kd.R_drew)); exact Kd.R_mono HO408.out (fun _ hk => trivial)⟩, ⟨by (with_reducible repeat (first | refine zh ?_ _ | refine zi ?_ | refine zg ?_ _)); exact BK395.out⟩, ⟨by repeat (first | (with_reducible first | exact HB.out | apply zc | apply za | apply zb | refine zf ?_ GE395.out) | exact HB.out)⟩⟩
   ·rw [if_neg c24] at H
    have c24b0 : (t413 == t404) = false := beq_eq_false_iff_ne.mpr c24
    have c24b1 : (t413 != t404) = true := bne_iff_ne.mpr c24
    (first | rw [c24b0] | (simp only [zq, zr]; rw [c24b0]) | skip)
    have H' := ze.mk H
    clear H
    go_wp2
    go_meet
    case rel => exact ⟨_, (true), (by first | rfl | (simp; done) | (simp [*]; done)), H', ⟨by first | omega | exact Nat.le_refl _⟩, ⟨by (with_reducible repeat (first | apply Kd.R_alloc | apply Kd.R_drewN | apply Kd.R_drew)); exact Kd.R_mono HO408.out (fun _ hk => trivial)⟩, ⟨by (with_reducible repeat (first | refine zh ?_ _ | refine zi ?_ | refine zg ?_ _)); exact BK395.out⟩, ⟨by repeat (first | (with_reducible first | exact HB.out | apply zc | apply za | apply zb | refine zf ?_ GE395.out) | exact HB.out)⟩⟩
  case rest =>
   clear HC12
   try clear c1
   try clear c2
   try clear p2
   try clear c4
   try clear c4b0
   try clear c8
   try clear c10
   try clear c11
   try clear c14
   try clear c15
   try clear c24
   try clear c24b0
   try clear c24b1
   try clear hcz14_0
   try clear hcz14_1
   try clear hcz14_2
   try clear hcz14_3
   try clear hcz20_0
   try clear hcz20_1
   try clear hcz20_2
   try clear hcz20_3
   try clear hfz14_0
   try clear hfz14_1
   try clear hfz14_2
   try clear hfz14_3
   try clear hfz20_0
   try clear hfz20_1
   try clear hfz20_2
   try clear hfz20_3
   obtain ⟨kq, x40_11, rfl, HA, HJ11, HO_8, BK395, HB⟩ := hcut
   cases kq with
   | zero => exact absurd HA.out (by simp [laws_FnExactDepthOf.j0])
   | succ kj11 =>
    have H := HA.out
    clear HA
    simp only [laws_FnExactDepthOf.j0] at H
    by_cases c25 : x40_11 = true
    ·subst c25
     have H1 : (some false) = some r := by rw [if_pos rfl] at H; exact H
     clear H
     have H := H1
     clear H1
     obtain rfl := Option.some.inj H
     go_wp2
     go_ret
     exact ⟨by first | rfl | (simp [errW_none, errW_some] <;> rfl) | (simp [*, errW_none, errW_some] <;> rfl), by repeat (first | (with_reducible first | exact HB.out | apply zc | apply za | apply zb | refine zf ?_ GE395.out) | exact HB.out)⟩
    ·replace c25 := Bool.eq_false_iff.mpr c25
     subst c25
     have H1 : ((laws_toNodeS.f kj11 l1).bind fun t415 => ((laws_eqNodeS.f kj11 t406 t415).bind fun t418 => (if t418 = true then (some true) else (some false)))) = some r := by rw [if_neg (show ¬ (false = true) by decide)] at H; exact H
     clear H
     have H := H1
     clear H1
     replace H := Option.bind_eq_some_iff.mp H
     obtain ⟨t415, A260, H⟩ := H
     replace H : ((laws_eqNodeS.f kj11 t406 t415).bind fun t418 => (if t418 = true then (some true) else (some false))) = some r := H
     have A26 := ze.mk A260
     clear A260
     replace H := Option.bind_eq_some_iff.mp H
     obtain ⟨t418, A270, H⟩ := H
     replace H : (if t418 = true then (some true) else (some false)) = some r := H
     have A27 := ze.mk A270
     clear A270
     by_cases c28 : t418 = true
     ·subst c28
      have H1 : (some true) = some r := by rw [if_pos rfl] at H; exact H
      clear H
      have H := H1
      clear H1
      obtain rfl := Option.some.inj H
      go_wp2_with (first | ((with_reducible refine zo (f := 11) rfl ?_); refine zx (some 43) rfl rfl Try.func11 (by kernel_rfl) rfl #[.slice A1 l1.length c1] rfl (by (try simp only [List.map_toArray, List.map_cons, List.map_nil]); first | done | rfl | (simp only [List.length_drop, List.length_take]; rfl)) ?_; (with_reducible refine (laws_toNodeS.calls kj11 _ _ l1 t415 _ ?side1 ?side2 A26.out).mono ?_); (case side1 => repeat (first | exact (Kd.C_below HR1.out HB.out) | (with_reducible refine Kd.C_alloc ?_ _) | (with_reducible refine Kd.C_drewN ?_ _) | (with_reducible refine Kd.C_drew ?_))); (case side2 => exact HC1.out); rintro e w29 ⟨v416, rfl, ho0, hb⟩; refine ⟨_, rfl, ?_⟩; have n0_ := ze.mk (Kd.R_elder' (by (with_reducible repeat (first | apply Kd.R_alloc | apply Kd.R_drewN | apply Kd.R_drew)); exact HO_8.out) (Kd.R_base ho0) hb); have n1_ := ze.mk (Kd.R_lower (Kd.R_new' ho0 (Kd.R_lt (by (with_reducible repeat (first | apply Kd.R_alloc | apply Kd.R_drewN | apply Kd.R_drew)); exact HO_8.out))) (zj (by repeat (first | (with_reducible first | exact HB.out | apply zc | apply za | apply zb | refine zf ?_ GE395.out) | exact HB.out)))); have n2_ := ze.mk (zl (g := gb395) (o := .cells #[.int .i8 a0_0, .int .i8 a0_1, .bool a0_2, .bool a0_3] 24 (0, 0)) (by (with_reducible repeat (first | refine zh ?_ _ | refine zi ?_ | refine zg ?_ _)); exact BK395.out) hb); have n3_ := ze.mk (zk (by repeat (first | (with_reducible first | exact HB.out | apply zc | apply za | apply zb | refine zf ?_ GE395.out) | exact HB.out)) hb); clear HO_8; clear BK395; clear HB; have HO_8 := n0_; have HO417 := n1_; have BK395 := n2_; have HB := n3_; clear n0_ n1_ n2_ n3_; (try clear hb); (try clear hb2); (try clear hk); (try clear hi); (try clear ho0); obtain ⟨Ao30, co30, eo30⟩ := Kd.R_slice HO417.out; subst eo30) | ((with_reducible refine zo (f := 13) rfl ?_); refine zx (some 44) rfl rfl Try.func13 (by kernel_rfl) rfl #[.slice Ao22 t406.length co22, .slice Ao30 t415.length co30] rfl (by (try simp only [List.map_toArray, List.map_cons, List.map_nil]); first | done | rfl | (simp only [List.length_drop, List.length_take]; rfl)) ?_; (with_reducible refine (laws_eqNodeS.calls kj11 _ _ t406 _ _ t415 true _ ?side1 ?side2 ?side3 ?side4 A27.out).mono ?_); (case side1 => repeat (first | exact (Kd.R_reads' HO_8.out).2.2 | (with_reducible refine Kd.C_alloc ?_ _) | (with_reducible refine Kd.C_drewN ?_ _) | (with_reducible refine Kd.C_drew ?_))); (case side2 => exact (Kd.R_reads' HO_8.out).2.1); (case side3 => repeat (first | exact (Kd.R_reads' HO417.out).2.2 | (with_reducible refine Kd.C_alloc ?_ _) | (with_reducible refine Kd.C_drewN ?_ _) | (with_reducible refine Kd.C_drew ?_))); (case side4 => exact (Kd.R_reads' HO417.out).2.1); rintro e w31 ⟨rfl, hb⟩; refine ⟨_, rfl, ?_⟩; have n0_ := ze.mk (Kd.R_below (by (with_reducible repeat (first | apply Kd.R_alloc | apply Kd.R_drewN | apply Kd.R_drew)); exact HO_8.out) hb); have n1_ := ze.mk (Kd.R_below (by (with_reducible repeat (first | apply Kd.R_alloc | apply Kd.R_drewN | apply Kd.R_drew)); exact HO417.out) hb); have n2_ := ze.mk (zl (g := gb395) (o := .cells #[.int .i8 a0_0, .int .i8 a0_1, .bool a0_2, .bool a0_3] 24 (0, 0)) (by (with_reducible repeat (first | refine zh ?_ _ | refine zi ?_ | refine zg ?_ _)); exact BK395.out) hb); have n3_ := ze.mk (zk (by repeat (first | (with_reducible first | exact HB.out | apply zc | apply za | apply zb | refine zf ?_ GE395.out) | exact HB.out)) hb); clear HO_8; clear HO417; clear BK395; clear HB; have HO_8 := n0_; have HO417 := n1_; have BK395 := n2_; have HB := n3_; clear n0_ n1_ n2_ n3_; (try clear hb); (try clear hb2); (try clear hk); (try clear hi)))
      go_ret
      exact ⟨by first | rfl | (simp [errW_none, errW_some] <;> rfl) | (simp [*, errW_none, errW_some] <;> rfl), by repeat (first | (with_reducible first | exact HB.out | apply zc | apply za | apply zb | refine zf ?_ GE395.out) | exact HB.out)⟩
     ·replace c28 := Bool.eq_false_iff.mpr c28
      subst c28
      have H1 : (some false) = some r := by rw [if_neg (show ¬ (false = true) by decide)] at H; exact H
      clear H
      have H := H1
      clear H1
      obtain rfl := Option.some.inj H
      go_wp2_with (first | ((with_reducible refine zo (f := 11) rfl ?_); refine zx (some 43) rfl rfl Try.func11 (by kernel_rfl) rfl #[.slice A1 l1.length c1] rfl (by (try simp only [List.map_toArray, List.map_cons, List.map_nil]); first | done | rfl | (simp only [List.length_drop, List.length_take]; rfl)) ?_; (with_reducible refine (laws_toNodeS.calls kj11 _ _ l1 t415 _ ?side1 ?side2 A26.out).mono ?_); (case side1 => repeat (first | exact (Kd.C_below HR1.out HB.out) | (with_reducible refine Kd.C_alloc ?_ _) | (with_reducible refine Kd.C_drewN ?_ _) | (with_reducible refine Kd.C_drew ?_))); (case side2 => exact HC1.out); rintro e w32 ⟨v416, rfl, ho0, hb⟩; refine ⟨_, rfl, ?_⟩; have n0_ := ze.mk (Kd.R_elder' (by (with_reducible repeat (first | apply Kd.R_alloc | apply Kd.R_drewN | apply Kd.R_drew)); exact HO_8.out) (Kd.R_base ho0) hb); have n1_ := ze.mk (Kd.R_lower (Kd.R_new' ho0 (Kd.R_lt (by (with_reducible repeat (first | apply Kd.R_alloc | apply Kd.R_drewN | apply Kd.R_drew)); exact HO_8.out))) (zj (by repeat (first | (with_reducible first | exact HB.out | apply zc | apply za | apply zb | refine zf ?_ GE395.out) | exact HB.out)))); have n2_ := ze.mk (zl (g := gb395) (o := .cells #[.int .i8 a0_0, .int .i8 a0_1, .bool a0_2, .bool a0_3] 24 (0, 0)) (by (with_reducible repeat (first | refine zh ?_ _ | refine zi ?_ | refine zg ?_ _)); exact BK395.out) hb); have n3_ := ze.mk (zk (by repeat (first | (with_reducible first | exact HB.out | apply zc | apply za | apply zb | refine zf ?_ GE395.out) | exact HB.out)) hb); clear HO_8; clear BK395; clear HB; have HO_8 := n0_; have HO417 := n1_; have BK395 := n2_; have HB := n3_; clear n0_ n1_ n2_ n3_; (try clear hb); (try clear hb2); (try clear hk); (try clear hi); (try clear ho0); obtain ⟨Ao33, co33, eo33⟩ := Kd.R_slice HO417.out; subst eo33) | ((with_reducible refine zo (f := 13) rfl ?_); refine zx (some 44) rfl rfl Try.func13 (by kernel_rfl) rfl #[.slice Ao22 t406.length co22, .slice Ao33 t415.length co33] rfl (by (try simp only [List.map_toArray, List.map_cons, List.map_nil]); first | done | rfl | (simp only [List.length_drop, List.length_take]; rfl)) ?_; (with_reducible refine (laws_eqNodeS.calls kj11 _ _ t406 _ _ t415 false _ ?side1 ?side2 ?side3 ?side4 A27.out).mono ?_); (case side1 => repeat (first | exact (Kd.R_reads' HO_8.out).2.2 | (with_reducible refine Kd.C_alloc ?_ _) | (with_reducible refine Kd.C_drewN ?_ _) | (with_reducible refine Kd.C_drew ?_))); (case side2 => exact (Kd.R_reads' HO_8.out).2.1); (case side3 => repeat (first | exact (Kd.R_reads' HO417.out).2.2 | (with_reducible refine Kd.C_alloc ?_ _) | (with_reducible refine Kd.C_drewN ?_ _) | (with_reducible refine Kd.C_drew ?_))); (case side4 => exact (Kd.R_reads' HO417.out).2.1); rintro e w34 ⟨rfl, hb⟩; refine ⟨_, rfl, ?_⟩; have n0_ := ze.mk (Kd.R_below (by (with_reducible repeat (first | apply Kd.R_alloc | apply Kd.R_drewN | apply Kd.R_drew)); exact HO_8.out) hb); have n1_ := ze.mk (Kd.R_below (by (with_reducible repeat (first | apply Kd.R_alloc | apply Kd.R_drewN | apply Kd.R_drew)); exact HO417.out) hb); have n2_ := ze.mk (zl (g := gb395) (o := .cells #[.int .i8 a0_0, .int .i8 a0_1, .bool a0_2, .bool a0_3] 24 (0, 0)) (by (with_reducible repeat (first | refine zh ?_ _ | refine zi ?_ | refine zg ?_ _)); exact BK395.out) hb); have n3_ := ze.mk (zk (by repeat (first | (with_reducible first | exact HB.out | apply zc | apply za | apply zb | refine zf ?_ GE395.out) | exact HB.out)) hb); clear HO_8; clear HO417; clear BK395; clear HB; have HO_8 := n0_; have HO417 := n1_; have BK395 := n2_; have HB := n3_; clear n0_ n1_ n2_ n3_; (try clear hb); (try clear hb2); (try clear hk); (try clear hi)))
      go_ret
      exact ⟨by first | rfl | (simp [errW_none, errW_some] <;> rfl) | (simp [*, errW_none, errW_some] <;> rfl), by repeat (first | (with_reducible first | exact HB.out | apply zc | apply za | apply zb | refine zf ?_ GE395.out) | exact HB.out)⟩

end Go.Proofs.Ytmmonhpjjjdnjaa.M
