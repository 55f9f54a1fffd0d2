-- Written by wip/tools/myprint.py, a program of this session, by way of the kit's print.
import Derived.Test.YtmmonhpjjjdnjaaMx0
import Derived.Test.YtmmonhpjjjdnjaaLLoad
import Derived.Test.YtmmonhpjjjdnjaaMx4
import Derived.Test.YtmmonhpjjjdnjaaMx11
import Derived.Test.YtmmonhpjjjdnjaaMx13
import Derived.Test.YtmmonhpjjjdnjaaMx20
import Derived.Test.YtmmonhpjjjdnjaaMx23
namespace Go.Proofs.Ytmmonhpjjjdnjaa.M
open Go.RowKit Go.Proofs.YtmmonhpjjjdnjaaW.PrintWords Go.Proofs.YtmmonhpjjjdnjaaW.PrintLast Go.Proofs.YtmmonhpjjjdnjaaW.PrintMore
attribute [local go_sem] zea zca zka zja zy zz zfa zda   -- for this text's walks alone
set_option linter.unusedVariables false
set_option linter.unusedSimpArgs false

/-! ### laws_FnExactMeanDepth: function 3 -/
def laws_FnExactMeanDepth.j0 : Nat → List (S58) → List (S54) → Bool → Option (Bool)
 | 0, _, _, _ => none
 | k + 1, x1, x9, x49 => if x49 = true then (some false) else ((laws_toNodeS.f k x1).bind fun t369 => ((laws_eqNodeS.f k x9 t369).bind fun t372 => (if t372 = true then (some true) else (some false))))
def laws_FnExactMeanDepth.f (k : Nat) (a0_0 : Int) (a0_1 : Int) (a0_2 : Bool) (a0_3 : Bool) (l1 : List (S58)) : Option (Bool) := (laws_szNodeS.f l1 1048576).bind fun t348 => (if t348 < 0 then (some true) else ((laws_toTask.f a0_0 a0_1 a0_2 a0_3).bind fun bt349 => ((laws_toNodeS.f k l1).bind fun t353 => ((spec_MeanDepth.f k bt349.1 bt349.2.1 bt349.2.2.1 bt349.2.2.2 t353).bind fun bt356 => ((laws_toNodeS.f k l1).bind fun t359 => ((laws_toTask.f a0_0 a0_1 a0_2 a0_3).bind fun bt362 => ((impl_MeanDepth.f k bt362.1 bt362.2.1 bt362.2.2.1 bt362.2.2.2 t359).bind fun bt366 => (if bt366.1 = bt356.1 then (if bt366.2.1 = bt356.2.1 then (laws_FnExactMeanDepth.j0 k l1 t359 (bt366.2.2 != bt356.2.2)) else (laws_FnExactMeanDepth.j0 k l1 t359 true)) else (laws_FnExactMeanDepth.j0 k l1 t359 true)))))))))
theorem laws_FnExactMeanDepth.mono_l : ∀ k, (∀ y0 y1 y2, LeO (laws_FnExactMeanDepth.j0 k y0 y1 y2) (laws_FnExactMeanDepth.j0 (k + 1) y0 y1 y2))
 | 0 => fun _ _ _ r h => by simp [laws_FnExactMeanDepth.j0] at h
 | k + 1 => by
  have ih0 := laws_FnExactMeanDepth.mono_l k
  ·intro y0 y1 y2
   unfold laws_FnExactMeanDepth.j0
   repeat' first
   | (with_reducible exact ih0 _ _ _)
   | (with_reducible exact impl_MeanDepth.mono _ _ _ _ _ _)
   | (with_reducible exact laws_eqNodeS.mono _ _ _)
   | (with_reducible exact laws_toNodeS.mono _ _)
   | (with_reducible exact spec_MeanDepth.mono _ _ _ _ _ _)
   | (with_reducible exact LeO.refl _)
   | (with_reducible exact LeO.none _)
   | (with_reducible refine LeO.ite ?_ ?_)
   | (with_reducible refine LeO.bind ?_ (fun _ => ?_))
   | exact ih0 _ _ _
   | exact impl_MeanDepth.mono _ _ _ _ _ _
   | exact laws_eqNodeS.mono _ _ _
   | exact laws_toNodeS.mono _ _
   | exact spec_MeanDepth.mono _ _ _ _ _ _
   | exact LeO.none _
   | refine LeO.ite ?_ ?_
   | refine LeO.bind ?_ (fun _ => ?_)
theorem laws_FnExactMeanDepth.mono : ∀ a0 a1 a2 a3 a4 k, LeO (laws_FnExactMeanDepth.f k a0 a1 a2 a3 a4) (laws_FnExactMeanDepth.f (k + 1) a0 a1 a2 a3 a4) := by
 intro a0 a1 a2 a3 a4 k
 have ih0 := laws_FnExactMeanDepth.mono_l k
 unfold laws_FnExactMeanDepth.f
 repeat' first
   | (with_reducible exact ih0 _ _ _)
   | (with_reducible exact impl_MeanDepth.mono _ _ _ _ _ _)
   | (with_reducible exact laws_eqNodeS.mono _ _ _)
   | (with_reducible exact laws_toNodeS.mono _ _)
   | (with_reducible exact spec_MeanDepth.mono _ _ _ _ _ _)
   | (with_reducible exact LeO.refl _)
   | (with_reducible exact LeO.none _)
   | (with_reducible refine LeO.ite ?_ ?_)
   | (with_reducible refine LeO.bind ?_ (fun _ => ?_))
   | exact ih0 _ _ _
   | exact impl_MeanDepth.mono _ _ _ _ _ _
   | exact laws_eqNodeS.mono _ _ _
   | exact laws_toNodeS.mono _ _
   | exact spec_MeanDepth.mono _ _ _ _ _ _
   | exact LeO.none _
   | refine LeO.ite ?_ ?_
   | refine LeO.bind ?_ (fun _ => ?_)
set_option maxHeartbeats 8000000 in
set_option maxRecDepth 100000 in
theorem laws_FnExactMeanDepth.calls (k : Nat) (a0_0 : Int) (a0_1 : Int) (a0_2 : Bool) (a0_3 : Bool) (A1 : Option Addr) (c1 : Nat) (l1 : List (S58)) (r : Bool) (w : World) (hr1 : Kd.C k58 w A1 l1.length l1) (hc1 : l1.length ≤ c1) (h : laws_FnExactMeanDepth.f k a0_0 a0_1 a0_2 a0_3 l1 = some r) :
  Calls Try.prog 3 #[.agg #[.int .i8 a0_0, .int .i8 a0_1, .bool a0_2, .bool a0_3], .slice A1 l1.length c1] w fun e w' => e = .returned (.bool r) ∧ Below w.heap.size w w' := by
 have hu24 := Try.underlying24
 have HR1 := ze.mk hr1
 have HC1 := ze.mk hc1
 clear hr1 hc1
 have HB := ze.mk (Below.refl w.heap.size w)
 have H : ((laws_szNodeS.f l1 1048576).bind fun t348 => (if t348 < 0 then (some true) else ((laws_toTask.f a0_0 a0_1 a0_2 a0_3).bind fun bt349 => ((laws_toNodeS.f k l1).bind fun t353 => ((spec_MeanDepth.f k bt349.1 bt349.2.1 bt349.2.2.1 bt349.2.2.2 t353).bind fun bt356 => ((laws_toNodeS.f k l1).bind fun t359 => ((laws_toTask.f a0_0 a0_1 a0_2 a0_3).bind fun bt362 => ((impl_MeanDepth.f k bt362.1 bt362.2.1 bt362.2.2.1 bt362.2.2.2 t359).bind fun bt366 => (if bt366.1 = bt356.1 then (if bt366.2.1 = bt356.2.1 then (laws_FnExactMeanDepth.j0 k l1 t359 (bt366.2.2 != bt356.2.2)) else (laws_FnExactMeanDepth.j0 k l1 t359 true)) else (laws_FnExactMeanDepth.j0 k l1 t359 true)))))))))) = some r := h
 clear h
 replace H := Option.bind_eq_some_iff.mp H
 obtain ⟨t348, A30, H⟩ := H
 replace H : (if t348 < 0 then (some true) else ((laws_toTask.f a0_0 a0_1 a0_2 a0_3).bind fun bt349 => ((laws_toNodeS.f k l1).bind fun t353 => ((spec_MeanDepth.f k bt349.1 bt349.2.1 bt349.2.2.1 bt349.2.2.2 t353).bind fun bt356 => ((laws_toNodeS.f k l1).bind fun t359 => ((laws_toTask.f a0_0 a0_1 a0_2 a0_3).bind fun bt362 => ((impl_MeanDepth.f k bt362.1 bt362.2.1 bt362.2.2.1 bt362.2.2.2 t359).bind fun bt366 => (if bt366.1 = bt356.1 then (if bt366.2.1 = bt356.2.1 then (laws_FnExactMeanDepth.j0 k l1 t359 (bt366.2.2 != bt356.2.2)) else (laws_FnExactMeanDepth.j0 k l1 t359 true)) else (laws_FnExactMeanDepth.j0 k l1 t359 true))))))))) = some r := H
 have A3 := ze.mk A30
 clear A30
 by_cases c4 : t348 < 0
 ·rw [if_pos c4] at H
  have c4b0 : decide (t348 < 0) = true := decide_eq_true c4
  clear c4
  obtain rfl := Option.some.inj H
  go_enter Try.func3, Try.ntmps3
  go_wp2_with (first | ((with_reducible refine zn (N := 2) rfl ?_); refine zm ?hg (N := 2) ?hd (cs := #[.int .i8 a0_0, .int .i8 a0_1, .bool a0_2, .bool a0_3]) (t := 24) ?hr ?_; (case hd => rfl); (case hg => rfl); (case hr => first | (go_simp; done) | (go_simp; rfl)); intro gb347 hg w5 hbox hb; have n0_ := ze.mk (zk (by repeat (first | (with_reducible first | exact HB.out | apply zc | apply za | apply zb) | exact HB.out)) hb); have n1_ := ze.mk (hbox); have n2_ := ze.mk ((by rw [hg]; exact (zj (by repeat (first | (with_reducible first | exact HB.out | apply zc | apply za | apply zb) | exact HB.out))) : w.heap.size ≤ gb347)); have n3_ := ze.mk ((by rw [hg]; exact (zj (by repeat (first | (with_reducible first | exact HB.out | apply zc | apply za | apply zb) | exact HB.out))) : w.heap.size ≤ gb347)); clear HB; have HB := n0_; have BK347 := n1_; have GW347 := n2_; have GE347 := n3_; clear n0_ n1_ n2_ n3_; clear hb hbox hg) | ((with_reducible refine zo (f := 8) rfl ?_); refine zx (some 15) rfl rfl Try.func8 (by kernel_rfl) rfl #[.slice A1 l1.length c1, .int .i64 1048576] rfl (by (try simp only [List.map_toArray, List.map_cons, List.map_nil]); first | done | rfl | (simp only [List.length_drop, List.length_take]; rfl)) ?_; (with_reducible refine (laws_szNodeS.calls _ _ l1 1048576 t348 _ ?side1 ?side2 A3.out).mono ?_); (case side1 => repeat (first | exact (Kd.C_below HR1.out HB.out) | (with_reducible refine Kd.C_alloc ?_ _) | (with_reducible refine Kd.C_drewN ?_ _) | (with_reducible refine Kd.C_drew ?_))); (case side2 => exact HC1.out); rintro e w' ⟨rfl, ⟨nd, rfl⟩⟩; refine ⟨_, rfl, ?_⟩))
  go_ret
  exact ⟨by first | rfl | (simp [errW_none, errW_some] <;> rfl) | (simp [*, errW_none, errW_some] <;> rfl), by repeat (first | (with_reducible first | exact HB.out | apply zc | apply za | apply zb | refine zf ?_ GE347.out) | exact HB.out)⟩
 ·rw [if_neg c4] at H
  have c4b0 : decide (t348 < 0) = false := decide_eq_false c4
  clear c4
  replace H := Option.bind_eq_some_iff.mp H
  obtain ⟨⟨t349, t350, t351, t352⟩, A60, H⟩ := H
  replace H : ((laws_toNodeS.f k l1).bind fun t353 => ((spec_MeanDepth.f k t349 t350 t351 t352 t353).bind fun bt356 => ((laws_toNodeS.f k l1).bind fun t359 => ((laws_toTask.f a0_0 a0_1 a0_2 a0_3).bind fun bt362 => ((impl_MeanDepth.f k bt362.1 bt362.2.1 bt362.2.2.1 bt362.2.2.2 t359).bind fun bt366 => (if bt366.1 = bt356.1 then (if bt366.2.1 = bt356.2.1 then (laws_FnExactMeanDepth.j0 k l1 t359 (bt366.2.2 != bt356.2.2)) else (laws_FnExactMeanDepth.j0 k l1 t359 true)) else (laws_FnExactMeanDepth.j0 k l1 t359 true))))))) = some r := H
  have A6 := ze.mk A60
  clear A60
  replace H := Option.bind_eq_some_iff.mp H
  obtain ⟨t353, A70, H⟩ := H
  replace H : ((spec_MeanDepth.f k t349 t350 t351 t352 t353).bind fun bt356 => ((laws_toNodeS.f k l1).bind fun t359 => ((laws_toTask.f a0_0 a0_1 a0_2 a0_3).bind fun bt362 => ((impl_MeanDepth.f k bt362.1 bt362.2.1 bt362.2.2.1 bt362.2.2.2 t359).bind fun bt366 => (if bt366.1 = bt356.1 then (if bt366.2.1 = bt356.2.1 then (laws_FnExactMeanDepth.j0 k l1 t359 (bt366.2.2 != bt356.2.2)) else (laws_FnExactMeanDepth.j0 k l1 t359 true)) else (laws_FnExactMeanDepth.j0 k l1 t359 true)))))) = some r := H
  have A7 := ze.mk A70
  clear A70
  replace H := Option.bind_eq_some_iff.mp H
  obtain ⟨⟨t356, t357, t358⟩, A80, H⟩ := H
  replace H : ((laws_toNodeS.f k l1).bind fun t359 => ((laws_toTask.f a0_0 a0_1 a0_2 a0_3).bind fun bt362 => ((impl_MeanDepth.f k bt362.1 bt362.2.1 bt362.2.2.1 bt362.2.2.2 t359).bind fun bt366 => (if bt366.1 = t356 then (if bt366.2.1 = t357 then (laws_FnExactMeanDepth.j0 k l1 t359 (bt366.2.2 != t358)) else (laws_FnExactMeanDepth.j0 k l1 t359 true)) else (laws_FnExactMeanDepth.j0 k l1 t359 true))))) = some r := H
  have A8 := ze.mk A80
  clear A80
  replace H := Option.bind_eq_some_iff.mp H
  obtain ⟨t359, A90, H⟩ := H
  replace H : ((laws_toTask.f a0_0 a0_1 a0_2 a0_3).bind fun bt362 => ((impl_MeanDepth.f k bt362.1 bt362.2.1 bt362.2.2.1 bt362.2.2.2 t359).bind fun bt366 => (if bt366.1 = t356 then (if bt366.2.1 = t357 then (laws_FnExactMeanDepth.j0 k l1 t359 (bt366.2.2 != t358)) else (laws_FnExactMeanDepth.j0 k l1 t359 true)) else (laws_FnExactMeanDepth.j0 k l1 t359 true)))) = some r := H
  have A9 := ze.mk A90
  clear A90
  replace H := Option.bind_eq_some_iff.mp H
  obtain ⟨⟨t362, t363, t364, t365⟩, A100, H⟩ := H
  replace H : ((impl_MeanDepth.f k t362 t363 t364 t365 t359).bind fun bt366 => (if bt366.1 = t356 then (if bt366.2.1 = t357 then (laws_FnExactMeanDepth.j0 k l1 t359 (bt366.2.2 != t358)) else (laws_FnExactMeanDepth.j0 k l1 t359 true)) else (laws_FnExactMeanDepth.j0 k l1 t359 true))) = some r := H
  have A10 := ze.mk A100
  clear A100
  replace H := Option.bind_eq_some_iff.mp H
  obtain ⟨⟨t366, t367, t368⟩, A110, H⟩ := H
  replace H : (if t366 = t356 then (if t367 = t357 then (laws_FnExactMeanDepth.j0 k l1 t359 (t368 != t358)) else (laws_FnExactMeanDepth.j0 k l1 t359 true)) else (laws_FnExactMeanDepth.j0 k l1 t359 true)) = some r := H
  have A11 := ze.mk A110
  clear A110
  have HC12 := ze.mk H
  clear H
  go_enter Try.func3, Try.ntmps3
  go_upto_region 8 with (first | ((with_reducible refine zn (N := 2) rfl ?_); refine zm ?hg (N := 2) ?hd (cs := #[.int .i8 a0_0, .int .i8 a0_1, .bool a0_2, .bool a0_3]) (t := 24) ?hr ?_; (case hd => rfl); (case hg => rfl); (case hr => first | (go_simp; done) | (go_simp; rfl)); intro gb347 hg w13 hbox hb; have n0_ := ze.mk (zk (by repeat (first | (with_reducible first | exact HB.out | apply zc | apply za | apply zb) | exact HB.out)) hb); have n1_ := ze.mk (hbox); have n2_ := ze.mk ((by rw [hg]; exact (zj (by repeat (first | (with_reducible first | exact HB.out | apply zc | apply za | apply zb) | exact HB.out))) : w.heap.size ≤ gb347)); have n3_ := ze.mk ((by rw [hg]; exact (zj (by repeat (first | (with_reducible first | exact HB.out | apply zc | apply za | apply zb) | exact HB.out))) : w.heap.size ≤ gb347)); clear HB; have HB := n0_; have BK347 := n1_; have GW347 := n2_; have GE347 := n3_; clear n0_ n1_ n2_ n3_; clear hb hbox hg) | ((with_reducible refine zo (f := 8) rfl ?_); refine zx (some 15) rfl rfl Try.func8 (by kernel_rfl) rfl #[.slice A1 l1.length c1, .int .i64 1048576] rfl (by (try simp only [List.map_toArray, List.map_cons, List.map_nil]); first | done | rfl | (simp only [List.length_drop, List.length_take]; rfl)) ?_; (with_reducible refine (laws_szNodeS.calls _ _ l1 1048576 t348 _ ?side1 ?side2 A3.out).mono ?_); (case side1 => repeat (first | exact (Kd.C_below HR1.out HB.out) | (with_reducible refine Kd.C_alloc ?_ _) | (with_reducible refine Kd.C_drewN ?_ _) | (with_reducible refine Kd.C_drew ?_))); (case side2 => exact HC1.out); rintro e w' ⟨rfl, ⟨nd, rfl⟩⟩; refine ⟨_, rfl, ?_⟩; have hcz14_0 := cz BK347.out 0 rfl; have hcz14_1 := cz BK347.out 1 rfl; have hcz14_2 := cz BK347.out 2 rfl; have hcz14_3 := cz BK347.out 3 rfl; have hfz14_0 := zd BK347.out 0; have hfz14_1 := zd BK347.out 1; have hfz14_2 := zd BK347.out 2; have hfz14_3 := zd BK347.out 3) | ((with_reducible refine zo (f := 10) rfl ?_); refine zx (some 20) rfl rfl Try.func10 (by kernel_rfl) rfl #[.agg #[.int .i8 a0_0, .int .i8 a0_1, .bool a0_2, .bool a0_3]] rfl (by (try simp only [List.map_toArray, List.map_cons, List.map_nil]); first | done | rfl | (simp only [List.length_drop, List.length_take]; rfl)) ?_; (with_reducible refine (laws_toTask.calls a0_0 a0_1 a0_2 a0_3 t349 t350 t351 t352 _ A6.out).mono ?_); rintro e w15 ⟨rfl, hb⟩; refine ⟨_, rfl, ?_⟩; have n0_ := ze.mk (zl (g := gb347) (o := .cells #[.int .i8 a0_0, .int .i8 a0_1, .bool a0_2, .bool a0_3] 24 (0, 0)) (by (with_reducible repeat (first | refine zh ?_ _ | refine zi ?_ | refine zg ?_ _)); exact BK347.out) hb); have n1_ := ze.mk (zk (by repeat (first | (with_reducible first | exact HB.out | apply zc | apply za | apply zb | refine zf ?_ GE347.out) | exact HB.out)) hb); clear BK347; clear HB; have BK347 := n0_; have HB := n1_; clear n0_ n1_; (try clear hb); (try clear hb2); (try clear hk); (try clear hi)) | ((with_reducible refine zo (f := 11) rfl ?_); refine zx (some 22) rfl rfl Try.func11 (by kernel_rfl) rfl #[.slice A1 l1.length c1] rfl (by (try simp only [List.map_toArray, List.map_cons, List.map_nil]); first | done | rfl | (simp only [List.length_drop, List.length_take]; rfl)) ?_; (with_reducible refine (laws_toNodeS.calls k _ _ l1 t353 _ ?side1 ?side2 A7.out).mono ?_); (case side1 => repeat (first | exact (Kd.C_below HR1.out HB.out) | (with_reducible refine Kd.C_alloc ?_ _) | (with_reducible refine Kd.C_drewN ?_ _) | (with_reducible refine Kd.C_drew ?_))); (case side2 => exact HC1.out); rintro e w16 ⟨v354, rfl, ho0, hb⟩; refine ⟨_, rfl, ?_⟩; have n0_ := ze.mk (Kd.R_lower ho0 (zj (by repeat (first | (with_reducible first | exact HB.out | apply zc | apply za | apply zb | refine zf ?_ GE347.out) | exact HB.out)))); have n1_ := ze.mk (zl (g := gb347) (o := .cells #[.int .i8 a0_0, .int .i8 a0_1, .bool a0_2, .bool a0_3] 24 (0, 0)) (by (with_reducible repeat (first | refine zh ?_ _ | refine zi ?_ | refine zg ?_ _)); exact BK347.out) hb); have n2_ := ze.mk (zk (by repeat (first | (with_reducible first | exact HB.out | apply zc | apply za | apply zb | refine zf ?_ GE347.out) | exact HB.out)) hb); clear BK347; clear HB; have HO355 := n0_; have BK347 := n1_; have HB := n2_; clear n0_ n1_ n2_; (try clear hb); (try clear hb2); (try clear hk); (try clear hi); (try clear ho0); obtain ⟨Ao17, co17, eo17⟩ := Kd.R_slice HO355.out; subst eo17) | ((with_reducible refine zo (f := 9) rfl ?_); refine zx (some 23) rfl rfl Try.func9 (by kernel_rfl) rfl #[.agg #[.int .i8 t349, .int .i8 t350, .bool t351, .bool t352], .slice Ao17 t353.length co17] rfl (by (try simp only [List.map_toArray, List.map_cons, List.map_nil]); first | done | rfl | (simp only [List.length_drop, List.length_take]; rfl)) ?_; (with_reducible refine (spec_MeanDepth.calls k t349 t350 t351 t352 _ _ t353 t356 t357 t358 _ ?side1 ?side2 A8.out).mono ?_); (case side1 => repeat (first | exact (Kd.R_reads' HO355.out).2.2 | (with_reducible refine Kd.C_alloc ?_ _) | (with_reducible refine Kd.C_drewN ?_ _) | (with_reducible refine Kd.C_drew ?_))); (case side2 => exact (Kd.R_reads' HO355.out).2.1); rintro e w18 ⟨rfl, hb⟩; refine ⟨_, rfl, ?_⟩; have n0_ := ze.mk (Kd.R_below (by (with_reducible repeat (first | apply Kd.R_alloc | apply Kd.R_drewN | apply Kd.R_drew)); exact HO355.out) hb); have n1_ := ze.mk (zl (g := gb347) (o := .cells #[.int .i8 a0_0, .int .i8 a0_1, .bool a0_2, .bool a0_3] 24 (0, 0)) (by (with_reducible repeat (first | refine zh ?_ _ | refine zi ?_ | refine zg ?_ _)); exact BK347.out) hb); have n2_ := ze.mk (zk (by repeat (first | (with_reducible first | exact HB.out | apply zc | apply za | apply zb | refine zf ?_ GE347.out) | exact HB.out)) hb); clear HO355; clear BK347; clear HB; have HO355 := n0_; have BK347 := n1_; have HB := n2_; clear n0_ n1_ n2_; (try clear hb); (try clear hb2); (try clear hk); (try clear hi)) | ((with_reducible refine zo (f := 11) rfl ?_); refine zx (some 28) rfl rfl Try.func11 (by kernel_rfl) rfl #[.slice A1 l1.length c1] rfl (by (try simp only [List.map_toArray, List.map_cons, List.map_nil]); first | done | rfl | (simp only [List.length_drop, List.length_take]; rfl)) ?_; (with_reducible refine (laws_toNodeS.calls k _ _ l1 t359 _ ?side1 ?side2 A9.out).mono ?_); (case side1 => repeat (first | exact (Kd.C_below HR1.out HB.out) | (with_reducible refine Kd.C_alloc ?_ _) | (with_reducible refine Kd.C_drewN ?_ _) | (with_reducible refine Kd.C_drew ?_))); (case side2 => exact HC1.out); rintro e w19 ⟨v360, rfl, ho0, hb⟩; refine ⟨_, rfl, ?_⟩; have n0_ := ze.mk (Kd.R_elder' (by (with_reducible repeat (first | apply Kd.R_alloc | apply Kd.R_drewN | apply Kd.R_drew)); exact HO355.out) (Kd.R_base ho0) hb); have n1_ := ze.mk (Kd.R_lower (Kd.R_new' ho0 (Kd.R_lt (by (with_reducible repeat (first | apply Kd.R_alloc | apply Kd.R_drewN | apply Kd.R_drew)); exact HO355.out))) (zj (by repeat (first | (with_reducible first | exact HB.out | apply zc | apply za | apply zb | refine zf ?_ GE347.out) | exact HB.out)))); have n2_ := ze.mk (zl (g := gb347) (o := .cells #[.int .i8 a0_0, .int .i8 a0_1, .bool a0_2, .bool a0_3] 24 (0, 0)) (by (with_reducible repeat (first | refine zh ?_ _ | refine zi ?_ | refine zg ?_ _)); exact BK347.out) hb); have n3_ := ze.mk (zk (by repeat (first | (with_reducible first | exact HB.out | apply zc | apply za | apply zb | refine zf ?_ GE347.out) | exact HB.out)) hb); clear HO355; clear BK347; clear HB; have HO355 := n0_; have HO361 := n1_; have BK347 := n2_; have HB := n3_; clear n0_ n1_ n2_ n3_; (try clear hb); (try clear hb2); (try clear hk); (try clear hi); (try clear ho0); have hcz20_0 := cz BK347.out 0 rfl; have hcz20_1 := cz BK347.out 1 rfl; have hcz20_2 := cz BK347.out 2 rfl; have hcz20_3 := cz BK347.out 3 rfl; have hfz20_0 := zd BK347.out 0; have hfz20_1 := zd BK347.out 1; have hfz20_2 := zd BK347.out 2; have hfz20_3 := zd BK347.out 3) | ((with_reducible refine zo (f := 10) rfl ?_); refine zx (some 31) rfl rfl Try.func10 (by kernel_rfl) rfl #[.agg #[.int .i8 a0_0, .int .i8 a0_1, .bool a0_2, .bool a0_3]] rfl (by (try simp only [List.map_toArray, List.map_cons, List.map_nil]); first | done | rfl | (simp only [List.length_drop, List.length_take]; rfl)) ?_; (with_reducible refine (laws_toTask.calls a0_0 a0_1 a0_2 a0_3 t362 t363 t364 t365 _ A10.out).mono ?_); rintro e w21 ⟨rfl, hb⟩; refine ⟨_, rfl, ?_⟩; have n0_ := ze.mk (Kd.R_below (by (with_reducible repeat (first | apply Kd.R_alloc | apply Kd.R_drewN | apply Kd.R_drew)); exact HO355.out) hb); have n1_ := ze.mk (Kd.R_below (by (with_reducible repeat (first | apply Kd.R_alloc | apply Kd.R_drewN | apply Kd.R_drew)); exact HO361.out) hb); have n2_ := ze.mk (zl (g := gb347) (o := .cells #[.int .i8 a0_0, .int .i8 a0_1, .bool a0_2, .bool a0_3] 24 (0, 0)) (by (with_reducible repeat (first | refine zh ?_ _ | refine zi ?_ | refine zg ?_ _)); exact BK347.out) hb); have n3_ := ze.mk (zk (by repeat (first | (with_reducible first | exact HB.out | apply zc | apply za | apply zb | refine zf ?_ GE347.out) | exact HB.out)) hb); clear HO355; clear HO361; clear BK347; clear HB; have HO355 := n0_; have HO361 := n1_; have BK347 := n2_; have HB := n3_; clear n0_ n1_ n2_ n3_; (try clear hb); (try clear hb2); (try clear hk); (try clear hi); obtain ⟨Ao22, co22, eo22⟩ := Kd.R_slice HO361.out; subst eo22) | ((with_reducible refine zo (f := 12) rfl ?_); refine zx (some 33) rfl rfl Try.func12 (by kernel_rfl) rfl #[.agg #[.int .i8 t362, .int .i8 t363, .bool t364, .bool t365], .slice Ao22 t359.length co22] rfl (by (try simp only [List.map_toArray, List.map_cons, List.map_nil]); first | done | rfl | (simp only [List.length_drop, List.length_take]; rfl)) ?_; (with_reducible refine (impl_MeanDepth.calls k t362 t363 t364 t365 _ _ t359 t366 t367 t368 _ ?side1 ?side2 A11.out).mono ?_); (case side1 => repeat (first | exact (Kd.R_reads' HO361.out).2.2 | (with_reducible refine Kd.C_alloc ?_ _) | (with_reducible refine Kd.C_drewN ?_ _) | (with_reducible refine Kd.C_drew ?_))); (case side2 => exact (Kd.R_reads' HO361.out).2.1); rintro e w23 ⟨rfl, hb⟩; refine ⟨_, rfl, ?_⟩; have n0_ := ze.mk (Kd.R_below (by (with_reducible repeat (first | apply Kd.R_alloc | apply Kd.R_drewN | apply Kd.R_drew)); exact HO355.out) hb); have n1_ := ze.mk (Kd.R_below (by (with_reducible repeat (first | apply Kd.R_alloc | apply Kd.R_drewN | apply Kd.R_drew)); exact HO361.out) hb); have n2_ := ze.mk (zl (g := gb347) (o := .cells #[.int .i8 a0_0, .int .i8 a0_1, .bool a0_2, .bool a0_3] 24 (0, 0)) (by (with_reducible repeat (first | refine zh ?_ _ | refine zi ?_ | refine zg ?_ _)); exact BK347.out) hb); have n3_ := ze.mk (zk (by repeat (first | (with_reducible first | exact HB.out | apply zc | apply za | apply zb | refine zf ?_ GE347.out) | exact HB.out)) hb); clear HO355; clear HO361; clear BK347; clear HB; have HO355 := n0_; have HO361 := n1_; have BK347 := n2_; have HB := n3_; clear n0_ n1_ n2_ n3_; (try clear hb); (try clear hb2); (try clear hk); (try clear hi)))
  (try simp only [Act.put, List.setIfInBounds_toArray, List.set_cons_zero, List.set_cons_succ])
  go_cut [49] (fun v49 wc => ∃ (kq : Nat) (x49_11 : Bool), v49 = .bool x49_11 ∧ ze (laws_FnExactMeanDepth.j0 kq l1 t359 x49_11 = some r) ∧ ze (kq ≤ k) ∧ ze (Kd.R k54 54 wc w.heap.size (fun _ => True) (.slice Ao22 t359.length co22) t359) ∧ ze (wc.heap[gb347]? = some (.cells #[.int .i8 a0_0, .int .i8 a0_1, .bool a0_2, .bool a0_3] 24 (0, 0))) ∧ ze (Below w.heap.size w wc))
  case first =>
   have H := HC12.out
   clear HC12
   by_cases c24 : t366 = t356
   ·rw [if_pos c24] at H
    have c24b0 : (t366 == t356) = true := beq_iff_eq.mpr c24
    have c24b1 : (t366 != t356) = false := bne_eq_false_iff_eq.mpr c24
    clear c24
    (first | rw [c24b0] | (simp only [zq, zr]; rw [c24b0]) | skip)
    by_cases c25 : t367 = t357
    ·rw [if_pos c25] at H
     have c25b0 : (t367 == t357) = true := beq_iff_eq.mpr c25
     have c25b1 : (t367 != t357) = false := bne_eq_false_iff_eq.mpr c25
     clear c25
     have H' := ze.mk H
     clear H
     go_wp2
     go_meet
     case rel => exact ⟨_, ((t368 != t358)), (by first | rfl | (simp; done) | (simp [*]; done)), H', ⟨by first | omega | exact Nat.le_refl _⟩, ⟨by (with_reducible repeat (first | apply Kd.R_alloc | apply Kd.R_drewN | apply Kd.R_drew)); exact Kd.R_mono HO361.out (fun _ hk => trivial)⟩, ⟨by (with_reducible repeat (first | refine zh ?_ _ | refine zi ?_ | refine zg ?_ _)); exact BK347.out⟩, ⟨by repeat (first | (with_reducible first | exact HB.out | apply zc | apply za | apply zb | refine zf ?_ GE347.out) | exact HB.out)⟩⟩
    ·rw [if_neg c25] at H
     have c25b0 : (t367 == t357) = false := beq_eq_false_iff_ne.mpr c25
     have c25b1 : (t367 != t357) = true := bne_iff_ne.mpr c25
     have H' := ze.mk H
     clear H
     go_wp2
     go_meet
     case rel => exact ⟨_, (true), (by first | rfl | (simp; done) | (simp [*]; done)), H', ⟨by first | omega | exact Nat.le_refl _⟩, ⟨by (with_reducible repeat (first | apply Kd.R_alloc | apply Kd.R_drewN | apply Kd.R_drew)); exact Kd.R_mono HO361.out (fun _ hk => trivial)⟩, ⟨by (with_reducible repeat (first | refine zh ?_ _ | refine zi ?_ | refine zg ?_ _)); exact BK347.out⟩, ⟨by repeat (first | (with_reducible first | exact HB.out | apply zc | apply za | apply zb | refine zf ?_ GE347.out) | exact HB.out)⟩⟩
   ·rw [if_neg c24] at H
    have c24b0 : (t366 == t356) = false := beq_eq_false_iff_ne.mpr c24
    have c24b1 : (t366 != t356) = true := bne_iff_ne.mpr c24
    (first | rw [c24b0] | (simp only [zq, zr]; rw [c24b0]) | skip)
    have H' := ze.mk H
    clear H
    go_wp2
    go_meet
    case rel => exact ⟨_, (true), (by first | rfl | (simp; done) | (simp [*]; done)), H', ⟨by first | omega | exact Nat.le_refl _⟩, ⟨by (with_reducible repeat (first | apply Kd.R_alloc | apply Kd.R_drewN | apply Kd.R_drew)); exact Kd.R_mono HO361.out (fun _ hk => trivial)⟩, ⟨by (with_reducible repeat (first | refine zh ?_ _ | refine zi ?_ | refine zg ?_ _)); exact BK347.out⟩, ⟨by repeat (first | (with_reducible first | exact HB.out | apply zc | apply za | apply zb | refine zf ?_ GE347.out) | exact HB.out)⟩⟩
  case rest =>
   clear HC12
   try clear c1
   try clear c2
   try clear p2
   try clear c3
   try clear c4
   try clear c4b0
   try clear c8
   try clear c9
   try clear c10
   try clear c11
   try clear c12
   try clear c24
   try clear c24b0
   try clear c24b1
   try clear c25
   try clear c25b0
   try clear c25b1
   try clear hcz14_0
   try clear hcz14_1
   try clear hcz14_2
   try clear hcz14_3
   try clear hcz20_0
   try clear hcz20_1
   try clear hcz20_2
   try clear hcz20_3
   try clear hfz14_0
   try clear hfz14_1
   try clear hfz14_2
   try clear hfz14_3
   try clear hfz20_0
   try clear hfz20_1
   try clear hfz20_2
   try clear hfz20_3
   obtain ⟨kq, x49_11, rfl, HA, HJ11, HO_9, BK347, HB⟩ := hcut
   cases kq with
   | zero => exact absurd HA.out (by simp [laws_FnExactMeanDepth.j0])
   | succ kj11 =>
    have H := HA.out
    clear HA
    simp only [laws_FnExactMeanDepth.j0] at H
    by_cases c26 : x49_11 = true
    ·subst c26
     have H1 : (some false) = some r := by rw [if_pos rfl] at H; exact H
     clear H
     have H := H1
     clear H1
     obtain rfl := Option.some.inj H
     go_wp2
     go_ret
     exact ⟨by first | rfl | (simp [errW_none, errW_some] <;> rfl) | (simp [*, errW_none, errW_some] <;> rfl), by repeat (first | (with_reducible first | exact HB.out | apply zc | apply za | apply zb | refine zf ?_ GE347.out) | exact HB.out)⟩
    ·replace c26 := Bool.eq_false_iff.mpr c26
     subst c26
     have H1 : ((laws_toNodeS.f kj11 l1).bind fun t369 => ((laws_eqNodeS.f kj11 t359 t369).bind fun t372 => (if t372 = true then (some true) else (some false)))) = some r := by rw [if_neg (show ¬ (false = true) by decide)] at H; exact H
     clear H
     have H := H1
     clear H1
     replace H := Option.bind_eq_some_iff.mp H
     obtain ⟨t369, A270, H⟩ := H
     replace H : ((laws_eqNodeS.f kj11 t359 t369).bind fun t372 => (if t372 = true then (some true) else (some false))) = some r := H
     have A27 := ze.mk A270
     clear A270
     replace H := Option.bind_eq_some_iff.mp H
     obtain ⟨t372, A280, H⟩ := H
     replace H : (if t372 = true then (some true) else (some false)) = some r := H
     have A28 := ze.mk A280
     clear A280
     by_cases c29 : t372 = true
     ·subst c29
      have H1 : (some true) = some r := by rw [if_pos rfl] at H; exact H
      clear H
      have H := H1
      clear H1
      obtain rfl := Option.some.inj H
      go_wp2_with (first | ((with_reducible refine zo (f := 11) rfl ?_); refine zx (some 52) rfl rfl Try.func11 (by kernel_rfl) rfl #[.slice A1 l1.length c1] rfl (by (try simp only [List.map_toArray, List.map_cons, List.map_nil]); first | done | rfl | (simp only [List.length_drop, List.length_take]; rfl)) ?_; (with_reducible refine (laws_toNodeS.calls kj11 _ _ l1 t369 _ ?side1 ?side2 A27.out).mono ?_); (case side1 => repeat (first | exact (Kd.C_below HR1.out HB.out) | (with_reducible refine Kd.C_alloc ?_ _) | (with_reducible refine Kd.C_drewN ?_ _) | (with_reducible refine Kd.C_drew ?_))); (case side2 => exact HC1.out); rintro e w30 ⟨v370, rfl, ho0, hb⟩; refine ⟨_, rfl, ?_⟩; have n0_ := ze.mk (Kd.R_elder' (by (with_reducible repeat (first | apply Kd.R_alloc | apply Kd.R_drewN | apply Kd.R_drew)); exact HO_9.out) (Kd.R_base ho0) hb); have n1_ := ze.mk (Kd.R_lower (Kd.R_new' ho0 (Kd.R_lt (by (with_reducible repeat (first | apply Kd.R_alloc | apply Kd.R_drewN | apply Kd.R_drew)); exact HO_9.out))) (zj (by repeat (first | (with_reducible first | exact HB.out | apply zc | apply za | apply zb | refine zf ?_ GE347.out) | exact HB.out)))); have n2_ := ze.mk (zl (g := gb347) (o := .cells #[.int .i8 a0_0, .int .i8 a0_1, .bool a0_2, .bool a0_3] 24 (0, 0)) (by (with_reducible repeat (first | refine zh ?_ _ | refine zi ?_ | refine zg ?_ _)); exact BK347.out) hb); have n3_ := ze.mk (zk (by repeat (first | (with_reducible first | exact HB.out | apply zc | apply za | apply zb | refine zf ?_ GE347.out) | exact HB.out)) hb); clear HO_9; clear BK347; clear HB; have HO_9 := n0_; have HO371 := n1_; have BK347 := n2_; have HB := n3_; clear n0_ n1_ n2_ n3_; (try clear hb); (try clear hb2); (try clear hk); (try clear hi); (try clear ho0); obtain ⟨Ao31, co31, eo31⟩ := Kd.R_slice HO371.out; subst eo31) | ((with_reducible refine zo (f := 13) rfl ?_); refine zx (some 53) rfl rfl Try.func13 (by kernel_rfl) rfl #[.slice Ao22 t359.length co22, .slice Ao31 t369.length co31] rfl (by (try simp only [List.map_toArray, List.map_cons, List.map_nil]); first | done | rfl | (simp only [List.length_drop, List.length_take]; rfl)) ?_; (with_reducible refine (laws_eqNodeS.calls kj11 _ _ t359 _ _ t369 true _ ?side1 ?side2 ?side3 ?side4 A28.out).mono ?_); (case side1 => repeat (first | exact (Kd.R_reads' HO_9.out).2.2 | (with_reducible refine Kd.C_alloc ?_ _) | (with_reducible refine Kd.C_drewN ?_ _) | (with_reducible refine Kd.C_drew ?_))); (case side2 => exact (Kd.R_reads' HO_9.out).2.1); (case side3 => repeat (first | exact (Kd.R_reads' HO371.out).2.2 | (with_reducible refine Kd.C_alloc ?_ _) | (with_reducible refine Kd.C_drewN ?_ _) | (with_reducible refine Kd.C_drew ?_))); (case side4 => exact (Kd.R_reads' HO371.out).2.1); rintro e w32 ⟨rfl, hb⟩; refine ⟨_, rfl, ?_⟩; have n0_ := ze.mk (Kd.R_below (by (with_reducible repeat (first | apply Kd.R_alloc | apply Kd.R_drewN | apply Kd.R_drew)); exact HO_9.out) hb); have n1_ := ze.mk (Kd.R_below (by (with_reducible repeat (first | apply Kd.R_alloc | apply Kd.R_drewN | apply Kd.R_drew)); exact HO371.out) hb); have n2_ := ze.mk (zl (g := gb347) (o := .cells #[.int .i8 a0_0, .int .i8 a0_1, .bool a0_2, .bool a0_3] 24 (0, 0)) (by (with_reducible repeat (first | refine zh ?_ _ | refine zi ?_ | refine zg ?_ _)); exact BK347.out) hb); have n3_ := ze.mk (zk (by repeat (first | (with_reducible first | exact HB.out | apply zc | apply za | apply zb | refine zf ?_ GE347.out) | exact HB.out)) hb); clear HO_9; clear HO371; clear BK347; clear HB; have HO_9 := n0_; have HO371 := n1_; have BK347 := n2_; have HB := n3_; clear n0_ n1_ n2_ n3_; (try clear hb); (try clear hb2); (try clear hk); (try clear hi)))
      go_ret
      exact ⟨by first | rfl | (simp [errW_none, errW_some] <;> rfl) | (simp [*, errW_none, errW_some] <;> rfl), by repeat (first | (with_reducible first | exact HB.out | apply zc | apply za | apply zb | refine zf ?_ GE347.out) | exact HB.out)⟩
     ·replace c29 := Bool.eq_false_iff.mpr c29
      subst c29
      have H1 : (some false) = some r := by rw [if_neg (show ¬ (false = true) by decide)] at H; exact H
      clear H
      have H := H1
      clear H1
      obtain rfl := Option.some.inj H
      go_wp2_with (first | ((with_reducible refine zo (f := 11) rfl ?_); refine zx (some 52) rfl rfl Try.func11 (by kernel_rfl) rfl #[.slice A1 l1.length c1] rfl (by (try simp only [List.map_toArray, List.map_cons, List.map_nil]); first | done | rfl | (simp only [List.length_drop, List.length_take]; rfl)) ?_; (with_reducible refine (laws_toNodeS.calls kj11 _ _ l1 t369 _ ?side1 ?side2 A27.out).mono ?_); (case side1 => repeat (first | exact (Kd.C_below HR1.out HB.out) | (with_reducible refine Kd.C_alloc ?_ _) | (with_reducible refine Kd.C_drewN ?_ _) | (with_reducible refine Kd.C_drew ?_))); (case side2 => exact HC1.out); rintro e w33 ⟨v370, rfl, ho0, hb⟩; refine ⟨_, rfl, ?_⟩; have n0_ := ze.mk (Kd.R_elder' (by (with_reducible repeat (first | apply Kd.R_alloc | apply Kd.R_drewN | apply Kd.R_drew)); exact HO_9.out) (Kd.R_base ho0) hb); have n1_ := ze.mk (Kd.R_lower (Kd.R_new' ho0 (Kd.R_lt (by (with_reducible repeat (first | apply Kd.R_alloc | apply Kd.R_drewN | apply Kd.R_drew)); exact HO_9.out))) (zj (by repeat (first | (with_reducible first | exact HB.out | apply zc | apply za | apply zb | refine zf ?_ GE347.out) | exact HB.out)))); have n2_ := ze.mk (zl (g := gb347) (o := .cells #[.int .i8 a0_0, .int .i8 a0_1, .bool a0_2, .bool a0_3] 24 (0, 0)) (by (with_reducible repeat (first | refine zh ?_ _ | refine zi ?_ | refine zg ?_ _)); exact BK347.out) hb); have n3_ := ze.mk (zk (by repeat (first | (with_reducible first | exact HB.out | apply zc | apply za | apply zb | refine zf ?_ GE347.out) | exact HB.out)) hb); clear HO_9; clear BK347; clear HB; have HO_9 := n0_; have HO371 := n1_; have BK347 := n2_; have HB := n3_; clear n0_ n1_ n2_ n3_; (try clear hb); (try clear hb2); (try clear hk); (try clear hi); (try clear ho0); obtain ⟨Ao34, co34, eo34⟩ := Kd.R_slice HO371.out; subst eo34) | ((with_reducible refine zo (f := 13) rfl ?_); refine zx (some 53) rfl rfl Try.func13 (by kernel_rfl) rfl #[.slice Ao22 t359.length co22, .slice Ao34 t369.length co34] rfl (by (try simp only [List.map_toArray, List.map_cons, List.map_nil]); first | done | rfl | (simp only [List.length_drop, List.length_take]; rfl)) ?_; (with_reducible refine (laws_eqNodeS.calls kj11 _ _ t359 _ _ t369 false _ ?side1 ?side2 ?side3 ?side4 A28.out).mono ?_); (case side1 => repeat (first | exact (Kd.R_reads' HO_9.out).2.2 | (with_reducible refine Kd.C_alloc ?_ _) | (with_reducible refine Kd.C_drewN ?_ _) | (with_reducible refine Kd.C_drew ?_))); (case side2 => exact (Kd.R_reads' HO_9.out).2.1); (case side3 => repeat (first | exact (Kd.R_reads' HO371.out).2.2 | (with_reducible refine Kd.C_alloc ?_ _) | (with_reducible refine Kd.C_drewN ?_ _) | (with_reducible refine Kd.C_drew ?_))); (case side4 => exact (Kd.R_reads' HO371.out).2.1); rintro e w35 ⟨rfl, hb⟩; refine ⟨_, rfl, ?_⟩; have n0_ := ze.mk (Kd.R_below (by (with_reducible repeat (first | apply Kd.R_alloc | apply Kd.R_drewN | apply Kd.R_drew)); exact HO_9.out) hb); have n1_ := ze.mk (Kd.R_below (by (with_reducible repeat (first | apply Kd.R_alloc | apply Kd.R_drewN | apply Kd.R_drew)); exact HO371.out) hb); have n2_ := ze.mk (zl (g := gb347) (o := .cells #[.int .i8 a0_0, .int .i8 a0_1, .bool a0_2, .bool a0_3] 24 (0, 0)) (by (with_reducible repeat (first | refine zh ?_ _ | refine zi ?_ | refine zg ?_ _)); exact BK347.out) hb); have n3_ := ze.mk (zk (by repeat (first | (with_reducible first | exact HB.out | apply zc | apply za | apply zb | refine zf ?_ GE347.out) | exact HB.out)) hb); clear HO_9; clear HO371; clear BK347; clear HB; have HO_9 := n0_; have HO371 := n1_; have BK347 := n2_; have HB := n3_; clear n0_ n1_ n2_ n3_; (try clear hb); (try clear hb2); (try clear hk); (try clear hi)))
      go_ret
      exact ⟨by first | rfl | (simp [errW_none, errW_some] <;> rfl) | (simp [*, errW_none, errW_some] <;> rfl), by repeat (first | (with_reducible first | exact HB.out | apply zc | apply za | apply zb | refine zf ?_ GE347.out) | exact HB.out)⟩

end Go.Proofs.Ytmmonhpjjjdnjaa.M
