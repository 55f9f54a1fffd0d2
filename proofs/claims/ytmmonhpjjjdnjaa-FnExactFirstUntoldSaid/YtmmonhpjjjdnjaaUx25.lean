-- Written by wip/tools/myprint.py, a program of this session, by way of the kit's print.
import Derived.Test.YtmmonhpjjjdnjaaUx0
import Derived.Test.YtmmonhpjjjdnjaaLLoadU
import Derived.Test.YtmmonhpjjjdnjaaUx1
import Derived.Test.YtmmonhpjjjdnjaaUx6
import Derived.Test.YtmmonhpjjjdnjaaUx9
import Derived.Test.YtmmonhpjjjdnjaaUx17
import Derived.Test.YtmmonhpjjjdnjaaUx24
namespace Go.Proofs.Ytmmonhpjjjdnjaa.U
open Go.RowKit Go.Proofs.YtmmonhpjjjdnjaaW.PrintWords Go.Proofs.YtmmonhpjjjdnjaaW.PrintLast Go.Proofs.YtmmonhpjjjdnjaaW.PrintMore
attribute [local go_sem] zba zea zha zia zy zz zda zca   -- for this text's walks alone
set_option linter.unusedVariables false
set_option linter.unusedSimpArgs false

/-! ### laws_FnExactFirstUntold: function 5 -/
def laws_FnExactFirstUntold.j0 : Nat → List (S58) → List (S54) → Bool → Option (Bool)
 | 0, _, _, _ => none
 | k + 1, x1, x8, x40 => if x40 = true then (some false) else ((laws_toNodeS.f k x1).bind fun t367 => ((laws_eqNodeS.f k x8 t367).bind fun t370 => (if t370 = true then (some true) else (some false))))
def laws_FnExactFirstUntold.f (k : Nat) (a0_0 : Int) (a0_1 : Int) (a0_2 : Bool) (a0_3 : Bool) (l1 : List (S58)) : Option (Bool) := (laws_szNodeS.f l1 1048576).bind fun t348 => (if t348 < 0 then (some true) else ((laws_toTask.f a0_0 a0_1 a0_2 a0_3).bind fun bt349 => ((laws_toNodeS.f k l1).bind fun t353 => ((spec_FirstUntold.f k bt349.1 bt349.2.1 bt349.2.2.1 bt349.2.2.2 t353).bind fun bt356 => ((laws_toNodeS.f k l1).bind fun t358 => ((laws_toTask.f a0_0 a0_1 a0_2 a0_3).bind fun bt361 => ((impl_FirstUntold.f k bt361.1 bt361.2.1 bt361.2.2.1 bt361.2.2.2 t358).bind fun bt365 => (if bt365.1 = bt356.1 then (laws_FnExactFirstUntold.j0 k l1 t358 (bt365.2 != bt356.2)) else (laws_FnExactFirstUntold.j0 k l1 t358 true)))))))))
set_option maxHeartbeats 8000000 in
set_option maxRecDepth 100000 in
theorem laws_FnExactFirstUntold.calls (k : Nat) (a0_0 : Int) (a0_1 : Int) (a0_2 : Bool) (a0_3 : Bool) (A1 : Option Addr) (c1 : Nat) (l1 : List (S58)) (r : Bool) (w : World) (hr1 : Kd.C k58 w A1 l1.length l1) (hc1 : l1.length ≤ c1) (h : laws_FnExactFirstUntold.f k a0_0 a0_1 a0_2 a0_3 l1 = some r) :
  Calls Try.prog 5 #[.agg #[.int .i8 a0_0, .int .i8 a0_1, .bool a0_2, .bool a0_3], .slice A1 l1.length c1] w fun e w' => e = .returned (.bool r) ∧ Below w.heap.size w w' := by
 have hu24 := Try.underlying24
 have HR1 := zd.mk hr1
 have HC1 := zd.mk hc1
 clear hr1 hc1
 have HB := zd.mk (Below.refl w.heap.size w)
 have H : ((laws_szNodeS.f l1 1048576).bind fun t348 => (if t348 < 0 then (some true) else ((laws_toTask.f a0_0 a0_1 a0_2 a0_3).bind fun bt349 => ((laws_toNodeS.f k l1).bind fun t353 => ((spec_FirstUntold.f k bt349.1 bt349.2.1 bt349.2.2.1 bt349.2.2.2 t353).bind fun bt356 => ((laws_toNodeS.f k l1).bind fun t358 => ((laws_toTask.f a0_0 a0_1 a0_2 a0_3).bind fun bt361 => ((impl_FirstUntold.f k bt361.1 bt361.2.1 bt361.2.2.1 bt361.2.2.2 t358).bind fun bt365 => (if bt365.1 = bt356.1 then (laws_FnExactFirstUntold.j0 k l1 t358 (bt365.2 != bt356.2)) else (laws_FnExactFirstUntold.j0 k l1 t358 true)))))))))) = some r := h
 clear h
 replace H := Option.bind_eq_some_iff.mp H
 obtain ⟨t348, A30, H⟩ := H
 replace H : (if t348 < 0 then (some true) else ((laws_toTask.f a0_0 a0_1 a0_2 a0_3).bind fun bt349 => ((laws_toNodeS.f k l1).bind fun t353 => ((spec_FirstUntold.f k bt349.1 bt349.2.1 bt349.2.2.1 bt349.2.2.2 t353).bind fun bt356 => ((laws_toNodeS.f k l1).bind fun t358 => ((laws_toTask.f a0_0 a0_1 a0_2 a0_3).bind fun bt361 => ((impl_FirstUntold.f k bt361.1 bt361.2.1 bt361.2.2.1 bt361.2.2.2 t358).bind fun bt365 => (if bt365.1 = bt356.1 then (laws_FnExactFirstUntold.j0 k l1 t358 (bt365.2 != bt356.2)) else (laws_FnExactFirstUntold.j0 k l1 t358 true))))))))) = some r := H
 have A3 := zd.mk A30
 clear A30
 by_cases c4 : t348 < 0
 ·rw [if_pos c4] at H
  have c4b0 : decide (t348 < 0) = true := decide_eq_true c4
  clear c4
  obtain rfl := Option.some.inj H
  go_enter Try.func5, Try.ntmps5
  go_wp2_with (first | ((with_reducible refine zo (N := 2) rfl ?_); refine zn ?hg (N := 2) ?hd (cs := #[.int .i8 a0_0, .int .i8 a0_1, .bool a0_2, .bool a0_3]) (t := 24) ?hr ?_; (case hd => rfl); (case hg => rfl); (case hr => first | (go_simp; done) | (go_simp; rfl)); intro gb347 hg w5 hbox hb; have n0_ := zd.mk (zk (by repeat (first | (with_reducible first | exact HB.out | apply zc | apply za | apply zb) | exact HB.out)) hb); have n1_ := zd.mk (hbox); have n2_ := zd.mk ((by rw [hg]; exact (zm (by repeat (first | (with_reducible first | exact HB.out | apply zc | apply za | apply zb) | exact HB.out))) : w.heap.size ≤ gb347)); have n3_ := zd.mk ((by rw [hg]; exact (zm (by repeat (first | (with_reducible first | exact HB.out | apply zc | apply za | apply zb) | exact HB.out))) : w.heap.size ≤ gb347)); clear HB; have HB := n0_; have BK347 := n1_; have GW347 := n2_; have GE347 := n3_; clear n0_ n1_ n2_ n3_; clear hb hbox hg) | ((with_reducible refine zr (f := 8) rfl ?_); refine zx (some 13) rfl rfl Try.func8 (by kernel_rfl) rfl #[.slice A1 l1.length c1, .int .i64 1048576] rfl (by (try simp only [List.map_toArray, List.map_cons, List.map_nil]); first | done | rfl | (simp only [List.length_drop, List.length_take]; rfl)) ?_; (with_reducible refine (laws_szNodeS.calls _ _ l1 1048576 t348 _ ?side1 ?side2 A3.out).mono ?_); (case side1 => repeat (first | exact (Kd.C_below HR1.out HB.out) | (with_reducible refine Kd.C_alloc ?_ _) | (with_reducible refine Kd.C_drewN ?_ _) | (with_reducible refine Kd.C_drew ?_))); (case side2 => exact HC1.out); rintro e w' ⟨rfl, ⟨nd, rfl⟩⟩; refine ⟨_, rfl, ?_⟩))
  go_ret
  exact ⟨by first | rfl | (simp [errW_none, errW_some] <;> rfl) | (simp [*, errW_none, errW_some] <;> rfl), by repeat (first | (with_reducible first | exact HB.out | apply zc | apply za | apply zb | refine ze ?_ GE347.out) | exact HB.out)⟩
 ·rw [if_neg c4] at H
  have c4b0 : decide (t348 < 0) = false := decide_eq_false c4
  clear c4
  replace H := Option.bind_eq_some_iff.mp H
  obtain ⟨⟨t349, t350, t351, t352⟩, A60, H⟩ := H
  replace H : ((laws_toNodeS.f k l1).bind fun t353 => ((spec_FirstUntold.f k t349 t350 t351 t352 t353).bind fun bt356 => ((laws_toNodeS.f k l1).bind fun t358 => ((laws_toTask.f a0_0 a0_1 a0_2 a0_3).bind fun bt361 => ((impl_FirstUntold.f k bt361.1 bt361.2.1 bt361.2.2.1 bt361.2.2.2 t358).bind fun bt365 => (if bt365.1 = bt356.1 then (laws_FnExactFirstUntold.j0 k l1 t358 (bt365.2 != bt356.2)) else (laws_FnExactFirstUntold.j0 k l1 t358 true))))))) = some r := H
  have A6 := zd.mk A60
  clear A60
  replace H := Option.bind_eq_some_iff.mp H
  obtain ⟨t353, A70, H⟩ := H
  replace H : ((spec_FirstUntold.f k t349 t350 t351 t352 t353).bind fun bt356 => ((laws_toNodeS.f k l1).bind fun t358 => ((laws_toTask.f a0_0 a0_1 a0_2 a0_3).bind fun bt361 => ((impl_FirstUntold.f k bt361.1 bt361.2.1 bt361.2.2.1 bt361.2.2.2 t358).bind fun bt365 => (if bt365.1 = bt356.1 then (laws_FnExactFirstUntold.j0 k l1 t358 (bt365.2 != bt356.2)) else (laws_FnExactFirstUntold.j0 k l1 t358 true)))))) = some r := H
  have A7 := zd.mk A70
  clear A70
  replace H := Option.bind_eq_some_iff.mp H
  obtain ⟨⟨t356, t357⟩, A80, H⟩ := H
  replace H : ((laws_toNodeS.f k l1).bind fun t358 => ((laws_toTask.f a0_0 a0_1 a0_2 a0_3).bind fun bt361 => ((impl_FirstUntold.f k bt361.1 bt361.2.1 bt361.2.2.1 bt361.2.2.2 t358).bind fun bt365 => (if bt365.1 = t356 then (laws_FnExactFirstUntold.j0 k l1 t358 (bt365.2 != t357)) else (laws_FnExactFirstUntold.j0 k l1 t358 true))))) = some r := H
  have A8 := zd.mk A80
  clear A80
  replace H := Option.bind_eq_some_iff.mp H
  obtain ⟨t358, A90, H⟩ := H
  replace H : ((laws_toTask.f a0_0 a0_1 a0_2 a0_3).bind fun bt361 => ((impl_FirstUntold.f k bt361.1 bt361.2.1 bt361.2.2.1 bt361.2.2.2 t358).bind fun bt365 => (if bt365.1 = t356 then (laws_FnExactFirstUntold.j0 k l1 t358 (bt365.2 != t357)) else (laws_FnExactFirstUntold.j0 k l1 t358 true)))) = some r := H
  have A9 := zd.mk A90
  clear A90
  replace H := Option.bind_eq_some_iff.mp H
  obtain ⟨⟨t361, t362, t363, t364⟩, A100, H⟩ := H
  replace H : ((impl_FirstUntold.f k t361 t362 t363 t364 t358).bind fun bt365 => (if bt365.1 = t356 then (laws_FnExactFirstUntold.j0 k l1 t358 (bt365.2 != t357)) else (laws_FnExactFirstUntold.j0 k l1 t358 true))) = some r := H
  have A10 := zd.mk A100
  clear A100
  replace H := Option.bind_eq_some_iff.mp H
  obtain ⟨⟨t365, t366⟩, A110, H⟩ := H
  replace H : (if t365 = t356 then (laws_FnExactFirstUntold.j0 k l1 t358 (t366 != t357)) else (laws_FnExactFirstUntold.j0 k l1 t358 true)) = some r := H
  have A11 := zd.mk A110
  clear A110
  have HC12 := zd.mk H
  clear H
  go_enter Try.func5, Try.ntmps5
  go_upto_region 8 with (first | ((with_reducible refine zo (N := 2) rfl ?_); refine zn ?hg (N := 2) ?hd (cs := #[.int .i8 a0_0, .int .i8 a0_1, .bool a0_2, .bool a0_3]) (t := 24) ?hr ?_; (case hd => rfl); (case hg => rfl); (case hr => first | (go_simp; done) | (go_simp; rfl)); intro gb347 hg w13 hbox hb; have n0_ := zd.mk (zk (by repeat (first | (with_reducible first | exact HB.out | apply zc | apply za | apply zb) | exact HB.out)) hb); have n1_ := zd.mk (hbox); have n2_ := zd.mk ((by rw [hg]; exact (zm (by repeat (first | (with_reducible first | exact HB.out | apply zc | apply za | apply zb) | exact HB.out))) : w.heap.size ≤ gb347)); have n3_ := zd.mk ((by rw [hg]; exact (zm (by repeat (first | (with_reducible first | exact HB.out | apply zc | apply za | apply zb) | exact HB.out))) : w.heap.size ≤ gb347)); clear HB; have HB := n0_; have BK347 := n1_; have GW347 := n2_; have GE347 := n3_; clear n0_ n1_ n2_ n3_; clear hb hbox hg) | ((with_reducible refine zr (f := 8) rfl ?_); refine zx (some 13) rfl rfl Try.func8 (by kernel_rfl) rfl #[.slice A1 l1.length c1, .int .i64 1048576] rfl (by (try simp only [List.map_toArray, List.map_cons, List.map_nil]); first | done | rfl | (simp only [List.length_drop, List.length_take]; rfl)) ?_; (with_reducible refine (laws_szNodeS.calls _ _ l1 1048576 t348 _ ?side1 ?side2 A3.out).mono ?_); (case side1 => repeat (first | exact (Kd.C_below HR1.out HB.out) | (with_reducible refine Kd.C_alloc ?_ _) | (with_reducible refine Kd.C_drewN ?_ _) | (with_reducible refine Kd.C_drew ?_))); (case side2 => exact HC1.out); rintro e w' ⟨rfl, ⟨nd, rfl⟩⟩; refine ⟨_, rfl, ?_⟩; have hcz14_0 : w13.cell? ⟨gb347, 0, none⟩ = some (.int .i8 a0_0) := (zl BK347.out 0).trans rfl; have hcz14_1 : w13.cell? ⟨gb347, 1, none⟩ = some (.int .i8 a0_1) := (zl BK347.out 1).trans rfl; have hcz14_2 : w13.cell? ⟨gb347, 2, none⟩ = some (.bool a0_2) := (zl BK347.out 2).trans rfl; have hcz14_3 : w13.cell? ⟨gb347, 3, none⟩ = some (.bool a0_3) := (zl BK347.out 3).trans rfl; have hfz14_0 := zi BK347.out 0; have hfz14_1 := zi BK347.out 1; have hfz14_2 := zi BK347.out 2; have hfz14_3 := zi BK347.out 3) | ((with_reducible refine zr (f := 10) rfl ?_); refine zx (some 18) rfl rfl Try.func10 (by kernel_rfl) rfl #[.agg #[.int .i8 a0_0, .int .i8 a0_1, .bool a0_2, .bool a0_3]] rfl (by (try simp only [List.map_toArray, List.map_cons, List.map_nil]); first | done | rfl | (simp only [List.length_drop, List.length_take]; rfl)) ?_; (with_reducible refine (laws_toTask.calls a0_0 a0_1 a0_2 a0_3 t349 t350 t351 t352 _ A6.out).mono ?_); rintro e w15 ⟨rfl, hb⟩; refine ⟨_, rfl, ?_⟩; have n0_ := zd.mk (zj (g := gb347) (o := .cells #[.int .i8 a0_0, .int .i8 a0_1, .bool a0_2, .bool a0_3] 24 (0, 0)) (by (with_reducible repeat (first | refine zf ?_ _ | refine zh ?_ | refine zg ?_ _)); exact BK347.out) hb); have n1_ := zd.mk (zk (by repeat (first | (with_reducible first | exact HB.out | apply zc | apply za | apply zb | refine ze ?_ GE347.out) | exact HB.out)) hb); clear BK347; clear HB; have BK347 := n0_; have HB := n1_; clear n0_ n1_; (try clear hb); (try clear hb2); (try clear hk); (try clear hi)) | ((with_reducible refine zr (f := 11) rfl ?_); refine zx (some 20) rfl rfl Try.func11 (by kernel_rfl) rfl #[.slice A1 l1.length c1] rfl (by (try simp only [List.map_toArray, List.map_cons, List.map_nil]); first | done | rfl | (simp only [List.length_drop, List.length_take]; rfl)) ?_; (with_reducible refine (laws_toNodeS.calls k _ _ l1 t353 _ ?side1 ?side2 A7.out).mono ?_); (case side1 => repeat (first | exact (Kd.C_below HR1.out HB.out) | (with_reducible refine Kd.C_alloc ?_ _) | (with_reducible refine Kd.C_drewN ?_ _) | (with_reducible refine Kd.C_drew ?_))); (case side2 => exact HC1.out); rintro e w16 ⟨v354, rfl, ho0, hb⟩; refine ⟨_, rfl, ?_⟩; have n0_ := zd.mk (Kd.R_lower ho0 (zm (by repeat (first | (with_reducible first | exact HB.out | apply zc | apply za | apply zb | refine ze ?_ GE347.out) | exact HB.out)))); have n1_ := zd.mk (zj (g := gb347) (o := .cells #[.int .i8 a0_0, .int .i8 a0_1, .bool a0_2, .bool a0_3] 24 (0, 0)) (by (with_reducible repeat (first | refine zf ?_ _ | refine zh ?_ | refine zg ?_ _)); exact BK347.out) hb); have n2_ := zd.mk (zk (by repeat (first | (with_reducible first | exact HB.out | apply zc | apply za | apply zb | refine ze ?_ GE347.out) | exact HB.out)) hb); clear BK347; clear HB; have HO355 := n0_; have BK347 := n1_; have HB := n2_; clear n0_ n1_ n2_; (try clear hb); (try clear hb2); (try clear hk); (try clear hi); (try clear ho0); obtain ⟨Ao17, co17, eo17⟩ := Kd.R_slice HO355.out; subst eo17) | ((with_reducible refine zr (f := 16) rfl ?_); refine zx (some 21) rfl rfl Try.func16 (by kernel_rfl) rfl #[.agg #[.int .i8 t349, .int .i8 t350, .bool t351, .bool t352], .slice Ao17 t353.length co17] rfl (by (try simp only [List.map_toArray, List.map_cons, List.map_nil]); first | done | rfl | (simp only [List.length_drop, List.length_take]; rfl)) ?_; (with_reducible refine (spec_FirstUntold.calls k t349 t350 t351 t352 _ _ t353 t356 t357 _ ?side1 ?side2 A8.out).mono ?_); (case side1 => repeat (first | exact (Kd.R_reads' HO355.out).2.2 | (with_reducible refine Kd.C_alloc ?_ _) | (with_reducible refine Kd.C_drewN ?_ _) | (with_reducible refine Kd.C_drew ?_))); (case side2 => exact (Kd.R_reads' HO355.out).2.1); rintro e w18 ⟨rfl, hb⟩; refine ⟨_, rfl, ?_⟩; have n0_ := zd.mk (Kd.R_below (by (with_reducible repeat (first | apply Kd.R_alloc | apply Kd.R_drewN | apply Kd.R_drew)); exact HO355.out) hb); have n1_ := zd.mk (zj (g := gb347) (o := .cells #[.int .i8 a0_0, .int .i8 a0_1, .bool a0_2, .bool a0_3] 24 (0, 0)) (by (with_reducible repeat (first | refine zf ?_ _ | refine zh ?_ | refine zg ?_ _)); exact BK347.out) hb); have n2_ := zd.mk (zk (by repeat (first | (with_reducible first | exact HB.out | apply zc | apply za | apply zb | refine ze ?_ GE347.out) | exact HB.out)) hb); clear HO355; clear BK347; clear HB; have HO355 := n0_; have BK347 := n1_; have HB := n2_; clear n0_ n1_ n2_; (try clear hb); (try clear hb2); (try clear hk); (try clear hi)) | ((with_reducible refine zr (f := 11) rfl ?_); refine zx (some 25) rfl rfl Try.func11 (by kernel_rfl) rfl #[.slice A1 l1.length c1] rfl (by (try simp only [List.map_toArray, List.map_cons, List.map_nil]); first | done | rfl | (simp only [List.length_drop, List.length_take]; rfl)) ?_; (with_reducible refine (laws_toNodeS.calls k _ _ l1 t358 _ ?side1 ?side2 A9.out).mono ?_); (case side1 => repeat (first | exact (Kd.C_below HR1.out HB.out) | (with_reducible refine Kd.C_alloc ?_ _) | (with_reducible refine Kd.C_drewN ?_ _) | (with_reducible refine Kd.C_drew ?_))); (case side2 => exact HC1.out); rintro e w19 ⟨v359, rfl, ho0, hb⟩; refine ⟨_, rfl, ?_⟩; have n0_ := zd.mk (Kd.R_elder' (by (with_reducible repeat (first | apply Kd.R_alloc | apply Kd.R_drewN | apply Kd.R_drew)); exact HO355.out) (Kd.R_base ho0) hb); have n1_ := zd.mk (Kd.R_lower (Kd.R_new' ho0 (Kd.R_lt (by (with_reducible repeat (first | apply Kd.R_alloc | apply Kd.R_drewN | apply Kd.R_drew)); exact HO355.out))) (zm (by repeat (first | (with_reducible first | exact HB.out | apply zc | apply za | apply zb | refine ze ?_ GE347.out) | exact HB.out)))); have n2_ := zd.mk (zj (g := gb347) (o := .cells #[.int .i8 a0_0, .int .i8 a0_1, .bool a0_2, .bool a0_3] 24 (0, 0)) (by (with_reducible repeat (first | refine zf ?_ _ | refine zh ?_ | refine zg ?_ _)); exact BK347.out) hb); have n3_ := zd.mk (zk (by repeat (first | (with_reducible first | exact HB.out | apply zc | apply za | apply zb | refine ze ?_ GE347.out) | exact HB.out)) hb); clear HO355; clear BK347; clear HB; have HO355 := n0_; have HO360 := n1_; have BK347 := n2_; have HB := n3_; clear n0_ n1_ n2_ n3_; (try clear hb); (try clear hb2); (try clear hk); (try clear hi); (try clear ho0); have hcz20_0 : w19.cell? ⟨gb347, 0, none⟩ = some (.int .i8 a0_0) := (zl BK347.out 0).trans rfl; have hcz20_1 : w19.cell? ⟨gb347, 1, none⟩ = some (.int .i8 a0_1) := (zl BK347.out 1).trans rfl; have hcz20_2 : w19.cell? ⟨gb347, 2, none⟩ = some (.bool a0_2) := (zl BK347.out 2).trans rfl; have hcz20_3 : w19.cell? ⟨gb347, 3, none⟩ = some (.bool a0_3) := (zl BK347.out 3).trans rfl; have hfz20_0 := zi BK347.out 0; have hfz20_1 := zi BK347.out 1; have hfz20_2 := zi BK347.out 2; have hfz20_3 := zi BK347.out 3) | ((with_reducible refine zr (f := 10) rfl ?_); refine zx (some 28) rfl rfl Try.func10 (by kernel_rfl) rfl #[.agg #[.int .i8 a0_0, .int .i8 a0_1, .bool a0_2, .bool a0_3]] rfl (by (try simp only [List.map_toArray, List.map_cons, List.map_nil]); first | done | rfl | (simp only [List.length_drop, List.length_take]; rfl)) ?_; (with_reducible refine (laws_toTask.calls a0_0 a0_1 a0_2 a0_3 t361 t362 t363 t364 _ A10.out).mono ?_); rintro e w21 ⟨rfl, hb⟩; refine ⟨_, rfl, ?_⟩; have n0_ := zd.mk (Kd.R_below (by (with_reducible repeat (first | apply Kd.R_alloc | apply Kd.R_drewN | apply Kd.R_drew)); exact HO355.out) hb); have n1_ := zd.mk (Kd.R_below (by (with_reducible repeat (first | apply Kd.R_alloc | apply Kd.R_drewN | apply Kd.R_drew)); exact HO360.out) hb); have n2_ := zd.mk (zj (g := gb347) (o := .cells #[.int .i8 a0_0, .int .i8 a0_1, .bool a0_2, .bool a0_3] 24 (0, 0)) (by (with_reducible repeat (first | refine zf ?_ _ | refine zh ?_ | refine zg ?_ _)); exact BK347.out) hb); have n3_ := zd.mk (zk (by repeat (first | (with_reducible first | exact HB.out | apply zc | apply za | apply zb | refine ze ?_ GE347.out) | exact HB.out)) hb); clear HO355; clear HO360; clear BK347; clear HB; have HO355 := n0_; have HO360 := n1_; have BK347 := n2_; have HB := n3_; clear n0_ n1_ n2_ n3_; (try clear hb); (try clear hb2); (try clear hk); (try clear hi); obtain ⟨Ao22, co22, eo22⟩ := Kd.R_slice HO360.out; subst eo22) | ((with_reducible refine zr (f := 17) rfl ?_); refine zx (some 30) rfl rfl Try.func17 (by kernel_rfl) rfl #[.agg #[.int .i8 t361, .int .i8 t362, .bool t363, .bool t364], .slice Ao22 t358.length co22] rfl (by (try simp only [List.map_toArray, List.map_cons, List.map_nil]); first | done | rfl | (simp only [List.length_drop, List.length_take]; rfl)) ?_; (with_reducible refine (impl_FirstUntold.calls k t361 t362 t363 t364 _ _ t358 t365 t366 _ ?side1 ?side2 A11.out).mono ?_); (case side1 => repeat (first | exact (Kd.R_reads' HO360.out).2.2 | (with_reducible refine Kd.C_alloc ?_ _) | (with_reducible refine Kd.C_drewN ?_ _) | (with_reducible refine Kd.C_drew ?_))); (case side2 => exact (Kd.R_reads' HO360.out).2.1); rintro e w23 ⟨rfl, hb⟩; refine ⟨_, rfl, ?_⟩; have n0_ := zd.mk (Kd.R_below (by (with_reducible repeat (first | apply Kd.R_alloc | apply Kd.R_drewN | apply Kd.R_drew)); exact HO355.out) hb); have n1_ := zd.mk (Kd.R_below (by (with_reducible repeat (first | apply Kd.R_alloc | apply Kd.R_drewN | apply Kd.R_drew)); exact HO360.out) hb); have n2_ := zd.mk (zj (g := gb347) (o := .cells #[.int .i8 a0_0, .int .i8 a0_1, .bool a0_2, .bool a0_3] 24 (0, 0)) (by (with_reducible repeat (first | refine zf ?_ _ | refine zh ?_ | refine zg ?_ _)); exact BK347.out) hb); have n3_ := zd.mk (zk (by repeat (first | (with_reducible first | exact HB.out | apply zc | apply za | apply zb | refine ze ?_ GE347.out) | exact HB.out)) hb); clear HO355; clear HO360; clear BK347; clear HB; have HO355 := n0_; have HO360 := n1_; have BK347 := n2_; have HB := n3_; clear n0_ n1_ n2_ n3_; (try clear hb); (try clear hb2); (try clear hk); (try clear hi)))
  (try simp only [Act.put, List.setIfInBounds_toArray, List.set_cons_zero, List.set_cons_succ])
  go_cut [40] (fun v40 wc => ∃ (kq : Nat) (x40_11 : Bool), v40 = .bool x40_11 ∧ zd (laws_FnExactFirstUntold.j0 kq l1 t358 x40_11 = some r) ∧ zd (kq ≤ k) ∧ zd (Kd.R k54 54 wc w.heap.size (fun _ => True) (.slice Ao22 t358.length co22) t358) ∧ zd (wc.heap[gb347]? = some (.cells #[.int .i8 a0_0, .int .i8 a0_1, .bool a0_2, .bool a0_3] 24 (0, 0))) ∧ zd (Below w.heap.size w wc))
  case first =>
   have H := HC12.out
   clear HC12
   by_cases c24 : t365 = t356
   ·rw [if_pos c24] at H
    have c24b0 : (t365 == t356) = true := beq_iff_eq.mpr c24
    have c24b1 : (t365 != t356) = false := bne_eq_false_iff_eq.mpr c24
    clear c24
    (first | rw [c24b0] | (simp only [zp, zq]; rw [c24b0]) | skip)
    have H' := zd.mk H
    clear H
    go_wp2
    go_meet
    case rel => exact ⟨_, ((t366 != t357)), (by first | rfl | (simp; done) | (simp [*]; done)), H', ⟨by first | omega | exact Nat.le_refl _⟩, ⟨by (with_reducible repeat (first | apply Kd.R_alloc | apply Kd.R_drewN | apply Kd.R_drew)); exact Kd.R_mono HO360.out (fun _ hk => trivial)⟩, ⟨by (with_reducible repeat (first | refine zf ?_ _ | refine zh ?_ | refine zg ?_ _)); exact BK347.out⟩, ⟨by repeat (first | (with_reducible first | exact HB.out | apply zc | apply za | apply zb | refine ze ?_ GE347.out) | exact HB.out)⟩⟩
   ·rw [if_neg c24] at H
    have c24b0 : (t365 == t356) = false := beq_eq_false_iff_ne.mpr c24
    have c24b1 : (t365 != t356) = true := bne_iff_ne.mpr c24
    (first | rw [c24b0] | (simp only [zp, zq]; rw [c24b0]) | skip)
    have H' := zd.mk H
    clear H
    go_wp2
    go_meet
    case rel => exact ⟨_, (true), (by first | rfl | (simp; done) | (simp [*]; done)), H', ⟨by first | omega | exact Nat.le_refl _⟩, ⟨by (with_reducible repeat (first | apply Kd.R_alloc | apply Kd.R_drewN | apply Kd.R_drew)); exact Kd.R_mono HO360.out (fun _ hk => trivial)⟩, ⟨by (with_reducible repeat (first | refine zf ?_ _ | refine zh ?_ | refine zg ?_ _)); exact BK347.out⟩, ⟨by repeat (first | (with_reducible first | exact HB.out | apply zc | apply za | apply zb | refine ze ?_ GE347.out) | exact HB.out)⟩⟩
  case rest =>
   clear HC12
   try clear c1
   try clear c2
   try clear p2
   try clear c4
   try clear c4b0
   try clear c5
   try clear c8
   try clear c10
   try clear c11
   try clear c16
   try clear c17
   try clear c24
   try clear c24b0
   try clear c24b1
   try clear hcz14_0
   try clear hcz14_1
   try clear hcz14_2
   try clear hcz14_3
   try clear hcz20_0
   try clear hcz20_1
   try clear hcz20_2
   try clear hcz20_3
   try clear hfz14_0
   try clear hfz14_1
   try clear hfz14_2
   try clear hfz14_3
   try clear hfz20_0
   try clear hfz20_1
   try clear hfz20_2
   try clear hfz20_3
   obtain ⟨kq, x40_11, rfl, HA, HJ11, HO_8, BK347, HB⟩ := hcut
   cases kq with
   | zero => exact absurd HA.out (by simp [laws_FnExactFirstUntold.j0])
   | succ kj11 =>
    have H := HA.out
    clear HA
    simp only [laws_FnExactFirstUntold.j0] at H
    by_cases c25 : x40_11 = true
    ·subst c25
     have H1 : (some false) = some r := by rw [if_pos rfl] at H; exact H
     clear H
     have H := H1
     clear H1
     obtain rfl := Option.some.inj H
     go_wp2
     go_ret
     exact ⟨by first | rfl | (simp [errW_none, errW_some] <;> rfl) | (simp [*, errW_none, errW_some] <;> rfl), by repeat (first | (with_reducible first | exact HB.out | apply zc | apply za | apply zb | refine ze ?_ GE347.out) | exact HB.out)⟩
    ·replace c25 := Bool.eq_false_iff.mpr c25
     subst c25
     have H1 : ((laws_toNodeS.f kj11 l1).bind fun t367 => ((laws_eqNodeS.f kj11 t358 t367).bind fun t370 => (if t370 = true then (some true) else (some false)))) = some r := by rw [if_neg (show ¬ (false = true) by decide)] at H; exact H
     clear H
     have H := H1
     clear H1
     replace H := Option.bind_eq_some_iff.mp H
     obtain ⟨t367, A260, H⟩ := H
     replace H : ((laws_eqNodeS.f kj11 t358 t367).bind fun t370 => (if t370 = true then (some true) else (some false))) = some r := H
     have A26 := zd.mk A260
     clear A260
     replace H := Option.bind_eq_some_iff.mp H
     obtain ⟨t370, A270, H⟩ := H
     replace H : (if t370 = true then (some true) else (some false)) = some r := H
     have A27 := zd.mk A270
     clear A270
     by_cases c28 : t370 = true
     ·subst c28
      have H1 : (some true) = some r := by rw [if_pos rfl] at H; exact H
      clear H
      have H := H1
      clear H1
      obtain rfl := Option.some.inj H
      go_wp2_with (first | ((with_reducible refine zr (f := 11) rfl ?_); refine zx (some 43) rfl rfl Try.func11 (by kernel_rfl) rfl #[.slice A1 l1.length c1] rfl (by (try simp only [List.map_toArray, List.map_cons, List.map_nil]); first | done | rfl | (simp only [List.length_drop, List.length_take]; rfl)) ?_; (with_reducible refine (laws_toNodeS.calls kj11 _ _ l1 t367 _ ?side1 ?side2 A26.out).mono ?_); (case side1 => repeat (first | exact (Kd.C_below HR1.out HB.out) | (with_reducible refine Kd.C_alloc ?_ _) | (with_reducible refine Kd.C_drewN ?_ _) | (with_reducible refine Kd.C_drew ?_))); (case side2 => exact HC1.out); rintro e w29 ⟨v368, rfl, ho0, hb⟩; refine ⟨_, rfl, ?_⟩; have n0_ := zd.mk (Kd.R_elder' (by (with_reducible repeat (first | apply Kd.R_alloc | apply Kd.R_drewN | apply Kd.R_drew)); exact HO_8.out) (Kd.R_base ho0) hb); have n1_ := zd.mk (Kd.R_lower (Kd.R_new' ho0 (Kd.R_lt (by (with_reducible repeat (first | apply Kd.R_alloc | apply Kd.R_drewN | apply Kd.R_drew)); exact HO_8.out))) (zm (by repeat (first | (with_reducible first | exact HB.out | apply zc | apply za | apply zb | refine ze ?_ GE347.out) | exact HB.out)))); have n2_ := zd.mk (zj (g := gb347) (o := .cells #[.int .i8 a0_0, .int .i8 a0_1, .bool a0_2, .bool a0_3] 24 (0, 0)) (by (with_reducible repeat (first | refine zf ?_ _ | refine zh ?_ | refine zg ?_ _)); exact BK347.out) hb); have n3_ := zd.mk (zk (by repeat (first | (with_reducible first | exact HB.out | apply zc | apply za | apply zb | refine ze ?_ GE347.out) | exact HB.out)) hb); clear HO_8; clear BK347; clear HB; have HO_8 := n0_; have HO369 := n1_; have BK347 := n2_; have HB := n3_; clear n0_ n1_ n2_ n3_; (try clear hb); (try clear hb2); (try clear hk); (try clear hi); (try clear ho0); obtain ⟨Ao30, co30, eo30⟩ := Kd.R_slice HO369.out; subst eo30) | ((with_reducible refine zr (f := 13) rfl ?_); refine zx (some 44) rfl rfl Try.func13 (by kernel_rfl) rfl #[.slice Ao22 t358.length co22, .slice Ao30 t367.length co30] rfl (by (try simp only [List.map_toArray, List.map_cons, List.map_nil]); first | done | rfl | (simp only [List.length_drop, List.length_take]; rfl)) ?_; (with_reducible refine (laws_eqNodeS.calls kj11 _ _ t358 _ _ t367 true _ ?side1 ?side2 ?side3 ?side4 A27.out).mono ?_); (case side1 => repeat (first | exact (Kd.R_reads' HO_8.out).2.2 | (with_reducible refine Kd.C_alloc ?_ _) | (with_reducible refine Kd.C_drewN ?_ _) | (with_reducible refine Kd.C_drew ?_))); (case side2 => exact (Kd.R_reads' HO_8.out).2.1); (case side3 => repeat (first | exact (Kd.R_reads' HO369.out).2.2 | (with_reducible refine Kd.C_alloc ?_ _) | (with_reducible refine Kd.C_drewN ?_ _) | (with_reducible refine Kd.C_drew ?_))); (case side4 => exact (Kd.R_reads' HO369.out).2.1); rintro e w31 ⟨rfl, hb⟩; refine ⟨_, rfl, ?_⟩; have n0_ := zd.mk (Kd.R_below (by (with_reducible repeat (first | apply Kd.R_alloc | apply Kd.R_drewN | apply Kd.R_drew)); exact HO_8.out) hb); have n1_ := zd.mk (Kd.R_below (by (with_reducible repeat (first | apply Kd.R_alloc | apply Kd.R_drewN | apply Kd.R_drew)); exact HO369.out) hb); have n2_ := zd.mk (zj (g := gb347) (o := .cells #[.int .i8 a0_0, .int .i8 a0_1, .bool a0_2, .bool a0_3] 24 (0, 0)) (by (with_reducible repeat (first | refine zf ?_ _ | refine zh ?_ | refine zg ?_ _)); exact BK347.out) hb); have n3_ := zd.mk (zk (by repeat (first | (with_reducible first | exact HB.out | apply zc | apply za | apply zb | refine ze ?_ GE347.out) | exact HB.out)) hb); clear HO_8; clear HO369; clear BK347; clear HB; have HO_8 := n0_; have HO369 := n1_; have BK347 := n2_; have HB := n3_; clear n0_ n1_ n2_ n3_; (try clear hb); (try clear hb2); (try clear hk); (try clear hi)))
      go_ret
      exact ⟨by first | rfl | (simp [errW_none, errW_some] <;> rfl) | (simp [*, errW_none, errW_some] <;> rfl), by repeat (first | (with_reducible first | exact HB.out | apply zc | apply za | apply zb | refine ze ?_ GE347.out) | exact HB.out)⟩
     ·replace c28 := Bool.eq_false_iff.mpr c28
      subst c28
      have H1 : (some false) = some r := by rw [if_neg (show ¬ (false = true) by decide)] at H; exact H
      clear H
      have H := H1
      clear H1
      obtain rfl := Option.some.inj H
      go_wp2_with (first | ((with_reducible refine zr (f := 11) rfl ?_); refine zx (some 43) rfl rfl Try.func11 (by kernel_rfl) rfl #[.slice A1 l1.length c1] rfl (by (try simp only [List.map_toArray, List.map_cons, List.map_nil]); first | done | rfl | (simp only [List.length_drop, List.length_take]; rfl)) ?_; (with_reducible refine (laws_toNodeS.calls kj11 _ _ l1 t367 _ ?side1 ?side2 A26.out).mono ?_); (case side1 => repeat (first | exact (Kd.C_below HR1.out HB.out) | (with_reducible refine Kd.C_alloc ?_ _) | (with_reducible refine Kd.C_drewN ?_ _) | (with_reducible refine Kd.C_drew ?_))); (case side2 => exact HC1.out); rintro e w32 ⟨v368, rfl, ho0, hb⟩; refine ⟨_, rfl, ?_⟩; have n0_ := zd.mk (Kd.R_elder' (by (with_reducible repeat (first | apply Kd.R_alloc | apply Kd.R_drewN | apply Kd.R_drew)); exact HO_8.out) (Kd.R_base ho0) hb); have n1_ := zd.mk (Kd.R_lower (Kd.R_new' ho0 (Kd.R_lt (by (with_reducible repeat (first | apply Kd.R_alloc | apply Kd.R_drewN | apply Kd.R_drew)); exact HO_8.out))) (zm (by repeat (first | (with_reducible first | exact HB.out | apply zc | apply za | apply zb | refine ze ?_ GE347.out) | exact HB.out)))); have n2_ := zd.mk (zj (g := gb347) (o := .cells #[.int .i8 a0_0, .int .i8 a0_1, .bool a0_2, .bool a0_3] 24 (0, 0)) (by (with_reducible repeat (first | refine zf ?_ _ | refine zh ?_ | refine zg ?_ _)); exact BK347.out) hb); have n3_ := zd.mk (zk (by repeat (first | (with_reducible first | exact HB.out | apply zc | apply za | apply zb | refine ze ?_ GE347.out) | exact HB.out)) hb); clear HO_8; clear BK347; clear HB; have HO_8 := n0_; have HO369 := n1_; have BK347 := n2_; have HB := n3_; clear n0_ n1_ n2_ n3_; (try clear hb); (try clear hb2); (try clear hk); (try clear hi); (try clear ho0); obtain ⟨Ao33, co33, eo33⟩ := Kd.R_slice HO369.out; subst eo33) | ((with_reducible refine zr (f := 13) rfl ?_); refine zx (some 44) rfl rfl Try.func13 (by kernel_rfl) rfl #[.slice Ao22 t358.length co22, .slice Ao33 t367.length co33] rfl (by (try simp only [List.map_toArray, List.map_cons, List.map_nil]); first | done | rfl | (simp only [List.length_drop, List.length_take]; rfl)) ?_; (with_reducible refine (laws_eqNodeS.calls kj11 _ _ t358 _ _ t367 false _ ?side1 ?side2 ?side3 ?side4 A27.out).mono ?_); (case side1 => repeat (first | exact (Kd.R_reads' HO_8.out).2.2 | (with_reducible refine Kd.C_alloc ?_ _) | (with_reducible refine Kd.C_drewN ?_ _) | (with_reducible refine Kd.C_drew ?_))); (case side2 => exact (Kd.R_reads' HO_8.out).2.1); (case side3 => repeat (first | exact (Kd.R_reads' HO369.out).2.2 | (with_reducible refine Kd.C_alloc ?_ _) | (with_reducible refine Kd.C_drewN ?_ _) | (with_reducible refine Kd.C_drew ?_))); (case side4 => exact (Kd.R_reads' HO369.out).2.1); rintro e w34 ⟨rfl, hb⟩; refine ⟨_, rfl, ?_⟩; have n0_ := zd.mk (Kd.R_below (by (with_reducible repeat (first | apply Kd.R_alloc | apply Kd.R_drewN | apply Kd.R_drew)); exact HO_8.out) hb); have n1_ := zd.mk (Kd.R_below (by (with_reducible repeat (first | apply Kd.R_alloc | apply Kd.R_drewN | apply Kd.R_drew)); exact HO369.out) hb); have n2_ := zd.mk (zj (g := gb347) (o := .cells #[.int .i8 a0_0, .int .i8 a0_1, .bool a0_2, .bool a0_3] 24 (0, 0)) (by (with_reducible repeat (first | refine zf ?_ _ | refine zh ?_ | refine zg ?_ _)); exact BK347.out) hb); have n3_ := zd.mk (zk (by repeat (first | (with_reducible first | exact HB.out | apply zc | apply za | apply zb | refine ze ?_ GE347.out) | exact HB.out)) hb); clear HO_8; clear HO369; clear BK347; clear HB; have HO_8 := n0_; have HO369 := n1_; have BK347 := n2_; have HB := n3_; clear n0_ n1_ n2_ n3_; (try clear hb); (try clear hb2); (try clear hk); (try clear hi)))
      go_ret
      exact ⟨by first | rfl | (simp [errW_none, errW_some] <;> rfl) | (simp [*, errW_none, errW_some] <;> rfl), by repeat (first | (with_reducible first | exact HB.out | apply zc | apply za | apply zb | refine ze ?_ GE347.out) | exact HB.out)⟩

end Go.Proofs.Ytmmonhpjjjdnjaa.U
