-- Written by wip/tools/myprint.py, a program of this session, by way of the kit's print.
import Derived.Test.YtmmonhpjjjdnjaaYx0
import Derived.Test.YtmmonhpjjjdnjaaLLoadY
import Derived.Test.YtmmonhpjjjdnjaaYx4
import Derived.Test.YtmmonhpjjjdnjaaYx6
import Derived.Test.YtmmonhpjjjdnjaaYx9
import Derived.Test.YtmmonhpjjjdnjaaYx16
import Derived.Test.YtmmonhpjjjdnjaaYx22
import Derived.Test.YtmmonhpjjjdnjaaYx23
import Derived.Test.YtmmonhpjjjdnjaaYx24
namespace Go.Proofs.Ytmmonhpjjjdnjaa.Y
open Go.RowKit Go.Proofs.YtmmonhpjjjdnjaaW.PrintWords Go.Proofs.YtmmonhpjjjdnjaaW.PrintLast Go.Proofs.YtmmonhpjjjdnjaaW.PrintMore
attribute [local go_sem] zha zga zka zja zba zaa zea zfa   -- for this text's walks alone
set_option linter.unusedVariables false
set_option linter.unusedSimpArgs false

/-! ### laws_FnExactMirrorPlan: function 6 -/
mutual
def laws_FnExactMirrorPlan.j0 : Nat → List (S58) → List (S54) → Int → List (S54) → List (S54) → Int → Bool → Int → Int → Bool → Bool → Option (Bool)
 | 0, _, _, _, _, _, _, _, _, _, _, _ => none
 | k + 1, x1, x6, x7, x8, x9, x10, x46, x347000, x347001, x347002, x347003 => if x46 = true then (some false) else ((laws_toNodeS.f k x1).bind fun t371 => ((laws_eqNodeS.f k x8 t371).bind fun t374 => (if t374 = true then ((laws_markNodeS.f k x8 1).bind fun bt375 => (if bt375.1 < 0 then (laws_FnExactMirrorPlan.j1 k x1 x6 x7 x9 true x347000 x347001 x347002 x347003) else ((laws_eqNodeS.f k x9 x6).bind fun t377 => (if t377 = true then (laws_FnExactMirrorPlan.j1 k x1 x6 x7 x9 (x10 != x7) x347000 x347001 x347002 x347003) else (laws_FnExactMirrorPlan.j1 k x1 x6 x7 x9 true x347000 x347001 x347002 x347003))))) else (some false))))
def laws_FnExactMirrorPlan.j1 : Nat → List (S58) → List (S54) → Int → List (S54) → Bool → Int → Int → Bool → Bool → Option (Bool)
 | 0, _, _, _, _, _, _, _, _, _ => none
 | k + 1, x1, x6, x7, x9, x67, x347000, x347001, x347002, x347003 => if x67 = true then (some false) else ((laws_markNodeS.f k x9 1).bind fun bt378 => ((laws_heldNodeS.f k bt378.2 1).bind fun t380 => (if t380 < 0 then (some false) else (if t380 = bt378.1 then ((laws_toTask.f x347000 x347001 x347002 x347003).bind fun bt381 => ((laws_toNodeS.f k x1).bind fun t385 => ((impl_MirrorPlan.f k bt381.1 bt381.2.1 bt381.2.2.1 bt381.2.2.2 t385).bind fun bt388 => ((laws_eqNodeS.f k bt388.1 x6).bind fun t392 => (if t392 = true then (laws_FnExactMirrorPlan.j2 k bt378.2 bt378.1 (bt388.2 != x7)) else (laws_FnExactMirrorPlan.j2 k bt378.2 bt378.1 true)))))) else (some false)))))
def laws_FnExactMirrorPlan.j2 : Nat → List (S54) → Int → Bool → Option (Bool)
 | 0, _, _, _ => none
 | k + 1, x9, x12, x95 => if x95 = true then (some false) else ((laws_heldNodeS.f k x9 1).bind fun t393 => (if t393 < 0 then (some false) else (if t393 = x12 then (some true) else (some false))))
end
def laws_FnExactMirrorPlan.f (k : Nat) (a0_0 : Int) (a0_1 : Int) (a0_2 : Bool) (a0_3 : Bool) (l1 : List (S58)) : Option (Bool) := (laws_szNodeS.f l1 1048576).bind fun t347 => (if t347 < 0 then (some true) else ((laws_toTask.f a0_0 a0_1 a0_2 a0_3).bind fun bt348 => ((laws_toNodeS.f k l1).bind fun t352 => ((spec_MirrorPlan.f k bt348.1 bt348.2.1 bt348.2.2.1 bt348.2.2.2 t352).bind fun bt355 => ((laws_toNodeS.f k l1).bind fun t359 => ((laws_toTask.f a0_0 a0_1 a0_2 a0_3).bind fun bt362 => ((impl_MirrorPlan.f k bt362.1 bt362.2.1 bt362.2.2.1 bt362.2.2.2 t359).bind fun bt366 => ((laws_eqNodeS.f k bt366.1 bt355.1).bind fun t370 => (if t370 = true then (laws_FnExactMirrorPlan.j0 k l1 bt355.1 bt355.2 t359 bt366.1 bt366.2 (bt366.2 != bt355.2) a0_0 a0_1 a0_2 a0_3) else (laws_FnExactMirrorPlan.j0 k l1 bt355.1 bt355.2 t359 bt366.1 bt366.2 true a0_0 a0_1 a0_2 a0_3))))))))))
set_option maxHeartbeats 8000000 in
set_option maxRecDepth 100000 in
theorem laws_FnExactMirrorPlan.calls (k : Nat) (a0_0 : Int) (a0_1 : Int) (a0_2 : Bool) (a0_3 : Bool) (A1 : Option Addr) (c1 : Nat) (l1 : List (S58)) (r : Bool) (w : World) (hr1 : Kd.C k58 w A1 l1.length l1) (hc1 : l1.length ≤ c1) (h : laws_FnExactMirrorPlan.f k a0_0 a0_1 a0_2 a0_3 l1 = some r) :
  Calls Try.prog 6 #[.agg #[.int .i8 a0_0, .int .i8 a0_1, .bool a0_2, .bool a0_3], .slice A1 l1.length c1] w fun e w' => e = .returned (.bool r) ∧ Below w.heap.size w w' := by
 have hu24 := Try.underlying24
 have HR1 := zc.mk hr1
 have HC1 := zc.mk hc1
 clear hr1 hc1
 have HB := zc.mk (Below.refl w.heap.size w)
 have H : ((laws_szNodeS.f l1 1048576).bind fun t347 => (if t347 < 0 then (some true) else ((laws_toTask.f a0_0 a0_1 a0_2 a0_3).bind fun bt348 => ((laws_toNodeS.f k l1).bind fun t352 => ((spec_MirrorPlan.f k bt348.1 bt348.2.1 bt348.2.2.1 bt348.2.2.2 t352).bind fun bt355 => ((laws_toNodeS.f k l1).bind fun t359 => ((laws_toTask.f a0_0 a0_1 a0_2 a0_3).bind fun bt362 => ((impl_MirrorPlan.f k bt362.1 bt362.2.1 bt362.2.2.1 bt362.2.2.2 t359).bind fun bt366 => ((laws_eqNodeS.f k bt366.1 bt355.1).bind fun t370 => (if t370 = true then (laws_FnExactMirrorPlan.j0 k l1 bt355.1 bt355.2 t359 bt366.1 bt366.2 (bt366.2 != bt355.2) a0_0 a0_1 a0_2 a0_3) else (laws_FnExactMirrorPlan.j0 k l1 bt355.1 bt355.2 t359 bt366.1 bt366.2 true a0_0 a0_1 a0_2 a0_3))))))))))) = some r := h
 clear h
 replace H := Option.bind_eq_some_iff.mp H
 obtain ⟨t347, A30, H⟩ := H
 replace H : (if t347 < 0 then (some true) else ((laws_toTask.f a0_0 a0_1 a0_2 a0_3).bind fun bt348 => ((laws_toNodeS.f k l1).bind fun t352 => ((spec_MirrorPlan.f k bt348.1 bt348.2.1 bt348.2.2.1 bt348.2.2.2 t352).bind fun bt355 => ((laws_toNodeS.f k l1).bind fun t359 => ((laws_toTask.f a0_0 a0_1 a0_2 a0_3).bind fun bt362 => ((impl_MirrorPlan.f k bt362.1 bt362.2.1 bt362.2.2.1 bt362.2.2.2 t359).bind fun bt366 => ((laws_eqNodeS.f k bt366.1 bt355.1).bind fun t370 => (if t370 = true then (laws_FnExactMirrorPlan.j0 k l1 bt355.1 bt355.2 t359 bt366.1 bt366.2 (bt366.2 != bt355.2) a0_0 a0_1 a0_2 a0_3) else (laws_FnExactMirrorPlan.j0 k l1 bt355.1 bt355.2 t359 bt366.1 bt366.2 true a0_0 a0_1 a0_2 a0_3)))))))))) = some r := H
 have A3 := zc.mk A30
 clear A30
 by_cases c4 : t347 < 0
 ·rw [if_pos c4] at H
  have c4b0 : decide (t347 < 0) = true := decide_eq_true c4
  clear c4
  obtain rfl := Option.some.inj H
  go_enter Try.func6, Try.ntmps6
  go_wp2_with (first | ((with_reducible refine zn (N := 2) rfl ?_); refine zo ?hg (N := 2) ?hd (cs := #[.int .i8 a0_0, .int .i8 a0_1, .bool a0_2, .bool a0_3]) (t := 24) ?hr ?_; (case hd => rfl); (case hg => rfl); (case hr => first | (go_simp; done) | (go_simp; rfl)); intro gb346 hg w5 hbox hb; obtain ⟨n0_, n2_⟩ := bx (by repeat (first | (with_reducible first | exact HB.out | apply zd | apply za | apply zb) | exact HB.out)) hb hg; have n1_ := zc.mk (hbox); have n3_ := n2_; clear HB; have HB := n0_; have BK346 := n1_; have GW346 := n2_; have GE346 := n3_; clear n0_ n1_ n2_ n3_; clear hb hbox hg) | ((with_reducible refine zl (f := 8) rfl ?_); refine zw (some 18) rfl rfl Try.func8 (by kernel_rfl) rfl #[.slice A1 l1.length c1, .int .i64 1048576] rfl (by (try simp only [List.map_toArray, List.map_cons, List.map_nil]); first | done | rfl | (simp only [List.length_drop, List.length_take]; rfl)) ?_; (with_reducible refine (laws_szNodeS.calls _ _ l1 1048576 t347 _ ?side1 ?side2 A3.out).mono ?_); (case side1 => repeat (first | exact (Kd.C_below HR1.out HB.out) | (with_reducible refine Kd.C_alloc ?_ _) | (with_reducible refine Kd.C_drewN ?_ _) | (with_reducible refine Kd.C_drew ?_))); (case side2 => exact HC1.out); rintro e w' ⟨rfl, ⟨nd, rfl⟩⟩; refine ⟨_, rfl, ?_⟩))
  go_ret
  exact ⟨by first | rfl | (simp [errW_none, errW_some] <;> rfl) | (simp [*, errW_none, errW_some] <;> rfl), by repeat (first | (with_reducible first | exact HB.out | apply zd | apply za | apply zb | refine ze ?_ GE346.out) | exact HB.out)⟩
 rw [if_neg c4] at H
 have c4b0 : decide (t347 < 0) = false := decide_eq_false c4
 clear c4
 replace H := Option.bind_eq_some_iff.mp H
 obtain ⟨⟨t348, t349, t350, t351⟩, A60, H⟩ := H
 replace H : ((laws_toNodeS.f k l1).bind fun t352 => ((spec_MirrorPlan.f k t348 t349 t350 t351 t352).bind fun bt355 => ((laws_toNodeS.f k l1).bind fun t359 => ((laws_toTask.f a0_0 a0_1 a0_2 a0_3).bind fun bt362 => ((impl_MirrorPlan.f k bt362.1 bt362.2.1 bt362.2.2.1 bt362.2.2.2 t359).bind fun bt366 => ((laws_eqNodeS.f k bt366.1 bt355.1).bind fun t370 => (if t370 = true then (laws_FnExactMirrorPlan.j0 k l1 bt355.1 bt355.2 t359 bt366.1 bt366.2 (bt366.2 != bt355.2) a0_0 a0_1 a0_2 a0_3) else (laws_FnExactMirrorPlan.j0 k l1 bt355.1 bt355.2 t359 bt366.1 bt366.2 true a0_0 a0_1 a0_2 a0_3)))))))) = some r := H
 have A6 := zc.mk A60
 clear A60
 replace H := Option.bind_eq_some_iff.mp H
 obtain ⟨t352, A70, H⟩ := H
 replace H : ((spec_MirrorPlan.f k t348 t349 t350 t351 t352).bind fun bt355 => ((laws_toNodeS.f k l1).bind fun t359 => ((laws_toTask.f a0_0 a0_1 a0_2 a0_3).bind fun bt362 => ((impl_MirrorPlan.f k bt362.1 bt362.2.1 bt362.2.2.1 bt362.2.2.2 t359).bind fun bt366 => ((laws_eqNodeS.f k bt366.1 bt355.1).bind fun t370 => (if t370 = true then (laws_FnExactMirrorPlan.j0 k l1 bt355.1 bt355.2 t359 bt366.1 bt366.2 (bt366.2 != bt355.2) a0_0 a0_1 a0_2 a0_3) else (laws_FnExactMirrorPlan.j0 k l1 bt355.1 bt355.2 t359 bt366.1 bt366.2 true a0_0 a0_1 a0_2 a0_3))))))) = some r := H
 have A7 := zc.mk A70
 clear A70
 replace H := Option.bind_eq_some_iff.mp H
 obtain ⟨⟨t355, t358⟩, A80, H⟩ := H
 replace H : ((laws_toNodeS.f k l1).bind fun t359 => ((laws_toTask.f a0_0 a0_1 a0_2 a0_3).bind fun bt362 => ((impl_MirrorPlan.f k bt362.1 bt362.2.1 bt362.2.2.1 bt362.2.2.2 t359).bind fun bt366 => ((laws_eqNodeS.f k bt366.1 t355).bind fun t370 => (if t370 = true then (laws_FnExactMirrorPlan.j0 k l1 t355 t358 t359 bt366.1 bt366.2 (bt366.2 != t358) a0_0 a0_1 a0_2 a0_3) else (laws_FnExactMirrorPlan.j0 k l1 t355 t358 t359 bt366.1 bt366.2 true a0_0 a0_1 a0_2 a0_3)))))) = some r := H
 have A8 := zc.mk A80
 clear A80
 replace H := Option.bind_eq_some_iff.mp H
 obtain ⟨t359, A90, H⟩ := H
 replace H : ((laws_toTask.f a0_0 a0_1 a0_2 a0_3).bind fun bt362 => ((impl_MirrorPlan.f k bt362.1 bt362.2.1 bt362.2.2.1 bt362.2.2.2 t359).bind fun bt366 => ((laws_eqNodeS.f k bt366.1 t355).bind fun t370 => (if t370 = true then (laws_FnExactMirrorPlan.j0 k l1 t355 t358 t359 bt366.1 bt366.2 (bt366.2 != t358) a0_0 a0_1 a0_2 a0_3) else (laws_FnExactMirrorPlan.j0 k l1 t355 t358 t359 bt366.1 bt366.2 true a0_0 a0_1 a0_2 a0_3))))) = some r := H
 have A9 := zc.mk A90
 clear A90
 replace H := Option.bind_eq_some_iff.mp H
 obtain ⟨⟨t362, t363, t364, t365⟩, A100, H⟩ := H
 replace H : ((impl_MirrorPlan.f k t362 t363 t364 t365 t359).bind fun bt366 => ((laws_eqNodeS.f k bt366.1 t355).bind fun t370 => (if t370 = true then (laws_FnExactMirrorPlan.j0 k l1 t355 t358 t359 bt366.1 bt366.2 (bt366.2 != t358) a0_0 a0_1 a0_2 a0_3) else (laws_FnExactMirrorPlan.j0 k l1 t355 t358 t359 bt366.1 bt366.2 true a0_0 a0_1 a0_2 a0_3)))) = some r := H
 have A10 := zc.mk A100
 clear A100
 replace H := Option.bind_eq_some_iff.mp H
 obtain ⟨⟨t366, t369⟩, A110, H⟩ := H
 replace H : ((laws_eqNodeS.f k t366 t355).bind fun t370 => (if t370 = true then (laws_FnExactMirrorPlan.j0 k l1 t355 t358 t359 t366 t369 (t369 != t358) a0_0 a0_1 a0_2 a0_3) else (laws_FnExactMirrorPlan.j0 k l1 t355 t358 t359 t366 t369 true a0_0 a0_1 a0_2 a0_3))) = some r := H
 have A11 := zc.mk A110
 clear A110
 have HC12 := zc.mk H
 clear H
 go_enter Try.func6, Try.ntmps6
 go_upto_region 8 with (first | ((with_reducible refine zn (N := 2) rfl ?_); refine zo ?hg (N := 2) ?hd (cs := #[.int .i8 a0_0, .int .i8 a0_1, .bool a0_2, .bool a0_3]) (t := 24) ?hr ?_; (case hd => rfl); (case hg => rfl); (case hr => first | (go_simp; done) | (go_simp; rfl)); intro gb346 hg w13 hbox hb; obtain ⟨n0_, n2_⟩ := bx (by repeat (first | (with_reducible first | exact HB.out | apply zd | apply za | apply zb) | exact HB.out)) hb hg; have n1_ := zc.mk (hbox); have n3_ := n2_; clear HB; have HB := n0_; have BK346 := n1_; have GW346 := n2_; have GE346 := n3_; clear n0_ n1_ n2_ n3_; clear hb hbox hg) | ((with_reducible refine zl (f := 8) rfl ?_); refine zw (some 18) rfl rfl Try.func8 (by kernel_rfl) rfl #[.slice A1 l1.length c1, .int .i64 1048576] rfl (by (try simp only [List.map_toArray, List.map_cons, List.map_nil]); first | done | rfl | (simp only [List.length_drop, List.length_take]; rfl)) ?_; (with_reducible refine (laws_szNodeS.calls _ _ l1 1048576 t347 _ ?side1 ?side2 A3.out).mono ?_); (case side1 => repeat (first | exact (Kd.C_below HR1.out HB.out) | (with_reducible refine Kd.C_alloc ?_ _) | (with_reducible refine Kd.C_drewN ?_ _) | (with_reducible refine Kd.C_drew ?_))); (case side2 => exact HC1.out); rintro e w' ⟨rfl, ⟨nd, rfl⟩⟩; refine ⟨_, rfl, ?_⟩; have hcz14_0 : w13.cell? ⟨gb346, 0, none⟩ = some (.int .i8 a0_0) := (zr BK346.out 0).trans rfl; have hcz14_1 : w13.cell? ⟨gb346, 1, none⟩ = some (.int .i8 a0_1) := (zr BK346.out 1).trans rfl; have hcz14_2 : w13.cell? ⟨gb346, 2, none⟩ = some (.bool a0_2) := (zr BK346.out 2).trans rfl; have hcz14_3 : w13.cell? ⟨gb346, 3, none⟩ = some (.bool a0_3) := (zr BK346.out 3).trans rfl; obtain ⟨hfz14_0, hfz14_1, hfz14_2, hfz14_3⟩ := fz4 BK346.out) | ((with_reducible refine zl (f := 10) rfl ?_); refine zw (some 23) rfl rfl Try.func10 (by kernel_rfl) rfl #[.agg #[.int .i8 a0_0, .int .i8 a0_1, .bool a0_2, .bool a0_3]] rfl (by (try simp only [List.map_toArray, List.map_cons, List.map_nil]); first | done | rfl | (simp only [List.length_drop, List.length_take]; rfl)) ?_; (with_reducible refine (laws_toTask.calls a0_0 a0_1 a0_2 a0_3 t348 t349 t350 t351 _ A6.out).mono ?_); rintro e w15 ⟨rfl, hb⟩; refine ⟨_, rfl, ?_⟩; have n0_ := zc.mk (zi (by (with_reducible repeat (first | refine zf ?_ _ | refine zh ?_ | refine zg ?_ _)); exact BK346.out) hb); have n1_ := zc.mk (zp (by repeat (first | (with_reducible first | exact HB.out | apply zd | apply za | apply zb | refine ze ?_ GE346.out) | exact HB.out)) hb); clear BK346; clear HB; have BK346 := n0_; have HB := n1_; clear n0_ n1_; (try clear hb); (try clear hb2); (try clear hk); (try clear hi)) | ((with_reducible refine zl (f := 11) rfl ?_); refine zw (some 25) rfl rfl Try.func11 (by kernel_rfl) rfl #[.slice A1 l1.length c1] rfl (by (try simp only [List.map_toArray, List.map_cons, List.map_nil]); first | done | rfl | (simp only [List.length_drop, List.length_take]; rfl)) ?_; (with_reducible refine (laws_toNodeS.calls k _ _ l1 t352 _ ?side1 ?side2 A7.out).mono ?_); (case side1 => repeat (first | exact (Kd.C_below HR1.out HB.out) | (with_reducible refine Kd.C_alloc ?_ _) | (with_reducible refine Kd.C_drewN ?_ _) | (with_reducible refine Kd.C_drew ?_))); (case side2 => exact HC1.out); rintro e w16 ⟨v353, rfl, ho0, hb⟩; refine ⟨_, rfl, ?_⟩; have n0_ := zc.mk (Kd.R_lower ho0 (zv (by repeat (first | (with_reducible first | exact HB.out | apply zd | apply za | apply zb | refine ze ?_ GE346.out) | exact HB.out)))); have n1_ := zc.mk (zi (by (with_reducible repeat (first | refine zf ?_ _ | refine zh ?_ | refine zg ?_ _)); exact BK346.out) hb); have n2_ := zc.mk (zp (by repeat (first | (with_reducible first | exact HB.out | apply zd | apply za | apply zb | refine ze ?_ GE346.out) | exact HB.out)) hb); clear BK346; clear HB; have HO354 := n0_; have BK346 := n1_; have HB := n2_; clear n0_ n1_ n2_; (try clear hb); (try clear hb2); (try clear hk); (try clear hi); (try clear ho0); obtain ⟨Ao17, co17, eo17⟩ := Kd.R_slice HO354.out; subst eo17) | ((with_reducible refine zl (f := 18) rfl ?_); refine zw (some 26) rfl rfl Try.func18 (by kernel_rfl) rfl #[.agg #[.int .i8 t348, .int .i8 t349, .bool t350, .bool t351], .slice Ao17 t352.length co17] rfl (by (try simp only [List.map_toArray, List.map_cons, List.map_nil]); first | done | rfl | (simp only [List.length_drop, List.length_take]; rfl)) ?_; (with_reducible refine (spec_MirrorPlan.calls k t348 t349 t350 t351 _ _ t352 t355 t358 _ ?side1 ?side2 A8.out).mono ?_); (case side1 => repeat (first | exact (Kd.R_reads' HO354.out).2.2 | (with_reducible refine Kd.C_alloc ?_ _) | (with_reducible refine Kd.C_drewN ?_ _) | (with_reducible refine Kd.C_drew ?_))); (case side2 => exact (Kd.R_reads' HO354.out).2.1); rintro e w18 ⟨v356, rfl, ho0, hb⟩; refine ⟨_, rfl, ?_⟩; have n0_ := zc.mk (Kd.R_elder' (by (with_reducible repeat (first | apply Kd.R_alloc | apply Kd.R_drewN | apply Kd.R_drew)); exact HO354.out) (Kd.R_base ho0) hb); have n1_ := zc.mk (Kd.R_lower (Kd.R_new' ho0 (Kd.R_lt (by (with_reducible repeat (first | apply Kd.R_alloc | apply Kd.R_drewN | apply Kd.R_drew)); exact HO354.out))) (zv (by repeat (first | (with_reducible first | exact HB.out | apply zd | apply za | apply zb | refine ze ?_ GE346.out) | exact HB.out)))); have n2_ := zc.mk (zi (by (with_reducible repeat (first | refine zf ?_ _ | refine zh ?_ | refine zg ?_ _)); exact BK346.out) hb); have n3_ := zc.mk (zp (by repeat (first | (with_reducible first | exact HB.out | apply zd | apply za | apply zb | refine ze ?_ GE346.out) | exact HB.out)) hb); clear HO354; clear BK346; clear HB; have HO354 := n0_; have HO357 := n1_; have BK346 := n2_; have HB := n3_; clear n0_ n1_ n2_ n3_; (try clear hb); (try clear hb2); (try clear hk); (try clear hi); (try clear ho0)) | ((with_reducible refine zl (f := 11) rfl ?_); refine zw (some 30) rfl rfl Try.func11 (by kernel_rfl) rfl #[.slice A1 l1.length c1] rfl (by (try simp only [List.map_toArray, List.map_cons, List.map_nil]); first | done | rfl | (simp only [List.length_drop, List.length_take]; rfl)) ?_; (with_reducible refine (laws_toNodeS.calls k _ _ l1 t359 _ ?side1 ?side2 A9.out).mono ?_); (case side1 => repeat (first | exact (Kd.C_below HR1.out HB.out) | (with_reducible refine Kd.C_alloc ?_ _) | (with_reducible refine Kd.C_drewN ?_ _) | (with_reducible refine Kd.C_drew ?_))); (case side2 => exact HC1.out); rintro e w19 ⟨v360, rfl, ho0, hb⟩; refine ⟨_, rfl, ?_⟩; have n0_ := zc.mk (Kd.R_elder' (by (with_reducible repeat (first | apply Kd.R_alloc | apply Kd.R_drewN | apply Kd.R_drew)); exact HO354.out) (Kd.R_base ho0) hb); have n1_ := zc.mk (Kd.R_elder' (by (with_reducible repeat (first | apply Kd.R_alloc | apply Kd.R_drewN | apply Kd.R_drew)); exact HO357.out) (Kd.R_base ho0) hb); have n2_ := zc.mk (Kd.R_lower (Kd.R_new' (Kd.R_new' ho0 (Kd.R_lt (by (with_reducible repeat (first | apply Kd.R_alloc | apply Kd.R_drewN | apply Kd.R_drew)); exact HO354.out))) (Kd.R_lt (by (with_reducible repeat (first | apply Kd.R_alloc | apply Kd.R_drewN | apply Kd.R_drew)); exact HO357.out))) (zv (by repeat (first | (with_reducible first | exact HB.out | apply zd | apply za | apply zb | refine ze ?_ GE346.out) | exact HB.out)))); have n3_ := zc.mk (zi (by (with_reducible repeat (first | refine zf ?_ _ | refine zh ?_ | refine zg ?_ _)); exact BK346.out) hb); have n4_ := zc.mk (zp (by repeat (first | (with_reducible first | exact HB.out | apply zd | apply za | apply zb | refine ze ?_ GE346.out) | exact HB.out)) hb); clear HO354; clear HO357; clear BK346; clear HB; have HO354 := n0_; have HO357 := n1_; have HO361 := n2_; have BK346 := n3_; have HB := n4_; clear n0_ n1_ n2_ n3_ n4_; (try clear hb); (try clear hb2); (try clear hk); (try clear hi); (try clear ho0); have hcz20_0 : w19.cell? ⟨gb346, 0, none⟩ = some (.int .i8 a0_0) := (zr BK346.out 0).trans rfl; have hcz20_1 : w19.cell? ⟨gb346, 1, none⟩ = some (.int .i8 a0_1) := (zr BK346.out 1).trans rfl; have hcz20_2 : w19.cell? ⟨gb346, 2, none⟩ = some (.bool a0_2) := (zr BK346.out 2).trans rfl; have hcz20_3 : w19.cell? ⟨gb346, 3, none⟩ = some (.bool a0_3) := (zr BK346.out 3).trans rfl; obtain ⟨hfz20_0, hfz20_1, hfz20_2, hfz20_3⟩ := fz4 BK346.out) | ((with_reducible refine zl (f := 10) rfl ?_); refine zw (some 33) rfl rfl Try.func10 (by kernel_rfl) rfl #[.agg #[.int .i8 a0_0, .int .i8 a0_1, .bool a0_2, .bool a0_3]] rfl (by (try simp only [List.map_toArray, List.map_cons, List.map_nil]); first | done | rfl | (simp only [List.length_drop, List.length_take]; rfl)) ?_; (with_reducible refine (laws_toTask.calls a0_0 a0_1 a0_2 a0_3 t362 t363 t364 t365 _ A10.out).mono ?_); rintro e w21 ⟨rfl, hb⟩; refine ⟨_, rfl, ?_⟩; have n0_ := zc.mk (Kd.R_below (by (with_reducible repeat (first | apply Kd.R_alloc | apply Kd.R_drewN | apply Kd.R_drew)); exact HO354.out) hb); have n1_ := zc.mk (Kd.R_below (by (with_reducible repeat (first | apply Kd.R_alloc | apply Kd.R_drewN | apply Kd.R_drew)); exact HO357.out) hb); have n2_ := zc.mk (Kd.R_below (by (with_reducible repeat (first | apply Kd.R_alloc | apply Kd.R_drewN | apply Kd.R_drew)); exact HO361.out) hb); have n3_ := zc.mk (zi (by (with_reducible repeat (first | refine zf ?_ _ | refine zh ?_ | refine zg ?_ _)); exact BK346.out) hb); have n4_ := zc.mk (zp (by repeat (first | (with_reducible first | exact HB.out | apply zd | apply za | apply zb | refine ze ?_ GE346.out) | exact HB.out)) hb); clear HO354; clear HO357; clear HO361; clear BK346; clear HB; have HO354 := n0_; have HO357 := n1_; have HO361 := n2_; have BK346 := n3_; have HB := n4_; clear n0_ n1_ n2_ n3_ n4_; (try clear hb); (try clear hb2); (try clear hk); (try clear hi); obtain ⟨Ao22, co22, eo22⟩ := Kd.R_slice HO361.out; subst eo22) | ((with_reducible refine zl (f := 19) rfl ?_); refine zw (some 35) rfl rfl Try.func19 (by kernel_rfl) rfl #[.agg #[.int .i8 t362, .int .i8 t363, .bool t364, .bool t365], .slice Ao22 t359.length co22] rfl (by (try simp only [List.map_toArray, List.map_cons, List.map_nil]); first | done | rfl | (simp only [List.length_drop, List.length_take]; rfl)) ?_; (with_reducible refine (impl_MirrorPlan.calls k t362 t363 t364 t365 _ _ t359 t366 t369 _ ?side1 ?side2 A11.out).mono ?_); (case side1 => repeat (first | exact (Kd.R_reads' HO361.out).2.2 | (with_reducible refine Kd.C_alloc ?_ _) | (with_reducible refine Kd.C_drewN ?_ _) | (with_reducible refine Kd.C_drew ?_))); (case side2 => exact (Kd.R_reads' HO361.out).2.1); rintro e w23 ⟨v367, rfl, ho0, hb⟩; refine ⟨_, rfl, ?_⟩; have n0_ := zc.mk (Kd.R_elder' (by (with_reducible repeat (first | apply Kd.R_alloc | apply Kd.R_drewN | apply Kd.R_drew)); exact HO354.out) (Kd.R_base ho0) hb); have n1_ := zc.mk (Kd.R_elder' (by (with_reducible repeat (first | apply Kd.R_alloc | apply Kd.R_drewN | apply Kd.R_drew)); exact HO357.out) (Kd.R_base ho0) hb); have n2_ := zc.mk (Kd.R_elder' (by (with_reducible repeat (first | apply Kd.R_alloc | apply Kd.R_drewN | apply Kd.R_drew)); exact HO361.out) (Kd.R_base ho0) hb); have n3_ := zc.mk (Kd.R_lower (Kd.R_new' (Kd.R_new' (Kd.R_new' ho0 (Kd.R_lt (by (with_reducible repeat (first | apply Kd.R_alloc | apply Kd.R_drewN | apply Kd.R_drew)); exact HO354.out))) (Kd.R_lt (by (with_reducible repeat (first | apply Kd.R_alloc | apply Kd.R_drewN | apply Kd.R_drew)); exact HO357.out))) (Kd.R_lt (by (with_reducible repeat (first | apply Kd.R_alloc | apply Kd.R_drewN | apply Kd.R_drew)); exact HO361.out))) (zv (by repeat (first | (with_reducible first | exact HB.out | apply zd | apply za | apply zb | refine ze ?_ GE346.out) | exact HB.out)))); have n4_ := zc.mk (zi (by (with_reducible repeat (first | refine zf ?_ _ | refine zh ?_ | refine zg ?_ _)); exact BK346.out) hb); have n5_ := zc.mk (zp (by repeat (first | (with_reducible first | exact HB.out | apply zd | apply za | apply zb | refine ze ?_ GE346.out) | exact HB.out)) hb); clear HO354; clear HO357; clear HO361; clear BK346; clear HB; have HO354 := n0_; have HO357 := n1_; have HO361 := n2_; have HO368 := n3_; have BK346 := n4_; have HB := n5_; clear n0_ n1_ n2_ n3_ n4_ n5_; (try clear hb); (try clear hb2); (try clear hk); (try clear hi); (try clear ho0)))
 (try simp only [Act.put, List.setIfInBounds_toArray, List.set_cons_zero, List.set_cons_succ])
 go_cut [46] (fun v46 wc => ∃ (kq : Nat) (x46_11 : Bool), v46 = .bool x46_11 ∧ zc (laws_FnExactMirrorPlan.j0 kq l1 t355 t358 t359 t366 t369 x46_11 a0_0 a0_1 a0_2 a0_3 = some r) ∧ zc (kq ≤ k) ∧ zc (Kd.R k54 54 wc w.heap.size (fun k_ => some k_ ≠ ((.slice Ao22 t359.length co22) : Value).ownBlock ∧ some k_ ≠ (v367 : Value).ownBlock) v356 t355) ∧ zc (Kd.R k54 54 wc w.heap.size (fun k_ => some k_ ≠ (v356 : Value).ownBlock ∧ some k_ ≠ (v367 : Value).ownBlock) (.slice Ao22 t359.length co22) t359) ∧ zc (Kd.R k54 54 wc w.heap.size (fun k_ => some k_ ≠ (v356 : Value).ownBlock ∧ some k_ ≠ ((.slice Ao22 t359.length co22) : Value).ownBlock) v367 t366) ∧ zc (wc.heap[gb346]? = some (.cells #[.int .i8 a0_0, .int .i8 a0_1, .bool a0_2, .bool a0_3] 24 (0, 0))) ∧ zc (Below w.heap.size w wc))
 case first =>
  have H := HC12.out
  clear HC12
  replace H := Option.bind_eq_some_iff.mp H
  obtain ⟨t370, A240, H⟩ := H
  replace H : (if t370 = true then (laws_FnExactMirrorPlan.j0 k l1 t355 t358 t359 t366 t369 (t369 != t358) a0_0 a0_1 a0_2 a0_3) else (laws_FnExactMirrorPlan.j0 k l1 t355 t358 t359 t366 t369 true a0_0 a0_1 a0_2 a0_3)) = some r := H
  have A24 := zc.mk A240
  clear A240
  by_cases c25 : t370 = true
  ·subst c25
   have H1 : (laws_FnExactMirrorPlan.j0 k l1 t355 t358 t359 t366 t369 (t369 != t358) a0_0 a0_1 a0_2 a0_3) = some r := by rw [if_pos rfl] at H; exact H
   clear H
   have H := H1
   clear H1
   have H' := zc.mk H
   clear H
   obtain ⟨Ao26, co26, eo26⟩ := Kd.R_slice HO368.out
   subst eo26
   obtain ⟨Ao27, co27, eo27⟩ := Kd.R_slice HO357.out
   subst eo27
   go_wp2_with (first | ((with_reducible refine zl (f := 13) rfl ?_); refine zw (some 40) rfl rfl Try.func13 (by kernel_rfl) rfl #[.slice Ao26 t366.length co26, .slice Ao27 t355.length co27] rfl (by (try simp only [List.map_toArray, List.map_cons, List.map_nil]); first | done | rfl | (simp only [List.length_drop, List.length_take]; rfl)) ?_; (with_reducible refine (laws_eqNodeS.calls k _ _ t366 _ _ t355 true _ ?side1 ?side2 ?side3 ?side4 A24.out).mono ?_); (case side1 => repeat (first | exact (Kd.R_reads' HO368.out).2.2 | (with_reducible refine Kd.C_alloc ?_ _) | (with_reducible refine Kd.C_drewN ?_ _) | (with_reducible refine Kd.C_drew ?_))); (case side2 => exact (Kd.R_reads' HO368.out).2.1); (case side3 => repeat (first | exact (Kd.R_reads' HO357.out).2.2 | (with_reducible refine Kd.C_alloc ?_ _) | (with_reducible refine Kd.C_drewN ?_ _) | (with_reducible refine Kd.C_drew ?_))); (case side4 => exact (Kd.R_reads' HO357.out).2.1); rintro e w28 ⟨rfl, hb⟩; refine ⟨_, rfl, ?_⟩; have n0_ := zc.mk (Kd.R_below (by (with_reducible repeat (first | apply Kd.R_alloc | apply Kd.R_drewN | apply Kd.R_drew)); exact HO354.out) hb); have n1_ := zc.mk (Kd.R_below (by (with_reducible repeat (first | apply Kd.R_alloc | apply Kd.R_drewN | apply Kd.R_drew)); exact HO357.out) hb); have n2_ := zc.mk (Kd.R_below (by (with_reducible repeat (first | apply Kd.R_alloc | apply Kd.R_drewN | apply Kd.R_drew)); exact HO361.out) hb); have n3_ := zc.mk (Kd.R_below (by (with_reducible repeat (first | apply Kd.R_alloc | apply Kd.R_drewN | apply Kd.R_drew)); exact HO368.out) hb); have n4_ := zc.mk (zi (by (with_reducible repeat (first | refine zf ?_ _ | refine zh ?_ | refine zg ?_ _)); exact BK346.out) hb); have n5_ := zc.mk (zp (by repeat (first | (with_reducible first | exact HB.out | apply zd | apply za | apply zb | refine ze ?_ GE346.out) | exact HB.out)) hb); clear HO354; clear HO357; clear HO361; clear HO368; clear BK346; clear HB; have HO354 := n0_; have HO357 := n1_; have HO361 := n2_; have HO368 := n3_; have BK346 := n4_; have HB := n5_; clear n0_ n1_ n2_ n3_ n4_ n5_; (try clear hb); (try clear hb2); (try clear hk); (try clear hi)))
   go_meet
   case rel => exact ⟨_, ((t369 != t358)), (by first | rfl | (simp; done) | (simp [*]; done)), H', ⟨by first | omega | exact Nat.le_refl _⟩, ⟨by (with_reducible repeat (first | apply Kd.R_alloc | apply Kd.R_drewN | apply Kd.R_drew)); exact Kd.R_mono HO357.out (fun _ hk => ⟨hk.1.2, hk.2⟩)⟩, ⟨by (with_reducible repeat (first | apply Kd.R_alloc | apply Kd.R_drewN | apply Kd.R_drew)); exact Kd.R_mono HO361.out (fun _ hk => ⟨hk.1.2, hk.2⟩)⟩, ⟨by (with_reducible repeat (first | apply Kd.R_alloc | apply Kd.R_drewN | apply Kd.R_drew)); exact Kd.R_mono HO368.out (fun _ hk => ⟨hk.1.2, hk.2⟩)⟩, ⟨by (with_reducible repeat (first | refine zf ?_ _ | refine zh ?_ | refine zg ?_ _)); exact BK346.out⟩, ⟨by repeat (first | (with_reducible first | exact HB.out | apply zd | apply za | apply zb | refine ze ?_ GE346.out) | exact HB.out)⟩⟩
  replace c25 := Bool.eq_false_iff.mpr c25
  subst c25
  have H1 : (laws_FnExactMirrorPlan.j0 k l1 t355 t358 t359 t366 t369 true a0_0 a0_1 a0_2 a0_3) = some r := by rw [if_neg (show ¬ (false = true) by decide)] at H; exact H
  clear H
  have H := H1
  clear H1
  have H' := zc.mk H
  clear H
  obtain ⟨Ao29, co29, eo29⟩ := Kd.R_slice HO368.out
  subst eo29
  obtain ⟨Ao30, co30, eo30⟩ := Kd.R_slice HO357.out
  subst eo30
  go_wp2_with (first | ((with_reducible refine zl (f := 13) rfl ?_); refine zw (some 40) rfl rfl Try.func13 (by kernel_rfl) rfl #[.slice Ao29 t366.length co29, .slice Ao30 t355.length co30] rfl (by (try simp only [List.map_toArray, List.map_cons, List.map_nil]); first | done | rfl | (simp only [List.length_drop, List.length_take]; rfl)) ?_; (with_reducible refine (laws_eqNodeS.calls k _ _ t366 _ _ t355 false _ ?side1 ?side2 ?side3 ?side4 A24.out).mono ?_); (case side1 => repeat (first | exact (Kd.R_reads' HO368.out).2.2 | (with_reducible refine Kd.C_alloc ?_ _) | (with_reducible refine Kd.C_drewN ?_ _) | (with_reducible refine Kd.C_drew ?_))); (case side2 => exact (Kd.R_reads' HO368.out).2.1); (case side3 => repeat (first | exact (Kd.R_reads' HO357.out).2.2 | (with_reducible refine Kd.C_alloc ?_ _) | (with_reducible refine Kd.C_drewN ?_ _) | (with_reducible refine Kd.C_drew ?_))); (case side4 => exact (Kd.R_reads' HO357.out).2.1); rintro e w31 ⟨rfl, hb⟩; refine ⟨_, rfl, ?_⟩; have n0_ := zc.mk (Kd.R_below (by (with_reducible repeat (first | apply Kd.R_alloc | apply Kd.R_drewN | apply Kd.R_drew)); exact HO354.out) hb); have n1_ := zc.mk (Kd.R_below (by (with_reducible repeat (first | apply Kd.R_alloc | apply Kd.R_drewN | apply Kd.R_drew)); exact HO357.out) hb); have n2_ := zc.mk (Kd.R_below (by (with_reducible repeat (first | apply Kd.R_alloc | apply Kd.R_drewN | apply Kd.R_drew)); exact HO361.out) hb); have n3_ := zc.mk (Kd.R_below (by (with_reducible repeat (first | apply Kd.R_alloc | apply Kd.R_drewN | apply Kd.R_drew)); exact HO368.out) hb); have n4_ := zc.mk (zi (by (with_reducible repeat (first | refine zf ?_ _ | refine zh ?_ | refine zg ?_ _)); exact BK346.out) hb); have n5_ := zc.mk (zp (by repeat (first | (with_reducible first | exact HB.out | apply zd | apply za | apply zb | refine ze ?_ GE346.out) | exact HB.out)) hb); clear HO354; clear HO357; clear HO361; clear HO368; clear BK346; clear HB; have HO354 := n0_; have HO357 := n1_; have HO361 := n2_; have HO368 := n3_; have BK346 := n4_; have HB := n5_; clear n0_ n1_ n2_ n3_ n4_ n5_; (try clear hb); (try clear hb2); (try clear hk); (try clear hi)))
  go_meet
  case rel => exact ⟨_, (true), (by first | rfl | (simp; done) | (simp [*]; done)), H', ⟨by first | omega | exact Nat.le_refl _⟩, ⟨by (with_reducible repeat (first | apply Kd.R_alloc | apply Kd.R_drewN | apply Kd.R_drew)); exact Kd.R_mono HO357.out (fun _ hk => ⟨hk.1.2, hk.2⟩)⟩, ⟨by (with_reducible repeat (first | apply Kd.R_alloc | apply Kd.R_drewN | apply Kd.R_drew)); exact Kd.R_mono HO361.out (fun _ hk => ⟨hk.1.2, hk.2⟩)⟩, ⟨by (with_reducible repeat (first | apply Kd.R_alloc | apply Kd.R_drewN | apply Kd.R_drew)); exact Kd.R_mono HO368.out (fun _ hk => ⟨hk.1.2, hk.2⟩)⟩, ⟨by (with_reducible repeat (first | refine zf ?_ _ | refine zh ?_ | refine zg ?_ _)); exact BK346.out⟩, ⟨by repeat (first | (with_reducible first | exact HB.out | apply zd | apply za | apply zb | refine ze ?_ GE346.out) | exact HB.out)⟩⟩
 case rest =>
  clear HC12
  try clear c1
  try clear c2
  try clear p2
  try clear c4
  try clear c4b0
  try clear c6
  try clear c8
  try clear c10
  try clear c11
  try clear c13
  try clear c18
  try clear c19
  try clear c25
  try clear hcz14_0 hcz14_1 hcz14_2 hcz14_3
  try clear hcz20_0 hcz20_1 hcz20_2 hcz20_3
  try clear hfz14_0 hfz14_1 hfz14_2 hfz14_3
  try clear hfz20_0 hfz20_1 hfz20_2 hfz20_3
  obtain ⟨kq, x46_11, rfl, HA, HJ11, HO_6, HO_8, HO_9, BK346, HB⟩ := hcut
  cases kq with
  | zero => exact absurd HA.out (by simp [laws_FnExactMirrorPlan.j0])
  | succ kj11 =>
   have H := HA.out
   clear HA
   simp only [laws_FnExactMirrorPlan.j0] at H
   by_cases c32 : x46_11 = true
   ·subst c32
    have H1 : (some false) = some r := by rw [if_pos rfl] at H; exact H
    clear H
    have H := H1
    clear H1
    obtain rfl := Option.some.inj H
    go_wp2
    go_ret
    exact ⟨by first | rfl | (simp [errW_none, errW_some] <;> rfl) | (simp [*, errW_none, errW_some] <;> rfl), by repeat (first | (with_reducible first | exact HB.out | apply zd | apply za | apply zb | refine ze ?_ GE346.out) | exact HB.out)⟩
   replace c32 := Bool.eq_false_iff.mpr c32
   subst c32
   have H1 : ((laws_toNodeS.f kj11 l1).bind fun t371 => ((laws_eqNodeS.f kj11 t359 t371).bind fun t374 => (if t374 = true then ((laws_markNodeS.f kj11 t359 1).bind fun bt375 => (if bt375.1 < 0 then (laws_FnExactMirrorPlan.j1 kj11 l1 t355 t358 t366 true a0_0 a0_1 a0_2 a0_3) else ((laws_eqNodeS.f kj11 t366 t355).bind fun t377 => (if t377 = true then (laws_FnExactMirrorPlan.j1 kj11 l1 t355 t358 t366 (t369 != t358) a0_0 a0_1 a0_2 a0_3) else (laws_FnExactMirrorPlan.j1 kj11 l1 t355 t358 t366 true a0_0 a0_1 a0_2 a0_3))))) else (some false)))) = some r := by rw [if_neg (show ¬ (false = true) by decide)] at H; exact H
   clear H
   have H := H1
   clear H1
   replace H := Option.bind_eq_some_iff.mp H
   obtain ⟨t371, A330, H⟩ := H
   replace H : ((laws_eqNodeS.f kj11 t359 t371).bind fun t374 => (if t374 = true then ((laws_markNodeS.f kj11 t359 1).bind fun bt375 => (if bt375.1 < 0 then (laws_FnExactMirrorPlan.j1 kj11 l1 t355 t358 t366 true a0_0 a0_1 a0_2 a0_3) else ((laws_eqNodeS.f kj11 t366 t355).bind fun t377 => (if t377 = true then (laws_FnExactMirrorPlan.j1 kj11 l1 t355 t358 t366 (t369 != t358) a0_0 a0_1 a0_2 a0_3) else (laws_FnExactMirrorPlan.j1 kj11 l1 t355 t358 t366 true a0_0 a0_1 a0_2 a0_3))))) else (some false))) = some r := H
   have A33 := zc.mk A330
   clear A330
   replace H := Option.bind_eq_some_iff.mp H
   obtain ⟨t374, A340, H⟩ := H
   replace H : (if t374 = true then ((laws_markNodeS.f kj11 t359 1).bind fun bt375 => (if bt375.1 < 0 then (laws_FnExactMirrorPlan.j1 kj11 l1 t355 t358 t366 true a0_0 a0_1 a0_2 a0_3) else ((laws_eqNodeS.f kj11 t366 t355).bind fun t377 => (if t377 = true then (laws_FnExactMirrorPlan.j1 kj11 l1 t355 t358 t366 (t369 != t358) a0_0 a0_1 a0_2 a0_3) else (laws_FnExactMirrorPlan.j1 kj11 l1 t355 t358 t366 true a0_0 a0_1 a0_2 a0_3))))) else (some false)) = some r := H
   have A34 := zc.mk A340
   clear A340
   by_cases c35 : t374 = true
   ·subst c35
    have H1 : ((laws_markNodeS.f kj11 t359 1).bind fun bt375 => (if bt375.1 < 0 then (laws_FnExactMirrorPlan.j1 kj11 l1 t355 t358 t366 true a0_0 a0_1 a0_2 a0_3) else ((laws_eqNodeS.f kj11 t366 t355).bind fun t377 => (if t377 = true then (laws_FnExactMirrorPlan.j1 kj11 l1 t355 t358 t366 (t369 != t358) a0_0 a0_1 a0_2 a0_3) else (laws_FnExactMirrorPlan.j1 kj11 l1 t355 t358 t366 true a0_0 a0_1 a0_2 a0_3))))) = some r := by rw [if_pos rfl] at H; exact H
    clear H
    have H := H1
    clear H1
    replace H := Option.bind_eq_some_iff.mp H
    obtain ⟨⟨t375, t376⟩, A360, H⟩ := H
    replace H : (if t375 < 0 then (laws_FnExactMirrorPlan.j1 kj11 l1 t355 t358 t366 true a0_0 a0_1 a0_2 a0_3) else ((laws_eqNodeS.f kj11 t366 t355).bind fun t377 => (if t377 = true then (laws_FnExactMirrorPlan.j1 kj11 l1 t355 t358 t366 (t369 != t358) a0_0 a0_1 a0_2 a0_3) else (laws_FnExactMirrorPlan.j1 kj11 l1 t355 t358 t366 true a0_0 a0_1 a0_2 a0_3)))) = some r := H
    have A36 := zc.mk A360
    clear A360
    have HC37 := zc.mk H
    clear H
    go_upto_region 14 with (first | ((with_reducible refine zl (f := 11) rfl ?_); refine zw (some 49) rfl rfl Try.func11 (by kernel_rfl) rfl #[.slice A1 l1.length c1] rfl (by (try simp only [List.map_toArray, List.map_cons, List.map_nil]); first | done | rfl | (simp only [List.length_drop, List.length_take]; rfl)) ?_; (with_reducible refine (laws_toNodeS.calls kj11 _ _ l1 t371 _ ?side1 ?side2 A33.out).mono ?_); (case side1 => repeat (first | exact (Kd.C_below HR1.out HB.out) | (with_reducible refine Kd.C_alloc ?_ _) | (with_reducible refine Kd.C_drewN ?_ _) | (with_reducible refine Kd.C_drew ?_))); (case side2 => exact HC1.out); rintro e w38 ⟨v372, rfl, ho0, hb⟩; refine ⟨_, rfl, ?_⟩; have n0_ := zc.mk (Kd.R_elder' (by (with_reducible repeat (first | apply Kd.R_alloc | apply Kd.R_drewN | apply Kd.R_drew)); exact HO_6.out) (Kd.R_base ho0) hb); have n1_ := zc.mk (Kd.R_elder' (by (with_reducible repeat (first | apply Kd.R_alloc | apply Kd.R_drewN | apply Kd.R_drew)); exact HO_8.out) (Kd.R_base ho0) hb); have n2_ := zc.mk (Kd.R_elder' (by (with_reducible repeat (first | apply Kd.R_alloc | apply Kd.R_drewN | apply Kd.R_drew)); exact HO_9.out) (Kd.R_base ho0) hb); have n3_ := zc.mk (Kd.R_lower (Kd.R_new' (Kd.R_new' (Kd.R_new' ho0 (Kd.R_lt (by (with_reducible repeat (first | apply Kd.R_alloc | apply Kd.R_drewN | apply Kd.R_drew)); exact HO_6.out))) (Kd.R_lt (by (with_reducible repeat (first | apply Kd.R_alloc | apply Kd.R_drewN | apply Kd.R_drew)); exact HO_8.out))) (Kd.R_lt (by (with_reducible repeat (first | apply Kd.R_alloc | apply Kd.R_drewN | apply Kd.R_drew)); exact HO_9.out))) (zv (by repeat (first | (with_reducible first | exact HB.out | apply zd | apply za | apply zb | refine ze ?_ GE346.out) | exact HB.out)))); have n4_ := zc.mk (zi (by (with_reducible repeat (first | refine zf ?_ _ | refine zh ?_ | refine zg ?_ _)); exact BK346.out) hb); have n5_ := zc.mk (zp (by repeat (first | (with_reducible first | exact HB.out | apply zd | apply za | apply zb | refine ze ?_ GE346.out) | exact HB.out)) hb); clear HO_6; clear HO_8; clear HO_9; clear BK346; clear HB; have HO_6 := n0_; have HO_8 := n1_; have HO_9 := n2_; have HO373 := n3_; have BK346 := n4_; have HB := n5_; clear n0_ n1_ n2_ n3_ n4_ n5_; (try clear hb); (try clear hb2); (try clear hk); (try clear hi); (try clear ho0); obtain ⟨Ao39, co39, eo39⟩ := Kd.R_slice HO373.out; subst eo39) | ((with_reducible refine zl (f := 13) rfl ?_); refine zw (some 50) rfl rfl Try.func13 (by kernel_rfl) rfl #[.slice Ao22 t359.length co22, .slice Ao39 t371.length co39] rfl (by (try simp only [List.map_toArray, List.map_cons, List.map_nil]); first | done | rfl | (simp only [List.length_drop, List.length_take]; rfl)) ?_; (with_reducible refine (laws_eqNodeS.calls kj11 _ _ t359 _ _ t371 true _ ?side1 ?side2 ?side3 ?side4 A34.out).mono ?_); (case side1 => repeat (first | exact (Kd.R_reads' HO_8.out).2.2 | (with_reducible refine Kd.C_alloc ?_ _) | (with_reducible refine Kd.C_drewN ?_ _) | (with_reducible refine Kd.C_drew ?_))); (case side2 => exact (Kd.R_reads' HO_8.out).2.1); (case side3 => repeat (first | exact (Kd.R_reads' HO373.out).2.2 | (with_reducible refine Kd.C_alloc ?_ _) | (with_reducible refine Kd.C_drewN ?_ _) | (with_reducible refine Kd.C_drew ?_))); (case side4 => exact (Kd.R_reads' HO373.out).2.1); rintro e w40 ⟨rfl, hb⟩; refine ⟨_, rfl, ?_⟩; have n0_ := zc.mk (Kd.R_below (by (with_reducible repeat (first | apply Kd.R_alloc | apply Kd.R_drewN | apply Kd.R_drew)); exact HO_6.out) hb); have n1_ := zc.mk (Kd.R_below (by (with_reducible repeat (first | apply Kd.R_alloc | apply Kd.R_drewN | apply Kd.R_drew)); exact HO_8.out) hb); have n2_ := zc.mk (Kd.R_below (by (with_reducible repeat (first | apply Kd.R_alloc | apply Kd.R_drewN | apply Kd.R_drew)); exact HO_9.out) hb); have n3_ := zc.mk (Kd.R_below (by (with_reducible repeat (first | apply Kd.R_alloc | apply Kd.R_drewN | apply Kd.R_drew)); exact HO373.out) hb); have n4_ := zc.mk (zi (by (with_reducible repeat (first | refine zf ?_ _ | refine zh ?_ | refine zg ?_ _)); exact BK346.out) hb); have n5_ := zc.mk (zp (by repeat (first | (with_reducible first | exact HB.out | apply zd | apply za | apply zb | refine ze ?_ GE346.out) | exact HB.out)) hb); clear HO_6; clear HO_8; clear HO_9; clear HO373; clear BK346; clear HB; have HO_6 := n0_; have HO_8 := n1_; have HO_9 := n2_; have HO373 := n3_; have BK346 := n4_; have HB := n5_; clear n0_ n1_ n2_ n3_ n4_ n5_; (try clear hb); (try clear hb2); (try clear hk); (try clear hi)) | ((with_reducible refine zl (f := 20) rfl ?_); refine zw (some 54) rfl rfl Try.func20 (by kernel_rfl) rfl #[.slice Ao22 t359.length co22, .int .i64 1] rfl (by (try simp only [List.map_toArray, List.map_cons, List.map_nil]); first | done | rfl | (simp only [List.length_drop, List.length_take]; rfl)) ?_; (with_reducible refine (laws_markNodeS.calls kj11 (fun k_ => some k_ = (.slice Ao22 t359.length co22 : Value).ownBlock) (.slice Ao22 t359.length co22) t359 1 t375 t376 w _ ?side1 ?side2 A36.out).mono ?_); (case side1 => repeat (first | (with_reducible first | exact HB.out | apply zd | apply za | apply zb | refine ze ?_ GE346.out) | exact HB.out)); (case side2 => exact Kd.R_tight rfl HO_8.out); rintro e w41 ⟨rfl, hy0, hb, hkp⟩; refine ⟨_, rfl, ?_⟩; have n0_ := zc.mk (Kd.R_mono (ok' := fun k_ => some k_ ≠ (.slice Ao22 t359.length co22 : Value).ownBlock ∧ some k_ ≠ (v367 : Value).ownBlock ∧ some k_ ≠ (.slice Ao39 t371.length co39 : Value).ownBlock) (Kd.R_keptB (HO_6.out) hkp (fun k_ hk_ hs_ => (hk_.1.1) hs_)) (fun k_ hk_ => ⟨hk_.1.1.1, hk_.1.1.2, hk_.1.2⟩)); have n1_ := zc.mk (Kd.R_reok rfl hy0 (fun k_ e_ => HO_8.out.1 k_ e_)); have n2_ := zc.mk (Kd.R_mono (ok' := fun k_ => some k_ ≠ (v356 : Value).ownBlock ∧ some k_ ≠ (.slice Ao22 t359.length co22 : Value).ownBlock ∧ some k_ ≠ (.slice Ao39 t371.length co39 : Value).ownBlock) (Kd.R_keptB (HO_9.out) hkp (fun k_ hk_ hs_ => (hk_.1.2) hs_)) (fun k_ hk_ => ⟨hk_.1.1.1, hk_.1.1.2, hk_.1.2⟩)); have n3_ := zc.mk (blk_kept (by (with_reducible repeat (first | refine zf ?_ _ | refine zh ?_ | refine zg ?_ _)); exact BK346.out) hkp (fun hs_ => (fun e_ => (Kd.R_ne HO_8.out BK346.out (by decide)) e_) hs_)); have n4_ := zc.mk (Kd.R_mono (ok' := fun k_ => some k_ ≠ (v356 : Value).ownBlock ∧ some k_ ≠ (.slice Ao22 t359.length co22 : Value).ownBlock ∧ some k_ ≠ (v367 : Value).ownBlock) (Kd.R_keptB (HO373.out) hkp (fun k_ hk_ hs_ => (hk_.1.2) hs_)) (fun k_ hk_ => ⟨hk_.1.1.1.2, hk_.1.1.2, hk_.1.2⟩)); have n5_ := zc.mk (hb); clear HO_6; clear HO_8; clear HO_9; clear BK346; clear HO373; clear HB; have HO_6 := n0_; have HO_8 := n1_; have HO_9 := n2_; have BK346 := n3_; have HO373 := n4_; have HB := n5_; clear n0_ n1_ n2_ n3_ n4_ n5_; (try clear hb); (try clear hkp); (try clear hy0)))
    (try simp only [Act.put, List.setIfInBounds_toArray, List.set_cons_zero, List.set_cons_succ])
    go_cut [67] (fun v67 wc => ∃ (kq : Nat) (x67_36 : Bool), v67 = .bool x67_36 ∧ zc (laws_FnExactMirrorPlan.j1 kq l1 t355 t358 t366 x67_36 a0_0 a0_1 a0_2 a0_3 = some r) ∧ zc (kq ≤ kj11) ∧ zc (Kd.R k54 54 wc w.heap.size (fun k_ => some k_ ≠ (v367 : Value).ownBlock) v356 t355) ∧ zc (Kd.R k54 54 wc w.heap.size (fun k_ => some k_ ≠ (v356 : Value).ownBlock) v367 t366) ∧ zc (wc.heap[gb346]? = some (.cells #[.int .i8 a0_0, .int .i8 a0_1, .bool a0_2, .bool a0_3] 24 (0, 0))) ∧ zc (Below w.heap.size w wc))
    case first =>
     have H := HC37.out
     clear HC37
     by_cases c42 : t375 < 0
     ·rw [if_pos c42] at H
      have c42b0 : decide (t375 < 0) = true := decide_eq_true c42
      clear c42
      (first | rw [c42b0] | (simp only [zm, zk]; rw [c42b0]) | skip)
      have H' := zc.mk H
      clear H
      go_wp2
      go_meet
      case rel => exact ⟨_, (true), (by first | rfl | (simp; done) | (simp [*]; done)), H', ⟨by have := HJ11.out; first | omega | exact Nat.le_refl _⟩, ⟨by (with_reducible repeat (first | apply Kd.R_alloc | apply Kd.R_drewN | apply Kd.R_drew)); exact Kd.R_mono HO_6.out (fun _ hk => hk.2.1)⟩, ⟨by (with_reducible repeat (first | apply Kd.R_alloc | apply Kd.R_drewN | apply Kd.R_drew)); exact Kd.R_mono HO_9.out (fun _ hk => hk.1)⟩, ⟨by (with_reducible repeat (first | refine zf ?_ _ | refine zh ?_ | refine zg ?_ _)); exact BK346.out⟩, ⟨by repeat (first | (with_reducible first | exact HB.out | apply zd | apply za | apply zb | refine ze ?_ GE346.out) | exact HB.out)⟩⟩
     rw [if_neg c42] at H
     have c42b0 : decide (t375 < 0) = false := decide_eq_false c42
     clear c42
     (first | rw [c42b0] | (simp only [zm, zk]; rw [c42b0]) | skip)
     replace H := Option.bind_eq_some_iff.mp H
     obtain ⟨t377, A430, H⟩ := H
     replace H : (if t377 = true then (laws_FnExactMirrorPlan.j1 kj11 l1 t355 t358 t366 (t369 != t358) a0_0 a0_1 a0_2 a0_3) else (laws_FnExactMirrorPlan.j1 kj11 l1 t355 t358 t366 true a0_0 a0_1 a0_2 a0_3)) = some r := H
     have A43 := zc.mk A430
     clear A430
     by_cases c44 : t377 = true
     ·subst c44
      have H1 : (laws_FnExactMirrorPlan.j1 kj11 l1 t355 t358 t366 (t369 != t358) a0_0 a0_1 a0_2 a0_3) = some r := by rw [if_pos rfl] at H; exact H
      clear H
      have H := H1
      clear H1
      have H' := zc.mk H
      clear H
      obtain ⟨Ao45, co45, eo45⟩ := Kd.R_slice HO_9.out
      subst eo45
      obtain ⟨Ao46, co46, eo46⟩ := Kd.R_slice HO_6.out
      subst eo46
      go_wp2_with (first | (go_at_call 13; (with_reducible refine (laws_eqNodeS.calls kj11 _ _ t366 _ _ t355 true _ ?side1 ?side2 ?side3 ?side4 A43.out).mono ?_); (case side1 => repeat (first | exact (Kd.R_reads' HO_9.out).2.2 | (with_reducible refine Kd.C_alloc ?_ _) | (with_reducible refine Kd.C_drewN ?_ _) | (with_reducible refine Kd.C_drew ?_))); (case side2 => exact (Kd.R_reads' HO_9.out).2.1); (case side3 => repeat (first | exact (Kd.R_reads' HO_6.out).2.2 | (with_reducible refine Kd.C_alloc ?_ _) | (with_reducible refine Kd.C_drewN ?_ _) | (with_reducible refine Kd.C_drew ?_))); (case side4 => exact (Kd.R_reads' HO_6.out).2.1); rintro e w47 ⟨rfl, hb⟩; have n0_ := zc.mk (Kd.R_below (by (with_reducible repeat (first | apply Kd.R_alloc | apply Kd.R_drewN | apply Kd.R_drew)); exact HO_6.out) hb); have n1_ := zc.mk (Kd.R_below (by (with_reducible repeat (first | apply Kd.R_alloc | apply Kd.R_drewN | apply Kd.R_drew)); exact HO_8.out) hb); have n2_ := zc.mk (Kd.R_below (by (with_reducible repeat (first | apply Kd.R_alloc | apply Kd.R_drewN | apply Kd.R_drew)); exact HO_9.out) hb); have n3_ := zc.mk (Kd.R_below (by (with_reducible repeat (first | apply Kd.R_alloc | apply Kd.R_drewN | apply Kd.R_drew)); exact HO373.out) hb); have n4_ := zc.mk (zi (by (with_reducible repeat (first | refine zf ?_ _ | refine zh ?_ | refine zg ?_ _)); exact BK346.out) hb); have n5_ := zc.mk (zp (by repeat (first | (with_reducible first | exact HB.out | apply zd | apply za | apply zb | refine ze ?_ GE346.out) | exact HB.out)) hb); clear HO_6; clear HO_8; clear HO_9; clear HO373; clear BK346; clear HB; have HO_6 := n0_; have HO_8 := n1_; have HO_9 := n2_; have HO373 := n3_; have BK346 := n4_; have HB := n5_; clear n0_ n1_ n2_ n3_ n4_ n5_; (try clear hb); (try clear hb2); (try clear hk); (try clear hi)))
      go_meet
      case rel => exact ⟨_, ((t369 != t358)), (by first | rfl | (simp; done) | (simp [*]; done)), H', ⟨by have := HJ11.out; first | omega | exact Nat.le_refl _⟩, ⟨by (with_reducible repeat (first | apply Kd.R_alloc | apply Kd.R_drewN | apply Kd.R_drew)); exact Kd.R_mono HO_6.out (fun _ hk => hk.2.1)⟩, ⟨by (with_reducible repeat (first | apply Kd.R_alloc | apply Kd.R_drewN | apply Kd.R_drew)); exact Kd.R_mono HO_9.out (fun _ hk => hk.1)⟩, ⟨by (with_reducible repeat (first | refine zf ?_ _ | refine zh ?_ | refine zg ?_ _)); exact BK346.out⟩, ⟨by repeat (first | (with_reducible first | exact HB.out | apply zd | apply za | apply zb | refine ze ?_ GE346.out) | exact HB.out)⟩⟩
     replace c44 := Bool.eq_false_iff.mpr c44
     subst c44
     have H1 : (laws_FnExactMirrorPlan.j1 kj11 l1 t355 t358 t366 true a0_0 a0_1 a0_2 a0_3) = some r := by rw [if_neg (show ¬ (false = true) by decide)] at H; exact H
     clear H
     have H := H1
     clear H1
     have H' := zc.mk H
     clear H
     obtain ⟨Ao48, co48, eo48⟩ := Kd.R_slice HO_9.out
     subst eo48
     obtain ⟨Ao49, co49, eo49⟩ := Kd.R_slice HO_6.out
     subst eo49
     go_wp2_with (first | (go_at_call 13; (with_reducible refine (laws_eqNodeS.calls kj11 _ _ t366 _ _ t355 false _ ?side1 ?side2 ?side3 ?side4 A43.out).mono ?_); (case side1 => repeat (first | exact (Kd.R_reads' HO_9.out).2.2 | (with_reducible refine Kd.C_alloc ?_ _) | (with_reducible refine Kd.C_drewN ?_ _) | (with_reducible refine Kd.C_drew ?_))); (case side2 => exact (Kd.R_reads' HO_9.out).2.1); (case side3 => repeat (first | exact (Kd.R_reads' HO_6.out).2.2 | (with_reducible refine Kd.C_alloc ?_ _) | (with_reducible refine Kd.C_drewN ?_ _) | (with_reducible refine Kd.C_drew ?_))); (case side4 => exact (Kd.R_reads' HO_6.out).2.1); rintro e w50 ⟨rfl, hb⟩; have n0_ := zc.mk (Kd.R_below (by (with_reducible repeat (first | apply Kd.R_alloc | apply Kd.R_drewN | apply Kd.R_drew)); exact HO_6.out) hb); have n1_ := zc.mk (Kd.R_below (by (with_reducible repeat (first | apply Kd.R_alloc | apply Kd.R_drewN | apply Kd.R_drew)); exact HO_8.out) hb); have n2_ := zc.mk (Kd.R_below (by (with_reducible repeat (first | apply Kd.R_alloc | apply Kd.R_drewN | apply Kd.R_drew)); exact HO_9.out) hb); have n3_ := zc.mk (Kd.R_below (by (with_reducible repeat (first | apply Kd.R_alloc | apply Kd.R_drewN | apply Kd.R_drew)); exact HO373.out) hb); have n4_ := zc.mk (zi (by (with_reducible repeat (first | refine zf ?_ _ | refine zh ?_ | refine zg ?_ _)); exact BK346.out) hb); have n5_ := zc.mk (zp (by repeat (first | (with_reducible first | exact HB.out | apply zd | apply za | apply zb | refine ze ?_ GE346.out) | exact HB.out)) hb); clear HO_6; clear HO_8; clear HO_9; clear HO373; clear BK346; clear HB; have HO_6 := n0_; have HO_8 := n1_; have HO_9 := n2_; have HO373 := n3_; have BK346 := n4_; have HB := n5_; clear n0_ n1_ n2_ n3_ n4_ n5_; (try clear hb); (try clear hb2); (try clear hk); (try clear hi)))
     go_meet
     case rel => exact ⟨_, (true), (by first | rfl | (simp; done) | (simp [*]; done)), H', ⟨by have := HJ11.out; first | omega | exact Nat.le_refl _⟩, ⟨by (with_reducible repeat (first | apply Kd.R_alloc | apply Kd.R_drewN | apply Kd.R_drew)); exact Kd.R_mono HO_6.out (fun _ hk => hk.2.1)⟩, ⟨by (with_reducible repeat (first | apply Kd.R_alloc | apply Kd.R_drewN | apply Kd.R_drew)); exact Kd.R_mono HO_9.out (fun _ hk => hk.1)⟩, ⟨by (with_reducible repeat (first | refine zf ?_ _ | refine zh ?_ | refine zg ?_ _)); exact BK346.out⟩, ⟨by repeat (first | (with_reducible first | exact HB.out | apply zd | apply za | apply zb | refine ze ?_ GE346.out) | exact HB.out)⟩⟩
    case rest =>
     clear HC37
     try clear c1
     try clear c2
     try clear p2
     try clear c3
     try clear c4
     try clear c4b0
     try clear c6
     try clear c8
     try clear c10
     try clear c11
     try clear c13
     try clear c18
     try clear c19
     try clear c20
     try clear c25
     try clear c32
     try clear c35
     try clear c42
     try clear c42b0
     try clear c44
     try clear hcz14_0 hcz14_1 hcz14_2 hcz14_3
     try clear hcz20_0 hcz20_1 hcz20_2 hcz20_3
     try clear hfz14_0 hfz14_1 hfz14_2 hfz14_3
     try clear hfz20_0 hfz20_1 hfz20_2 hfz20_3
     try clear p2
     obtain ⟨kq, x67_36, rfl, HA, HJ36, HO_6, HO_9, BK346, HB⟩ := hcut
     cases kq with
     | zero => exact absurd HA.out (by simp [laws_FnExactMirrorPlan.j1])
     | succ kj36 =>
      have H := HA.out
      clear HA
      simp only [laws_FnExactMirrorPlan.j1] at H
      by_cases c51 : x67_36 = true
      ·subst c51
       have H1 : (some false) = some r := by rw [if_pos rfl] at H; exact H
       clear H
       have H := H1
       clear H1
       obtain rfl := Option.some.inj H
       go_wp2
       go_ret
       exact ⟨by first | rfl | (simp [errW_none, errW_some] <;> rfl) | (simp [*, errW_none, errW_some] <;> rfl), by repeat (first | (with_reducible first | exact HB.out | apply zd | apply za | apply zb | refine ze ?_ GE346.out) | exact HB.out)⟩
      replace c51 := Bool.eq_false_iff.mpr c51
      subst c51
      have H1 : ((laws_markNodeS.f kj36 t366 1).bind fun bt378 => ((laws_heldNodeS.f kj36 bt378.2 1).bind fun t380 => (if t380 < 0 then (some false) else (if t380 = bt378.1 then ((laws_toTask.f a0_0 a0_1 a0_2 a0_3).bind fun bt381 => ((laws_toNodeS.f kj36 l1).bind fun t385 => ((impl_MirrorPlan.f kj36 bt381.1 bt381.2.1 bt381.2.2.1 bt381.2.2.2 t385).bind fun bt388 => ((laws_eqNodeS.f kj36 bt388.1 t355).bind fun t392 => (if t392 = true then (laws_FnExactMirrorPlan.j2 kj36 bt378.2 bt378.1 (bt388.2 != t358)) else (laws_FnExactMirrorPlan.j2 kj36 bt378.2 bt378.1 true)))))) else (some false))))) = some r := by rw [if_neg (show ¬ (false = true) by decide)] at H; exact H
      clear H
      have H := H1
      clear H1
      replace H := Option.bind_eq_some_iff.mp H
      obtain ⟨⟨t378, t379⟩, A520, H⟩ := H
      replace H : ((laws_heldNodeS.f kj36 t379 1).bind fun t380 => (if t380 < 0 then (some false) else (if t380 = t378 then ((laws_toTask.f a0_0 a0_1 a0_2 a0_3).bind fun bt381 => ((laws_toNodeS.f kj36 l1).bind fun t385 => ((impl_MirrorPlan.f kj36 bt381.1 bt381.2.1 bt381.2.2.1 bt381.2.2.2 t385).bind fun bt388 => ((laws_eqNodeS.f kj36 bt388.1 t355).bind fun t392 => (if t392 = true then (laws_FnExactMirrorPlan.j2 kj36 t379 t378 (bt388.2 != t358)) else (laws_FnExactMirrorPlan.j2 kj36 t379 t378 true)))))) else (some false)))) = some r := H
      have A52 := zc.mk A520
      clear A520
      replace H := Option.bind_eq_some_iff.mp H
      obtain ⟨t380, A530, H⟩ := H
      replace H : (if t380 < 0 then (some false) else (if t380 = t378 then ((laws_toTask.f a0_0 a0_1 a0_2 a0_3).bind fun bt381 => ((laws_toNodeS.f kj36 l1).bind fun t385 => ((impl_MirrorPlan.f kj36 bt381.1 bt381.2.1 bt381.2.2.1 bt381.2.2.2 t385).bind fun bt388 => ((laws_eqNodeS.f kj36 bt388.1 t355).bind fun t392 => (if t392 = true then (laws_FnExactMirrorPlan.j2 kj36 t379 t378 (bt388.2 != t358)) else (laws_FnExactMirrorPlan.j2 kj36 t379 t378 true)))))) else (some false))) = some r := H
      have A53 := zc.mk A530
      clear A530
      by_cases c54 : t380 < 0
      ·rw [if_pos c54] at H
       have c54b0 : decide (t380 < 0) = true := decide_eq_true c54
       clear c54
       obtain rfl := Option.some.inj H
       obtain ⟨Ao55, co55, eo55⟩ := Kd.R_slice HO_9.out
       subst eo55
       go_wp2_with (first | ((with_reducible refine zl (f := 20) rfl ?_); refine zw (some 70) rfl rfl Try.func20 (by kernel_rfl) rfl #[.slice Ao55 t366.length co55, .int .i64 1] rfl (by (try simp only [List.map_toArray, List.map_cons, List.map_nil]); first | done | rfl | (simp only [List.length_drop, List.length_take]; rfl)) ?_; (with_reducible refine (laws_markNodeS.calls kj36 (fun k_ => some k_ = (.slice Ao55 t366.length co55 : Value).ownBlock) (.slice Ao55 t366.length co55) t366 1 t378 t379 w _ ?side1 ?side2 A52.out).mono ?_); (case side1 => repeat (first | (with_reducible first | exact HB.out | apply zd | apply za | apply zb | refine ze ?_ GE346.out) | exact HB.out)); (case side2 => exact Kd.R_tight rfl HO_9.out); rintro e w56 ⟨rfl, hy0, hb, hkp⟩; refine ⟨_, rfl, ?_⟩; have n0_ := zc.mk (Kd.R_mono (ok' := fun k_ => some k_ ≠ (.slice Ao55 t366.length co55 : Value).ownBlock) (Kd.R_keptB (HO_6.out) hkp (fun k_ hk_ hs_ => (hk_) hs_)) (fun k_ hk_ => hk_.1)); have n1_ := zc.mk (Kd.R_reok rfl hy0 (fun k_ e_ => HO_9.out.1 k_ e_)); have n2_ := zc.mk (blk_kept (by (with_reducible repeat (first | refine zf ?_ _ | refine zh ?_ | refine zg ?_ _)); exact BK346.out) hkp (fun hs_ => (fun e_ => (Kd.R_ne HO_9.out BK346.out (by decide)) e_) hs_)); have n3_ := zc.mk (hb); clear HO_6; clear HO_9; clear BK346; clear HB; have HO_6 := n0_; have HO_9 := n1_; have BK346 := n2_; have HB := n3_; clear n0_ n1_ n2_ n3_; (try clear hb); (try clear hkp); (try clear hy0)) | ((with_reducible refine zl (f := 21) rfl ?_); refine zw (some 73) rfl rfl Try.func21 (by kernel_rfl) rfl #[.slice Ao55 t379.length co55, .int .i64 1] rfl (by (try simp only [List.map_toArray, List.map_cons, List.map_nil]); first | done | (rw [show t379.length = t366.length from (Kd.R_reads' HO_9.out).1.symm] <;> rfl) | rfl | (simp only [List.length_drop, List.length_take]; rfl)) ?_; (with_reducible refine (laws_heldNodeS.calls kj36 _ _ t379 1 t380 _ ?side1 ?side2 A53.out).mono ?_); (case side1 => repeat (first | exact (Kd.R_reads' HO_9.out).2.2 | (with_reducible refine Kd.C_alloc ?_ _) | (with_reducible refine Kd.C_drewN ?_ _) | (with_reducible refine Kd.C_drew ?_))); (case side2 => rw [show t379.length = t366.length from (Kd.R_reads' HO_9.out).1.symm]; exact (Kd.R_reads' HO_9.out).2.1); rintro e w' ⟨rfl, ⟨nd, rfl⟩⟩; refine ⟨_, rfl, ?_⟩))
       go_ret
       exact ⟨by first | rfl | (simp [errW_none, errW_some] <;> rfl) | (simp [*, errW_none, errW_some] <;> rfl), by repeat (first | (with_reducible first | exact HB.out | apply zd | apply za | apply zb | refine ze ?_ GE346.out) | exact HB.out)⟩
      rw [if_neg c54] at H
      have c54b0 : decide (t380 < 0) = false := decide_eq_false c54
      clear c54
      by_cases c57 : t380 = t378
      ·rw [if_pos c57] at H
       have c57b0 : (t380 == t378) = true := beq_iff_eq.mpr c57
       have c57b1 : (t380 != t378) = false := bne_eq_false_iff_eq.mpr c57
       clear c57
       replace H := Option.bind_eq_some_iff.mp H
       obtain ⟨⟨t381, t382, t383, t384⟩, A580, H⟩ := H
       replace H : ((laws_toNodeS.f kj36 l1).bind fun t385 => ((impl_MirrorPlan.f kj36 t381 t382 t383 t384 t385).bind fun bt388 => ((laws_eqNodeS.f kj36 bt388.1 t355).bind fun t392 => (if t392 = true then (laws_FnExactMirrorPlan.j2 kj36 t379 t378 (bt388.2 != t358)) else (laws_FnExactMirrorPlan.j2 kj36 t379 t378 true))))) = some r := H
       have A58 := zc.mk A580
       clear A580
       replace H := Option.bind_eq_some_iff.mp H
       obtain ⟨t385, A590, H⟩ := H
       replace H : ((impl_MirrorPlan.f kj36 t381 t382 t383 t384 t385).bind fun bt388 => ((laws_eqNodeS.f kj36 bt388.1 t355).bind fun t392 => (if t392 = true then (laws_FnExactMirrorPlan.j2 kj36 t379 t378 (bt388.2 != t358)) else (laws_FnExactMirrorPlan.j2 kj36 t379 t378 true)))) = some r := H
       have A59 := zc.mk A590
       clear A590
       replace H := Option.bind_eq_some_iff.mp H
       obtain ⟨⟨t388, t391⟩, A600, H⟩ := H
       replace H : ((laws_eqNodeS.f kj36 t388 t355).bind fun t392 => (if t392 = true then (laws_FnExactMirrorPlan.j2 kj36 t379 t378 (t391 != t358)) else (laws_FnExactMirrorPlan.j2 kj36 t379 t378 true))) = some r := H
       have A60 := zc.mk A600
       clear A600
       have HC61 := zc.mk H
       clear H
       obtain ⟨Ao62, co62, eo62⟩ := Kd.R_slice HO_9.out
       subst eo62
       go_upto_region 25 with (first | ((with_reducible refine zl (f := 20) rfl ?_); refine zw (some 70) rfl rfl Try.func20 (by kernel_rfl) rfl #[.slice Ao62 t366.length co62, .int .i64 1] rfl (by (try simp only [List.map_toArray, List.map_cons, List.map_nil]); first | done | rfl | (simp only [List.length_drop, List.length_take]; rfl)) ?_; (with_reducible refine (laws_markNodeS.calls kj36 (fun k_ => some k_ = (.slice Ao62 t366.length co62 : Value).ownBlock) (.slice Ao62 t366.length co62) t366 1 t378 t379 w _ ?side1 ?side2 A52.out).mono ?_); (case side1 => repeat (first | (with_reducible first | exact HB.out | apply zd | apply za | apply zb | refine ze ?_ GE346.out) | exact HB.out)); (case side2 => exact Kd.R_tight rfl HO_9.out); rintro e w63 ⟨rfl, hy0, hb, hkp⟩; refine ⟨_, rfl, ?_⟩; have n0_ := zc.mk (Kd.R_mono (ok' := fun k_ => some k_ ≠ (.slice Ao62 t366.length co62 : Value).ownBlock) (Kd.R_keptB (HO_6.out) hkp (fun k_ hk_ hs_ => (hk_) hs_)) (fun k_ hk_ => hk_.1)); have n1_ := zc.mk (Kd.R_reok rfl hy0 (fun k_ e_ => HO_9.out.1 k_ e_)); have n2_ := zc.mk (blk_kept (by (with_reducible repeat (first | refine zf ?_ _ | refine zh ?_ | refine zg ?_ _)); exact BK346.out) hkp (fun hs_ => (fun e_ => (Kd.R_ne HO_9.out BK346.out (by decide)) e_) hs_)); have n3_ := zc.mk (hb); clear HO_6; clear HO_9; clear BK346; clear HB; have HO_6 := n0_; have HO_9 := n1_; have BK346 := n2_; have HB := n3_; clear n0_ n1_ n2_ n3_; (try clear hb); (try clear hkp); (try clear hy0)) | ((with_reducible refine zl (f := 21) rfl ?_); refine zw (some 73) rfl rfl Try.func21 (by kernel_rfl) rfl #[.slice Ao62 t379.length co62, .int .i64 1] rfl (by (try simp only [List.map_toArray, List.map_cons, List.map_nil]); first | done | (rw [show t379.length = t366.length from (Kd.R_reads' HO_9.out).1.symm] <;> rfl) | rfl | (simp only [List.length_drop, List.length_take]; rfl)) ?_; (with_reducible refine (laws_heldNodeS.calls kj36 _ _ t379 1 t380 _ ?side1 ?side2 A53.out).mono ?_); (case side1 => repeat (first | exact (Kd.R_reads' HO_9.out).2.2 | (with_reducible refine Kd.C_alloc ?_ _) | (with_reducible refine Kd.C_drewN ?_ _) | (with_reducible refine Kd.C_drew ?_))); (case side2 => rw [show t379.length = t366.length from (Kd.R_reads' HO_9.out).1.symm]; exact (Kd.R_reads' HO_9.out).2.1); rintro e w' ⟨rfl, ⟨nd, rfl⟩⟩; refine ⟨_, rfl, ?_⟩; have hcz64_0 : w63.cell? ⟨gb346, 0, none⟩ = some (.int .i8 a0_0) := (zr BK346.out 0).trans rfl; have hcz64_1 : w63.cell? ⟨gb346, 1, none⟩ = some (.int .i8 a0_1) := (zr BK346.out 1).trans rfl; have hcz64_2 : w63.cell? ⟨gb346, 2, none⟩ = some (.bool a0_2) := (zr BK346.out 2).trans rfl; have hcz64_3 : w63.cell? ⟨gb346, 3, none⟩ = some (.bool a0_3) := (zr BK346.out 3).trans rfl; obtain ⟨hfz64_0, hfz64_1, hfz64_2, hfz64_3⟩ := fz4 BK346.out) | ((with_reducible refine zl (f := 10) rfl ?_); refine zw (some 81) rfl rfl Try.func10 (by kernel_rfl) rfl #[.agg #[.int .i8 a0_0, .int .i8 a0_1, .bool a0_2, .bool a0_3]] rfl (by (try simp only [List.map_toArray, List.map_cons, List.map_nil]); first | done | rfl | (simp only [List.length_drop, List.length_take]; rfl)) ?_; (with_reducible refine (laws_toTask.calls a0_0 a0_1 a0_2 a0_3 t381 t382 t383 t384 _ A58.out).mono ?_); rintro e w65 ⟨rfl, hb⟩; refine ⟨_, rfl, ?_⟩; have n0_ := zc.mk (Kd.R_below (by (with_reducible repeat (first | apply Kd.R_alloc | apply Kd.R_drewN | apply Kd.R_drew)); exact HO_6.out) hb); have n1_ := zc.mk (Kd.R_below (by (with_reducible repeat (first | apply Kd.R_alloc | apply Kd.R_drewN | apply Kd.R_drew)); exact HO_9.out) hb); have n2_ := zc.mk (zi (by (with_reducible repeat (first | refine zf ?_ _ | refine zh ?_ | refine zg ?_ _)); exact BK346.out) hb); have n3_ := zc.mk (zp (by repeat (first | (with_reducible first | exact HB.out | apply zd | apply za | apply zb | refine ze ?_ GE346.out) | exact HB.out)) hb); clear HO_6; clear HO_9; clear BK346; clear HB; have HO_6 := n0_; have HO_9 := n1_; have BK346 := n2_; have HB := n3_; clear n0_ n1_ n2_ n3_; (try clear hb); (try clear hb2); (try clear hk); (try clear hi)) | ((with_reducible refine zl (f := 11) rfl ?_); refine zw (some 83) rfl rfl Try.func11 (by kernel_rfl) rfl #[.slice A1 l1.length c1] rfl (by (try simp only [List.map_toArray, List.map_cons, List.map_nil]); first | done | rfl | (simp only [List.length_drop, List.length_take]; rfl)) ?_; (with_reducible refine (laws_toNodeS.calls kj36 _ _ l1 t385 _ ?side1 ?side2 A59.out).mono ?_); (case side1 => repeat (first | exact (Kd.C_below HR1.out HB.out) | (with_reducible refine Kd.C_alloc ?_ _) | (with_reducible refine Kd.C_drewN ?_ _) | (with_reducible refine Kd.C_drew ?_))); (case side2 => exact HC1.out); rintro e w66 ⟨v386, rfl, ho0, hb⟩; refine ⟨_, rfl, ?_⟩; have n0_ := zc.mk (Kd.R_elder' (by (with_reducible repeat (first | apply Kd.R_alloc | apply Kd.R_drewN | apply Kd.R_drew)); exact HO_6.out) (Kd.R_base ho0) hb); have n1_ := zc.mk (Kd.R_elder' (by (with_reducible repeat (first | apply Kd.R_alloc | apply Kd.R_drewN | apply Kd.R_drew)); exact HO_9.out) (Kd.R_base ho0) hb); have n2_ := zc.mk (Kd.R_lower (Kd.R_new' (Kd.R_new' ho0 (Kd.R_lt (by (with_reducible repeat (first | apply Kd.R_alloc | apply Kd.R_drewN | apply Kd.R_drew)); exact HO_6.out))) (Kd.R_lt (by (with_reducible repeat (first | apply Kd.R_alloc | apply Kd.R_drewN | apply Kd.R_drew)); exact HO_9.out))) (zv (by repeat (first | (with_reducible first | exact HB.out | apply zd | apply za | apply zb | refine ze ?_ GE346.out) | exact HB.out)))); have n3_ := zc.mk (zi (by (with_reducible repeat (first | refine zf ?_ _ | refine zh ?_ | refine zg ?_ _)); exact BK346.out) hb); have n4_ := zc.mk (zp (by repeat (first | (with_reducible first | exact HB.out | apply zd | apply za | apply zb | refine ze ?_ GE346.out) | exact HB.out)) hb); clear HO_6; clear HO_9; clear BK346; clear HB; have HO_6 := n0_; have HO_9 := n1_; have HO387 := n2_; have BK346 := n3_; have HB := n4_; clear n0_ n1_ n2_ n3_ n4_; (try clear hb); (try clear hb2); (try clear hk); (try clear hi); (try clear ho0); obtain ⟨Ao67, co67, eo67⟩ := Kd.R_slice HO387.out; subst eo67) | ((with_reducible refine zl (f := 19) rfl ?_); refine zw (some 84) rfl rfl Try.func19 (by kernel_rfl) rfl #[.agg #[.int .i8 t381, .int .i8 t382, .bool t383, .bool t384], .slice Ao67 t385.length co67] rfl (by (try simp only [List.map_toArray, List.map_cons, List.map_nil]); first | done | rfl | (simp only [List.length_drop, List.length_take]; rfl)) ?_; (with_reducible refine (impl_MirrorPlan.calls kj36 t381 t382 t383 t384 _ _ t385 t388 t391 _ ?side1 ?side2 A60.out).mono ?_); (case side1 => repeat (first | exact (Kd.R_reads' HO387.out).2.2 | (with_reducible refine Kd.C_alloc ?_ _) | (with_reducible refine Kd.C_drewN ?_ _) | (with_reducible refine Kd.C_drew ?_))); (case side2 => exact (Kd.R_reads' HO387.out).2.1); rintro e w68 ⟨v389, rfl, ho0, hb⟩; refine ⟨_, rfl, ?_⟩; have n0_ := zc.mk (Kd.R_elder' (by (with_reducible repeat (first | apply Kd.R_alloc | apply Kd.R_drewN | apply Kd.R_drew)); exact HO_6.out) (Kd.R_base ho0) hb); have n1_ := zc.mk (Kd.R_elder' (by (with_reducible repeat (first | apply Kd.R_alloc | apply Kd.R_drewN | apply Kd.R_drew)); exact HO_9.out) (Kd.R_base ho0) hb); have n2_ := zc.mk (Kd.R_elder' (by (with_reducible repeat (first | apply Kd.R_alloc | apply Kd.R_drewN | apply Kd.R_drew)); exact HO387.out) (Kd.R_base ho0) hb); have n3_ := zc.mk (Kd.R_lower (Kd.R_new' (Kd.R_new' (Kd.R_new' ho0 (Kd.R_lt (by (with_reducible repeat (first | apply Kd.R_alloc | apply Kd.R_drewN | apply Kd.R_drew)); exact HO_6.out))) (Kd.R_lt (by (with_reducible repeat (first | apply Kd.R_alloc | apply Kd.R_drewN | apply Kd.R_drew)); exact HO_9.out))) (Kd.R_lt (by (with_reducible repeat (first | apply Kd.R_alloc | apply Kd.R_drewN | apply Kd.R_drew)); exact HO387.out))) (zv (by repeat (first | (with_reducible first | exact HB.out | apply zd | apply za | apply zb | refine ze ?_ GE346.out) | exact HB.out)))); have n4_ := zc.mk (zi (by (with_reducible repeat (first | refine zf ?_ _ | refine zh ?_ | refine zg ?_ _)); exact BK346.out) hb); have n5_ := zc.mk (zp (by repeat (first | (with_reducible first | exact HB.out | apply zd | apply za | apply zb | refine ze ?_ GE346.out) | exact HB.out)) hb); clear HO_6; clear HO_9; clear HO387; clear BK346; clear HB; have HO_6 := n0_; have HO_9 := n1_; have HO387 := n2_; have HO390 := n3_; have BK346 := n4_; have HB := n5_; clear n0_ n1_ n2_ n3_ n4_ n5_; (try clear hb); (try clear hb2); (try clear hk); (try clear hi); (try clear ho0)))
       (try simp only [Act.put, List.setIfInBounds_toArray, List.set_cons_zero, List.set_cons_succ])
       go_cut [95] (fun v95 wc => ∃ (kq : Nat) (x95_60 : Bool), v95 = .bool x95_60 ∧ zc (laws_FnExactMirrorPlan.j2 kq t379 t378 x95_60 = some r) ∧ zc (kq ≤ kj36) ∧ zc (Kd.R k54 54 wc w.heap.size (fun _ => True) (.slice Ao62 t366.length co62) t379) ∧ zc (wc.heap[gb346]? = some (.cells #[.int .i8 a0_0, .int .i8 a0_1, .bool a0_2, .bool a0_3] 24 (0, 0))) ∧ zc (Below w.heap.size w wc))
       case first =>
        have H := HC61.out
        clear HC61
        replace H := Option.bind_eq_some_iff.mp H
        obtain ⟨t392, A690, H⟩ := H
        replace H : (if t392 = true then (laws_FnExactMirrorPlan.j2 kj36 t379 t378 (t391 != t358)) else (laws_FnExactMirrorPlan.j2 kj36 t379 t378 true)) = some r := H
        have A69 := zc.mk A690
        clear A690
        by_cases c70 : t392 = true
        ·subst c70
         have H1 : (laws_FnExactMirrorPlan.j2 kj36 t379 t378 (t391 != t358)) = some r := by rw [if_pos rfl] at H; exact H
         clear H
         have H := H1
         clear H1
         have H' := zc.mk H
         clear H
         obtain ⟨Ao71, co71, eo71⟩ := Kd.R_slice HO390.out
         subst eo71
         obtain ⟨Ao72, co72, eo72⟩ := Kd.R_slice HO_6.out
         subst eo72
         go_wp2_with (first | ((with_reducible refine zl (f := 13) rfl ?_); refine zw (some 89) rfl rfl Try.func13 (by kernel_rfl) rfl #[.slice Ao71 t388.length co71, .slice Ao72 t355.length co72] rfl (by (try simp only [List.map_toArray, List.map_cons, List.map_nil]); first | done | rfl | (simp only [List.length_drop, List.length_take]; rfl)) ?_; (with_reducible refine (laws_eqNodeS.calls kj36 _ _ t388 _ _ t355 true _ ?side1 ?side2 ?side3 ?side4 A69.out).mono ?_); (case side1 => repeat (first | exact (Kd.R_reads' HO390.out).2.2 | (with_reducible refine Kd.C_alloc ?_ _) | (with_reducible refine Kd.C_drewN ?_ _) | (with_reducible refine Kd.C_drew ?_))); (case side2 => exact (Kd.R_reads' HO390.out).2.1); (case side3 => repeat (first | exact (Kd.R_reads' HO_6.out).2.2 | (with_reducible refine Kd.C_alloc ?_ _) | (with_reducible refine Kd.C_drewN ?_ _) | (with_reducible refine Kd.C_drew ?_))); (case side4 => exact (Kd.R_reads' HO_6.out).2.1); rintro e w73 ⟨rfl, hb⟩; refine ⟨_, rfl, ?_⟩; have n0_ := zc.mk (Kd.R_below (by (with_reducible repeat (first | apply Kd.R_alloc | apply Kd.R_drewN | apply Kd.R_drew)); exact HO_6.out) hb); have n1_ := zc.mk (Kd.R_below (by (with_reducible repeat (first | apply Kd.R_alloc | apply Kd.R_drewN | apply Kd.R_drew)); exact HO_9.out) hb); have n2_ := zc.mk (Kd.R_below (by (with_reducible repeat (first | apply Kd.R_alloc | apply Kd.R_drewN | apply Kd.R_drew)); exact HO387.out) hb); have n3_ := zc.mk (Kd.R_below (by (with_reducible repeat (first | apply Kd.R_alloc | apply Kd.R_drewN | apply Kd.R_drew)); exact HO390.out) hb); have n4_ := zc.mk (zi (by (with_reducible repeat (first | refine zf ?_ _ | refine zh ?_ | refine zg ?_ _)); exact BK346.out) hb); have n5_ := zc.mk (zp (by repeat (first | (with_reducible first | exact HB.out | apply zd | apply za | apply zb | refine ze ?_ GE346.out) | exact HB.out)) hb); clear HO_6; clear HO_9; clear HO387; clear HO390; clear BK346; clear HB; have HO_6 := n0_; have HO_9 := n1_; have HO387 := n2_; have HO390 := n3_; have BK346 := n4_; have HB := n5_; clear n0_ n1_ n2_ n3_ n4_ n5_; (try clear hb); (try clear hb2); (try clear hk); (try clear hi)))
         go_meet
         case rel => exact ⟨_, ((t391 != t358)), (by first | rfl | (simp; done) | (simp [*]; done)), H', ⟨by have := HJ11.out; have := HJ36.out; first | omega | exact Nat.le_refl _⟩, ⟨by (with_reducible repeat (first | apply Kd.R_alloc | apply Kd.R_drewN | apply Kd.R_drew)); exact Kd.R_mono HO_9.out (fun _ hk => trivial)⟩, ⟨by (with_reducible repeat (first | refine zf ?_ _ | refine zh ?_ | refine zg ?_ _)); exact BK346.out⟩, ⟨by repeat (first | (with_reducible first | exact HB.out | apply zd | apply za | apply zb | refine ze ?_ GE346.out) | exact HB.out)⟩⟩
        replace c70 := Bool.eq_false_iff.mpr c70
        subst c70
        have H1 : (laws_FnExactMirrorPlan.j2 kj36 t379 t378 true) = some r := by rw [if_neg (show ¬ (false = true) by decide)] at H; exact H
        clear H
        have H := H1
        clear H1
        have H' := zc.mk H
        clear H
        obtain ⟨Ao74, co74, eo74⟩ := Kd.R_slice HO390.out
        subst eo74
        obtain ⟨Ao75, co75, eo75⟩ := Kd.R_slice HO_6.out
        subst eo75
        go_wp2_with (first | ((with_reducible refine zl (f := 13) rfl ?_); refine zw (some 89) rfl rfl Try.func13 (by kernel_rfl) rfl #[.slice Ao74 t388.length co74, .slice Ao75 t355.length co75] rfl (by (try simp only [List.map_toArray, List.map_cons, List.map_nil]); first | done | rfl | (simp only [List.length_drop, List.length_take]; rfl)) ?_; (with_reducible refine (laws_eqNodeS.calls kj36 _ _ t388 _ _ t355 false _ ?side1 ?side2 ?side3 ?side4 A69.out).mono ?_); (case side1 => repeat (first | exact (Kd.R_reads' HO390.out).2.2 | (with_reducible refine Kd.C_alloc ?_ _) | (with_reducible refine Kd.C_drewN ?_ _) | (with_reducible refine Kd.C_drew ?_))); (case side2 => exact (Kd.R_reads' HO390.out).2.1); (case side3 => repeat (first | exact (Kd.R_reads' HO_6.out).2.2 | (with_reducible refine Kd.C_alloc ?_ _) | (with_reducible refine Kd.C_drewN ?_ _) | (with_reducible refine Kd.C_drew ?_))); (case side4 => exact (Kd.R_reads' HO_6.out).2.1); rintro e w76 ⟨rfl, hb⟩; refine ⟨_, rfl, ?_⟩; have n0_ := zc.mk (Kd.R_below (by (with_reducible repeat (first | apply Kd.R_alloc | apply Kd.R_drewN | apply Kd.R_drew)); exact HO_6.out) hb); have n1_ := zc.mk (Kd.R_below (by (with_reducible repeat (first | apply Kd.R_alloc | apply Kd.R_drewN | apply Kd.R_drew)); exact HO_9.out) hb); have n2_ := zc.mk (Kd.R_below (by (with_reducible repeat (first | apply Kd.R_alloc | apply Kd.R_drewN | apply Kd.R_drew)); exact HO387.out) hb); have n3_ := zc.mk (Kd.R_below (by (with_reducible repeat (first | apply Kd.R_alloc | apply Kd.R_drewN | apply Kd.R_drew)); exact HO390.out) hb); have n4_ := zc.mk (zi (by (with_reducible repeat (first | refine zf ?_ _ | refine zh ?_ | refine zg ?_ _)); exact BK346.out) hb); have n5_ := zc.mk (zp (by repeat (first | (with_reducible first | exact HB.out | apply zd | apply za | apply zb | refine ze ?_ GE346.out) | exact HB.out)) hb); clear HO_6; clear HO_9; clear HO387; clear HO390; clear BK346; clear HB; have HO_6 := n0_; have HO_9 := n1_; have HO387 := n2_; have HO390 := n3_; have BK346 := n4_; have HB := n5_; clear n0_ n1_ n2_ n3_ n4_ n5_; (try clear hb); (try clear hb2); (try clear hk); (try clear hi)))
        go_meet
        case rel => exact ⟨_, (true), (by first | rfl | (simp; done) | (simp [*]; done)), H', ⟨by have := HJ11.out; have := HJ36.out; first | omega | exact Nat.le_refl _⟩, ⟨by (with_reducible repeat (first | apply Kd.R_alloc | apply Kd.R_drewN | apply Kd.R_drew)); exact Kd.R_mono HO_9.out (fun _ hk => trivial)⟩, ⟨by (with_reducible repeat (first | refine zf ?_ _ | refine zh ?_ | refine zg ?_ _)); exact BK346.out⟩, ⟨by repeat (first | (with_reducible first | exact HB.out | apply zd | apply za | apply zb | refine ze ?_ GE346.out) | exact HB.out)⟩⟩
       case rest =>
        clear HC61
        try clear c1
        try clear c2
        try clear p2
        try clear c3
        try clear c4
        try clear c4b0
        try clear c5
        try clear c6
        try clear c7
        try clear c8
        try clear c10
        try clear c11
        try clear c13
        try clear c18
        try clear c19
        try clear c20
        try clear c21
        try clear c25
        try clear c32
        try clear c35
        try clear c42
        try clear c42b0
        try clear c44
        try clear c51
        try clear c54
        try clear c54b0
        try clear c57
        try clear c57b0
        try clear c57b1
        try clear c70
        try clear hcz14_0 hcz14_1 hcz14_2 hcz14_3
        try clear hcz20_0 hcz20_1 hcz20_2 hcz20_3
        try clear hcz64_0 hcz64_1 hcz64_2 hcz64_3
        try clear hfz14_0 hfz14_1 hfz14_2 hfz14_3
        try clear hfz20_0 hfz20_1 hfz20_2 hfz20_3
        try clear hfz64_0 hfz64_1 hfz64_2 hfz64_3
        try clear p2
        obtain ⟨kq, x95_60, rfl, HA, HJ60, HO_9, BK346, HB⟩ := hcut
        have hl9_60 := (Kd.R_reads' HO_9.out).1
        rw [hl9_60] at HO_9
        (try simp only [hl9_60])
        (try simp only [hl9_60] at BK346)
        cases kq with
        | zero => exact absurd HA.out (by simp [laws_FnExactMirrorPlan.j2])
        | succ kj60 =>
         have H := HA.out
         clear HA
         simp only [laws_FnExactMirrorPlan.j2] at H
         by_cases c77 : x95_60 = true
         ·subst c77
          have H1 : (some false) = some r := by rw [if_pos rfl] at H; exact H
          clear H
          have H := H1
          clear H1
          obtain rfl := Option.some.inj H
          go_wp2
          go_ret
          exact ⟨by first | rfl | (simp [errW_none, errW_some] <;> rfl) | (simp [*, errW_none, errW_some] <;> rfl), by repeat (first | (with_reducible first | exact HB.out | apply zd | apply za | apply zb | refine ze ?_ GE346.out) | exact HB.out)⟩
         replace c77 := Bool.eq_false_iff.mpr c77
         subst c77
         have H1 : ((laws_heldNodeS.f kj60 t379 1).bind fun t393 => (if t393 < 0 then (some false) else (if t393 = t378 then (some true) else (some false)))) = some r := by rw [if_neg (show ¬ (false = true) by decide)] at H; exact H
         clear H
         have H := H1
         clear H1
         replace H := Option.bind_eq_some_iff.mp H
         obtain ⟨t393, A780, H⟩ := H
         replace H : (if t393 < 0 then (some false) else (if t393 = t378 then (some true) else (some false))) = some r := H
         have A78 := zc.mk A780
         clear A780
         by_cases c79 : t393 < 0
         ·rw [if_pos c79] at H
          have c79b0 : decide (t393 < 0) = true := decide_eq_true c79
          clear c79
          obtain rfl := Option.some.inj H
          go_wp2_with (first | ((with_reducible refine zl (f := 21) rfl ?_); refine zw (some 98) rfl rfl Try.func21 (by kernel_rfl) rfl #[.slice Ao62 t379.length co62, .int .i64 1] rfl (by (try simp only [List.map_toArray, List.map_cons, List.map_nil]); first | done | rfl | (simp only [List.length_drop, List.length_take]; rfl)) ?_; (with_reducible refine (laws_heldNodeS.calls kj60 _ _ t379 1 t393 _ ?side1 ?side2 A78.out).mono ?_); (case side1 => repeat (first | exact (Kd.R_reads' HO_9.out).2.2 | (with_reducible refine Kd.C_alloc ?_ _) | (with_reducible refine Kd.C_drewN ?_ _) | (with_reducible refine Kd.C_drew ?_))); (case side2 => exact (Kd.R_reads' HO_9.out).2.1); rintro e w' ⟨rfl, ⟨nd, rfl⟩⟩; refine ⟨_, rfl, ?_⟩))
          go_ret
          exact ⟨by first | rfl | (simp [errW_none, errW_some] <;> rfl) | (simp [*, errW_none, errW_some] <;> rfl), by repeat (first | (with_reducible first | exact HB.out | apply zd | apply za | apply zb | refine ze ?_ GE346.out) | exact HB.out)⟩
         rw [if_neg c79] at H
         have c79b0 : decide (t393 < 0) = false := decide_eq_false c79
         clear c79
         by_cases c80 : t393 = t378
         ·rw [if_pos c80] at H
          have c80b0 : (t393 == t378) = true := beq_iff_eq.mpr c80
          have c80b1 : (t393 != t378) = false := bne_eq_false_iff_eq.mpr c80
          clear c80
          obtain rfl := Option.some.inj H
          go_wp2_with (first | ((with_reducible refine zl (f := 21) rfl ?_); refine zw (some 98) rfl rfl Try.func21 (by kernel_rfl) rfl #[.slice Ao62 t379.length co62, .int .i64 1] rfl (by (try simp only [List.map_toArray, List.map_cons, List.map_nil]); first | done | rfl | (simp only [List.length_drop, List.length_take]; rfl)) ?_; (with_reducible refine (laws_heldNodeS.calls kj60 _ _ t379 1 t393 _ ?side1 ?side2 A78.out).mono ?_); (case side1 => repeat (first | exact (Kd.R_reads' HO_9.out).2.2 | (with_reducible refine Kd.C_alloc ?_ _) | (with_reducible refine Kd.C_drewN ?_ _) | (with_reducible refine Kd.C_drew ?_))); (case side2 => exact (Kd.R_reads' HO_9.out).2.1); rintro e w' ⟨rfl, ⟨nd, rfl⟩⟩; refine ⟨_, rfl, ?_⟩))
          go_ret
          exact ⟨by first | rfl | (simp [errW_none, errW_some] <;> rfl) | (simp [*, errW_none, errW_some] <;> rfl), by repeat (first | (with_reducible first | exact HB.out | apply zd | apply za | apply zb | refine ze ?_ GE346.out) | exact HB.out)⟩
         rw [if_neg c80] at H
         have c80b0 : (t393 == t378) = false := beq_eq_false_iff_ne.mpr c80
         have c80b1 : (t393 != t378) = true := bne_iff_ne.mpr c80
         obtain rfl := Option.some.inj H
         go_wp2_with (first | ((with_reducible refine zl (f := 21) rfl ?_); refine zw (some 98) rfl rfl Try.func21 (by kernel_rfl) rfl #[.slice Ao62 t379.length co62, .int .i64 1] rfl (by (try simp only [List.map_toArray, List.map_cons, List.map_nil]); first | done | rfl | (simp only [List.length_drop, List.length_take]; rfl)) ?_; (with_reducible refine (laws_heldNodeS.calls kj60 _ _ t379 1 t393 _ ?side1 ?side2 A78.out).mono ?_); (case side1 => repeat (first | exact (Kd.R_reads' HO_9.out).2.2 | (with_reducible refine Kd.C_alloc ?_ _) | (with_reducible refine Kd.C_drewN ?_ _) | (with_reducible refine Kd.C_drew ?_))); (case side2 => exact (Kd.R_reads' HO_9.out).2.1); rintro e w' ⟨rfl, ⟨nd, rfl⟩⟩; refine ⟨_, rfl, ?_⟩))
         go_ret
         exact ⟨by first | rfl | (simp [errW_none, errW_some] <;> rfl) | (simp [*, errW_none, errW_some] <;> rfl), by repeat (first | (with_reducible first | exact HB.out | apply zd | apply za | apply zb | refine ze ?_ GE346.out) | exact HB.out)⟩
      rw [if_neg c57] at H
      have c57b0 : (t380 == t378) = false := beq_eq_false_iff_ne.mpr c57
      have c57b1 : (t380 != t378) = true := bne_iff_ne.mpr c57
      obtain rfl := Option.some.inj H
      obtain ⟨Ao81, co81, eo81⟩ := Kd.R_slice HO_9.out
      subst eo81
      go_wp2_with (first | ((with_reducible refine zl (f := 20) rfl ?_); refine zw (some 70) rfl rfl Try.func20 (by kernel_rfl) rfl #[.slice Ao81 t366.length co81, .int .i64 1] rfl (by (try simp only [List.map_toArray, List.map_cons, List.map_nil]); first | done | rfl | (simp only [List.length_drop, List.length_take]; rfl)) ?_; (with_reducible refine (laws_markNodeS.calls kj36 (fun k_ => some k_ = (.slice Ao81 t366.length co81 : Value).ownBlock) (.slice Ao81 t366.length co81) t366 1 t378 t379 w _ ?side1 ?side2 A52.out).mono ?_); (case side1 => repeat (first | (with_reducible first | exact HB.out | apply zd | apply za | apply zb | refine ze ?_ GE346.out) | exact HB.out)); (case side2 => exact Kd.R_tight rfl HO_9.out); rintro e w82 ⟨rfl, hy0, hb, hkp⟩; refine ⟨_, rfl, ?_⟩; have n0_ := zc.mk (Kd.R_mono (ok' := fun k_ => some k_ ≠ (.slice Ao81 t366.length co81 : Value).ownBlock) (Kd.R_keptB (HO_6.out) hkp (fun k_ hk_ hs_ => (hk_) hs_)) (fun k_ hk_ => hk_.1)); have n1_ := zc.mk (Kd.R_reok rfl hy0 (fun k_ e_ => HO_9.out.1 k_ e_)); have n2_ := zc.mk (blk_kept (by (with_reducible repeat (first | refine zf ?_ _ | refine zh ?_ | refine zg ?_ _)); exact BK346.out) hkp (fun hs_ => (fun e_ => (Kd.R_ne HO_9.out BK346.out (by decide)) e_) hs_)); have n3_ := zc.mk (hb); clear HO_6; clear HO_9; clear BK346; clear HB; have HO_6 := n0_; have HO_9 := n1_; have BK346 := n2_; have HB := n3_; clear n0_ n1_ n2_ n3_; (try clear hb); (try clear hkp); (try clear hy0)) | ((with_reducible refine zl (f := 21) rfl ?_); refine zw (some 73) rfl rfl Try.func21 (by kernel_rfl) rfl #[.slice Ao81 t379.length co81, .int .i64 1] rfl (by (try simp only [List.map_toArray, List.map_cons, List.map_nil]); first | done | (rw [show t379.length = t366.length from (Kd.R_reads' HO_9.out).1.symm] <;> rfl) | rfl | (simp only [List.length_drop, List.length_take]; rfl)) ?_; (with_reducible refine (laws_heldNodeS.calls kj36 _ _ t379 1 t380 _ ?side1 ?side2 A53.out).mono ?_); (case side1 => repeat (first | exact (Kd.R_reads' HO_9.out).2.2 | (with_reducible refine Kd.C_alloc ?_ _) | (with_reducible refine Kd.C_drewN ?_ _) | (with_reducible refine Kd.C_drew ?_))); (case side2 => rw [show t379.length = t366.length from (Kd.R_reads' HO_9.out).1.symm]; exact (Kd.R_reads' HO_9.out).2.1); rintro e w' ⟨rfl, ⟨nd, rfl⟩⟩; refine ⟨_, rfl, ?_⟩))
      go_ret
      exact ⟨by first | rfl | (simp [errW_none, errW_some] <;> rfl) | (simp [*, errW_none, errW_some] <;> rfl), by repeat (first | (with_reducible first | exact HB.out | apply zd | apply za | apply zb | refine ze ?_ GE346.out) | exact HB.out)⟩
   replace c35 := Bool.eq_false_iff.mpr c35
   subst c35
   have H1 : (some false) = some r := by rw [if_neg (show ¬ (false = true) by decide)] at H; exact H
   clear H
   have H := H1
   clear H1
   obtain rfl := Option.some.inj H
   go_wp2_with (first | ((with_reducible refine zl (f := 11) rfl ?_); refine zw (some 49) rfl rfl Try.func11 (by kernel_rfl) rfl #[.slice A1 l1.length c1] rfl (by (try simp only [List.map_toArray, List.map_cons, List.map_nil]); first | done | rfl | (simp only [List.length_drop, List.length_take]; rfl)) ?_; (with_reducible refine (laws_toNodeS.calls kj11 _ _ l1 t371 _ ?side1 ?side2 A33.out).mono ?_); (case side1 => repeat (first | exact (Kd.C_below HR1.out HB.out) | (with_reducible refine Kd.C_alloc ?_ _) | (with_reducible refine Kd.C_drewN ?_ _) | (with_reducible refine Kd.C_drew ?_))); (case side2 => exact HC1.out); rintro e w83 ⟨v372, rfl, ho0, hb⟩; refine ⟨_, rfl, ?_⟩; have n0_ := zc.mk (Kd.R_elder' (by (with_reducible repeat (first | apply Kd.R_alloc | apply Kd.R_drewN | apply Kd.R_drew)); exact HO_6.out) (Kd.R_base ho0) hb); have n1_ := zc.mk (Kd.R_elder' (by (with_reducible repeat (first | apply Kd.R_alloc | apply Kd.R_drewN | apply Kd.R_drew)); exact HO_8.out) (Kd.R_base ho0) hb); have n2_ := zc.mk (Kd.R_elder' (by (with_reducible repeat (first | apply Kd.R_alloc | apply Kd.R_drewN | apply Kd.R_drew)); exact HO_9.out) (Kd.R_base ho0) hb); have n3_ := zc.mk (Kd.R_lower (Kd.R_new' (Kd.R_new' (Kd.R_new' ho0 (Kd.R_lt (by (with_reducible repeat (first | apply Kd.R_alloc | apply Kd.R_drewN | apply Kd.R_drew)); exact HO_6.out))) (Kd.R_lt (by (with_reducible repeat (first | apply Kd.R_alloc | apply Kd.R_drewN | apply Kd.R_drew)); exact HO_8.out))) (Kd.R_lt (by (with_reducible repeat (first | apply Kd.R_alloc | apply Kd.R_drewN | apply Kd.R_drew)); exact HO_9.out))) (zv (by repeat (first | (with_reducible first | exact HB.out | apply zd | apply za | apply zb | refine ze ?_ GE346.out) | exact HB.out)))); have n4_ := zc.mk (zi (by (with_reducible repeat (first | refine zf ?_ _ | refine zh ?_ | refine zg ?_ _)); exact BK346.out) hb); have n5_ := zc.mk (zp (by repeat (first | (with_reducible first | exact HB.out | apply zd | apply za | apply zb | refine ze ?_ GE346.out) | exact HB.out)) hb); clear HO_6; clear HO_8; clear HO_9; clear BK346; clear HB; have HO_6 := n0_; have HO_8 := n1_; have HO_9 := n2_; have HO373 := n3_; have BK346 := n4_; have HB := n5_; clear n0_ n1_ n2_ n3_ n4_ n5_; (try clear hb); (try clear hb2); (try clear hk); (try clear hi); (try clear ho0); obtain ⟨Ao84, co84, eo84⟩ := Kd.R_slice HO373.out; subst eo84) | ((with_reducible refine zl (f := 13) rfl ?_); refine zw (some 50) rfl rfl Try.func13 (by kernel_rfl) rfl #[.slice Ao22 t359.length co22, .slice Ao84 t371.length co84] rfl (by (try simp only [List.map_toArray, List.map_cons, List.map_nil]); first | done | rfl | (simp only [List.length_drop, List.length_take]; rfl)) ?_; (with_reducible refine (laws_eqNodeS.calls kj11 _ _ t359 _ _ t371 false _ ?side1 ?side2 ?side3 ?side4 A34.out).mono ?_); (case side1 => repeat (first | exact (Kd.R_reads' HO_8.out).2.2 | (with_reducible refine Kd.C_alloc ?_ _) | (with_reducible refine Kd.C_drewN ?_ _) | (with_reducible refine Kd.C_drew ?_))); (case side2 => exact (Kd.R_reads' HO_8.out).2.1); (case side3 => repeat (first | exact (Kd.R_reads' HO373.out).2.2 | (with_reducible refine Kd.C_alloc ?_ _) | (with_reducible refine Kd.C_drewN ?_ _) | (with_reducible refine Kd.C_drew ?_))); (case side4 => exact (Kd.R_reads' HO373.out).2.1); rintro e w85 ⟨rfl, hb⟩; refine ⟨_, rfl, ?_⟩; have n0_ := zc.mk (Kd.R_below (by (with_reducible repeat (first | apply Kd.R_alloc | apply Kd.R_drewN | apply Kd.R_drew)); exact HO_6.out) hb); have n1_ := zc.mk (Kd.R_below (by (with_reducible repeat (first | apply Kd.R_alloc | apply Kd.R_drewN | apply Kd.R_drew)); exact HO_8.out) hb); have n2_ := zc.mk (Kd.R_below (by (with_reducible repeat (first | apply Kd.R_alloc | apply Kd.R_drewN | apply Kd.R_drew)); exact HO_9.out) hb); have n3_ := zc.mk (Kd.R_below (by (with_reducible repeat (first | apply Kd.R_alloc | apply Kd.R_drewN | apply Kd.R_drew)); exact HO373.out) hb); have n4_ := zc.mk (zi (by (with_reducible repeat (first | refine zf ?_ _ | refine zh ?_ | refine zg ?_ _)); exact BK346.out) hb); have n5_ := zc.mk (zp (by repeat (first | (with_reducible first | exact HB.out | apply zd | apply za | apply zb | refine ze ?_ GE346.out) | exact HB.out)) hb); clear HO_6; clear HO_8; clear HO_9; clear HO373; clear BK346; clear HB; have HO_6 := n0_; have HO_8 := n1_; have HO_9 := n2_; have HO373 := n3_; have BK346 := n4_; have HB := n5_; clear n0_ n1_ n2_ n3_ n4_ n5_; (try clear hb); (try clear hb2); (try clear hk); (try clear hi)))
   go_ret
   exact ⟨by first | rfl | (simp [errW_none, errW_some] <;> rfl) | (simp [*, errW_none, errW_some] <;> rfl), by repeat (first | (with_reducible first | exact HB.out | apply zd | apply za | apply zb | refine ze ?_ GE346.out) | exact HB.out)⟩

end Go.Proofs.Ytmmonhpjjjdnjaa.Y
