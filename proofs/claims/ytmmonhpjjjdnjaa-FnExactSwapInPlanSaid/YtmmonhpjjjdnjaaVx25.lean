-- Written by wip/tools/myprint.py.
import Derived.Test.YtmmonhpjjjdnjaaVx0
import Derived.Test.YtmmonhpjjjdnjaaLLoadV
import Derived.Test.YtmmonhpjjjdnjaaVx4
import Derived.Test.YtmmonhpjjjdnjaaVx6
import Derived.Test.YtmmonhpjjjdnjaaVx9
import Derived.Test.YtmmonhpjjjdnjaaVx10
import Derived.Test.YtmmonhpjjjdnjaaVx11
import Derived.Test.YtmmonhpjjjdnjaaVx18
import Derived.Test.YtmmonhpjjjdnjaaVx24
namespace Go.Proofs.Ytmmonhpjjjdnjaa.V
open Go.RowKit Go.Proofs.YtmmonhpjjjdnjaaW.PrintWords Go.Proofs.YtmmonhpjjjdnjaaW.PrintLast Go.Proofs.YtmmonhpjjjdnjaaW.PrintMore
attribute [local go_sem] zoa zqa zwa zva zia zga zra zpa
set_option linter.unusedVariables false
set_option linter.unusedSimpArgs false
mutual
def laws_FnExactSwapInPlan.j0 : Nat → List (S58) → Int → Int → List (S54) → Int → List (S54) → List (S54) → Int → Bool → Int → Int → Bool → Bool → Option (Bool)
 | 0, _, _, _, _, _, _, _, _, _, _, _, _, _ => none
 | k + 1, x1, x2, x3, x10, x11, x12, x13, x14, x54, x364000, x364001, x364002, x364003 => if x54 = true then (some false) else ((laws_toNodeS.f k x1).bind fun t388 => ((laws_eqNodeS.f k x12 t388).bind fun t391 => (if t391 = true then ((laws_markNodeS.f k x12 1).bind fun bt392 => (if bt392.1 < 0 then (laws_FnExactSwapInPlan.j1 k x1 x2 x3 x10 x11 x13 true x364000 x364001 x364002 x364003) else ((laws_eqNodeS.f k x13 x10).bind fun t394 => (if t394 = true then (laws_FnExactSwapInPlan.j1 k x1 x2 x3 x10 x11 x13 (x14 != x11) x364000 x364001 x364002 x364003) else (laws_FnExactSwapInPlan.j1 k x1 x2 x3 x10 x11 x13 true x364000 x364001 x364002 x364003))))) else (some false))))
def laws_FnExactSwapInPlan.j1 : Nat → List (S58) → Int → Int → List (S54) → Int → List (S54) → Bool → Int → Int → Bool → Bool → Option (Bool)
 | 0, _, _, _, _, _, _, _, _, _, _, _ => none
 | k + 1, x1, x2, x3, x10, x11, x13, x75, x364000, x364001, x364002, x364003 => if x75 = true then (some false) else ((laws_markNodeS.f k x13 1).bind fun bt395 => ((laws_heldNodeS.f k bt395.2 1).bind fun t397 => (if t397 < 0 then (some false) else (if t397 = bt395.1 then ((laws_toTask.f x364000 x364001 x364002 x364003).bind fun bt398 => ((laws_toNodeS.f k x1).bind fun t402 => ((impl_SwapInPlan.f k bt398.1 bt398.2.1 bt398.2.2.1 bt398.2.2.2 t402 x2 x3).bind fun bt405 => ((laws_eqNodeS.f k bt405.1 x10).bind fun t409 => (if t409 = true then (laws_FnExactSwapInPlan.j2 k bt395.2 bt395.1 (bt405.2 != x11)) else (laws_FnExactSwapInPlan.j2 k bt395.2 bt395.1 true)))))) else (some false)))))
def laws_FnExactSwapInPlan.j2 : Nat → List (S54) → Int → Bool → Option (Bool)
 | 0, _, _, _ => none
 | k + 1, x13, x16, x105 => if x105 = true then (some false) else ((laws_heldNodeS.f k x13 1).bind fun t410 => (if t410 < 0 then (some false) else (if t410 = x16 then (some true) else (some false))))
end
def laws_FnExactSwapInPlan.f (k : Nat) (a0_0 : Int) (a0_1 : Int) (a0_2 : Bool) (a0_3 : Bool) (l1 : List (S58)) (a2 : Int) (a3 : Int) : Option (Bool) := (laws_szNodeS.f l1 1048576).bind fun t364 => (if t364 < 0 then (some true) else ((laws_toTask.f a0_0 a0_1 a0_2 a0_3).bind fun bt365 => ((laws_toNodeS.f k l1).bind fun t369 => ((spec_SwapInPlan.f k bt365.1 bt365.2.1 bt365.2.2.1 bt365.2.2.2 t369 a2 a3).bind fun bt372 => ((laws_toNodeS.f k l1).bind fun t376 => ((laws_toTask.f a0_0 a0_1 a0_2 a0_3).bind fun bt379 => ((impl_SwapInPlan.f k bt379.1 bt379.2.1 bt379.2.2.1 bt379.2.2.2 t376 a2 a3).bind fun bt383 => ((laws_eqNodeS.f k bt383.1 bt372.1).bind fun t387 => (if t387 = true then (laws_FnExactSwapInPlan.j0 k l1 a2 a3 bt372.1 bt372.2 t376 bt383.1 bt383.2 (bt383.2 != bt372.2) a0_0 a0_1 a0_2 a0_3) else (laws_FnExactSwapInPlan.j0 k l1 a2 a3 bt372.1 bt372.2 t376 bt383.1 bt383.2 true a0_0 a0_1 a0_2 a0_3))))))))))
set_option maxHeartbeats 8000000 in
set_option maxRecDepth 100000 in
theorem laws_FnExactSwapInPlan.calls (k : Nat) (a0_0 : Int) (a0_1 : Int) (a0_2 : Bool) (a0_3 : Bool) (A1 : Option Addr) (c1 : Nat) (l1 : List (S58)) (a2 : Int) (a3 : Int) (r : Bool) (w : World) (hr1 : Kd.C k58 w A1 l1.length l1) (hc1 : l1.length ≤ c1) (h : laws_FnExactSwapInPlan.f k a0_0 a0_1 a0_2 a0_3 l1 a2 a3 = some r) :
  Calls Try.prog 7 #[.agg #[.int .i8 a0_0, .int .i8 a0_1, .bool a0_2, .bool a0_3], .slice A1 l1.length c1, .int .i64 a2, .int .i64 a3] w fun e w' => e = .returned (.bool r) ∧ Below w.heap.size w w' := by
 have hu24 := Try.underlying24
 have HR1 := zc.mk hr1
 have HC1 := zc.mk hc1
 clear hr1 hc1
 have HB := zc.mk (Below.refl w.heap.size w)
 have H : ((laws_szNodeS.f l1 1048576).bind fun t364 => (if t364 < 0 then (some true) else ((laws_toTask.f a0_0 a0_1 a0_2 a0_3).bind fun bt365 => ((laws_toNodeS.f k l1).bind fun t369 => ((spec_SwapInPlan.f k bt365.1 bt365.2.1 bt365.2.2.1 bt365.2.2.2 t369 a2 a3).bind fun bt372 => ((laws_toNodeS.f k l1).bind fun t376 => ((laws_toTask.f a0_0 a0_1 a0_2 a0_3).bind fun bt379 => ((impl_SwapInPlan.f k bt379.1 bt379.2.1 bt379.2.2.1 bt379.2.2.2 t376 a2 a3).bind fun bt383 => ((laws_eqNodeS.f k bt383.1 bt372.1).bind fun t387 => (if t387 = true then (laws_FnExactSwapInPlan.j0 k l1 a2 a3 bt372.1 bt372.2 t376 bt383.1 bt383.2 (bt383.2 != bt372.2) a0_0 a0_1 a0_2 a0_3) else (laws_FnExactSwapInPlan.j0 k l1 a2 a3 bt372.1 bt372.2 t376 bt383.1 bt383.2 true a0_0 a0_1 a0_2 a0_3))))))))))) = some r := h
 clear h
 replace H := Option.bind_eq_some_iff.mp H
 obtain ⟨t364, A50, H⟩ := H
 replace H : (if t364 < 0 then (some true) else ((laws_toTask.f a0_0 a0_1 a0_2 a0_3).bind fun bt365 => ((laws_toNodeS.f k l1).bind fun t369 => ((spec_SwapInPlan.f k bt365.1 bt365.2.1 bt365.2.2.1 bt365.2.2.2 t369 a2 a3).bind fun bt372 => ((laws_toNodeS.f k l1).bind fun t376 => ((laws_toTask.f a0_0 a0_1 a0_2 a0_3).bind fun bt379 => ((impl_SwapInPlan.f k bt379.1 bt379.2.1 bt379.2.2.1 bt379.2.2.2 t376 a2 a3).bind fun bt383 => ((laws_eqNodeS.f k bt383.1 bt372.1).bind fun t387 => (if t387 = true then (laws_FnExactSwapInPlan.j0 k l1 a2 a3 bt372.1 bt372.2 t376 bt383.1 bt383.2 (bt383.2 != bt372.2) a0_0 a0_1 a0_2 a0_3) else (laws_FnExactSwapInPlan.j0 k l1 a2 a3 bt372.1 bt372.2 t376 bt383.1 bt383.2 true a0_0 a0_1 a0_2 a0_3)))))))))) = some r := H
 have A5 := zc.mk A50
 clear A50
 by_cases c6 : t364 < 0
 ·rw [if_pos c6] at H
  have c6b0 : decide (t364 < 0) = true := decide_eq_true c6
  clear c6
  obtain rfl := Option.some.inj H
  go_enter Try.func7, Try.ntmps7
  go_wp2_with (first | ((with_reducible refine zp (N := 4) rfl ?_); refine zr ?hg (N := 4) ?hd (cs := #[.int .i8 a0_0, .int .i8 a0_1, .bool a0_2, .bool a0_3]) (t := 24) ?hr ?_; (case hd => rfl); (case hg => rfl); (case hr => first | (go_simp; done) | (go_simp; rfl)); intro gb363 hg w7 hbox hb; obtain ⟨n0_, n2_⟩ := bx (by repeat (first | (with_reducible first | exact HB.out | apply ze | apply zb | apply zd) | exact HB.out)) hb hg; have n1_ := zc.mk (hbox); have n3_ := n2_; clear HB; have HB := n0_; have BK363 := n1_; have GW363 := n2_; have GE363 := n3_; clear n0_ n1_ n2_ n3_; clear hb hbox hg) | ((with_reducible refine zo (f := 8) rfl ?_); refine zaa (some 22) rfl rfl Try.func8 (by kernel_rfl) rfl #[.slice A1 l1.length c1, .int .i64 1048576] rfl (by (try simp only [List.map_toArray, List.map_cons, List.map_nil]); first | done | rfl | (simp only [List.length_drop, List.length_take]; rfl)) ?_; (with_reducible refine (laws_szNodeS.calls _ _ l1 1048576 t364 _ ?side1 ?side2 A5.out).mono ?_); (case side1 => repeat (first | exact (Kd.C_below HR1.out HB.out) | (with_reducible refine Kd.C_alloc ?_ _) | (with_reducible refine Kd.C_drewN ?_ _) | (with_reducible refine Kd.C_drew ?_))); (case side2 => exact HC1.out); rintro e w' ⟨rfl, ⟨nd, rfl⟩⟩; refine ⟨_, rfl, ?_⟩))
  go_ret
  exact ⟨by first | rfl | (simp [zj, zk] <;> rfl) | (simp [*, zj, zk] <;> rfl), by repeat (first | (with_reducible first | exact HB.out | apply ze | apply zb | apply zd | refine zf ?_ GE363.out) | exact HB.out)⟩
 rw [if_neg c6] at H
 have c6b0 : decide (t364 < 0) = false := decide_eq_false c6
 clear c6
 replace H := Option.bind_eq_some_iff.mp H
 obtain ⟨⟨t365, t366, t367, t368⟩, A80, H⟩ := H
 replace H : ((laws_toNodeS.f k l1).bind fun t369 => ((spec_SwapInPlan.f k t365 t366 t367 t368 t369 a2 a3).bind fun bt372 => ((laws_toNodeS.f k l1).bind fun t376 => ((laws_toTask.f a0_0 a0_1 a0_2 a0_3).bind fun bt379 => ((impl_SwapInPlan.f k bt379.1 bt379.2.1 bt379.2.2.1 bt379.2.2.2 t376 a2 a3).bind fun bt383 => ((laws_eqNodeS.f k bt383.1 bt372.1).bind fun t387 => (if t387 = true then (laws_FnExactSwapInPlan.j0 k l1 a2 a3 bt372.1 bt372.2 t376 bt383.1 bt383.2 (bt383.2 != bt372.2) a0_0 a0_1 a0_2 a0_3) else (laws_FnExactSwapInPlan.j0 k l1 a2 a3 bt372.1 bt372.2 t376 bt383.1 bt383.2 true a0_0 a0_1 a0_2 a0_3)))))))) = some r := H
 have A8 := zc.mk A80
 clear A80
 replace H := Option.bind_eq_some_iff.mp H
 obtain ⟨t369, A90, H⟩ := H
 replace H : ((spec_SwapInPlan.f k t365 t366 t367 t368 t369 a2 a3).bind fun bt372 => ((laws_toNodeS.f k l1).bind fun t376 => ((laws_toTask.f a0_0 a0_1 a0_2 a0_3).bind fun bt379 => ((impl_SwapInPlan.f k bt379.1 bt379.2.1 bt379.2.2.1 bt379.2.2.2 t376 a2 a3).bind fun bt383 => ((laws_eqNodeS.f k bt383.1 bt372.1).bind fun t387 => (if t387 = true then (laws_FnExactSwapInPlan.j0 k l1 a2 a3 bt372.1 bt372.2 t376 bt383.1 bt383.2 (bt383.2 != bt372.2) a0_0 a0_1 a0_2 a0_3) else (laws_FnExactSwapInPlan.j0 k l1 a2 a3 bt372.1 bt372.2 t376 bt383.1 bt383.2 true a0_0 a0_1 a0_2 a0_3))))))) = some r := H
 have A9 := zc.mk A90
 clear A90
 replace H := Option.bind_eq_some_iff.mp H
 obtain ⟨⟨t372, t375⟩, A100, H⟩ := H
 replace H : ((laws_toNodeS.f k l1).bind fun t376 => ((laws_toTask.f a0_0 a0_1 a0_2 a0_3).bind fun bt379 => ((impl_SwapInPlan.f k bt379.1 bt379.2.1 bt379.2.2.1 bt379.2.2.2 t376 a2 a3).bind fun bt383 => ((laws_eqNodeS.f k bt383.1 t372).bind fun t387 => (if t387 = true then (laws_FnExactSwapInPlan.j0 k l1 a2 a3 t372 t375 t376 bt383.1 bt383.2 (bt383.2 != t375) a0_0 a0_1 a0_2 a0_3) else (laws_FnExactSwapInPlan.j0 k l1 a2 a3 t372 t375 t376 bt383.1 bt383.2 true a0_0 a0_1 a0_2 a0_3)))))) = some r := H
 have A10 := zc.mk A100
 clear A100
 replace H := Option.bind_eq_some_iff.mp H
 obtain ⟨t376, A110, H⟩ := H
 replace H : ((laws_toTask.f a0_0 a0_1 a0_2 a0_3).bind fun bt379 => ((impl_SwapInPlan.f k bt379.1 bt379.2.1 bt379.2.2.1 bt379.2.2.2 t376 a2 a3).bind fun bt383 => ((laws_eqNodeS.f k bt383.1 t372).bind fun t387 => (if t387 = true then (laws_FnExactSwapInPlan.j0 k l1 a2 a3 t372 t375 t376 bt383.1 bt383.2 (bt383.2 != t375) a0_0 a0_1 a0_2 a0_3) else (laws_FnExactSwapInPlan.j0 k l1 a2 a3 t372 t375 t376 bt383.1 bt383.2 true a0_0 a0_1 a0_2 a0_3))))) = some r := H
 have A11 := zc.mk A110
 clear A110
 replace H := Option.bind_eq_some_iff.mp H
 obtain ⟨⟨t379, t380, t381, t382⟩, A120, H⟩ := H
 replace H : ((impl_SwapInPlan.f k t379 t380 t381 t382 t376 a2 a3).bind fun bt383 => ((laws_eqNodeS.f k bt383.1 t372).bind fun t387 => (if t387 = true then (laws_FnExactSwapInPlan.j0 k l1 a2 a3 t372 t375 t376 bt383.1 bt383.2 (bt383.2 != t375) a0_0 a0_1 a0_2 a0_3) else (laws_FnExactSwapInPlan.j0 k l1 a2 a3 t372 t375 t376 bt383.1 bt383.2 true a0_0 a0_1 a0_2 a0_3)))) = some r := H
 have A12 := zc.mk A120
 clear A120
 replace H := Option.bind_eq_some_iff.mp H
 obtain ⟨⟨t383, t386⟩, A130, H⟩ := H
 replace H : ((laws_eqNodeS.f k t383 t372).bind fun t387 => (if t387 = true then (laws_FnExactSwapInPlan.j0 k l1 a2 a3 t372 t375 t376 t383 t386 (t386 != t375) a0_0 a0_1 a0_2 a0_3) else (laws_FnExactSwapInPlan.j0 k l1 a2 a3 t372 t375 t376 t383 t386 true a0_0 a0_1 a0_2 a0_3))) = some r := H
 have A13 := zc.mk A130
 clear A130
 have HC14 := zc.mk H
 clear H
 go_enter Try.func7, Try.ntmps7
 go_upto_region 8 with (first | ((with_reducible refine zp (N := 4) rfl ?_); refine zr ?hg (N := 4) ?hd (cs := #[.int .i8 a0_0, .int .i8 a0_1, .bool a0_2, .bool a0_3]) (t := 24) ?hr ?_; (case hd => rfl); (case hg => rfl); (case hr => first | (go_simp; done) | (go_simp; rfl)); intro gb363 hg w15 hbox hb; obtain ⟨n0_, n2_⟩ := bx (by repeat (first | (with_reducible first | exact HB.out | apply ze | apply zb | apply zd) | exact HB.out)) hb hg; have n1_ := zc.mk (hbox); have n3_ := n2_; clear HB; have HB := n0_; have BK363 := n1_; have GW363 := n2_; have GE363 := n3_; clear n0_ n1_ n2_ n3_; clear hb hbox hg) | ((with_reducible refine zo (f := 8) rfl ?_); refine zaa (some 22) rfl rfl Try.func8 (by kernel_rfl) rfl #[.slice A1 l1.length c1, .int .i64 1048576] rfl (by (try simp only [List.map_toArray, List.map_cons, List.map_nil]); first | done | rfl | (simp only [List.length_drop, List.length_take]; rfl)) ?_; (with_reducible refine (laws_szNodeS.calls _ _ l1 1048576 t364 _ ?side1 ?side2 A5.out).mono ?_); (case side1 => repeat (first | exact (Kd.C_below HR1.out HB.out) | (with_reducible refine Kd.C_alloc ?_ _) | (with_reducible refine Kd.C_drewN ?_ _) | (with_reducible refine Kd.C_drew ?_))); (case side2 => exact HC1.out); rintro e w' ⟨rfl, ⟨nd, rfl⟩⟩; refine ⟨_, rfl, ?_⟩; obtain ⟨y1_0, y1_1, y1_2, y1_3, z1_0, z1_1, z1_2, z1_3⟩ := cf4 BK363.out) | ((with_reducible refine zo (f := 10) rfl ?_); refine zaa (some 27) rfl rfl Try.func10 (by kernel_rfl) rfl #[.agg #[.int .i8 a0_0, .int .i8 a0_1, .bool a0_2, .bool a0_3]] rfl (by (try simp only [List.map_toArray, List.map_cons, List.map_nil]); first | done | rfl | (simp only [List.length_drop, List.length_take]; rfl)) ?_; (with_reducible refine (laws_toTask.calls a0_0 a0_1 a0_2 a0_3 t365 t366 t367 t368 _ A8.out).mono ?_); rintro e w17 ⟨rfl, hb⟩; refine ⟨_, rfl, ?_⟩; have n0_ := zc.mk (zn (by (with_reducible repeat (first | refine zg ?_ _ | refine zi ?_ | refine zh ?_ _)); exact BK363.out) hb); have n1_ := zc.mk (zq (by repeat (first | (with_reducible first | exact HB.out | apply ze | apply zb | apply zd | refine zf ?_ GE363.out) | exact HB.out)) hb); clear BK363; clear HB; have BK363 := n0_; have HB := n1_; clear n0_ n1_; (try clear hb); (try clear hb2); (try clear hk); (try clear hi)) | ((with_reducible refine zo (f := 11) rfl ?_); refine zaa (some 29) rfl rfl Try.func11 (by kernel_rfl) rfl #[.slice A1 l1.length c1] rfl (by (try simp only [List.map_toArray, List.map_cons, List.map_nil]); first | done | rfl | (simp only [List.length_drop, List.length_take]; rfl)) ?_; (with_reducible refine (laws_toNodeS.calls k _ _ l1 t369 _ ?side1 ?side2 A9.out).mono ?_); (case side1 => repeat (first | exact (Kd.C_below HR1.out HB.out) | (with_reducible refine Kd.C_alloc ?_ _) | (with_reducible refine Kd.C_drewN ?_ _) | (with_reducible refine Kd.C_drew ?_))); (case side2 => exact HC1.out); rintro e w18 ⟨v370, rfl, ho0, hb⟩; refine ⟨_, rfl, ?_⟩; have n0_ := zc.mk (Kd.R_lower ho0 (zz (by repeat (first | (with_reducible first | exact HB.out | apply ze | apply zb | apply zd | refine zf ?_ GE363.out) | exact HB.out)))); have n1_ := zc.mk (zn (by (with_reducible repeat (first | refine zg ?_ _ | refine zi ?_ | refine zh ?_ _)); exact BK363.out) hb); have n2_ := zc.mk (zq (by repeat (first | (with_reducible first | exact HB.out | apply ze | apply zb | apply zd | refine zf ?_ GE363.out) | exact HB.out)) hb); clear BK363; clear HB; have HO371 := n0_; have BK363 := n1_; have HB := n2_; clear n0_ n1_ n2_; (try clear hb); (try clear hb2); (try clear hk); (try clear hi); (try clear ho0); obtain ⟨Ao19, co19, eo19⟩ := Kd.R_slice HO371.out; subst eo19) | ((with_reducible refine zo (f := 22) rfl ?_); refine zaa (some 32) rfl rfl Try.func22 (by kernel_rfl) rfl #[.agg #[.int .i8 t365, .int .i8 t366, .bool t367, .bool t368], .slice Ao19 t369.length co19, .int .i64 a2, .int .i64 a3] rfl (by (try simp only [List.map_toArray, List.map_cons, List.map_nil]); first | done | rfl | (simp only [List.length_drop, List.length_take]; rfl)) ?_; (with_reducible refine (spec_SwapInPlan.calls k t365 t366 t367 t368 _ _ t369 a2 a3 t372 t375 _ ?side1 ?side2 A10.out).mono ?_); (case side1 => repeat (first | exact (Kd.R_reads' HO371.out).2.2 | (with_reducible refine Kd.C_alloc ?_ _) | (with_reducible refine Kd.C_drewN ?_ _) | (with_reducible refine Kd.C_drew ?_))); (case side2 => exact (Kd.R_reads' HO371.out).2.1); rintro e w20 ⟨v373, rfl, ho0, hb⟩; refine ⟨_, rfl, ?_⟩; have n0_ := zc.mk (Kd.R_elder' (by (with_reducible repeat (first | apply Kd.R_alloc | apply Kd.R_drewN | apply Kd.R_drew)); exact HO371.out) (Kd.R_base ho0) hb); have n1_ := zc.mk (Kd.R_lower (Kd.R_new' ho0 (Kd.R_lt (by (with_reducible repeat (first | apply Kd.R_alloc | apply Kd.R_drewN | apply Kd.R_drew)); exact HO371.out))) (zz (by repeat (first | (with_reducible first | exact HB.out | apply ze | apply zb | apply zd | refine zf ?_ GE363.out) | exact HB.out)))); have n2_ := zc.mk (zn (by (with_reducible repeat (first | refine zg ?_ _ | refine zi ?_ | refine zh ?_ _)); exact BK363.out) hb); have n3_ := zc.mk (zq (by repeat (first | (with_reducible first | exact HB.out | apply ze | apply zb | apply zd | refine zf ?_ GE363.out) | exact HB.out)) hb); clear HO371; clear BK363; clear HB; have HO371 := n0_; have HO374 := n1_; have BK363 := n2_; have HB := n3_; clear n0_ n1_ n2_ n3_; (try clear hb); (try clear hb2); (try clear hk); (try clear hi); (try clear ho0)) | ((with_reducible refine zo (f := 11) rfl ?_); refine zaa (some 36) rfl rfl Try.func11 (by kernel_rfl) rfl #[.slice A1 l1.length c1] rfl (by (try simp only [List.map_toArray, List.map_cons, List.map_nil]); first | done | rfl | (simp only [List.length_drop, List.length_take]; rfl)) ?_; (with_reducible refine (laws_toNodeS.calls k _ _ l1 t376 _ ?side1 ?side2 A11.out).mono ?_); (case side1 => repeat (first | exact (Kd.C_below HR1.out HB.out) | (with_reducible refine Kd.C_alloc ?_ _) | (with_reducible refine Kd.C_drewN ?_ _) | (with_reducible refine Kd.C_drew ?_))); (case side2 => exact HC1.out); rintro e w21 ⟨v377, rfl, ho0, hb⟩; refine ⟨_, rfl, ?_⟩; have n0_ := zc.mk (Kd.R_elder' (by (with_reducible repeat (first | apply Kd.R_alloc | apply Kd.R_drewN | apply Kd.R_drew)); exact HO371.out) (Kd.R_base ho0) hb); have n1_ := zc.mk (Kd.R_elder' (by (with_reducible repeat (first | apply Kd.R_alloc | apply Kd.R_drewN | apply Kd.R_drew)); exact HO374.out) (Kd.R_base ho0) hb); have n2_ := zc.mk (Kd.R_lower (Kd.R_new' (Kd.R_new' ho0 (Kd.R_lt (by (with_reducible repeat (first | apply Kd.R_alloc | apply Kd.R_drewN | apply Kd.R_drew)); exact HO371.out))) (Kd.R_lt (by (with_reducible repeat (first | apply Kd.R_alloc | apply Kd.R_drewN | apply Kd.R_drew)); exact HO374.out))) (zz (by repeat (first | (with_reducible first | exact HB.out | apply ze | apply zb | apply zd | refine zf ?_ GE363.out) | exact HB.out)))); have n3_ := zc.mk (zn (by (with_reducible repeat (first | refine zg ?_ _ | refine zi ?_ | refine zh ?_ _)); exact BK363.out) hb); have n4_ := zc.mk (zq (by repeat (first | (with_reducible first | exact HB.out | apply ze | apply zb | apply zd | refine zf ?_ GE363.out) | exact HB.out)) hb); clear HO371; clear HO374; clear BK363; clear HB; have HO371 := n0_; have HO374 := n1_; have HO378 := n2_; have BK363 := n3_; have HB := n4_; clear n0_ n1_ n2_ n3_ n4_; (try clear hb); (try clear hb2); (try clear hk); (try clear hi); (try clear ho0); obtain ⟨y2_0, y2_1, y2_2, y2_3, z2_0, z2_1, z2_2, z2_3⟩ := cf4 BK363.out) | ((with_reducible refine zo (f := 10) rfl ?_); refine zaa (some 39) rfl rfl Try.func10 (by kernel_rfl) rfl #[.agg #[.int .i8 a0_0, .int .i8 a0_1, .bool a0_2, .bool a0_3]] rfl (by (try simp only [List.map_toArray, List.map_cons, List.map_nil]); first | done | rfl | (simp only [List.length_drop, List.length_take]; rfl)) ?_; (with_reducible refine (laws_toTask.calls a0_0 a0_1 a0_2 a0_3 t379 t380 t381 t382 _ A12.out).mono ?_); rintro e w23 ⟨rfl, hb⟩; refine ⟨_, rfl, ?_⟩; have n0_ := zc.mk (Kd.R_below (by (with_reducible repeat (first | apply Kd.R_alloc | apply Kd.R_drewN | apply Kd.R_drew)); exact HO371.out) hb); have n1_ := zc.mk (Kd.R_below (by (with_reducible repeat (first | apply Kd.R_alloc | apply Kd.R_drewN | apply Kd.R_drew)); exact HO374.out) hb); have n2_ := zc.mk (Kd.R_below (by (with_reducible repeat (first | apply Kd.R_alloc | apply Kd.R_drewN | apply Kd.R_drew)); exact HO378.out) hb); have n3_ := zc.mk (zn (by (with_reducible repeat (first | refine zg ?_ _ | refine zi ?_ | refine zh ?_ _)); exact BK363.out) hb); have n4_ := zc.mk (zq (by repeat (first | (with_reducible first | exact HB.out | apply ze | apply zb | apply zd | refine zf ?_ GE363.out) | exact HB.out)) hb); clear HO371; clear HO374; clear HO378; clear BK363; clear HB; have HO371 := n0_; have HO374 := n1_; have HO378 := n2_; have BK363 := n3_; have HB := n4_; clear n0_ n1_ n2_ n3_ n4_; (try clear hb); (try clear hb2); (try clear hk); (try clear hi); obtain ⟨Ao24, co24, eo24⟩ := Kd.R_slice HO378.out; subst eo24) | ((with_reducible refine zo (f := 23) rfl ?_); refine zaa (some 43) rfl rfl Try.func23 (by kernel_rfl) rfl #[.agg #[.int .i8 t379, .int .i8 t380, .bool t381, .bool t382], .slice Ao24 t376.length co24, .int .i64 a2, .int .i64 a3] rfl (by (try simp only [List.map_toArray, List.map_cons, List.map_nil]); first | done | rfl | (simp only [List.length_drop, List.length_take]; rfl)) ?_; (with_reducible refine (impl_SwapInPlan.calls k t379 t380 t381 t382 _ _ t376 a2 a3 t383 t386 _ ?side1 ?side2 A13.out).mono ?_); (case side1 => repeat (first | exact (Kd.R_reads' HO378.out).2.2 | (with_reducible refine Kd.C_alloc ?_ _) | (with_reducible refine Kd.C_drewN ?_ _) | (with_reducible refine Kd.C_drew ?_))); (case side2 => exact (Kd.R_reads' HO378.out).2.1); rintro e w25 ⟨v384, rfl, ho0, hb⟩; refine ⟨_, rfl, ?_⟩; have n0_ := zc.mk (Kd.R_elder' (by (with_reducible repeat (first | apply Kd.R_alloc | apply Kd.R_drewN | apply Kd.R_drew)); exact HO371.out) (Kd.R_base ho0) hb); have n1_ := zc.mk (Kd.R_elder' (by (with_reducible repeat (first | apply Kd.R_alloc | apply Kd.R_drewN | apply Kd.R_drew)); exact HO374.out) (Kd.R_base ho0) hb); have n2_ := zc.mk (Kd.R_elder' (by (with_reducible repeat (first | apply Kd.R_alloc | apply Kd.R_drewN | apply Kd.R_drew)); exact HO378.out) (Kd.R_base ho0) hb); have n3_ := zc.mk (Kd.R_lower (Kd.R_new' (Kd.R_new' (Kd.R_new' ho0 (Kd.R_lt (by (with_reducible repeat (first | apply Kd.R_alloc | apply Kd.R_drewN | apply Kd.R_drew)); exact HO371.out))) (Kd.R_lt (by (with_reducible repeat (first | apply Kd.R_alloc | apply Kd.R_drewN | apply Kd.R_drew)); exact HO374.out))) (Kd.R_lt (by (with_reducible repeat (first | apply Kd.R_alloc | apply Kd.R_drewN | apply Kd.R_drew)); exact HO378.out))) (zz (by repeat (first | (with_reducible first | exact HB.out | apply ze | apply zb | apply zd | refine zf ?_ GE363.out) | exact HB.out)))); have n4_ := zc.mk (zn (by (with_reducible repeat (first | refine zg ?_ _ | refine zi ?_ | refine zh ?_ _)); exact BK363.out) hb); have n5_ := zc.mk (zq (by repeat (first | (with_reducible first | exact HB.out | apply ze | apply zb | apply zd | refine zf ?_ GE363.out) | exact HB.out)) hb); clear HO371; clear HO374; clear HO378; clear BK363; clear HB; have HO371 := n0_; have HO374 := n1_; have HO378 := n2_; have HO385 := n3_; have BK363 := n4_; have HB := n5_; clear n0_ n1_ n2_ n3_ n4_ n5_; (try clear hb); (try clear hb2); (try clear hk); (try clear hi); (try clear ho0)))
 (try simp only [Act.put, List.setIfInBounds_toArray, List.set_cons_zero, List.set_cons_succ])
 go_cut [54] (fun v54 wc => ∃ (kq : Nat) (x54_13 : Bool), v54 = .bool x54_13 ∧ zc (laws_FnExactSwapInPlan.j0 kq l1 a2 a3 t372 t375 t376 t383 t386 x54_13 a0_0 a0_1 a0_2 a0_3 = some r) ∧ zc (kq ≤ k) ∧ zc (Kd.R k54 54 wc w.heap.size (fun k_ => some k_ ≠ ((.slice Ao24 t376.length co24) : Value).ownBlock ∧ some k_ ≠ (v384 : Value).ownBlock) v373 t372) ∧ zc (Kd.R k54 54 wc w.heap.size (fun k_ => some k_ ≠ (v373 : Value).ownBlock ∧ some k_ ≠ (v384 : Value).ownBlock) (.slice Ao24 t376.length co24) t376) ∧ zc (Kd.R k54 54 wc w.heap.size (fun k_ => some k_ ≠ (v373 : Value).ownBlock ∧ some k_ ≠ ((.slice Ao24 t376.length co24) : Value).ownBlock) v384 t383) ∧ zc (wc.heap[gb363]? = some (.cells #[.int .i8 a0_0, .int .i8 a0_1, .bool a0_2, .bool a0_3] 24 (0, 0))) ∧ zc (Below w.heap.size w wc))
 case first =>
  have H := HC14.out
  clear HC14
  replace H := Option.bind_eq_some_iff.mp H
  obtain ⟨t387, A260, H⟩ := H
  replace H : (if t387 = true then (laws_FnExactSwapInPlan.j0 k l1 a2 a3 t372 t375 t376 t383 t386 (t386 != t375) a0_0 a0_1 a0_2 a0_3) else (laws_FnExactSwapInPlan.j0 k l1 a2 a3 t372 t375 t376 t383 t386 true a0_0 a0_1 a0_2 a0_3)) = some r := H
  have A26 := zc.mk A260
  clear A260
  by_cases c27 : t387 = true
  ·subst c27
   have H1 : (laws_FnExactSwapInPlan.j0 k l1 a2 a3 t372 t375 t376 t383 t386 (t386 != t375) a0_0 a0_1 a0_2 a0_3) = some r := by rw [if_pos rfl] at H; exact H
   clear H
   have H := H1
   clear H1
   have H' := zc.mk H
   clear H
   obtain ⟨Ao28, co28, eo28⟩ := Kd.R_slice HO385.out
   subst eo28
   obtain ⟨Ao29, co29, eo29⟩ := Kd.R_slice HO374.out
   subst eo29
   go_wp2_with (first | ((with_reducible refine zo (f := 13) rfl ?_); refine zaa (some 48) rfl rfl Try.func13 (by kernel_rfl) rfl #[.slice Ao28 t383.length co28, .slice Ao29 t372.length co29] rfl (by (try simp only [List.map_toArray, List.map_cons, List.map_nil]); first | done | rfl | (simp only [List.length_drop, List.length_take]; rfl)) ?_; (with_reducible refine (laws_eqNodeS.calls k _ _ t383 _ _ t372 true _ ?side1 ?side2 ?side3 ?side4 A26.out).mono ?_); (case side1 => repeat (first | exact (Kd.R_reads' HO385.out).2.2 | (with_reducible refine Kd.C_alloc ?_ _) | (with_reducible refine Kd.C_drewN ?_ _) | (with_reducible refine Kd.C_drew ?_))); (case side2 => exact (Kd.R_reads' HO385.out).2.1); (case side3 => repeat (first | exact (Kd.R_reads' HO374.out).2.2 | (with_reducible refine Kd.C_alloc ?_ _) | (with_reducible refine Kd.C_drewN ?_ _) | (with_reducible refine Kd.C_drew ?_))); (case side4 => exact (Kd.R_reads' HO374.out).2.1); rintro e w30 ⟨rfl, hb⟩; refine ⟨_, rfl, ?_⟩; have n0_ := zc.mk (Kd.R_below (by (with_reducible repeat (first | apply Kd.R_alloc | apply Kd.R_drewN | apply Kd.R_drew)); exact HO371.out) hb); have n1_ := zc.mk (Kd.R_below (by (with_reducible repeat (first | apply Kd.R_alloc | apply Kd.R_drewN | apply Kd.R_drew)); exact HO374.out) hb); have n2_ := zc.mk (Kd.R_below (by (with_reducible repeat (first | apply Kd.R_alloc | apply Kd.R_drewN | apply Kd.R_drew)); exact HO378.out) hb); have n3_ := zc.mk (Kd.R_below (by (with_reducible repeat (first | apply Kd.R_alloc | apply Kd.R_drewN | apply Kd.R_drew)); exact HO385.out) hb); have n4_ := zc.mk (zn (by (with_reducible repeat (first | refine zg ?_ _ | refine zi ?_ | refine zh ?_ _)); exact BK363.out) hb); have n5_ := zc.mk (zq (by repeat (first | (with_reducible first | exact HB.out | apply ze | apply zb | apply zd | refine zf ?_ GE363.out) | exact HB.out)) hb); clear HO371; clear HO374; clear HO378; clear HO385; clear BK363; clear HB; have HO371 := n0_; have HO374 := n1_; have HO378 := n2_; have HO385 := n3_; have BK363 := n4_; have HB := n5_; clear n0_ n1_ n2_ n3_ n4_ n5_; (try clear hb); (try clear hb2); (try clear hk); (try clear hi)))
   go_meet
   case rel => exact ⟨_, ((t386 != t375)), (by first | rfl | (simp; done) | (simp [*]; done)), H', ⟨by first | omega | exact Nat.le_refl _⟩, ⟨by (with_reducible repeat (first | apply Kd.R_alloc | apply Kd.R_drewN | apply Kd.R_drew)); exact Kd.R_mono HO374.out (fun _ hk => ⟨hk.1.2, hk.2⟩)⟩, ⟨by (with_reducible repeat (first | apply Kd.R_alloc | apply Kd.R_drewN | apply Kd.R_drew)); exact Kd.R_mono HO378.out (fun _ hk => ⟨hk.1.2, hk.2⟩)⟩, ⟨by (with_reducible repeat (first | apply Kd.R_alloc | apply Kd.R_drewN | apply Kd.R_drew)); exact Kd.R_mono HO385.out (fun _ hk => ⟨hk.1.2, hk.2⟩)⟩, ⟨by (with_reducible repeat (first | refine zg ?_ _ | refine zi ?_ | refine zh ?_ _)); exact BK363.out⟩, ⟨by repeat (first | (with_reducible first | exact HB.out | apply ze | apply zb | apply zd | refine zf ?_ GE363.out) | exact HB.out)⟩⟩
  replace c27 := Bool.eq_false_iff.mpr c27
  subst c27
  have H1 : (laws_FnExactSwapInPlan.j0 k l1 a2 a3 t372 t375 t376 t383 t386 true a0_0 a0_1 a0_2 a0_3) = some r := by rw [if_neg (show ¬ (false = true) by decide)] at H; exact H
  clear H
  have H := H1
  clear H1
  have H' := zc.mk H
  clear H
  obtain ⟨Ao31, co31, eo31⟩ := Kd.R_slice HO385.out
  subst eo31
  obtain ⟨Ao32, co32, eo32⟩ := Kd.R_slice HO374.out
  subst eo32
  go_wp2_with (first | ((with_reducible refine zo (f := 13) rfl ?_); refine zaa (some 48) rfl rfl Try.func13 (by kernel_rfl) rfl #[.slice Ao31 t383.length co31, .slice Ao32 t372.length co32] rfl (by (try simp only [List.map_toArray, List.map_cons, List.map_nil]); first | done | rfl | (simp only [List.length_drop, List.length_take]; rfl)) ?_; (with_reducible refine (laws_eqNodeS.calls k _ _ t383 _ _ t372 false _ ?side1 ?side2 ?side3 ?side4 A26.out).mono ?_); (case side1 => repeat (first | exact (Kd.R_reads' HO385.out).2.2 | (with_reducible refine Kd.C_alloc ?_ _) | (with_reducible refine Kd.C_drewN ?_ _) | (with_reducible refine Kd.C_drew ?_))); (case side2 => exact (Kd.R_reads' HO385.out).2.1); (case side3 => repeat (first | exact (Kd.R_reads' HO374.out).2.2 | (with_reducible refine Kd.C_alloc ?_ _) | (with_reducible refine Kd.C_drewN ?_ _) | (with_reducible refine Kd.C_drew ?_))); (case side4 => exact (Kd.R_reads' HO374.out).2.1); rintro e w33 ⟨rfl, hb⟩; refine ⟨_, rfl, ?_⟩; have n0_ := zc.mk (Kd.R_below (by (with_reducible repeat (first | apply Kd.R_alloc | apply Kd.R_drewN | apply Kd.R_drew)); exact HO371.out) hb); have n1_ := zc.mk (Kd.R_below (by (with_reducible repeat (first | apply Kd.R_alloc | apply Kd.R_drewN | apply Kd.R_drew)); exact HO374.out) hb); have n2_ := zc.mk (Kd.R_below (by (with_reducible repeat (first | apply Kd.R_alloc | apply Kd.R_drewN | apply Kd.R_drew)); exact HO378.out) hb); have n3_ := zc.mk (Kd.R_below (by (with_reducible repeat (first | apply Kd.R_alloc | apply Kd.R_drewN | apply Kd.R_drew)); exact HO385.out) hb); have n4_ := zc.mk (zn (by (with_reducible repeat (first | refine zg ?_ _ | refine zi ?_ | refine zh ?_ _)); exact BK363.out) hb); have n5_ := zc.mk (zq (by repeat (first | (with_reducible first | exact HB.out | apply ze | apply zb | apply zd | refine zf ?_ GE363.out) | exact HB.out)) hb); clear HO371; clear HO374; clear HO378; clear HO385; clear BK363; clear HB; have HO371 := n0_; have HO374 := n1_; have HO378 := n2_; have HO385 := n3_; have BK363 := n4_; have HB := n5_; clear n0_ n1_ n2_ n3_ n4_ n5_; (try clear hb); (try clear hb2); (try clear hk); (try clear hi)))
  go_meet
  case rel => exact ⟨_, (true), (by first | rfl | (simp; done) | (simp [*]; done)), H', ⟨by first | omega | exact Nat.le_refl _⟩, ⟨by (with_reducible repeat (first | apply Kd.R_alloc | apply Kd.R_drewN | apply Kd.R_drew)); exact Kd.R_mono HO374.out (fun _ hk => ⟨hk.1.2, hk.2⟩)⟩, ⟨by (with_reducible repeat (first | apply Kd.R_alloc | apply Kd.R_drewN | apply Kd.R_drew)); exact Kd.R_mono HO378.out (fun _ hk => ⟨hk.1.2, hk.2⟩)⟩, ⟨by (with_reducible repeat (first | apply Kd.R_alloc | apply Kd.R_drewN | apply Kd.R_drew)); exact Kd.R_mono HO385.out (fun _ hk => ⟨hk.1.2, hk.2⟩)⟩, ⟨by (with_reducible repeat (first | refine zg ?_ _ | refine zi ?_ | refine zh ?_ _)); exact BK363.out⟩, ⟨by repeat (first | (with_reducible first | exact HB.out | apply ze | apply zb | apply zd | refine zf ?_ GE363.out) | exact HB.out)⟩⟩
 case rest =>
  clear HC14
  try clear c1
  try clear c2
  try clear p2
  try clear c6
  try clear c6b0
  try clear c7
  try clear c8
  try clear c10
  try clear c11
  try clear c13
  try clear c22
  try clear c23
  try clear c27
  try clear y1_0 y1_1 y1_2 y1_3
  try clear y2_0 y2_1 y2_2 y2_3
  try clear z1_0 z1_1 z1_2 z1_3
  try clear z2_0 z2_1 z2_2 z2_3
  obtain ⟨kq, x54_13, rfl, HA, HJ13, HO_10, HO_12, HO_13, BK363, HB⟩ := hcut
  cases kq with
  | zero => exact absurd HA.out (by simp [laws_FnExactSwapInPlan.j0])
  | succ kj13 =>
   have H := HA.out
   clear HA
   simp only [laws_FnExactSwapInPlan.j0] at H
   by_cases c34 : x54_13 = true
   ·subst c34
    have H1 : (some false) = some r := by rw [if_pos rfl] at H; exact H
    clear H
    have H := H1
    clear H1
    obtain rfl := Option.some.inj H
    go_wp2
    go_ret
    exact ⟨by first | rfl | (simp [zj, zk] <;> rfl) | (simp [*, zj, zk] <;> rfl), by repeat (first | (with_reducible first | exact HB.out | apply ze | apply zb | apply zd | refine zf ?_ GE363.out) | exact HB.out)⟩
   replace c34 := Bool.eq_false_iff.mpr c34
   subst c34
   have H1 : ((laws_toNodeS.f kj13 l1).bind fun t388 => ((laws_eqNodeS.f kj13 t376 t388).bind fun t391 => (if t391 = true then ((laws_markNodeS.f kj13 t376 1).bind fun bt392 => (if bt392.1 < 0 then (laws_FnExactSwapInPlan.j1 kj13 l1 a2 a3 t372 t375 t383 true a0_0 a0_1 a0_2 a0_3) else ((laws_eqNodeS.f kj13 t383 t372).bind fun t394 => (if t394 = true then (laws_FnExactSwapInPlan.j1 kj13 l1 a2 a3 t372 t375 t383 (t386 != t375) a0_0 a0_1 a0_2 a0_3) else (laws_FnExactSwapInPlan.j1 kj13 l1 a2 a3 t372 t375 t383 true a0_0 a0_1 a0_2 a0_3))))) else (some false)))) = some r := by rw [if_neg (show ¬ (false = true) by decide)] at H; exact H
   clear H
   have H := H1
   clear H1
   replace H := Option.bind_eq_some_iff.mp H
   obtain ⟨t388, A350, H⟩ := H
   replace H : ((laws_eqNodeS.f kj13 t376 t388).bind fun t391 => (if t391 = true then ((laws_markNodeS.f kj13 t376 1).bind fun bt392 => (if bt392.1 < 0 then (laws_FnExactSwapInPlan.j1 kj13 l1 a2 a3 t372 t375 t383 true a0_0 a0_1 a0_2 a0_3) else ((laws_eqNodeS.f kj13 t383 t372).bind fun t394 => (if t394 = true then (laws_FnExactSwapInPlan.j1 kj13 l1 a2 a3 t372 t375 t383 (t386 != t375) a0_0 a0_1 a0_2 a0_3) else (laws_FnExactSwapInPlan.j1 kj13 l1 a2 a3 t372 t375 t383 true a0_0 a0_1 a0_2 a0_3))))) else (some false))) = some r := H
   have A35 := zc.mk A350
   clear A350
   replace H := Option.bind_eq_some_iff.mp H
   obtain ⟨t391, A360, H⟩ := H
   replace H : (if t391 = true then ((laws_markNodeS.f kj13 t376 1).bind fun bt392 => (if bt392.1 < 0 then (laws_FnExactSwapInPlan.j1 kj13 l1 a2 a3 t372 t375 t383 true a0_0 a0_1 a0_2 a0_3) else ((laws_eqNodeS.f kj13 t383 t372).bind fun t394 => (if t394 = true then (laws_FnExactSwapInPlan.j1 kj13 l1 a2 a3 t372 t375 t383 (t386 != t375) a0_0 a0_1 a0_2 a0_3) else (laws_FnExactSwapInPlan.j1 kj13 l1 a2 a3 t372 t375 t383 true a0_0 a0_1 a0_2 a0_3))))) else (some false)) = some r := H
   have A36 := zc.mk A360
   clear A360
   by_cases c37 : t391 = true
   ·subst c37
    have H1 : ((laws_markNodeS.f kj13 t376 1).bind fun bt392 => (if bt392.1 < 0 then (laws_FnExactSwapInPlan.j1 kj13 l1 a2 a3 t372 t375 t383 true a0_0 a0_1 a0_2 a0_3) else ((laws_eqNodeS.f kj13 t383 t372).bind fun t394 => (if t394 = true then (laws_FnExactSwapInPlan.j1 kj13 l1 a2 a3 t372 t375 t383 (t386 != t375) a0_0 a0_1 a0_2 a0_3) else (laws_FnExactSwapInPlan.j1 kj13 l1 a2 a3 t372 t375 t383 true a0_0 a0_1 a0_2 a0_3))))) = some r := by rw [if_pos rfl] at H; exact H
    clear H
    have H := H1
    clear H1
    replace H := Option.bind_eq_some_iff.mp H
    obtain ⟨⟨t392, t393⟩, A380, H⟩ := H
    replace H : (if t392 < 0 then (laws_FnExactSwapInPlan.j1 kj13 l1 a2 a3 t372 t375 t383 true a0_0 a0_1 a0_2 a0_3) else ((laws_eqNodeS.f kj13 t383 t372).bind fun t394 => (if t394 = true then (laws_FnExactSwapInPlan.j1 kj13 l1 a2 a3 t372 t375 t383 (t386 != t375) a0_0 a0_1 a0_2 a0_3) else (laws_FnExactSwapInPlan.j1 kj13 l1 a2 a3 t372 t375 t383 true a0_0 a0_1 a0_2 a0_3)))) = some r := H
    have A38 := zc.mk A380
    clear A380
    have HC39 := zc.mk H
    clear H
    go_upto_region 14 with (first | ((with_reducible refine zo (f := 11) rfl ?_); refine zaa (some 57) rfl rfl Try.func11 (by kernel_rfl) rfl #[.slice A1 l1.length c1] rfl (by (try simp only [List.map_toArray, List.map_cons, List.map_nil]); first | done | rfl | (simp only [List.length_drop, List.length_take]; rfl)) ?_; (with_reducible refine (laws_toNodeS.calls kj13 _ _ l1 t388 _ ?side1 ?side2 A35.out).mono ?_); (case side1 => repeat (first | exact (Kd.C_below HR1.out HB.out) | (with_reducible refine Kd.C_alloc ?_ _) | (with_reducible refine Kd.C_drewN ?_ _) | (with_reducible refine Kd.C_drew ?_))); (case side2 => exact HC1.out); rintro e w40 ⟨v389, rfl, ho0, hb⟩; refine ⟨_, rfl, ?_⟩; have n0_ := zc.mk (Kd.R_elder' (by (with_reducible repeat (first | apply Kd.R_alloc | apply Kd.R_drewN | apply Kd.R_drew)); exact HO_10.out) (Kd.R_base ho0) hb); have n1_ := zc.mk (Kd.R_elder' (by (with_reducible repeat (first | apply Kd.R_alloc | apply Kd.R_drewN | apply Kd.R_drew)); exact HO_12.out) (Kd.R_base ho0) hb); have n2_ := zc.mk (Kd.R_elder' (by (with_reducible repeat (first | apply Kd.R_alloc | apply Kd.R_drewN | apply Kd.R_drew)); exact HO_13.out) (Kd.R_base ho0) hb); have n3_ := zc.mk (Kd.R_lower (Kd.R_new' (Kd.R_new' (Kd.R_new' ho0 (Kd.R_lt (by (with_reducible repeat (first | apply Kd.R_alloc | apply Kd.R_drewN | apply Kd.R_drew)); exact HO_10.out))) (Kd.R_lt (by (with_reducible repeat (first | apply Kd.R_alloc | apply Kd.R_drewN | apply Kd.R_drew)); exact HO_12.out))) (Kd.R_lt (by (with_reducible repeat (first | apply Kd.R_alloc | apply Kd.R_drewN | apply Kd.R_drew)); exact HO_13.out))) (zz (by repeat (first | (with_reducible first | exact HB.out | apply ze | apply zb | apply zd | refine zf ?_ GE363.out) | exact HB.out)))); have n4_ := zc.mk (zn (by (with_reducible repeat (first | refine zg ?_ _ | refine zi ?_ | refine zh ?_ _)); exact BK363.out) hb); have n5_ := zc.mk (zq (by repeat (first | (with_reducible first | exact HB.out | apply ze | apply zb | apply zd | refine zf ?_ GE363.out) | exact HB.out)) hb); clear HO_10; clear HO_12; clear HO_13; clear BK363; clear HB; have HO_10 := n0_; have HO_12 := n1_; have HO_13 := n2_; have HO390 := n3_; have BK363 := n4_; have HB := n5_; clear n0_ n1_ n2_ n3_ n4_ n5_; (try clear hb); (try clear hb2); (try clear hk); (try clear hi); (try clear ho0); obtain ⟨Ao41, co41, eo41⟩ := Kd.R_slice HO390.out; subst eo41) | ((with_reducible refine zo (f := 13) rfl ?_); refine zaa (some 58) rfl rfl Try.func13 (by kernel_rfl) rfl #[.slice Ao24 t376.length co24, .slice Ao41 t388.length co41] rfl (by (try simp only [List.map_toArray, List.map_cons, List.map_nil]); first | done | rfl | (simp only [List.length_drop, List.length_take]; rfl)) ?_; (with_reducible refine (laws_eqNodeS.calls kj13 _ _ t376 _ _ t388 true _ ?side1 ?side2 ?side3 ?side4 A36.out).mono ?_); (case side1 => repeat (first | exact (Kd.R_reads' HO_12.out).2.2 | (with_reducible refine Kd.C_alloc ?_ _) | (with_reducible refine Kd.C_drewN ?_ _) | (with_reducible refine Kd.C_drew ?_))); (case side2 => exact (Kd.R_reads' HO_12.out).2.1); (case side3 => repeat (first | exact (Kd.R_reads' HO390.out).2.2 | (with_reducible refine Kd.C_alloc ?_ _) | (with_reducible refine Kd.C_drewN ?_ _) | (with_reducible refine Kd.C_drew ?_))); (case side4 => exact (Kd.R_reads' HO390.out).2.1); rintro e w42 ⟨rfl, hb⟩; refine ⟨_, rfl, ?_⟩; have n0_ := zc.mk (Kd.R_below (by (with_reducible repeat (first | apply Kd.R_alloc | apply Kd.R_drewN | apply Kd.R_drew)); exact HO_10.out) hb); have n1_ := zc.mk (Kd.R_below (by (with_reducible repeat (first | apply Kd.R_alloc | apply Kd.R_drewN | apply Kd.R_drew)); exact HO_12.out) hb); have n2_ := zc.mk (Kd.R_below (by (with_reducible repeat (first | apply Kd.R_alloc | apply Kd.R_drewN | apply Kd.R_drew)); exact HO_13.out) hb); have n3_ := zc.mk (Kd.R_below (by (with_reducible repeat (first | apply Kd.R_alloc | apply Kd.R_drewN | apply Kd.R_drew)); exact HO390.out) hb); have n4_ := zc.mk (zn (by (with_reducible repeat (first | refine zg ?_ _ | refine zi ?_ | refine zh ?_ _)); exact BK363.out) hb); have n5_ := zc.mk (zq (by repeat (first | (with_reducible first | exact HB.out | apply ze | apply zb | apply zd | refine zf ?_ GE363.out) | exact HB.out)) hb); clear HO_10; clear HO_12; clear HO_13; clear HO390; clear BK363; clear HB; have HO_10 := n0_; have HO_12 := n1_; have HO_13 := n2_; have HO390 := n3_; have BK363 := n4_; have HB := n5_; clear n0_ n1_ n2_ n3_ n4_ n5_; (try clear hb); (try clear hb2); (try clear hk); (try clear hi)) | ((with_reducible refine zo (f := 20) rfl ?_); refine zaa (some 62) rfl rfl Try.func20 (by kernel_rfl) rfl #[.slice Ao24 t376.length co24, .int .i64 1] rfl (by (try simp only [List.map_toArray, List.map_cons, List.map_nil]); first | done | rfl | (simp only [List.length_drop, List.length_take]; rfl)) ?_; (with_reducible refine (laws_markNodeS.calls kj13 (fun k_ => some k_ = (.slice Ao24 t376.length co24 : Value).ownBlock) (.slice Ao24 t376.length co24) t376 1 t392 t393 w _ ?side1 ?side2 A38.out).mono ?_); (case side1 => repeat (first | (with_reducible first | exact HB.out | apply ze | apply zb | apply zd | refine zf ?_ GE363.out) | exact HB.out)); (case side2 => exact Kd.R_tight rfl HO_12.out); rintro e w43 ⟨rfl, hy0, hb, hkp⟩; refine ⟨_, rfl, ?_⟩; have n0_ := zc.mk (Kd.R_mono (ok' := fun k_ => some k_ ≠ (.slice Ao24 t376.length co24 : Value).ownBlock ∧ some k_ ≠ (v384 : Value).ownBlock ∧ some k_ ≠ (.slice Ao41 t388.length co41 : Value).ownBlock) (Kd.R_keptB (HO_10.out) hkp (fun k_ hk_ hs_ => (hk_.1.1) hs_)) (fun k_ hk_ => ⟨hk_.1.1.1, hk_.1.1.2, hk_.1.2⟩)); have n1_ := zc.mk (Kd.R_reok rfl hy0 (fun k_ e_ => HO_12.out.1 k_ e_)); have n2_ := zc.mk (Kd.R_mono (ok' := fun k_ => some k_ ≠ (v373 : Value).ownBlock ∧ some k_ ≠ (.slice Ao24 t376.length co24 : Value).ownBlock ∧ some k_ ≠ (.slice Ao41 t388.length co41 : Value).ownBlock) (Kd.R_keptB (HO_13.out) hkp (fun k_ hk_ hs_ => (hk_.1.2) hs_)) (fun k_ hk_ => ⟨hk_.1.1.1, hk_.1.1.2, hk_.1.2⟩)); have n3_ := zc.mk (zvc (by (with_reducible repeat (first | refine zg ?_ _ | refine zi ?_ | refine zh ?_ _)); exact BK363.out) hkp (fun hs_ => (fun e_ => (Kd.R_ne HO_12.out BK363.out (by decide)) e_) hs_)); have n4_ := zc.mk (Kd.R_mono (ok' := fun k_ => some k_ ≠ (v373 : Value).ownBlock ∧ some k_ ≠ (.slice Ao24 t376.length co24 : Value).ownBlock ∧ some k_ ≠ (v384 : Value).ownBlock) (Kd.R_keptB (HO390.out) hkp (fun k_ hk_ hs_ => (hk_.1.2) hs_)) (fun k_ hk_ => ⟨hk_.1.1.1.2, hk_.1.1.2, hk_.1.2⟩)); have n5_ := zc.mk (hb); clear HO_10; clear HO_12; clear HO_13; clear BK363; clear HO390; clear HB; have HO_10 := n0_; have HO_12 := n1_; have HO_13 := n2_; have BK363 := n3_; have HO390 := n4_; have HB := n5_; clear n0_ n1_ n2_ n3_ n4_ n5_; (try clear hb); (try clear hkp); (try clear hy0)))
    (try simp only [Act.put, List.setIfInBounds_toArray, List.set_cons_zero, List.set_cons_succ])
    go_cut [75] (fun v75 wc => ∃ (kq : Nat) (x75_38 : Bool), v75 = .bool x75_38 ∧ zc (laws_FnExactSwapInPlan.j1 kq l1 a2 a3 t372 t375 t383 x75_38 a0_0 a0_1 a0_2 a0_3 = some r) ∧ zc (kq ≤ kj13) ∧ zc (Kd.R k54 54 wc w.heap.size (fun k_ => some k_ ≠ (v384 : Value).ownBlock) v373 t372) ∧ zc (Kd.R k54 54 wc w.heap.size (fun k_ => some k_ ≠ (v373 : Value).ownBlock) v384 t383) ∧ zc (wc.heap[gb363]? = some (.cells #[.int .i8 a0_0, .int .i8 a0_1, .bool a0_2, .bool a0_3] 24 (0, 0))) ∧ zc (Below w.heap.size w wc))
    case first =>
     have H := HC39.out
     clear HC39
     by_cases c44 : t392 < 0
     ·rw [if_pos c44] at H
      have c44b0 : decide (t392 < 0) = true := decide_eq_true c44
      clear c44
      (first | rw [c44b0] | (simp only [zm, zl]; rw [c44b0]) | skip)
      have H' := zc.mk H
      clear H
      go_wp2
      go_meet
      case rel => exact ⟨_, (true), (by first | rfl | (simp; done) | (simp [*]; done)), H', ⟨by have := HJ13.out; first | omega | exact Nat.le_refl _⟩, ⟨by (with_reducible repeat (first | apply Kd.R_alloc | apply Kd.R_drewN | apply Kd.R_drew)); exact Kd.R_mono HO_10.out (fun _ hk => hk.2.1)⟩, ⟨by (with_reducible repeat (first | apply Kd.R_alloc | apply Kd.R_drewN | apply Kd.R_drew)); exact Kd.R_mono HO_13.out (fun _ hk => hk.1)⟩, ⟨by (with_reducible repeat (first | refine zg ?_ _ | refine zi ?_ | refine zh ?_ _)); exact BK363.out⟩, ⟨by repeat (first | (with_reducible first | exact HB.out | apply ze | apply zb | apply zd | refine zf ?_ GE363.out) | exact HB.out)⟩⟩
     rw [if_neg c44] at H
     have c44b0 : decide (t392 < 0) = false := decide_eq_false c44
     clear c44
     (first | rw [c44b0] | (simp only [zm, zl]; rw [c44b0]) | skip)
     replace H := Option.bind_eq_some_iff.mp H
     obtain ⟨t394, A450, H⟩ := H
     replace H : (if t394 = true then (laws_FnExactSwapInPlan.j1 kj13 l1 a2 a3 t372 t375 t383 (t386 != t375) a0_0 a0_1 a0_2 a0_3) else (laws_FnExactSwapInPlan.j1 kj13 l1 a2 a3 t372 t375 t383 true a0_0 a0_1 a0_2 a0_3)) = some r := H
     have A45 := zc.mk A450
     clear A450
     by_cases c46 : t394 = true
     ·subst c46
      have H1 : (laws_FnExactSwapInPlan.j1 kj13 l1 a2 a3 t372 t375 t383 (t386 != t375) a0_0 a0_1 a0_2 a0_3) = some r := by rw [if_pos rfl] at H; exact H
      clear H
      have H := H1
      clear H1
      have H' := zc.mk H
      clear H
      obtain ⟨Ao47, co47, eo47⟩ := Kd.R_slice HO_13.out
      subst eo47
      obtain ⟨Ao48, co48, eo48⟩ := Kd.R_slice HO_10.out
      subst eo48
      go_wp2_with (first | (go_at_call 13; (with_reducible refine (laws_eqNodeS.calls kj13 _ _ t383 _ _ t372 true _ ?side1 ?side2 ?side3 ?side4 A45.out).mono ?_); (case side1 => repeat (first | exact (Kd.R_reads' HO_13.out).2.2 | (with_reducible refine Kd.C_alloc ?_ _) | (with_reducible refine Kd.C_drewN ?_ _) | (with_reducible refine Kd.C_drew ?_))); (case side2 => exact (Kd.R_reads' HO_13.out).2.1); (case side3 => repeat (first | exact (Kd.R_reads' HO_10.out).2.2 | (with_reducible refine Kd.C_alloc ?_ _) | (with_reducible refine Kd.C_drewN ?_ _) | (with_reducible refine Kd.C_drew ?_))); (case side4 => exact (Kd.R_reads' HO_10.out).2.1); rintro e w49 ⟨rfl, hb⟩; have n0_ := zc.mk (Kd.R_below (by (with_reducible repeat (first | apply Kd.R_alloc | apply Kd.R_drewN | apply Kd.R_drew)); exact HO_10.out) hb); have n1_ := zc.mk (Kd.R_below (by (with_reducible repeat (first | apply Kd.R_alloc | apply Kd.R_drewN | apply Kd.R_drew)); exact HO_12.out) hb); have n2_ := zc.mk (Kd.R_below (by (with_reducible repeat (first | apply Kd.R_alloc | apply Kd.R_drewN | apply Kd.R_drew)); exact HO_13.out) hb); have n3_ := zc.mk (Kd.R_below (by (with_reducible repeat (first | apply Kd.R_alloc | apply Kd.R_drewN | apply Kd.R_drew)); exact HO390.out) hb); have n4_ := zc.mk (zn (by (with_reducible repeat (first | refine zg ?_ _ | refine zi ?_ | refine zh ?_ _)); exact BK363.out) hb); have n5_ := zc.mk (zq (by repeat (first | (with_reducible first | exact HB.out | apply ze | apply zb | apply zd | refine zf ?_ GE363.out) | exact HB.out)) hb); clear HO_10; clear HO_12; clear HO_13; clear HO390; clear BK363; clear HB; have HO_10 := n0_; have HO_12 := n1_; have HO_13 := n2_; have HO390 := n3_; have BK363 := n4_; have HB := n5_; clear n0_ n1_ n2_ n3_ n4_ n5_; (try clear hb); (try clear hb2); (try clear hk); (try clear hi)))
      go_meet
      case rel => exact ⟨_, ((t386 != t375)), (by first | rfl | (simp; done) | (simp [*]; done)), H', ⟨by have := HJ13.out; first | omega | exact Nat.le_refl _⟩, ⟨by (with_reducible repeat (first | apply Kd.R_alloc | apply Kd.R_drewN | apply Kd.R_drew)); exact Kd.R_mono HO_10.out (fun _ hk => hk.2.1)⟩, ⟨by (with_reducible repeat (first | apply Kd.R_alloc | apply Kd.R_drewN | apply Kd.R_drew)); exact Kd.R_mono HO_13.out (fun _ hk => hk.1)⟩, ⟨by (with_reducible repeat (first | refine zg ?_ _ | refine zi ?_ | refine zh ?_ _)); exact BK363.out⟩, ⟨by repeat (first | (with_reducible first | exact HB.out | apply ze | apply zb | apply zd | refine zf ?_ GE363.out) | exact HB.out)⟩⟩
     replace c46 := Bool.eq_false_iff.mpr c46
     subst c46
     have H1 : (laws_FnExactSwapInPlan.j1 kj13 l1 a2 a3 t372 t375 t383 true a0_0 a0_1 a0_2 a0_3) = some r := by rw [if_neg (show ¬ (false = true) by decide)] at H; exact H
     clear H
     have H := H1
     clear H1
     have H' := zc.mk H
     clear H
     obtain ⟨Ao50, co50, eo50⟩ := Kd.R_slice HO_13.out
     subst eo50
     obtain ⟨Ao51, co51, eo51⟩ := Kd.R_slice HO_10.out
     subst eo51
     go_wp2_with (first | (go_at_call 13; (with_reducible refine (laws_eqNodeS.calls kj13 _ _ t383 _ _ t372 false _ ?side1 ?side2 ?side3 ?side4 A45.out).mono ?_); (case side1 => repeat (first | exact (Kd.R_reads' HO_13.out).2.2 | (with_reducible refine Kd.C_alloc ?_ _) | (with_reducible refine Kd.C_drewN ?_ _) | (with_reducible refine Kd.C_drew ?_))); (case side2 => exact (Kd.R_reads' HO_13.out).2.1); (case side3 => repeat (first | exact (Kd.R_reads' HO_10.out).2.2 | (with_reducible refine Kd.C_alloc ?_ _) | (with_reducible refine Kd.C_drewN ?_ _) | (with_reducible refine Kd.C_drew ?_))); (case side4 => exact (Kd.R_reads' HO_10.out).2.1); rintro e w52 ⟨rfl, hb⟩; have n0_ := zc.mk (Kd.R_below (by (with_reducible repeat (first | apply Kd.R_alloc | apply Kd.R_drewN | apply Kd.R_drew)); exact HO_10.out) hb); have n1_ := zc.mk (Kd.R_below (by (with_reducible repeat (first | apply Kd.R_alloc | apply Kd.R_drewN | apply Kd.R_drew)); exact HO_12.out) hb); have n2_ := zc.mk (Kd.R_below (by (with_reducible repeat (first | apply Kd.R_alloc | apply Kd.R_drewN | apply Kd.R_drew)); exact HO_13.out) hb); have n3_ := zc.mk (Kd.R_below (by (with_reducible repeat (first | apply Kd.R_alloc | apply Kd.R_drewN | apply Kd.R_drew)); exact HO390.out) hb); have n4_ := zc.mk (zn (by (with_reducible repeat (first | refine zg ?_ _ | refine zi ?_ | refine zh ?_ _)); exact BK363.out) hb); have n5_ := zc.mk (zq (by repeat (first | (with_reducible first | exact HB.out | apply ze | apply zb | apply zd | refine zf ?_ GE363.out) | exact HB.out)) hb); clear HO_10; clear HO_12; clear HO_13; clear HO390; clear BK363; clear HB; have HO_10 := n0_; have HO_12 := n1_; have HO_13 := n2_; have HO390 := n3_; have BK363 := n4_; have HB := n5_; clear n0_ n1_ n2_ n3_ n4_ n5_; (try clear hb); (try clear hb2); (try clear hk); (try clear hi)))
     go_meet
     case rel => exact ⟨_, (true), (by first | rfl | (simp; done) | (simp [*]; done)), H', ⟨by have := HJ13.out; first | omega | exact Nat.le_refl _⟩, ⟨by (with_reducible repeat (first | apply Kd.R_alloc | apply Kd.R_drewN | apply Kd.R_drew)); exact Kd.R_mono HO_10.out (fun _ hk => hk.2.1)⟩, ⟨by (with_reducible repeat (first | apply Kd.R_alloc | apply Kd.R_drewN | apply Kd.R_drew)); exact Kd.R_mono HO_13.out (fun _ hk => hk.1)⟩, ⟨by (with_reducible repeat (first | refine zg ?_ _ | refine zi ?_ | refine zh ?_ _)); exact BK363.out⟩, ⟨by repeat (first | (with_reducible first | exact HB.out | apply ze | apply zb | apply zd | refine zf ?_ GE363.out) | exact HB.out)⟩⟩
    case rest =>
     clear HC39
     try clear c1
     try clear c2
     try clear p2
     try clear c3
     try clear c4
     try clear c6
     try clear c6b0
     try clear c7
     try clear c8
     try clear c10
     try clear c11
     try clear c13
     try clear c20
     try clear c22
     try clear c23
     try clear c27
     try clear c34
     try clear c37
     try clear c44
     try clear c44b0
     try clear c46
     try clear y1_0 y1_1 y1_2 y1_3
     try clear y2_0 y2_1 y2_2 y2_3
     try clear z1_0 z1_1 z1_2 z1_3
     try clear z2_0 z2_1 z2_2 z2_3
     try clear p2
     obtain ⟨kq, x75_38, rfl, HA, HJ38, HO_10, HO_13, BK363, HB⟩ := hcut
     cases kq with
     | zero => exact absurd HA.out (by simp [laws_FnExactSwapInPlan.j1])
     | succ kj38 =>
      have H := HA.out
      clear HA
      simp only [laws_FnExactSwapInPlan.j1] at H
      by_cases c53 : x75_38 = true
      ·subst c53
       have H1 : (some false) = some r := by rw [if_pos rfl] at H; exact H
       clear H
       have H := H1
       clear H1
       obtain rfl := Option.some.inj H
       go_wp2
       go_ret
       exact ⟨by first | rfl | (simp [zj, zk] <;> rfl) | (simp [*, zj, zk] <;> rfl), by repeat (first | (with_reducible first | exact HB.out | apply ze | apply zb | apply zd | refine zf ?_ GE363.out) | exact HB.out)⟩
      replace c53 := Bool.eq_false_iff.mpr c53
      subst c53
      have H1 : ((laws_markNodeS.f kj38 t383 1).bind fun bt395 => ((laws_heldNodeS.f kj38 bt395.2 1).bind fun t397 => (if t397 < 0 then (some false) else (if t397 = bt395.1 then ((laws_toTask.f a0_0 a0_1 a0_2 a0_3).bind fun bt398 => ((laws_toNodeS.f kj38 l1).bind fun t402 => ((impl_SwapInPlan.f kj38 bt398.1 bt398.2.1 bt398.2.2.1 bt398.2.2.2 t402 a2 a3).bind fun bt405 => ((laws_eqNodeS.f kj38 bt405.1 t372).bind fun t409 => (if t409 = true then (laws_FnExactSwapInPlan.j2 kj38 bt395.2 bt395.1 (bt405.2 != t375)) else (laws_FnExactSwapInPlan.j2 kj38 bt395.2 bt395.1 true)))))) else (some false))))) = some r := by rw [if_neg (show ¬ (false = true) by decide)] at H; exact H
      clear H
      have H := H1
      clear H1
      replace H := Option.bind_eq_some_iff.mp H
      obtain ⟨⟨t395, t396⟩, A540, H⟩ := H
      replace H : ((laws_heldNodeS.f kj38 t396 1).bind fun t397 => (if t397 < 0 then (some false) else (if t397 = t395 then ((laws_toTask.f a0_0 a0_1 a0_2 a0_3).bind fun bt398 => ((laws_toNodeS.f kj38 l1).bind fun t402 => ((impl_SwapInPlan.f kj38 bt398.1 bt398.2.1 bt398.2.2.1 bt398.2.2.2 t402 a2 a3).bind fun bt405 => ((laws_eqNodeS.f kj38 bt405.1 t372).bind fun t409 => (if t409 = true then (laws_FnExactSwapInPlan.j2 kj38 t396 t395 (bt405.2 != t375)) else (laws_FnExactSwapInPlan.j2 kj38 t396 t395 true)))))) else (some false)))) = some r := H
      have A54 := zc.mk A540
      clear A540
      replace H := Option.bind_eq_some_iff.mp H
      obtain ⟨t397, A550, H⟩ := H
      replace H : (if t397 < 0 then (some false) else (if t397 = t395 then ((laws_toTask.f a0_0 a0_1 a0_2 a0_3).bind fun bt398 => ((laws_toNodeS.f kj38 l1).bind fun t402 => ((impl_SwapInPlan.f kj38 bt398.1 bt398.2.1 bt398.2.2.1 bt398.2.2.2 t402 a2 a3).bind fun bt405 => ((laws_eqNodeS.f kj38 bt405.1 t372).bind fun t409 => (if t409 = true then (laws_FnExactSwapInPlan.j2 kj38 t396 t395 (bt405.2 != t375)) else (laws_FnExactSwapInPlan.j2 kj38 t396 t395 true)))))) else (some false))) = some r := H
      have A55 := zc.mk A550
      clear A550
      by_cases c56 : t397 < 0
      ·rw [if_pos c56] at H
       have c56b0 : decide (t397 < 0) = true := decide_eq_true c56
       clear c56
       obtain rfl := Option.some.inj H
       obtain ⟨Ao57, co57, eo57⟩ := Kd.R_slice HO_13.out
       subst eo57
       go_wp2_with (first | ((with_reducible refine zo (f := 20) rfl ?_); refine zaa (some 78) rfl rfl Try.func20 (by kernel_rfl) rfl #[.slice Ao57 t383.length co57, .int .i64 1] rfl (by (try simp only [List.map_toArray, List.map_cons, List.map_nil]); first | done | rfl | (simp only [List.length_drop, List.length_take]; rfl)) ?_; (with_reducible refine (laws_markNodeS.calls kj38 (fun k_ => some k_ = (.slice Ao57 t383.length co57 : Value).ownBlock) (.slice Ao57 t383.length co57) t383 1 t395 t396 w _ ?side1 ?side2 A54.out).mono ?_); (case side1 => repeat (first | (with_reducible first | exact HB.out | apply ze | apply zb | apply zd | refine zf ?_ GE363.out) | exact HB.out)); (case side2 => exact Kd.R_tight rfl HO_13.out); rintro e w58 ⟨rfl, hy0, hb, hkp⟩; refine ⟨_, rfl, ?_⟩; have n0_ := zc.mk (Kd.R_mono (ok' := fun k_ => some k_ ≠ (.slice Ao57 t383.length co57 : Value).ownBlock) (Kd.R_keptB (HO_10.out) hkp (fun k_ hk_ hs_ => (hk_) hs_)) (fun k_ hk_ => hk_.1)); have n1_ := zc.mk (Kd.R_reok rfl hy0 (fun k_ e_ => HO_13.out.1 k_ e_)); have n2_ := zc.mk (zvc (by (with_reducible repeat (first | refine zg ?_ _ | refine zi ?_ | refine zh ?_ _)); exact BK363.out) hkp (fun hs_ => (fun e_ => (Kd.R_ne HO_13.out BK363.out (by decide)) e_) hs_)); have n3_ := zc.mk (hb); clear HO_10; clear HO_13; clear BK363; clear HB; have HO_10 := n0_; have HO_13 := n1_; have BK363 := n2_; have HB := n3_; clear n0_ n1_ n2_ n3_; (try clear hb); (try clear hkp); (try clear hy0)) | ((with_reducible refine zo (f := 21) rfl ?_); refine zaa (some 81) rfl rfl Try.func21 (by kernel_rfl) rfl #[.slice Ao57 t396.length co57, .int .i64 1] rfl (by (try simp only [List.map_toArray, List.map_cons, List.map_nil]); first | done | (rw [show t396.length = t383.length from (Kd.R_reads' HO_13.out).1.symm] <;> rfl) | rfl | (simp only [List.length_drop, List.length_take]; rfl)) ?_; (with_reducible refine (laws_heldNodeS.calls kj38 _ _ t396 1 t397 _ ?side1 ?side2 A55.out).mono ?_); (case side1 => repeat (first | exact (Kd.R_reads' HO_13.out).2.2 | (with_reducible refine Kd.C_alloc ?_ _) | (with_reducible refine Kd.C_drewN ?_ _) | (with_reducible refine Kd.C_drew ?_))); (case side2 => rw [show t396.length = t383.length from (Kd.R_reads' HO_13.out).1.symm]; exact (Kd.R_reads' HO_13.out).2.1); rintro e w' ⟨rfl, ⟨nd, rfl⟩⟩; refine ⟨_, rfl, ?_⟩))
       go_ret
       exact ⟨by first | rfl | (simp [zj, zk] <;> rfl) | (simp [*, zj, zk] <;> rfl), by repeat (first | (with_reducible first | exact HB.out | apply ze | apply zb | apply zd | refine zf ?_ GE363.out) | exact HB.out)⟩
      rw [if_neg c56] at H
      have c56b0 : decide (t397 < 0) = false := decide_eq_false c56
      clear c56
      by_cases c59 : t397 = t395
      ·rw [if_pos c59] at H
       have c59b0 : (t397 == t395) = true := beq_iff_eq.mpr c59
       have c59b1 : (t397 != t395) = false := bne_eq_false_iff_eq.mpr c59
       clear c59
       replace H := Option.bind_eq_some_iff.mp H
       obtain ⟨⟨t398, t399, t400, t401⟩, A600, H⟩ := H
       replace H : ((laws_toNodeS.f kj38 l1).bind fun t402 => ((impl_SwapInPlan.f kj38 t398 t399 t400 t401 t402 a2 a3).bind fun bt405 => ((laws_eqNodeS.f kj38 bt405.1 t372).bind fun t409 => (if t409 = true then (laws_FnExactSwapInPlan.j2 kj38 t396 t395 (bt405.2 != t375)) else (laws_FnExactSwapInPlan.j2 kj38 t396 t395 true))))) = some r := H
       have A60 := zc.mk A600
       clear A600
       replace H := Option.bind_eq_some_iff.mp H
       obtain ⟨t402, A610, H⟩ := H
       replace H : ((impl_SwapInPlan.f kj38 t398 t399 t400 t401 t402 a2 a3).bind fun bt405 => ((laws_eqNodeS.f kj38 bt405.1 t372).bind fun t409 => (if t409 = true then (laws_FnExactSwapInPlan.j2 kj38 t396 t395 (bt405.2 != t375)) else (laws_FnExactSwapInPlan.j2 kj38 t396 t395 true)))) = some r := H
       have A61 := zc.mk A610
       clear A610
       replace H := Option.bind_eq_some_iff.mp H
       obtain ⟨⟨t405, t408⟩, A620, H⟩ := H
       replace H : ((laws_eqNodeS.f kj38 t405 t372).bind fun t409 => (if t409 = true then (laws_FnExactSwapInPlan.j2 kj38 t396 t395 (t408 != t375)) else (laws_FnExactSwapInPlan.j2 kj38 t396 t395 true))) = some r := H
       have A62 := zc.mk A620
       clear A620
       have HC63 := zc.mk H
       clear H
       obtain ⟨Ao64, co64, eo64⟩ := Kd.R_slice HO_13.out
       subst eo64
       go_upto_region 25 with (first | ((with_reducible refine zo (f := 20) rfl ?_); refine zaa (some 78) rfl rfl Try.func20 (by kernel_rfl) rfl #[.slice Ao64 t383.length co64, .int .i64 1] rfl (by (try simp only [List.map_toArray, List.map_cons, List.map_nil]); first | done | rfl | (simp only [List.length_drop, List.length_take]; rfl)) ?_; (with_reducible refine (laws_markNodeS.calls kj38 (fun k_ => some k_ = (.slice Ao64 t383.length co64 : Value).ownBlock) (.slice Ao64 t383.length co64) t383 1 t395 t396 w _ ?side1 ?side2 A54.out).mono ?_); (case side1 => repeat (first | (with_reducible first | exact HB.out | apply ze | apply zb | apply zd | refine zf ?_ GE363.out) | exact HB.out)); (case side2 => exact Kd.R_tight rfl HO_13.out); rintro e w65 ⟨rfl, hy0, hb, hkp⟩; refine ⟨_, rfl, ?_⟩; have n0_ := zc.mk (Kd.R_mono (ok' := fun k_ => some k_ ≠ (.slice Ao64 t383.length co64 : Value).ownBlock) (Kd.R_keptB (HO_10.out) hkp (fun k_ hk_ hs_ => (hk_) hs_)) (fun k_ hk_ => hk_.1)); have n1_ := zc.mk (Kd.R_reok rfl hy0 (fun k_ e_ => HO_13.out.1 k_ e_)); have n2_ := zc.mk (zvc (by (with_reducible repeat (first | refine zg ?_ _ | refine zi ?_ | refine zh ?_ _)); exact BK363.out) hkp (fun hs_ => (fun e_ => (Kd.R_ne HO_13.out BK363.out (by decide)) e_) hs_)); have n3_ := zc.mk (hb); clear HO_10; clear HO_13; clear BK363; clear HB; have HO_10 := n0_; have HO_13 := n1_; have BK363 := n2_; have HB := n3_; clear n0_ n1_ n2_ n3_; (try clear hb); (try clear hkp); (try clear hy0)) | ((with_reducible refine zo (f := 21) rfl ?_); refine zaa (some 81) rfl rfl Try.func21 (by kernel_rfl) rfl #[.slice Ao64 t396.length co64, .int .i64 1] rfl (by (try simp only [List.map_toArray, List.map_cons, List.map_nil]); first | done | (rw [show t396.length = t383.length from (Kd.R_reads' HO_13.out).1.symm] <;> rfl) | rfl | (simp only [List.length_drop, List.length_take]; rfl)) ?_; (with_reducible refine (laws_heldNodeS.calls kj38 _ _ t396 1 t397 _ ?side1 ?side2 A55.out).mono ?_); (case side1 => repeat (first | exact (Kd.R_reads' HO_13.out).2.2 | (with_reducible refine Kd.C_alloc ?_ _) | (with_reducible refine Kd.C_drewN ?_ _) | (with_reducible refine Kd.C_drew ?_))); (case side2 => rw [show t396.length = t383.length from (Kd.R_reads' HO_13.out).1.symm]; exact (Kd.R_reads' HO_13.out).2.1); rintro e w' ⟨rfl, ⟨nd, rfl⟩⟩; refine ⟨_, rfl, ?_⟩; obtain ⟨y3_0, y3_1, y3_2, y3_3, z3_0, z3_1, z3_2, z3_3⟩ := cf4 BK363.out) | ((with_reducible refine zo (f := 10) rfl ?_); refine zaa (some 89) rfl rfl Try.func10 (by kernel_rfl) rfl #[.agg #[.int .i8 a0_0, .int .i8 a0_1, .bool a0_2, .bool a0_3]] rfl (by (try simp only [List.map_toArray, List.map_cons, List.map_nil]); first | done | rfl | (simp only [List.length_drop, List.length_take]; rfl)) ?_; (with_reducible refine (laws_toTask.calls a0_0 a0_1 a0_2 a0_3 t398 t399 t400 t401 _ A60.out).mono ?_); rintro e w67 ⟨rfl, hb⟩; refine ⟨_, rfl, ?_⟩; have n0_ := zc.mk (Kd.R_below (by (with_reducible repeat (first | apply Kd.R_alloc | apply Kd.R_drewN | apply Kd.R_drew)); exact HO_10.out) hb); have n1_ := zc.mk (Kd.R_below (by (with_reducible repeat (first | apply Kd.R_alloc | apply Kd.R_drewN | apply Kd.R_drew)); exact HO_13.out) hb); have n2_ := zc.mk (zn (by (with_reducible repeat (first | refine zg ?_ _ | refine zi ?_ | refine zh ?_ _)); exact BK363.out) hb); have n3_ := zc.mk (zq (by repeat (first | (with_reducible first | exact HB.out | apply ze | apply zb | apply zd | refine zf ?_ GE363.out) | exact HB.out)) hb); clear HO_10; clear HO_13; clear BK363; clear HB; have HO_10 := n0_; have HO_13 := n1_; have BK363 := n2_; have HB := n3_; clear n0_ n1_ n2_ n3_; (try clear hb); (try clear hb2); (try clear hk); (try clear hi)) | ((with_reducible refine zo (f := 11) rfl ?_); refine zaa (some 91) rfl rfl Try.func11 (by kernel_rfl) rfl #[.slice A1 l1.length c1] rfl (by (try simp only [List.map_toArray, List.map_cons, List.map_nil]); first | done | rfl | (simp only [List.length_drop, List.length_take]; rfl)) ?_; (with_reducible refine (laws_toNodeS.calls kj38 _ _ l1 t402 _ ?side1 ?side2 A61.out).mono ?_); (case side1 => repeat (first | exact (Kd.C_below HR1.out HB.out) | (with_reducible refine Kd.C_alloc ?_ _) | (with_reducible refine Kd.C_drewN ?_ _) | (with_reducible refine Kd.C_drew ?_))); (case side2 => exact HC1.out); rintro e w68 ⟨v403, rfl, ho0, hb⟩; refine ⟨_, rfl, ?_⟩; have n0_ := zc.mk (Kd.R_elder' (by (with_reducible repeat (first | apply Kd.R_alloc | apply Kd.R_drewN | apply Kd.R_drew)); exact HO_10.out) (Kd.R_base ho0) hb); have n1_ := zc.mk (Kd.R_elder' (by (with_reducible repeat (first | apply Kd.R_alloc | apply Kd.R_drewN | apply Kd.R_drew)); exact HO_13.out) (Kd.R_base ho0) hb); have n2_ := zc.mk (Kd.R_lower (Kd.R_new' (Kd.R_new' ho0 (Kd.R_lt (by (with_reducible repeat (first | apply Kd.R_alloc | apply Kd.R_drewN | apply Kd.R_drew)); exact HO_10.out))) (Kd.R_lt (by (with_reducible repeat (first | apply Kd.R_alloc | apply Kd.R_drewN | apply Kd.R_drew)); exact HO_13.out))) (zz (by repeat (first | (with_reducible first | exact HB.out | apply ze | apply zb | apply zd | refine zf ?_ GE363.out) | exact HB.out)))); have n3_ := zc.mk (zn (by (with_reducible repeat (first | refine zg ?_ _ | refine zi ?_ | refine zh ?_ _)); exact BK363.out) hb); have n4_ := zc.mk (zq (by repeat (first | (with_reducible first | exact HB.out | apply ze | apply zb | apply zd | refine zf ?_ GE363.out) | exact HB.out)) hb); clear HO_10; clear HO_13; clear BK363; clear HB; have HO_10 := n0_; have HO_13 := n1_; have HO404 := n2_; have BK363 := n3_; have HB := n4_; clear n0_ n1_ n2_ n3_ n4_; (try clear hb); (try clear hb2); (try clear hk); (try clear hi); (try clear ho0); obtain ⟨Ao69, co69, eo69⟩ := Kd.R_slice HO404.out; subst eo69) | ((with_reducible refine zo (f := 23) rfl ?_); refine zaa (some 94) rfl rfl Try.func23 (by kernel_rfl) rfl #[.agg #[.int .i8 t398, .int .i8 t399, .bool t400, .bool t401], .slice Ao69 t402.length co69, .int .i64 a2, .int .i64 a3] rfl (by (try simp only [List.map_toArray, List.map_cons, List.map_nil]); first | done | rfl | (simp only [List.length_drop, List.length_take]; rfl)) ?_; (with_reducible refine (impl_SwapInPlan.calls kj38 t398 t399 t400 t401 _ _ t402 a2 a3 t405 t408 _ ?side1 ?side2 A62.out).mono ?_); (case side1 => repeat (first | exact (Kd.R_reads' HO404.out).2.2 | (with_reducible refine Kd.C_alloc ?_ _) | (with_reducible refine Kd.C_drewN ?_ _) | (with_reducible refine Kd.C_drew ?_))); (case side2 => exact (Kd.R_reads' HO404.out).2.1); rintro e w70 ⟨v406, rfl, ho0, hb⟩; refine ⟨_, rfl, ?_⟩; have n0_ := zc.mk (Kd.R_elder' (by (with_reducible repeat (first | apply Kd.R_alloc | apply Kd.R_drewN | apply Kd.R_drew)); exact HO_10.out) (Kd.R_base ho0) hb); have n1_ := zc.mk (Kd.R_elder' (by (with_reducible repeat (first | apply Kd.R_alloc | apply Kd.R_drewN | apply Kd.R_drew)); exact HO_13.out) (Kd.R_base ho0) hb); have n2_ := zc.mk (Kd.R_elder' (by (with_reducible repeat (first | apply Kd.R_alloc | apply Kd.R_drewN | apply Kd.R_drew)); exact HO404.out) (Kd.R_base ho0) hb); have n3_ := zc.mk (Kd.R_lower (Kd.R_new' (Kd.R_new' (Kd.R_new' ho0 (Kd.R_lt (by (with_reducible repeat (first | apply Kd.R_alloc | apply Kd.R_drewN | apply Kd.R_drew)); exact HO_10.out))) (Kd.R_lt (by (with_reducible repeat (first | apply Kd.R_alloc | apply Kd.R_drewN | apply Kd.R_drew)); exact HO_13.out))) (Kd.R_lt (by (with_reducible repeat (first | apply Kd.R_alloc | apply Kd.R_drewN | apply Kd.R_drew)); exact HO404.out))) (zz (by repeat (first | (with_reducible first | exact HB.out | apply ze | apply zb | apply zd | refine zf ?_ GE363.out) | exact HB.out)))); have n4_ := zc.mk (zn (by (with_reducible repeat (first | refine zg ?_ _ | refine zi ?_ | refine zh ?_ _)); exact BK363.out) hb); have n5_ := zc.mk (zq (by repeat (first | (with_reducible first | exact HB.out | apply ze | apply zb | apply zd | refine zf ?_ GE363.out) | exact HB.out)) hb); clear HO_10; clear HO_13; clear HO404; clear BK363; clear HB; have HO_10 := n0_; have HO_13 := n1_; have HO404 := n2_; have HO407 := n3_; have BK363 := n4_; have HB := n5_; clear n0_ n1_ n2_ n3_ n4_ n5_; (try clear hb); (try clear hb2); (try clear hk); (try clear hi); (try clear ho0)))
       (try simp only [Act.put, List.setIfInBounds_toArray, List.set_cons_zero, List.set_cons_succ])
       go_cut [105] (fun v105 wc => ∃ (kq : Nat) (x105_62 : Bool), v105 = .bool x105_62 ∧ zc (laws_FnExactSwapInPlan.j2 kq t396 t395 x105_62 = some r) ∧ zc (kq ≤ kj38) ∧ zc (Kd.R k54 54 wc w.heap.size (fun _ => True) (.slice Ao64 t383.length co64) t396) ∧ zc (wc.heap[gb363]? = some (.cells #[.int .i8 a0_0, .int .i8 a0_1, .bool a0_2, .bool a0_3] 24 (0, 0))) ∧ zc (Below w.heap.size w wc))
       case first =>
        have H := HC63.out
        clear HC63
        replace H := Option.bind_eq_some_iff.mp H
        obtain ⟨t409, A710, H⟩ := H
        replace H : (if t409 = true then (laws_FnExactSwapInPlan.j2 kj38 t396 t395 (t408 != t375)) else (laws_FnExactSwapInPlan.j2 kj38 t396 t395 true)) = some r := H
        have A71 := zc.mk A710
        clear A710
        by_cases c72 : t409 = true
        ·subst c72
         have H1 : (laws_FnExactSwapInPlan.j2 kj38 t396 t395 (t408 != t375)) = some r := by rw [if_pos rfl] at H; exact H
         clear H
         have H := H1
         clear H1
         have H' := zc.mk H
         clear H
         obtain ⟨Ao73, co73, eo73⟩ := Kd.R_slice HO407.out
         subst eo73
         obtain ⟨Ao74, co74, eo74⟩ := Kd.R_slice HO_10.out
         subst eo74
         go_wp2_with (first | ((with_reducible refine zo (f := 13) rfl ?_); refine zaa (some 99) rfl rfl Try.func13 (by kernel_rfl) rfl #[.slice Ao73 t405.length co73, .slice Ao74 t372.length co74] rfl (by (try simp only [List.map_toArray, List.map_cons, List.map_nil]); first | done | rfl | (simp only [List.length_drop, List.length_take]; rfl)) ?_; (with_reducible refine (laws_eqNodeS.calls kj38 _ _ t405 _ _ t372 true _ ?side1 ?side2 ?side3 ?side4 A71.out).mono ?_); (case side1 => repeat (first | exact (Kd.R_reads' HO407.out).2.2 | (with_reducible refine Kd.C_alloc ?_ _) | (with_reducible refine Kd.C_drewN ?_ _) | (with_reducible refine Kd.C_drew ?_))); (case side2 => exact (Kd.R_reads' HO407.out).2.1); (case side3 => repeat (first | exact (Kd.R_reads' HO_10.out).2.2 | (with_reducible refine Kd.C_alloc ?_ _) | (with_reducible refine Kd.C_drewN ?_ _) | (with_reducible refine Kd.C_drew ?_))); (case side4 => exact (Kd.R_reads' HO_10.out).2.1); rintro e w75 ⟨rfl, hb⟩; refine ⟨_, rfl, ?_⟩; have n0_ := zc.mk (Kd.R_below (by (with_reducible repeat (first | apply Kd.R_alloc | apply Kd.R_drewN | apply Kd.R_drew)); exact HO_10.out) hb); have n1_ := zc.mk (Kd.R_below (by (with_reducible repeat (first | apply Kd.R_alloc | apply Kd.R_drewN | apply Kd.R_drew)); exact HO_13.out) hb); have n2_ := zc.mk (Kd.R_below (by (with_reducible repeat (first | apply Kd.R_alloc | apply Kd.R_drewN | apply Kd.R_drew)); exact HO404.out) hb); have n3_ := zc.mk (Kd.R_below (by (with_reducible repeat (first | apply Kd.R_alloc | apply Kd.R_drewN | apply Kd.R_drew)); exact HO407.out) hb); have n4_ := zc.mk (zn (by (with_reducible repeat (first | refine zg ?_ _ | refine zi ?_ | refine zh ?_ _)); exact BK363.out) hb); have n5_ := zc.mk (zq (by repeat (first | (with_reducible first | exact HB.out | apply ze | apply zb | apply zd | refine zf ?_ GE363.out) | exact HB.out)) hb); clear HO_10; clear HO_13; clear HO404; clear HO407; clear BK363; clear HB; have HO_10 := n0_; have HO_13 := n1_; have HO404 := n2_; have HO407 := n3_; have BK363 := n4_; have HB := n5_; clear n0_ n1_ n2_ n3_ n4_ n5_; (try clear hb); (try clear hb2); (try clear hk); (try clear hi)))
         go_meet
         case rel => exact ⟨_, ((t408 != t375)), (by first | rfl | (simp; done) | (simp [*]; done)), H', ⟨by have := HJ13.out; have := HJ38.out; first | omega | exact Nat.le_refl _⟩, ⟨by (with_reducible repeat (first | apply Kd.R_alloc | apply Kd.R_drewN | apply Kd.R_drew)); exact Kd.R_mono HO_13.out (fun _ hk => trivial)⟩, ⟨by (with_reducible repeat (first | refine zg ?_ _ | refine zi ?_ | refine zh ?_ _)); exact BK363.out⟩, ⟨by repeat (first | (with_reducible first | exact HB.out | apply ze | apply zb | apply zd | refine zf ?_ GE363.out) | exact HB.out)⟩⟩
        replace c72 := Bool.eq_false_iff.mpr c72
        subst c72
        have H1 : (laws_FnExactSwapInPlan.j2 kj38 t396 t395 true) = some r := by rw [if_neg (show ¬ (false = true) by decide)] at H; exact H
        clear H
        have H := H1
        clear H1
        have H' := zc.mk H
        clear H
        obtain ⟨Ao76, co76, eo76⟩ := Kd.R_slice HO407.out
        subst eo76
        obtain ⟨Ao77, co77, eo77⟩ := Kd.R_slice HO_10.out
        subst eo77
        go_wp2_with (first | ((with_reducible refine zo (f := 13) rfl ?_); refine zaa (some 99) rfl rfl Try.func13 (by kernel_rfl) rfl #[.slice Ao76 t405.length co76, .slice Ao77 t372.length co77] rfl (by (try simp only [List.map_toArray, List.map_cons, List.map_nil]); first | done | rfl | (simp only [List.length_drop, List.length_take]; rfl)) ?_; (with_reducible refine (laws_eqNodeS.calls kj38 _ _ t405 _ _ t372 false _ ?side1 ?side2 ?side3 ?side4 A71.out).mono ?_); (case side1 => repeat (first | exact (Kd.R_reads' HO407.out).2.2 | (with_reducible refine Kd.C_alloc ?_ _) | (with_reducible refine Kd.C_drewN ?_ _) | (with_reducible refine Kd.C_drew ?_))); (case side2 => exact (Kd.R_reads' HO407.out).2.1); (case side3 => repeat (first | exact (Kd.R_reads' HO_10.out).2.2 | (with_reducible refine Kd.C_alloc ?_ _) | (with_reducible refine Kd.C_drewN ?_ _) | (with_reducible refine Kd.C_drew ?_))); (case side4 => exact (Kd.R_reads' HO_10.out).2.1); rintro e w78 ⟨rfl, hb⟩; refine ⟨_, rfl, ?_⟩; have n0_ := zc.mk (Kd.R_below (by (with_reducible repeat (first | apply Kd.R_alloc | apply Kd.R_drewN | apply Kd.R_drew)); exact HO_10.out) hb); have n1_ := zc.mk (Kd.R_below (by (with_reducible repeat (first | apply Kd.R_alloc | apply Kd.R_drewN | apply Kd.R_drew)); exact HO_13.out) hb); have n2_ := zc.mk (Kd.R_below (by (with_reducible repeat (first | apply Kd.R_alloc | apply Kd.R_drewN | apply Kd.R_drew)); exact HO404.out) hb); have n3_ := zc.mk (Kd.R_below (by (with_reducible repeat (first | apply Kd.R_alloc | apply Kd.R_drewN | apply Kd.R_drew)); exact HO407.out) hb); have n4_ := zc.mk (zn (by (with_reducible repeat (first | refine zg ?_ _ | refine zi ?_ | refine zh ?_ _)); exact BK363.out) hb); have n5_ := zc.mk (zq (by repeat (first | (with_reducible first | exact HB.out | apply ze | apply zb | apply zd | refine zf ?_ GE363.out) | exact HB.out)) hb); clear HO_10; clear HO_13; clear HO404; clear HO407; clear BK363; clear HB; have HO_10 := n0_; have HO_13 := n1_; have HO404 := n2_; have HO407 := n3_; have BK363 := n4_; have HB := n5_; clear n0_ n1_ n2_ n3_ n4_ n5_; (try clear hb); (try clear hb2); (try clear hk); (try clear hi)))
        go_meet
        case rel => exact ⟨_, (true), (by first | rfl | (simp; done) | (simp [*]; done)), H', ⟨by have := HJ13.out; have := HJ38.out; first | omega | exact Nat.le_refl _⟩, ⟨by (with_reducible repeat (first | apply Kd.R_alloc | apply Kd.R_drewN | apply Kd.R_drew)); exact Kd.R_mono HO_13.out (fun _ hk => trivial)⟩, ⟨by (with_reducible repeat (first | refine zg ?_ _ | refine zi ?_ | refine zh ?_ _)); exact BK363.out⟩, ⟨by repeat (first | (with_reducible first | exact HB.out | apply ze | apply zb | apply zd | refine zf ?_ GE363.out) | exact HB.out)⟩⟩
       case rest =>
        clear HC63
        try clear c1
        try clear c2
        try clear p2
        try clear c3
        try clear c4
        try clear c5
        try clear c6
        try clear c6b0
        try clear c7
        try clear c8
        try clear c10
        try clear c11
        try clear c13
        try clear c20
        try clear c21
        try clear c22
        try clear c23
        try clear c27
        try clear c34
        try clear c37
        try clear c44
        try clear c44b0
        try clear c46
        try clear c53
        try clear c56
        try clear c56b0
        try clear c59
        try clear c59b0
        try clear c59b1
        try clear c72
        try clear y1_0 y1_1 y1_2 y1_3
        try clear y2_0 y2_1 y2_2 y2_3
        try clear y3_0 y3_1 y3_2 y3_3
        try clear z1_0 z1_1 z1_2 z1_3
        try clear z2_0 z2_1 z2_2 z2_3
        try clear z3_0 z3_1 z3_2 z3_3
        try clear p2
        obtain ⟨kq, x105_62, rfl, HA, HJ62, HO_13, BK363, HB⟩ := hcut
        have hl13_62 := (Kd.R_reads' HO_13.out).1
        rw [hl13_62] at HO_13
        (try simp only [hl13_62])
        (try simp only [hl13_62] at BK363)
        cases kq with
        | zero => exact absurd HA.out (by simp [laws_FnExactSwapInPlan.j2])
        | succ kj62 =>
         have H := HA.out
         clear HA
         simp only [laws_FnExactSwapInPlan.j2] at H
         by_cases c79 : x105_62 = true
         ·subst c79
          have H1 : (some false) = some r := by rw [if_pos rfl] at H; exact H
          clear H
          have H := H1
          clear H1
          obtain rfl := Option.some.inj H
          go_wp2
          go_ret
          exact ⟨by first | rfl | (simp [zj, zk] <;> rfl) | (simp [*, zj, zk] <;> rfl), by repeat (first | (with_reducible first | exact HB.out | apply ze | apply zb | apply zd | refine zf ?_ GE363.out) | exact HB.out)⟩
         replace c79 := Bool.eq_false_iff.mpr c79
         subst c79
         have H1 : ((laws_heldNodeS.f kj62 t396 1).bind fun t410 => (if t410 < 0 then (some false) else (if t410 = t395 then (some true) else (some false)))) = some r := by rw [if_neg (show ¬ (false = true) by decide)] at H; exact H
         clear H
         have H := H1
         clear H1
         replace H := Option.bind_eq_some_iff.mp H
         obtain ⟨t410, A800, H⟩ := H
         replace H : (if t410 < 0 then (some false) else (if t410 = t395 then (some true) else (some false))) = some r := H
         have A80 := zc.mk A800
         clear A800
         by_cases c81 : t410 < 0
         ·rw [if_pos c81] at H
          have c81b0 : decide (t410 < 0) = true := decide_eq_true c81
          clear c81
          obtain rfl := Option.some.inj H
          go_wp2_with (first | ((with_reducible refine zo (f := 21) rfl ?_); refine zaa (some 108) rfl rfl Try.func21 (by kernel_rfl) rfl #[.slice Ao64 t396.length co64, .int .i64 1] rfl (by (try simp only [List.map_toArray, List.map_cons, List.map_nil]); first | done | rfl | (simp only [List.length_drop, List.length_take]; rfl)) ?_; (with_reducible refine (laws_heldNodeS.calls kj62 _ _ t396 1 t410 _ ?side1 ?side2 A80.out).mono ?_); (case side1 => repeat (first | exact (Kd.R_reads' HO_13.out).2.2 | (with_reducible refine Kd.C_alloc ?_ _) | (with_reducible refine Kd.C_drewN ?_ _) | (with_reducible refine Kd.C_drew ?_))); (case side2 => exact (Kd.R_reads' HO_13.out).2.1); rintro e w' ⟨rfl, ⟨nd, rfl⟩⟩; refine ⟨_, rfl, ?_⟩))
          go_ret
          exact ⟨by first | rfl | (simp [zj, zk] <;> rfl) | (simp [*, zj, zk] <;> rfl), by repeat (first | (with_reducible first | exact HB.out | apply ze | apply zb | apply zd | refine zf ?_ GE363.out) | exact HB.out)⟩
         rw [if_neg c81] at H
         have c81b0 : decide (t410 < 0) = false := decide_eq_false c81
         clear c81
         by_cases c82 : t410 = t395
         ·rw [if_pos c82] at H
          have c82b0 : (t410 == t395) = true := beq_iff_eq.mpr c82
          have c82b1 : (t410 != t395) = false := bne_eq_false_iff_eq.mpr c82
          clear c82
          obtain rfl := Option.some.inj H
          go_wp2_with (first | ((with_reducible refine zo (f := 21) rfl ?_); refine zaa (some 108) rfl rfl Try.func21 (by kernel_rfl) rfl #[.slice Ao64 t396.length co64, .int .i64 1] rfl (by (try simp only [List.map_toArray, List.map_cons, List.map_nil]); first | done | rfl | (simp only [List.length_drop, List.length_take]; rfl)) ?_; (with_reducible refine (laws_heldNodeS.calls kj62 _ _ t396 1 t410 _ ?side1 ?side2 A80.out).mono ?_); (case side1 => repeat (first | exact (Kd.R_reads' HO_13.out).2.2 | (with_reducible refine Kd.C_alloc ?_ _) | (with_reducible refine Kd.C_drewN ?_ _) | (with_reducible refine Kd.C_drew ?_))); (case side2 => exact (Kd.R_reads' HO_13.out).2.1); rintro e w' ⟨rfl, ⟨nd, rfl⟩⟩; refine ⟨_, rfl, ?_⟩))
          go_ret
          exact ⟨by first | rfl | (simp [zj, zk] <;> rfl) | (simp [*, zj, zk] <;> rfl), by repeat (first | (with_reducible first | exact HB.out | apply ze | apply zb | apply zd | refine zf ?_ GE363.out) | exact HB.out)⟩
         rw [if_neg c82] at H
         have c82b0 : (t410 == t395) = false := beq_eq_false_iff_ne.mpr c82
         have c82b1 : (t410 != t395) = true := bne_iff_ne.mpr c82
         obtain rfl := Option.some.inj H
         go_wp2_with (first | ((with_reducible refine zo (f := 21) rfl ?_); refine zaa (some 108) rfl rfl Try.func21 (by kernel_rfl) rfl #[.slice Ao64 t396.length co64, .int .i64 1] rfl (by (try simp only [List.map_toArray, List.map_cons, List.map_nil]); first | done | rfl | (simp only [List.length_drop, List.length_take]; rfl)) ?_; (with_reducible refine (laws_heldNodeS.calls kj62 _ _ t396 1 t410 _ ?side1 ?side2 A80.out).mono ?_); (case side1 => repeat (first | exact (Kd.R_reads' HO_13.out).2.2 | (with_reducible refine Kd.C_alloc ?_ _) | (with_reducible refine Kd.C_drewN ?_ _) | (with_reducible refine Kd.C_drew ?_))); (case side2 => exact (Kd.R_reads' HO_13.out).2.1); rintro e w' ⟨rfl, ⟨nd, rfl⟩⟩; refine ⟨_, rfl, ?_⟩))
         go_ret
         exact ⟨by first | rfl | (simp [zj, zk] <;> rfl) | (simp [*, zj, zk] <;> rfl), by repeat (first | (with_reducible first | exact HB.out | apply ze | apply zb | apply zd | refine zf ?_ GE363.out) | exact HB.out)⟩
      rw [if_neg c59] at H
      have c59b0 : (t397 == t395) = false := beq_eq_false_iff_ne.mpr c59
      have c59b1 : (t397 != t395) = true := bne_iff_ne.mpr c59
      obtain rfl := Option.some.inj H
      obtain ⟨Ao83, co83, eo83⟩ := Kd.R_slice HO_13.out
      subst eo83
      go_wp2_with (first | ((with_reducible refine zo (f := 20) rfl ?_); refine zaa (some 78) rfl rfl Try.func20 (by kernel_rfl) rfl #[.slice Ao83 t383.length co83, .int .i64 1] rfl (by (try simp only [List.map_toArray, List.map_cons, List.map_nil]); first | done | rfl | (simp only [List.length_drop, List.length_take]; rfl)) ?_; (with_reducible refine (laws_markNodeS.calls kj38 (fun k_ => some k_ = (.slice Ao83 t383.length co83 : Value).ownBlock) (.slice Ao83 t383.length co83) t383 1 t395 t396 w _ ?side1 ?side2 A54.out).mono ?_); (case side1 => repeat (first | (with_reducible first | exact HB.out | apply ze | apply zb | apply zd | refine zf ?_ GE363.out) | exact HB.out)); (case side2 => exact Kd.R_tight rfl HO_13.out); rintro e w84 ⟨rfl, hy0, hb, hkp⟩; refine ⟨_, rfl, ?_⟩; have n0_ := zc.mk (Kd.R_mono (ok' := fun k_ => some k_ ≠ (.slice Ao83 t383.length co83 : Value).ownBlock) (Kd.R_keptB (HO_10.out) hkp (fun k_ hk_ hs_ => (hk_) hs_)) (fun k_ hk_ => hk_.1)); have n1_ := zc.mk (Kd.R_reok rfl hy0 (fun k_ e_ => HO_13.out.1 k_ e_)); have n2_ := zc.mk (zvc (by (with_reducible repeat (first | refine zg ?_ _ | refine zi ?_ | refine zh ?_ _)); exact BK363.out) hkp (fun hs_ => (fun e_ => (Kd.R_ne HO_13.out BK363.out (by decide)) e_) hs_)); have n3_ := zc.mk (hb); clear HO_10; clear HO_13; clear BK363; clear HB; have HO_10 := n0_; have HO_13 := n1_; have BK363 := n2_; have HB := n3_; clear n0_ n1_ n2_ n3_; (try clear hb); (try clear hkp); (try clear hy0)) | ((with_reducible refine zo (f := 21) rfl ?_); refine zaa (some 81) rfl rfl Try.func21 (by kernel_rfl) rfl #[.slice Ao83 t396.length co83, .int .i64 1] rfl (by (try simp only [List.map_toArray, List.map_cons, List.map_nil]); first | done | (rw [show t396.length = t383.length from (Kd.R_reads' HO_13.out).1.symm] <;> rfl) | rfl | (simp only [List.length_drop, List.length_take]; rfl)) ?_; (with_reducible refine (laws_heldNodeS.calls kj38 _ _ t396 1 t397 _ ?side1 ?side2 A55.out).mono ?_); (case side1 => repeat (first | exact (Kd.R_reads' HO_13.out).2.2 | (with_reducible refine Kd.C_alloc ?_ _) | (with_reducible refine Kd.C_drewN ?_ _) | (with_reducible refine Kd.C_drew ?_))); (case side2 => rw [show t396.length = t383.length from (Kd.R_reads' HO_13.out).1.symm]; exact (Kd.R_reads' HO_13.out).2.1); rintro e w' ⟨rfl, ⟨nd, rfl⟩⟩; refine ⟨_, rfl, ?_⟩))
      go_ret
      exact ⟨by first | rfl | (simp [zj, zk] <;> rfl) | (simp [*, zj, zk] <;> rfl), by repeat (first | (with_reducible first | exact HB.out | apply ze | apply zb | apply zd | refine zf ?_ GE363.out) | exact HB.out)⟩
   replace c37 := Bool.eq_false_iff.mpr c37
   subst c37
   have H1 : (some false) = some r := by rw [if_neg (show ¬ (false = true) by decide)] at H; exact H
   clear H
   have H := H1
   clear H1
   obtain rfl := Option.some.inj H
   go_wp2_with (first | ((with_reducible refine zo (f := 11) rfl ?_); refine zaa (some 57) rfl rfl Try.func11 (by kernel_rfl) rfl #[.slice A1 l1.length c1] rfl (by (try simp only [List.map_toArray, List.map_cons, List.map_nil]); first | done | rfl | (simp only [List.length_drop, List.length_take]; rfl)) ?_; (with_reducible refine (laws_toNodeS.calls kj13 _ _ l1 t388 _ ?side1 ?side2 A35.out).mono ?_); (case side1 => repeat (first | exact (Kd.C_below HR1.out HB.out) | (with_reducible refine Kd.C_alloc ?_ _) | (with_reducible refine Kd.C_drewN ?_ _) | (with_reducible refine Kd.C_drew ?_))); (case side2 => exact HC1.out); rintro e w85 ⟨v389, rfl, ho0, hb⟩; refine ⟨_, rfl, ?_⟩; have n0_ := zc.mk (Kd.R_elder' (by (with_reducible repeat (first | apply Kd.R_alloc | apply Kd.R_drewN | apply Kd.R_drew)); exact HO_10.out) (Kd.R_base ho0) hb); have n1_ := zc.mk (Kd.R_elder' (by (with_reducible repeat (first | apply Kd.R_alloc | apply Kd.R_drewN | apply Kd.R_drew)); exact HO_12.out) (Kd.R_base ho0) hb); have n2_ := zc.mk (Kd.R_elder' (by (with_reducible repeat (first | apply Kd.R_alloc | apply Kd.R_drewN | apply Kd.R_drew)); exact HO_13.out) (Kd.R_base ho0) hb); have n3_ := zc.mk (Kd.R_lower (Kd.R_new' (Kd.R_new' (Kd.R_new' ho0 (Kd.R_lt (by (with_reducible repeat (first | apply Kd.R_alloc | apply Kd.R_drewN | apply Kd.R_drew)); exact HO_10.out))) (Kd.R_lt (by (with_reducible repeat (first | apply Kd.R_alloc | apply Kd.R_drewN | apply Kd.R_drew)); exact HO_12.out))) (Kd.R_lt (by (with_reducible repeat (first | apply Kd.R_alloc | apply Kd.R_drewN | apply Kd.R_drew)); exact HO_13.out))) (zz (by repeat (first | (with_reducible first | exact HB.out | apply ze | apply zb | apply zd | refine zf ?_ GE363.out) | exact HB.out)))); have n4_ := zc.mk (zn (by (with_reducible repeat (first | refine zg ?_ _ | refine zi ?_ | refine zh ?_ _)); exact BK363.out) hb); have n5_ := zc.mk (zq (by repeat (first | (with_reducible first | exact HB.out | apply ze | apply zb | apply zd | refine zf ?_ GE363.out) | exact HB.out)) hb); clear HO_10; clear HO_12; clear HO_13; clear BK363; clear HB; have HO_10 := n0_; have HO_12 := n1_; have HO_13 := n2_; have HO390 := n3_; have BK363 := n4_; have HB := n5_; clear n0_ n1_ n2_ n3_ n4_ n5_; (try clear hb); (try clear hb2); (try clear hk); (try clear hi); (try clear ho0); obtain ⟨Ao86, co86, eo86⟩ := Kd.R_slice HO390.out; subst eo86) | ((with_reducible refine zo (f := 13) rfl ?_); refine zaa (some 58) rfl rfl Try.func13 (by kernel_rfl) rfl #[.slice Ao24 t376.length co24, .slice Ao86 t388.length co86] rfl (by (try simp only [List.map_toArray, List.map_cons, List.map_nil]); first | done | rfl | (simp only [List.length_drop, List.length_take]; rfl)) ?_; (with_reducible refine (laws_eqNodeS.calls kj13 _ _ t376 _ _ t388 false _ ?side1 ?side2 ?side3 ?side4 A36.out).mono ?_); (case side1 => repeat (first | exact (Kd.R_reads' HO_12.out).2.2 | (with_reducible refine Kd.C_alloc ?_ _) | (with_reducible refine Kd.C_drewN ?_ _) | (with_reducible refine Kd.C_drew ?_))); (case side2 => exact (Kd.R_reads' HO_12.out).2.1); (case side3 => repeat (first | exact (Kd.R_reads' HO390.out).2.2 | (with_reducible refine Kd.C_alloc ?_ _) | (with_reducible refine Kd.C_drewN ?_ _) | (with_reducible refine Kd.C_drew ?_))); (case side4 => exact (Kd.R_reads' HO390.out).2.1); rintro e w87 ⟨rfl, hb⟩; refine ⟨_, rfl, ?_⟩; have n0_ := zc.mk (Kd.R_below (by (with_reducible repeat (first | apply Kd.R_alloc | apply Kd.R_drewN | apply Kd.R_drew)); exact HO_10.out) hb); have n1_ := zc.mk (Kd.R_below (by (with_reducible repeat (first | apply Kd.R_alloc | apply Kd.R_drewN | apply Kd.R_drew)); exact HO_12.out) hb); have n2_ := zc.mk (Kd.R_below (by (with_reducible repeat (first | apply Kd.R_alloc | apply Kd.R_drewN | apply Kd.R_drew)); exact HO_13.out) hb); have n3_ := zc.mk (Kd.R_below (by (with_reducible repeat (first | apply Kd.R_alloc | apply Kd.R_drewN | apply Kd.R_drew)); exact HO390.out) hb); have n4_ := zc.mk (zn (by (with_reducible repeat (first | refine zg ?_ _ | refine zi ?_ | refine zh ?_ _)); exact BK363.out) hb); have n5_ := zc.mk (zq (by repeat (first | (with_reducible first | exact HB.out | apply ze | apply zb | apply zd | refine zf ?_ GE363.out) | exact HB.out)) hb); clear HO_10; clear HO_12; clear HO_13; clear HO390; clear BK363; clear HB; have HO_10 := n0_; have HO_12 := n1_; have HO_13 := n2_; have HO390 := n3_; have BK363 := n4_; have HB := n5_; clear n0_ n1_ n2_ n3_ n4_ n5_; (try clear hb); (try clear hb2); (try clear hk); (try clear hi)))
   go_ret
   exact ⟨by first | rfl | (simp [zj, zk] <;> rfl) | (simp [*, zj, zk] <;> rfl), by repeat (first | (with_reducible first | exact HB.out | apply ze | apply zb | apply zd | refine zf ?_ GE363.out) | exact HB.out)⟩
end Go.Proofs.Ytmmonhpjjjdnjaa.V
