-- Written by wip/tools/myprint.py, a program of this session, by way of the kit's print.
import Derived.Test.YteciomagemjjaaaJx0
import Derived.Test.YteciomagemjjaaaJx6
import Derived.Test.YteciomagemjjaaaJx13
import Derived.Test.YteciomagemjjaaaJx14
import Derived.Test.YteciomagemjjaaaJx15
import Derived.Test.YteciomagemjjaaaLReachJ
namespace Go.Proofs.Yteciomagemjjaaa.J
open Go.RowKit Go.Proofs.YteciomagemjjaaaW.PrintWords Go.Proofs.YteciomagemjjaaaW.PrintLast Go.Proofs.YteciomagemjjaaaW.PrintMore
attribute [local go_sem] zoa zma max_two min_two zha zga zna zla   -- for this text's walks alone
set_option linter.unusedVariables false
set_option linter.unusedSimpArgs false

/-! ### laws_FnExactReachedStates: function 4 -/
def laws_FnExactReachedStates.j0 : Nat → Bool → List Int → Int → Int → Int → Int → Bool → List Int → Int → Int → Int → Int → Bool → Option (Bool)
 | 0, _, _, _, _, _, _, _, _, _, _, _, _, _ => none
 | k + 1, x34, x254000, x254001, x254002, x254003, x254004, x254005, x274000, x274001, x274002, x274003, x274004, x274005 => if x34 = true then (some false) else ((laws_toPuzzle.f k x254000 x254001 x254002 x254003 x254004 x254005).bind fun bt276 => ((laws_eqPuzzle.f k x274000 x274001 x274002 x274003 x274004 x274005 bt276.1 bt276.2.1 bt276.2.2.1 bt276.2.2.2.1 bt276.2.2.2.2.1 bt276.2.2.2.2.2).bind fun t284 => (if t284 = true then (some true) else (some false))))
def laws_FnExactReachedStates.f (k : Nat) (l0_0 : List Int) (a0_1 : Int) (a0_2 : Int) (a0_3 : Int) (a0_4 : Int) (a0_5 : Bool) : Option (Bool) := (laws_szPuzzle.f l0_0 a0_1 a0_2 a0_3 a0_4 a0_5 1048576).bind fun t254 => (if t254 < 0 then (some true) else ((laws_toPuzzle.f k l0_0 a0_1 a0_2 a0_3 a0_4 a0_5).bind fun bt255 => ((spec_ReachedStates.f k bt255.1 bt255.2.1 bt255.2.2.1 bt255.2.2.2.1 bt255.2.2.2.2.1 bt255.2.2.2.2.2).bind fun bt263 => ((laws_toPuzzle.f k l0_0 a0_1 a0_2 a0_3 a0_4 a0_5).bind fun bt265 => ((impl_ReachedStates.f k bt265.1 bt265.2.1 bt265.2.2.1 bt265.2.2.2.1 bt265.2.2.2.2.1 bt265.2.2.2.2.2).bind fun bt274 => (if bt274.1 = bt263.1 then (laws_FnExactReachedStates.j0 k (bt274.2 != bt263.2) l0_0 a0_1 a0_2 a0_3 a0_4 a0_5 bt265.1 bt265.2.1 bt265.2.2.1 bt265.2.2.2.1 bt265.2.2.2.2.1 bt265.2.2.2.2.2) else (laws_FnExactReachedStates.j0 k true l0_0 a0_1 a0_2 a0_3 a0_4 a0_5 bt265.1 bt265.2.1 bt265.2.2.1 bt265.2.2.2.1 bt265.2.2.2.2.1 bt265.2.2.2.2.2)))))))
set_option maxHeartbeats 8000000 in
set_option maxRecDepth 100000 in
theorem laws_FnExactReachedStates.calls (k : Nat) (A0_0 : Option Addr) (c0_0 : Nat) (l0_0 : List Int) (a0_1 : Int) (a0_2 : Int) (a0_3 : Int) (a0_4 : Int) (a0_5 : Bool) (r : Bool) (w : World) (hr0_0 : Kd.C (Kd.int .i16) w A0_0 l0_0.length l0_0) (hc0_0 : l0_0.length ≤ c0_0) (h : laws_FnExactReachedStates.f k l0_0 a0_1 a0_2 a0_3 a0_4 a0_5 = some r) :
  Calls Try.prog 4 #[.agg #[.slice A0_0 l0_0.length c0_0, .int .i16 a0_1, .int .i16 a0_2, .int .i16 a0_3, .int .i16 a0_4, .bool a0_5]] w fun e w' => e = .returned (.bool r) ∧ Below w.heap.size w w' := by
 have hu53 := Try.underlying53
 have hu29 := Try.underlying29
 have HR0_0 := zf.mk hr0_0
 have HC0_0 := zf.mk hc0_0
 clear hr0_0 hc0_0
 have HB := zf.mk (Below.refl w.heap.size w)
 have H : ((laws_szPuzzle.f l0_0 a0_1 a0_2 a0_3 a0_4 a0_5 1048576).bind fun t254 => (if t254 < 0 then (some true) else ((laws_toPuzzle.f k l0_0 a0_1 a0_2 a0_3 a0_4 a0_5).bind fun bt255 => ((spec_ReachedStates.f k bt255.1 bt255.2.1 bt255.2.2.1 bt255.2.2.2.1 bt255.2.2.2.2.1 bt255.2.2.2.2.2).bind fun bt263 => ((laws_toPuzzle.f k l0_0 a0_1 a0_2 a0_3 a0_4 a0_5).bind fun bt265 => ((impl_ReachedStates.f k bt265.1 bt265.2.1 bt265.2.2.1 bt265.2.2.2.1 bt265.2.2.2.2.1 bt265.2.2.2.2.2).bind fun bt274 => (if bt274.1 = bt263.1 then (laws_FnExactReachedStates.j0 k (bt274.2 != bt263.2) l0_0 a0_1 a0_2 a0_3 a0_4 a0_5 bt265.1 bt265.2.1 bt265.2.2.1 bt265.2.2.2.1 bt265.2.2.2.2.1 bt265.2.2.2.2.2) else (laws_FnExactReachedStates.j0 k true l0_0 a0_1 a0_2 a0_3 a0_4 a0_5 bt265.1 bt265.2.1 bt265.2.2.1 bt265.2.2.2.1 bt265.2.2.2.2.1 bt265.2.2.2.2.2)))))))) = some r := h
 clear h
 replace H := Option.bind_eq_some_iff.mp H
 obtain ⟨t254, A20, H⟩ := H
 replace H : (if t254 < 0 then (some true) else ((laws_toPuzzle.f k l0_0 a0_1 a0_2 a0_3 a0_4 a0_5).bind fun bt255 => ((spec_ReachedStates.f k bt255.1 bt255.2.1 bt255.2.2.1 bt255.2.2.2.1 bt255.2.2.2.2.1 bt255.2.2.2.2.2).bind fun bt263 => ((laws_toPuzzle.f k l0_0 a0_1 a0_2 a0_3 a0_4 a0_5).bind fun bt265 => ((impl_ReachedStates.f k bt265.1 bt265.2.1 bt265.2.2.1 bt265.2.2.2.1 bt265.2.2.2.2.1 bt265.2.2.2.2.2).bind fun bt274 => (if bt274.1 = bt263.1 then (laws_FnExactReachedStates.j0 k (bt274.2 != bt263.2) l0_0 a0_1 a0_2 a0_3 a0_4 a0_5 bt265.1 bt265.2.1 bt265.2.2.1 bt265.2.2.2.1 bt265.2.2.2.2.1 bt265.2.2.2.2.2) else (laws_FnExactReachedStates.j0 k true l0_0 a0_1 a0_2 a0_3 a0_4 a0_5 bt265.1 bt265.2.1 bt265.2.2.1 bt265.2.2.2.1 bt265.2.2.2.2.1 bt265.2.2.2.2.2))))))) = some r := H
 have A2 := zf.mk A20
 clear A20
 by_cases c3 : t254 < 0
 ·rw [if_pos c3] at H
  have c3b0 : decide (t254 < 0) = true := decide_eq_true c3
  clear c3
  obtain rfl := Option.some.inj H
  go_enter Try.func4, Try.ntmps4
  go_wp2_with (first | ((with_reducible refine zx (N := 1) rfl ?_); refine zt ?hg (N := 1) ?hd (cs := #[.slice A0_0 l0_0.length c0_0, .int .i16 a0_1, .int .i16 a0_2, .int .i16 a0_3, .int .i16 a0_4, .bool a0_5]) (t := 53) ?hr ?_; (case hd => rfl); (case hg => rfl); (case hr => first | (go_simp; done) | (go_simp; rfl)); intro gb253 hg w4 hbox hb; have n0_ := zf.mk (zm (by repeat (first | (with_reducible first | exact HB.out | apply zh | apply zc | apply zk) | exact HB.out)) hb); have n1_ := zf.mk (hbox); have n2_ := zf.mk ((by rw [hg]; exact (zn (by repeat (first | (with_reducible first | exact HB.out | apply zh | apply zc | apply zk) | exact HB.out))) : w.heap.size ≤ gb253)); have n3_ := n2_; clear HB; have HB := n0_; have BK253 := n1_; have GW253 := n2_; have GE253 := n3_; clear n0_ n1_ n2_ n3_; clear hb hbox hg; have hcz5_0 : w4.cell? ⟨gb253, 0, none⟩ = some (.slice A0_0 l0_0.length c0_0) := (za BK253.out 0).trans rfl; have hcz5_1 : w4.cell? ⟨gb253, 1, none⟩ = some (.int .i16 a0_1) := (za BK253.out 1).trans rfl; have hcz5_2 : w4.cell? ⟨gb253, 2, none⟩ = some (.int .i16 a0_2) := (za BK253.out 2).trans rfl; have hcz5_3 : w4.cell? ⟨gb253, 3, none⟩ = some (.int .i16 a0_3) := (za BK253.out 3).trans rfl; have hcz5_4 : w4.cell? ⟨gb253, 4, none⟩ = some (.int .i16 a0_4) := (za BK253.out 4).trans rfl; have hcz5_5 : w4.cell? ⟨gb253, 5, none⟩ = some (.bool a0_5) := (za BK253.out 5).trans rfl; have hfz5_0 := zb BK253.out 0; have hfz5_1 := zb BK253.out 1; have hfz5_2 := zb BK253.out 2; have hfz5_3 := zb BK253.out 3; have hfz5_4 := zb BK253.out 4; have hfz5_5 := zb BK253.out 5) | ((with_reducible refine zs (f := 32) rfl ?_); refine zea (some 11) rfl rfl Try.func32 (by kernel_rfl) rfl #[.agg #[.slice A0_0 l0_0.length c0_0, .int .i16 a0_1, .int .i16 a0_2, .int .i16 a0_3, .int .i16 a0_4, .bool a0_5], .int .i64 1048576] rfl (by (try simp only [List.map_toArray, List.map_cons, List.map_nil]); first | done | rfl | (simp only [List.length_drop, List.length_take]; rfl)) ?_; (with_reducible refine (laws_szPuzzle.calls _ _ l0_0 a0_1 a0_2 a0_3 a0_4 a0_5 1048576 t254 _ ?side1 ?side2 A2.out).mono ?_); (case side1 => repeat (first | exact (Kd.C_below HR0_0.out HB.out) | (with_reducible refine Kd.C_alloc ?_ _) | (with_reducible refine Kd.C_drewN ?_ _) | (with_reducible refine Kd.C_drew ?_))); (case side2 => exact HC0_0.out); rintro e w6 ⟨rfl, hb⟩; refine ⟨_, rfl, ?_⟩; have n0_ := zf.mk (zl (by (with_reducible repeat (first | refine ze ?_ _ | refine zi ?_ | refine zg ?_ _)); exact BK253.out) hb); have n1_ := zf.mk (zm (by repeat (first | (with_reducible first | exact HB.out | apply zh | apply zc | apply zk | refine zj ?_ GE253.out) | exact HB.out)) hb); clear BK253; clear HB; have BK253 := n0_; have HB := n1_; clear n0_ n1_; (try clear hb); (try clear hb2); (try clear hk); (try clear hi)))
  go_ret
  exact ⟨by first | rfl | (simp [errW_none, errW_some] <;> rfl) | (simp [*, errW_none, errW_some] <;> rfl), by repeat (first | (with_reducible first | exact HB.out | apply zh | apply zc | apply zk | refine zj ?_ GE253.out) | exact HB.out)⟩
 rw [if_neg c3] at H
 have c3b0 : decide (t254 < 0) = false := decide_eq_false c3
 clear c3
 replace H := Option.bind_eq_some_iff.mp H
 obtain ⟨⟨t255, t258, t259, t260, t261, t262⟩, A70, H⟩ := H
 replace H : ((spec_ReachedStates.f k t255 t258 t259 t260 t261 t262).bind fun bt263 => ((laws_toPuzzle.f k l0_0 a0_1 a0_2 a0_3 a0_4 a0_5).bind fun bt265 => ((impl_ReachedStates.f k bt265.1 bt265.2.1 bt265.2.2.1 bt265.2.2.2.1 bt265.2.2.2.2.1 bt265.2.2.2.2.2).bind fun bt274 => (if bt274.1 = bt263.1 then (laws_FnExactReachedStates.j0 k (bt274.2 != bt263.2) l0_0 a0_1 a0_2 a0_3 a0_4 a0_5 bt265.1 bt265.2.1 bt265.2.2.1 bt265.2.2.2.1 bt265.2.2.2.2.1 bt265.2.2.2.2.2) else (laws_FnExactReachedStates.j0 k true l0_0 a0_1 a0_2 a0_3 a0_4 a0_5 bt265.1 bt265.2.1 bt265.2.2.1 bt265.2.2.2.1 bt265.2.2.2.2.1 bt265.2.2.2.2.2))))) = some r := H
 have A7 := zf.mk A70
 clear A70
 replace H := Option.bind_eq_some_iff.mp H
 obtain ⟨⟨t263, t264⟩, A80, H⟩ := H
 replace H : ((laws_toPuzzle.f k l0_0 a0_1 a0_2 a0_3 a0_4 a0_5).bind fun bt265 => ((impl_ReachedStates.f k bt265.1 bt265.2.1 bt265.2.2.1 bt265.2.2.2.1 bt265.2.2.2.2.1 bt265.2.2.2.2.2).bind fun bt274 => (if bt274.1 = t263 then (laws_FnExactReachedStates.j0 k (bt274.2 != t264) l0_0 a0_1 a0_2 a0_3 a0_4 a0_5 bt265.1 bt265.2.1 bt265.2.2.1 bt265.2.2.2.1 bt265.2.2.2.2.1 bt265.2.2.2.2.2) else (laws_FnExactReachedStates.j0 k true l0_0 a0_1 a0_2 a0_3 a0_4 a0_5 bt265.1 bt265.2.1 bt265.2.2.1 bt265.2.2.2.1 bt265.2.2.2.2.1 bt265.2.2.2.2.2)))) = some r := H
 have A8 := zf.mk A80
 clear A80
 replace H := Option.bind_eq_some_iff.mp H
 obtain ⟨⟨t265, t268, t269, t270, t271, t272⟩, A90, H⟩ := H
 replace H : ((impl_ReachedStates.f k t265 t268 t269 t270 t271 t272).bind fun bt274 => (if bt274.1 = t263 then (laws_FnExactReachedStates.j0 k (bt274.2 != t264) l0_0 a0_1 a0_2 a0_3 a0_4 a0_5 t265 t268 t269 t270 t271 t272) else (laws_FnExactReachedStates.j0 k true l0_0 a0_1 a0_2 a0_3 a0_4 a0_5 t265 t268 t269 t270 t271 t272))) = some r := H
 have A9 := zf.mk A90
 clear A90
 replace H := Option.bind_eq_some_iff.mp H
 obtain ⟨⟨t274, t275⟩, A100, H⟩ := H
 replace H : (if t274 = t263 then (laws_FnExactReachedStates.j0 k (t275 != t264) l0_0 a0_1 a0_2 a0_3 a0_4 a0_5 t265 t268 t269 t270 t271 t272) else (laws_FnExactReachedStates.j0 k true l0_0 a0_1 a0_2 a0_3 a0_4 a0_5 t265 t268 t269 t270 t271 t272)) = some r := H
 have A10 := zf.mk A100
 clear A100
 have HC11 := zf.mk H
 clear H
 go_enter Try.func4, Try.ntmps4
 go_upto_region 8 with (first | ((with_reducible refine zx (N := 1) rfl ?_); refine zt ?hg (N := 1) ?hd (cs := #[.slice A0_0 l0_0.length c0_0, .int .i16 a0_1, .int .i16 a0_2, .int .i16 a0_3, .int .i16 a0_4, .bool a0_5]) (t := 53) ?hr ?_; (case hd => rfl); (case hg => rfl); (case hr => first | (go_simp; done) | (go_simp; rfl)); intro gb253 hg w12 hbox hb; have n0_ := zf.mk (zm (by repeat (first | (with_reducible first | exact HB.out | apply zh | apply zc | apply zk) | exact HB.out)) hb); have n1_ := zf.mk (hbox); have n2_ := zf.mk ((by rw [hg]; exact (zn (by repeat (first | (with_reducible first | exact HB.out | apply zh | apply zc | apply zk) | exact HB.out))) : w.heap.size ≤ gb253)); have n3_ := n2_; clear HB; have HB := n0_; have BK253 := n1_; have GW253 := n2_; have GE253 := n3_; clear n0_ n1_ n2_ n3_; clear hb hbox hg; have hcz13_0 : w12.cell? ⟨gb253, 0, none⟩ = some (.slice A0_0 l0_0.length c0_0) := (za BK253.out 0).trans rfl; have hcz13_1 : w12.cell? ⟨gb253, 1, none⟩ = some (.int .i16 a0_1) := (za BK253.out 1).trans rfl; have hcz13_2 : w12.cell? ⟨gb253, 2, none⟩ = some (.int .i16 a0_2) := (za BK253.out 2).trans rfl; have hcz13_3 : w12.cell? ⟨gb253, 3, none⟩ = some (.int .i16 a0_3) := (za BK253.out 3).trans rfl; have hcz13_4 : w12.cell? ⟨gb253, 4, none⟩ = some (.int .i16 a0_4) := (za BK253.out 4).trans rfl; have hcz13_5 : w12.cell? ⟨gb253, 5, none⟩ = some (.bool a0_5) := (za BK253.out 5).trans rfl; have hfz13_0 := zb BK253.out 0; have hfz13_1 := zb BK253.out 1; have hfz13_2 := zb BK253.out 2; have hfz13_3 := zb BK253.out 3; have hfz13_4 := zb BK253.out 4; have hfz13_5 := zb BK253.out 5) | ((with_reducible refine zs (f := 32) rfl ?_); refine zea (some 11) rfl rfl Try.func32 (by kernel_rfl) rfl #[.agg #[.slice A0_0 l0_0.length c0_0, .int .i16 a0_1, .int .i16 a0_2, .int .i16 a0_3, .int .i16 a0_4, .bool a0_5], .int .i64 1048576] rfl (by (try simp only [List.map_toArray, List.map_cons, List.map_nil]); first | done | rfl | (simp only [List.length_drop, List.length_take]; rfl)) ?_; (with_reducible refine (laws_szPuzzle.calls _ _ l0_0 a0_1 a0_2 a0_3 a0_4 a0_5 1048576 t254 _ ?side1 ?side2 A2.out).mono ?_); (case side1 => repeat (first | exact (Kd.C_below HR0_0.out HB.out) | (with_reducible refine Kd.C_alloc ?_ _) | (with_reducible refine Kd.C_drewN ?_ _) | (with_reducible refine Kd.C_drew ?_))); (case side2 => exact HC0_0.out); rintro e w14 ⟨rfl, hb⟩; refine ⟨_, rfl, ?_⟩; have n0_ := zf.mk (zl (by (with_reducible repeat (first | refine ze ?_ _ | refine zi ?_ | refine zg ?_ _)); exact BK253.out) hb); have n1_ := zf.mk (zm (by repeat (first | (with_reducible first | exact HB.out | apply zh | apply zc | apply zk | refine zj ?_ GE253.out) | exact HB.out)) hb); clear BK253; clear HB; have BK253 := n0_; have HB := n1_; clear n0_ n1_; (try clear hb); (try clear hb2); (try clear hk); (try clear hi); have hcz15_0 : w14.cell? ⟨gb253, 0, none⟩ = some (.slice A0_0 l0_0.length c0_0) := (za BK253.out 0).trans rfl; have hcz15_1 : w14.cell? ⟨gb253, 1, none⟩ = some (.int .i16 a0_1) := (za BK253.out 1).trans rfl; have hcz15_2 : w14.cell? ⟨gb253, 2, none⟩ = some (.int .i16 a0_2) := (za BK253.out 2).trans rfl; have hcz15_3 : w14.cell? ⟨gb253, 3, none⟩ = some (.int .i16 a0_3) := (za BK253.out 3).trans rfl; have hcz15_4 : w14.cell? ⟨gb253, 4, none⟩ = some (.int .i16 a0_4) := (za BK253.out 4).trans rfl; have hcz15_5 : w14.cell? ⟨gb253, 5, none⟩ = some (.bool a0_5) := (za BK253.out 5).trans rfl; have hfz15_0 := zb BK253.out 0; have hfz15_1 := zb BK253.out 1; have hfz15_2 := zb BK253.out 2; have hfz15_3 := zb BK253.out 3; have hfz15_4 := zb BK253.out 4; have hfz15_5 := zb BK253.out 5) | ((with_reducible refine zs (f := 34) rfl ?_); refine zea (some 16) rfl rfl Try.func34 (by kernel_rfl) rfl #[.agg #[.slice A0_0 l0_0.length c0_0, .int .i16 a0_1, .int .i16 a0_2, .int .i16 a0_3, .int .i16 a0_4, .bool a0_5]] rfl (by (try simp only [List.map_toArray, List.map_cons, List.map_nil]); first | done | rfl | (simp only [List.length_drop, List.length_take]; rfl)) ?_; (with_reducible refine (laws_toPuzzle.calls k _ _ l0_0 a0_1 a0_2 a0_3 a0_4 a0_5 t255 t258 t259 t260 t261 t262 _ ?side1 ?side2 A7.out).mono ?_); (case side1 => repeat (first | exact (Kd.C_below HR0_0.out HB.out) | (with_reducible refine Kd.C_alloc ?_ _) | (with_reducible refine Kd.C_drewN ?_ _) | (with_reducible refine Kd.C_drew ?_))); (case side2 => exact HC0_0.out); rintro e w16 ⟨v256, rfl, ho0, hb⟩; refine ⟨_, rfl, ?_⟩; have n0_ := zf.mk (Kd.R_lower ho0 (zn (by repeat (first | (with_reducible first | exact HB.out | apply zh | apply zc | apply zk | refine zj ?_ GE253.out) | exact HB.out)))); have n1_ := zf.mk (zl (by (with_reducible repeat (first | refine ze ?_ _ | refine zi ?_ | refine zg ?_ _)); exact BK253.out) hb); have n2_ := zf.mk (zm (by repeat (first | (with_reducible first | exact HB.out | apply zh | apply zc | apply zk | refine zj ?_ GE253.out) | exact HB.out)) hb); clear BK253; clear HB; have HO257 := n0_; have BK253 := n1_; have HB := n2_; clear n0_ n1_ n2_; (try clear hb); (try clear hb2); (try clear hk); (try clear hi); (try clear ho0); obtain ⟨Ao17, co17, eo17⟩ := Kd.R_slice HO257.out; subst eo17) | ((with_reducible refine zs (f := 33) rfl ?_); refine zea (some 17) rfl rfl Try.func33 (by kernel_rfl) rfl #[.agg #[.slice Ao17 t255.length co17, .int .i16 t258, .int .i16 t259, .int .i16 t260, .int .i16 t261, .bool t262]] rfl (by (try simp only [List.map_toArray, List.map_cons, List.map_nil]); first | done | rfl | (simp only [List.length_drop, List.length_take]; rfl)) ?_; (with_reducible refine (spec_ReachedStates.calls k _ _ t255 t258 t259 t260 t261 t262 t263 t264 _ ?side1 ?side2 A8.out).mono ?_); (case side1 => repeat (first | exact (Kd.R_reads' HO257.out).2.2 | (with_reducible refine Kd.C_alloc ?_ _) | (with_reducible refine Kd.C_drewN ?_ _) | (with_reducible refine Kd.C_drew ?_))); (case side2 => exact (Kd.R_reads' HO257.out).2.1); rintro e w18 ⟨rfl, hb⟩; refine ⟨_, rfl, ?_⟩; have n0_ := zf.mk (Kd.R_below (by (with_reducible repeat (first | apply Kd.R_alloc | apply Kd.R_drewN | apply Kd.R_drew)); exact HO257.out) hb); have n1_ := zf.mk (zl (by (with_reducible repeat (first | refine ze ?_ _ | refine zi ?_ | refine zg ?_ _)); exact BK253.out) hb); have n2_ := zf.mk (zm (by repeat (first | (with_reducible first | exact HB.out | apply zh | apply zc | apply zk | refine zj ?_ GE253.out) | exact HB.out)) hb); clear HO257; clear BK253; clear HB; have HO257 := n0_; have BK253 := n1_; have HB := n2_; clear n0_ n1_ n2_; (try clear hb); (try clear hb2); (try clear hk); (try clear hi); have hcz19_0 : w18.cell? ⟨gb253, 0, none⟩ = some (.slice A0_0 l0_0.length c0_0) := (za BK253.out 0).trans rfl; have hcz19_1 : w18.cell? ⟨gb253, 1, none⟩ = some (.int .i16 a0_1) := (za BK253.out 1).trans rfl; have hcz19_2 : w18.cell? ⟨gb253, 2, none⟩ = some (.int .i16 a0_2) := (za BK253.out 2).trans rfl; have hcz19_3 : w18.cell? ⟨gb253, 3, none⟩ = some (.int .i16 a0_3) := (za BK253.out 3).trans rfl; have hcz19_4 : w18.cell? ⟨gb253, 4, none⟩ = some (.int .i16 a0_4) := (za BK253.out 4).trans rfl; have hcz19_5 : w18.cell? ⟨gb253, 5, none⟩ = some (.bool a0_5) := (za BK253.out 5).trans rfl; have hfz19_0 := zb BK253.out 0; have hfz19_1 := zb BK253.out 1; have hfz19_2 := zb BK253.out 2; have hfz19_3 := zb BK253.out 3; have hfz19_4 := zb BK253.out 4; have hfz19_5 := zb BK253.out 5) | ((with_reducible refine zs (f := 34) rfl ?_); refine zea (some 21) rfl rfl Try.func34 (by kernel_rfl) rfl #[.agg #[.slice A0_0 l0_0.length c0_0, .int .i16 a0_1, .int .i16 a0_2, .int .i16 a0_3, .int .i16 a0_4, .bool a0_5]] rfl (by (try simp only [List.map_toArray, List.map_cons, List.map_nil]); first | done | rfl | (simp only [List.length_drop, List.length_take]; rfl)) ?_; (with_reducible refine (laws_toPuzzle.calls k _ _ l0_0 a0_1 a0_2 a0_3 a0_4 a0_5 t265 t268 t269 t270 t271 t272 _ ?side1 ?side2 A9.out).mono ?_); (case side1 => repeat (first | exact (Kd.C_below HR0_0.out HB.out) | (with_reducible refine Kd.C_alloc ?_ _) | (with_reducible refine Kd.C_drewN ?_ _) | (with_reducible refine Kd.C_drew ?_))); (case side2 => exact HC0_0.out); rintro e w20 ⟨v266, rfl, ho0, hb⟩; refine ⟨_, rfl, ?_⟩; have n0_ := zf.mk (Kd.R_elder' (by (with_reducible repeat (first | apply Kd.R_alloc | apply Kd.R_drewN | apply Kd.R_drew)); exact HO257.out) (Kd.R_base ho0) hb); have n1_ := zf.mk (Kd.R_lower (Kd.R_new' ho0 (Kd.R_lt (by (with_reducible repeat (first | apply Kd.R_alloc | apply Kd.R_drewN | apply Kd.R_drew)); exact HO257.out))) (zn (by repeat (first | (with_reducible first | exact HB.out | apply zh | apply zc | apply zk | refine zj ?_ GE253.out) | exact HB.out)))); have n2_ := zf.mk (zl (by (with_reducible repeat (first | refine ze ?_ _ | refine zi ?_ | refine zg ?_ _)); exact BK253.out) hb); have n3_ := zf.mk (zm (by repeat (first | (with_reducible first | exact HB.out | apply zh | apply zc | apply zk | refine zj ?_ GE253.out) | exact HB.out)) hb); clear HO257; clear BK253; clear HB; have HO257 := n0_; have HO267 := n1_; have BK253 := n2_; have HB := n3_; clear n0_ n1_ n2_ n3_; (try clear hb); (try clear hb2); (try clear hk); (try clear hi); (try clear ho0)) | ((with_reducible refine zx (N := 6) rfl ?_); refine zt ?hg (N := 6) ?hd (cs := #[.slice none 0 0, .int .i16 0, .int .i16 0, .int .i16 0, .int .i16 0, .bool false]) (t := 29) ?hr ?_; (case hd => rfl); (case hg => rfl); (case hr => first | (go_simp; done) | (go_simp; rfl)); intro gb273 hg w21 hbox hb; have n0_ := zf.mk (Kd.R_below (by (with_reducible repeat (first | apply Kd.R_alloc | apply Kd.R_drewN | apply Kd.R_drew)); exact HO257.out) hb); have n1_ := zf.mk (Kd.R_below (by (with_reducible repeat (first | apply Kd.R_alloc | apply Kd.R_drewN | apply Kd.R_drew)); exact HO267.out) hb); have n2_ := zf.mk (zl (by (with_reducible repeat (first | refine ze ?_ _ | refine zi ?_ | refine zg ?_ _)); exact BK253.out) hb); have n3_ := zf.mk (zm (by repeat (first | (with_reducible first | exact HB.out | apply zh | apply zc | apply zk | refine zj ?_ GE253.out) | exact HB.out)) hb); have n4_ := zf.mk (hbox); have n5_ := zf.mk ((by rw [hg]; exact (zn (by repeat (first | (with_reducible first | exact HB.out | apply zh | apply zc | apply zk | refine zj ?_ GE253.out) | exact HB.out))) : w.heap.size ≤ gb273)); have n6_ := n5_; have n7_ := zf.mk ((by rw [hg]; exact Nat.ne_of_lt (zaa (by (with_reducible repeat (first | refine ze ?_ _ | refine zi ?_ | refine zg ?_ _)); exact BK253.out)) : gb253 ≠ gb273)); have n8_ := zf.mk n7_.out.symm; clear HO257; clear HO267; clear BK253; clear HB; have HO257 := n0_; have HO267 := n1_; have BK253 := n2_; have HB := n3_; have BK273 := n4_; have GW273 := n5_; have GE273 := n6_; have NB253_273 := n7_; have NB273_253 := n8_; clear n0_ n1_ n2_ n3_ n4_ n5_ n6_ n7_ n8_; clear hb hbox hg; obtain ⟨Ao22, co22, eo22⟩ := Kd.R_slice HO267.out; subst eo22; have hnb23 := NB273_253.out; have hnc23 := NB253_273.out; have hcz24_0 : w21.cell? ⟨gb273, 0, none⟩ = some (.slice none 0 0) := (za BK273.out 0).trans rfl; have hcz24_1 : w21.cell? ⟨gb273, 1, none⟩ = some (.int .i16 0) := (za BK273.out 1).trans rfl; have hcz24_2 : w21.cell? ⟨gb273, 2, none⟩ = some (.int .i16 0) := (za BK273.out 2).trans rfl; have hcz24_3 : w21.cell? ⟨gb273, 3, none⟩ = some (.int .i16 0) := (za BK273.out 3).trans rfl; have hcz24_4 : w21.cell? ⟨gb273, 4, none⟩ = some (.int .i16 0) := (za BK273.out 4).trans rfl; have hcz24_5 : w21.cell? ⟨gb273, 5, none⟩ = some (.bool false) := (za BK273.out 5).trans rfl; have hfz24_0 := zb BK273.out 0; have hfz24_1 := zb BK273.out 1; have hfz24_2 := zb BK273.out 2; have hfz24_3 := zb BK273.out 3; have hfz24_4 := zb BK273.out 4; have hfz24_5 := zb BK273.out 5) | ((with_reducible refine zs (f := 30) rfl ?_); refine zea (some 24) rfl rfl Try.func30 (by kernel_rfl) rfl #[.agg #[.slice Ao22 t265.length co22, .int .i16 t268, .int .i16 t269, .int .i16 t270, .int .i16 t271, .bool t272]] rfl (by (try simp only [List.map_toArray, List.map_cons, List.map_nil]); first | done | rfl | (simp only [List.length_drop, List.length_take]; rfl)) ?_; (with_reducible refine (impl_ReachedStates.calls k _ _ t265 t268 t269 t270 t271 t272 t274 t275 _ ?side1 ?side2 A10.out).mono ?_); (case side1 => refine (Kd.R_reads' (e := 25) (base := w.heap.size) (ok := fun k_ => (True ∧ some k_ ≠ (.slice Ao17 t255.length co17 : Value).ownBlock)) (n := t265.length) (c := co22) ?_).2.2; exact (by (with_reducible repeat (first | apply Kd.R_alloc | apply Kd.R_drewN | apply Kd.R_drew)); exact (Kd.R_mono (Kd.R_far (p := ⟨gb273, 5, none⟩) (Kd.R_far (p := ⟨gb273, 4, none⟩) (Kd.R_far (p := ⟨gb273, 3, none⟩) (Kd.R_far (p := ⟨gb273, 2, none⟩) (Kd.R_far (p := ⟨gb273, 1, none⟩) (Kd.R_far (p := ⟨gb273, 0, none⟩) (Kd.R_types HO267.out BK273.out (by decide)) (fun _ hk => hk.2) (.slice Ao22 t265.length co22)) (fun _ hk => hk.2) (.int .i16 t268)) (fun _ hk => hk.2) (.int .i16 t269)) (fun _ hk => hk.2) (.int .i16 t270)) (fun _ hk => hk.2) (.int .i16 t271)) (fun _ hk => hk.2) (.bool t272)) (fun _ h_ => h_.1)))); (case side2 => exact (Kd.R_reads' HO267.out).2.1); rintro e w25 ⟨rfl, hb⟩; refine ⟨_, rfl, ?_⟩; have n0_ := zf.mk (Kd.R_below (by (with_reducible repeat (first | apply Kd.R_alloc | apply Kd.R_drewN | apply Kd.R_drew)); exact (Kd.R_mono (Kd.R_far (p := ⟨gb273, 5, none⟩) (Kd.R_far (p := ⟨gb273, 4, none⟩) (Kd.R_far (p := ⟨gb273, 3, none⟩) (Kd.R_far (p := ⟨gb273, 2, none⟩) (Kd.R_far (p := ⟨gb273, 1, none⟩) (Kd.R_far (p := ⟨gb273, 0, none⟩) (Kd.R_types HO257.out BK273.out (by decide)) (fun _ hk => hk.2) (.slice Ao22 t265.length co22)) (fun _ hk => hk.2) (.int .i16 t268)) (fun _ hk => hk.2) (.int .i16 t269)) (fun _ hk => hk.2) (.int .i16 t270)) (fun _ hk => hk.2) (.int .i16 t271)) (fun _ hk => hk.2) (.bool t272)) (fun _ h_ => h_.1))) hb); have n1_ := zf.mk (Kd.R_below (by (with_reducible repeat (first | apply Kd.R_alloc | apply Kd.R_drewN | apply Kd.R_drew)); exact (Kd.R_mono (Kd.R_far (p := ⟨gb273, 5, none⟩) (Kd.R_far (p := ⟨gb273, 4, none⟩) (Kd.R_far (p := ⟨gb273, 3, none⟩) (Kd.R_far (p := ⟨gb273, 2, none⟩) (Kd.R_far (p := ⟨gb273, 1, none⟩) (Kd.R_far (p := ⟨gb273, 0, none⟩) (Kd.R_types HO267.out BK273.out (by decide)) (fun _ hk => hk.2) (.slice Ao22 t265.length co22)) (fun _ hk => hk.2) (.int .i16 t268)) (fun _ hk => hk.2) (.int .i16 t269)) (fun _ hk => hk.2) (.int .i16 t270)) (fun _ hk => hk.2) (.int .i16 t271)) (fun _ hk => hk.2) (.bool t272)) (fun _ h_ => h_.1))) hb); have n2_ := zf.mk (zl (g := gb253) (o := .cells #[.slice A0_0 l0_0.length c0_0, .int .i16 a0_1, .int .i16 a0_2, .int .i16 a0_3, .int .i16 a0_4, .bool a0_5] 53 (0, 0)) (by (with_reducible repeat (first | refine ze ?_ _ | refine zi ?_ | refine zg ?_ _)); refine zr ?_ NB253_273.out _; (with_reducible repeat (first | refine ze ?_ _ | refine zi ?_ | refine zg ?_ _)); refine zr ?_ NB253_273.out _; (with_reducible repeat (first | refine ze ?_ _ | refine zi ?_ | refine zg ?_ _)); refine zr ?_ NB253_273.out _; (with_reducible repeat (first | refine ze ?_ _ | refine zi ?_ | refine zg ?_ _)); refine zr ?_ NB253_273.out _; (with_reducible repeat (first | refine ze ?_ _ | refine zi ?_ | refine zg ?_ _)); refine zr ?_ NB253_273.out _; (with_reducible repeat (first | refine ze ?_ _ | refine zi ?_ | refine zg ?_ _)); refine zr ?_ NB253_273.out _; (with_reducible repeat (first | refine ze ?_ _ | refine zi ?_ | refine zg ?_ _)); exact BK253.out) hb); have n3_ := zf.mk (zl (g := gb273) (o := .cells #[.slice Ao22 t265.length co22, .int .i16 t268, .int .i16 t269, .int .i16 t270, .int .i16 t271, .bool t272] 29 (0, 0)) (by (with_reducible repeat (first | refine ze ?_ _ | refine zi ?_ | refine zg ?_ _)); refine zz (cs := #[.slice Ao22 t265.length co22, .int .i16 t268, .int .i16 t269, .int .i16 t270, .int .i16 t271, .bool false]) ?_ 5 _ rfl; (with_reducible repeat (first | refine ze ?_ _ | refine zi ?_ | refine zg ?_ _)); refine zz (cs := #[.slice Ao22 t265.length co22, .int .i16 t268, .int .i16 t269, .int .i16 t270, .int .i16 0, .bool false]) ?_ 4 _ rfl; (with_reducible repeat (first | refine ze ?_ _ | refine zi ?_ | refine zg ?_ _)); refine zz (cs := #[.slice Ao22 t265.length co22, .int .i16 t268, .int .i16 t269, .int .i16 0, .int .i16 0, .bool false]) ?_ 3 _ rfl; (with_reducible repeat (first | refine ze ?_ _ | refine zi ?_ | refine zg ?_ _)); refine zz (cs := #[.slice Ao22 t265.length co22, .int .i16 t268, .int .i16 0, .int .i16 0, .int .i16 0, .bool false]) ?_ 2 _ rfl; (with_reducible repeat (first | refine ze ?_ _ | refine zi ?_ | refine zg ?_ _)); refine zz (cs := #[.slice Ao22 t265.length co22, .int .i16 0, .int .i16 0, .int .i16 0, .int .i16 0, .bool false]) ?_ 1 _ rfl; (with_reducible repeat (first | refine ze ?_ _ | refine zi ?_ | refine zg ?_ _)); refine zz (cs := #[.slice none 0 0, .int .i16 0, .int .i16 0, .int .i16 0, .int .i16 0, .bool false]) ?_ 0 _ rfl; (with_reducible repeat (first | refine ze ?_ _ | refine zi ?_ | refine zg ?_ _)); exact BK273.out) hb); have n4_ := zf.mk (zm (by repeat (first | (with_reducible first | exact HB.out | apply zh | apply zc | apply zk | refine zj ?_ GE253.out | refine zj ?_ GE273.out) | exact HB.out)) hb); clear HO257; clear HO267; clear BK253; clear BK273; clear HB; have HO257 := n0_; have HO267 := n1_; have BK253 := n2_; have BK273 := n3_; have HB := n4_; clear n0_ n1_ n2_ n3_ n4_; (try clear hb); (try clear hb2); (try clear hk); (try clear hi)))
 (try simp only [Act.put, List.setIfInBounds_toArray, List.set_cons_zero, List.set_cons_succ])
 go_cut [34] (fun v34 wc => ∃ (kq : Nat) (x34_10 : Bool), v34 = .bool x34_10 ∧ zf (laws_FnExactReachedStates.j0 kq x34_10 l0_0 a0_1 a0_2 a0_3 a0_4 a0_5 t265 t268 t269 t270 t271 t272 = some r) ∧ zf (kq ≤ k) ∧ zf (Kd.R (Kd.int .i16) 25 wc w.heap.size (fun _ => True) (.slice Ao22 t265.length co22) t265) ∧ zf (wc.heap[gb253]? = some (.cells #[(.slice A0_0 l0_0.length c0_0), .int .i16 a0_1, .int .i16 a0_2, .int .i16 a0_3, .int .i16 a0_4, .bool a0_5] 53 (0, 0))) ∧ zf (wc.heap[gb273]? = some (.cells #[(.slice Ao22 t265.length co22), .int .i16 t268, .int .i16 t269, .int .i16 t270, .int .i16 t271, .bool t272] 29 (0, 0))) ∧ zf (Below w.heap.size w wc))
 case first =>
  have H := HC11.out
  clear HC11
  by_cases c26 : t274 = t263
  ·rw [if_pos c26] at H
   have c26b0 : (t274 == t263) = true := beq_iff_eq.mpr c26
   have c26b1 : (t274 != t263) = false := bne_eq_false_iff_eq.mpr c26
   clear c26
   (first | rw [c26b0] | (simp only [zw, zv]; rw [c26b0]) | skip)
   have H' := zf.mk H
   clear H
   go_wp2
   go_meet
   case rel => exact ⟨_, ((t275 != t264)), (by first | rfl | (simp; done) | (simp [*]; done)), H', ⟨by first | omega | exact Nat.le_refl _⟩, ⟨by (with_reducible repeat (first | apply Kd.R_alloc | apply Kd.R_drewN | apply Kd.R_drew)); exact Kd.R_mono HO267.out (fun _ hk => trivial)⟩, ⟨by (with_reducible repeat (first | refine ze ?_ _ | refine zi ?_ | refine zg ?_ _)); exact BK253.out⟩, ⟨by (with_reducible repeat (first | refine ze ?_ _ | refine zi ?_ | refine zg ?_ _)); exact BK273.out⟩, ⟨by repeat (first | (with_reducible first | exact HB.out | apply zh | apply zc | apply zk | refine zj ?_ GE253.out | refine zj ?_ GE273.out) | exact HB.out)⟩⟩
  rw [if_neg c26] at H
  have c26b0 : (t274 == t263) = false := beq_eq_false_iff_ne.mpr c26
  have c26b1 : (t274 != t263) = true := bne_iff_ne.mpr c26
  (first | rw [c26b0] | (simp only [zw, zv]; rw [c26b0]) | skip)
  have H' := zf.mk H
  clear H
  go_wp2
  go_meet
  case rel => exact ⟨_, (true), (by first | rfl | (simp; done) | (simp [*]; done)), H', ⟨by first | omega | exact Nat.le_refl _⟩, ⟨by (with_reducible repeat (first | apply Kd.R_alloc | apply Kd.R_drewN | apply Kd.R_drew)); exact Kd.R_mono HO267.out (fun _ hk => trivial)⟩, ⟨by (with_reducible repeat (first | refine ze ?_ _ | refine zi ?_ | refine zg ?_ _)); exact BK253.out⟩, ⟨by (with_reducible repeat (first | refine ze ?_ _ | refine zi ?_ | refine zg ?_ _)); exact BK273.out⟩, ⟨by repeat (first | (with_reducible first | exact HB.out | apply zh | apply zc | apply zk | refine zj ?_ GE253.out | refine zj ?_ GE273.out) | exact HB.out)⟩⟩
 case rest =>
  clear HC11
  try clear c2
  try clear p2
  try clear c3
  try clear c3b0
  try clear c4
  try clear c23
  try clear c26
  try clear c26b0
  try clear c26b1
  try clear hcz13_0 hcz13_1 hcz13_2 hcz13_3 hcz13_4 hcz13_5
  try clear hcz15_0 hcz15_1 hcz15_2 hcz15_3 hcz15_4 hcz15_5
  try clear hcz19_0 hcz19_1 hcz19_2 hcz19_3 hcz19_4 hcz19_5
  try clear hcz24_0 hcz24_1 hcz24_2 hcz24_3 hcz24_4 hcz24_5
  try clear hcz5_0 hcz5_1 hcz5_2 hcz5_3 hcz5_4 hcz5_5
  try clear hfz13_0 hfz13_1 hfz13_2 hfz13_3 hfz13_4 hfz13_5
  try clear hfz15_0 hfz15_1 hfz15_2 hfz15_3 hfz15_4 hfz15_5
  try clear hfz19_0 hfz19_1 hfz19_2 hfz19_3 hfz19_4 hfz19_5
  try clear hfz24_0 hfz24_1 hfz24_2 hfz24_3 hfz24_4 hfz24_5
  try clear hfz5_0 hfz5_1 hfz5_2 hfz5_3 hfz5_4 hfz5_5
  obtain ⟨kq, x34_10, rfl, HA, HJ10, HO_274000, BK253, BK273, HB⟩ := hcut
  cases kq with
  | zero => exact absurd HA.out (by simp [laws_FnExactReachedStates.j0])
  | succ kj10 =>
   have H := HA.out
   clear HA
   simp only [laws_FnExactReachedStates.j0] at H
   by_cases c27 : x34_10 = true
   ·subst c27
    have H1 : (some false) = some r := by rw [if_pos rfl] at H; exact H
    clear H
    have H := H1
    clear H1
    obtain rfl := Option.some.inj H
    go_wp2
    go_ret
    exact ⟨by first | rfl | (simp [errW_none, errW_some] <;> rfl) | (simp [*, errW_none, errW_some] <;> rfl), by repeat (first | (with_reducible first | exact HB.out | apply zh | apply zc | apply zk | refine zj ?_ GE253.out | refine zj ?_ GE273.out) | exact HB.out)⟩
   replace c27 := Bool.eq_false_iff.mpr c27
   subst c27
   have H1 : ((laws_toPuzzle.f kj10 l0_0 a0_1 a0_2 a0_3 a0_4 a0_5).bind fun bt276 => ((laws_eqPuzzle.f kj10 t265 t268 t269 t270 t271 t272 bt276.1 bt276.2.1 bt276.2.2.1 bt276.2.2.2.1 bt276.2.2.2.2.1 bt276.2.2.2.2.2).bind fun t284 => (if t284 = true then (some true) else (some false)))) = some r := by rw [if_neg (show ¬ (false = true) by decide)] at H; exact H
   clear H
   have H := H1
   clear H1
   replace H := Option.bind_eq_some_iff.mp H
   obtain ⟨⟨t276, t279, t280, t281, t282, t283⟩, A280, H⟩ := H
   replace H : ((laws_eqPuzzle.f kj10 t265 t268 t269 t270 t271 t272 t276 t279 t280 t281 t282 t283).bind fun t284 => (if t284 = true then (some true) else (some false))) = some r := H
   have A28 := zf.mk A280
   clear A280
   replace H := Option.bind_eq_some_iff.mp H
   obtain ⟨t284, A290, H⟩ := H
   replace H : (if t284 = true then (some true) else (some false)) = some r := H
   have A29 := zf.mk A290
   clear A290
   by_cases c30 : t284 = true
   ·subst c30
    have H1 : (some true) = some r := by rw [if_pos rfl] at H; exact H
    clear H
    have H := H1
    clear H1
    obtain rfl := Option.some.inj H
    try go_wp2
    have n0_ := zf.mk (Kd.R_drew HO_274000.out)
    have n1_ := zf.mk (zi BK253.out)
    have n2_ := zf.mk (zi BK273.out)
    have n3_ := zf.mk (zk HB.out)
    clear HO_274000
    clear BK253
    clear BK273
    clear HB
    have HO_274000 := n0_
    have BK253 := n1_
    have BK273 := n2_
    have HB := n3_
    clear n0_ n1_ n2_ n3_
    refine start_ (n := 5) (S := fun w' => w'.cell? ⟨gb273, 0, none⟩ = some (.slice Ao22 t265.length co22) ∧ w'.cell? ⟨gb273, 1, none⟩ = some (.int .i16 t268) ∧ w'.cell? ⟨gb273, 2, none⟩ = some (.int .i16 t269) ∧ w'.cell? ⟨gb273, 3, none⟩ = some (.int .i16 t270) ∧ w'.cell? ⟨gb273, 4, none⟩ = some (.int .i16 t271) ∧ w'.cell? ⟨gb273, 5, none⟩ = some (.bool t272) ∧ w'.cell? ⟨gb253, 0, none⟩ = some (.slice A0_0 l0_0.length c0_0) ∧ w'.cell? ⟨gb253, 1, none⟩ = some (.int .i16 a0_1) ∧ w'.cell? ⟨gb253, 2, none⟩ = some (.int .i16 a0_2) ∧ w'.cell? ⟨gb253, 3, none⟩ = some (.int .i16 a0_3) ∧ w'.cell? ⟨gb253, 4, none⟩ = some (.int .i16 a0_4) ∧ w'.cell? ⟨gb253, 5, none⟩ = some (.bool a0_5)) (ds := []) #[false, false, false, false, false] (by kernel_rfl) rfl rfl ⟨(za BK273.out 0).trans rfl, (za BK273.out 1).trans rfl, (za BK273.out 2).trans rfl, (za BK273.out 3).trans rfl, (za BK273.out 4).trans rfl, (za BK273.out 5).trans rfl, (za BK253.out 0).trans rfl, (za BK253.out 1).trans rfl, (za BK253.out 2).trans rfl, (za BK253.out 3).trans rfl, (za BK253.out 4).trans rfl, (za BK253.out 5).trans rfl⟩ (fun hHeld => ?_)
    generalize wc.drew = w31 at HO_274000 BK253 BK273 HB hHeld ⊢
    refine take_ (i := 0) (N := some 35) (v := ?_) (a' := ?_) #[true, false, false, false, false] rfl rfl (by kernel_rfl) (fun _ _ _ h => h) (Or.inl ⟨by rfl, ?_⟩) hHeld ?_ ?_
    rotate_left
    ·rintro w' ⟨s0, s1, s2, s3, s4, s5, s6, s7, s8, s9, s10, s11⟩
     go_simp
     with_reducible rfl
    rotate_left
    ·simp only [Act.put, List.setIfInBounds_toArray, List.set_cons_zero, List.set_cons_succ, zw, zv]
     rfl
    refine take_ (i := 1) (N := some 36) (v := ?_) (a' := ?_) #[true, true, false, false, false] rfl rfl (by kernel_rfl) (fun _ _ _ h => h) (Or.inl ⟨by rfl, ?_⟩) hHeld ?_ ?_
    rotate_left
    ·rintro w' ⟨s0, s1, s2, s3, s4, s5, s6, s7, s8, s9, s10, s11⟩
     go_simp
     with_reducible rfl
    rotate_left
    ·simp only [Act.put, List.setIfInBounds_toArray, List.set_cons_zero, List.set_cons_succ, zw, zv]
     rfl
    refine one_ (i := 2) (N := some 37) #[true, true, true, false, false] rfl rfl (by kernel_rfl) (by decide) (fun K hK => ?_)
    refine goes_ Try.func34 (by kernel_rfl) rfl #[.agg #[.slice A0_0 l0_0.length c0_0, .int .i16 a0_1, .int .i16 a0_2, .int .i16 a0_3, .int .i16 a0_4, .bool a0_5]] (by rfl) rfl rfl (by (try simp only [List.map_toArray, List.map_cons, List.map_nil]); first | done | rfl | (simp only [List.length_drop, List.length_take]; rfl)) ?_
    with_reducible refine (laws_toPuzzle.calls kj10 _ _ l0_0 a0_1 a0_2 a0_3 a0_4 a0_5 t276 t279 t280 t281 t282 t283 _ ?side1 ?side2 A28.out).mono ?_
    (case side1 => repeat (first | exact (Kd.C_below HR0_0.out HB.out) | (with_reducible refine Kd.C_alloc ?_ _) | (with_reducible refine Kd.C_drewN ?_ _) | (with_reducible refine Kd.C_drew ?_)))
    (case side2 => exact HC0_0.out)
    rintro e w32 ⟨v277, rfl, ho0, hb⟩
    refine ⟨_, rfl, ?_⟩
    have n0_ := zf.mk (Kd.R_elder' (by (with_reducible repeat (first | apply Kd.R_alloc | apply Kd.R_drewN | apply Kd.R_drew)); exact HO_274000.out) (Kd.R_base ho0) hb)
    have n1_ := zf.mk (Kd.R_lower (Kd.R_new' ho0 (Kd.R_lt (by (with_reducible repeat (first | apply Kd.R_alloc | apply Kd.R_drewN | apply Kd.R_drew)); exact HO_274000.out))) (zn (by repeat (first | (with_reducible first | exact HB.out | apply zh | apply zc | apply zk | refine zj ?_ GE253.out | refine zj ?_ GE273.out) | exact HB.out))))
    have n2_ := zf.mk (zl (by (with_reducible repeat (first | refine ze ?_ _ | refine zi ?_ | refine zg ?_ _)); exact BK253.out) hb)
    have n3_ := zf.mk (zl (by (with_reducible repeat (first | refine ze ?_ _ | refine zi ?_ | refine zg ?_ _)); exact BK273.out) hb)
    have n4_ := zf.mk (zm (by repeat (first | (with_reducible first | exact HB.out | apply zh | apply zc | apply zk | refine zj ?_ GE253.out | refine zj ?_ GE273.out) | exact HB.out)) hb)
    clear HO_274000
    clear BK253
    clear BK273
    clear HB
    have HO_274000 := n0_
    have HO278 := n1_
    have BK253 := n2_
    have BK273 := n3_
    have HB := n4_
    clear n0_ n1_ n2_ n3_ n4_
    (try clear hb)
    (try clear hb2)
    (try clear hk)
    (try clear hi)
    (try clear ho0)
    obtain ⟨Ao33, co33, eo33⟩ := Kd.R_slice HO278.out
    (first | subst eo33 | (injection eo33 with f1_ f2_ f3_; have f4_ := f1_.symm; have f5_ := f3_.symm; clear f1_ f2_ f3_; subst f4_; subst f5_))
    refine hK.out _ _ ⟨(za BK273.out 0).trans rfl, (za BK273.out 1).trans rfl, (za BK273.out 2).trans rfl, (za BK273.out 3).trans rfl, (za BK273.out 4).trans rfl, (za BK273.out 5).trans rfl, (za BK253.out 0).trans rfl, (za BK253.out 1).trans rfl, (za BK253.out 2).trans rfl, (za BK253.out 3).trans rfl, (za BK253.out 4).trans rfl, (za BK253.out 5).trans rfl⟩ (fun hHeld => ?_)
    clear hK K
    refine zia (a' := ?_) ?_ ?_
    rotate_left
    ·show Act.put _ (some 37) _ = _
     simp only [Act.put, List.setIfInBounds_toArray, List.set_cons_zero, List.set_cons_succ, zw, zv]
     rfl
    refine one_ (i := 3) (N := some 38) #[true, true, true, true, false] rfl rfl (by kernel_rfl) (by decide) (fun K hK => ?_)
    refine goes_ Try.func35 (by kernel_rfl) rfl #[.agg #[.slice Ao22 t265.length co22, .int .i16 t268, .int .i16 t269, .int .i16 t270, .int .i16 t271, .bool t272], .agg #[.slice Ao33 t276.length co33, .int .i16 t279, .int .i16 t280, .int .i16 t281, .int .i16 t282, .bool t283]] (by rfl) rfl rfl (by (try simp only [List.map_toArray, List.map_cons, List.map_nil]); first | done | rfl | (simp only [List.length_drop, List.length_take]; rfl)) ?_
    with_reducible refine (laws_eqPuzzle.calls kj10 _ _ t265 t268 t269 t270 t271 t272 _ _ t276 t279 t280 t281 t282 t283 true _ ?side1 ?side2 ?side3 ?side4 A29.out).mono ?_
    (case side1 => repeat (first | exact (Kd.R_reads' HO_274000.out).2.2 | (with_reducible refine Kd.C_alloc ?_ _) | (with_reducible refine Kd.C_drewN ?_ _) | (with_reducible refine Kd.C_drew ?_)))
    (case side2 => exact (Kd.R_reads' HO_274000.out).2.1)
    (case side3 => repeat (first | exact (Kd.R_reads' HO278.out).2.2 | (with_reducible refine Kd.C_alloc ?_ _) | (with_reducible refine Kd.C_drewN ?_ _) | (with_reducible refine Kd.C_drew ?_)))
    (case side4 => exact (Kd.R_reads' HO278.out).2.1)
    rintro e w34 ⟨rfl, hb⟩
    refine ⟨_, rfl, ?_⟩
    have n0_ := zf.mk (Kd.R_below (by (with_reducible repeat (first | apply Kd.R_alloc | apply Kd.R_drewN | apply Kd.R_drew)); exact HO_274000.out) hb)
    have n1_ := zf.mk (Kd.R_below (by (with_reducible repeat (first | apply Kd.R_alloc | apply Kd.R_drewN | apply Kd.R_drew)); exact HO278.out) hb)
    have n2_ := zf.mk (zl (by (with_reducible repeat (first | refine ze ?_ _ | refine zi ?_ | refine zg ?_ _)); exact BK253.out) hb)
    have n3_ := zf.mk (zl (by (with_reducible repeat (first | refine ze ?_ _ | refine zi ?_ | refine zg ?_ _)); exact BK273.out) hb)
    have n4_ := zf.mk (zm (by repeat (first | (with_reducible first | exact HB.out | apply zh | apply zc | apply zk | refine zj ?_ GE253.out | refine zj ?_ GE273.out) | exact HB.out)) hb)
    clear HO_274000
    clear HO278
    clear BK253
    clear BK273
    clear HB
    have HO_274000 := n0_
    have HO278 := n1_
    have BK253 := n2_
    have BK273 := n3_
    have HB := n4_
    clear n0_ n1_ n2_ n3_ n4_
    (try clear hb)
    (try clear hb2)
    (try clear hk)
    (try clear hi)
    refine hK.out _ _ ⟨(za BK273.out 0).trans rfl, (za BK273.out 1).trans rfl, (za BK273.out 2).trans rfl, (za BK273.out 3).trans rfl, (za BK273.out 4).trans rfl, (za BK273.out 5).trans rfl, (za BK253.out 0).trans rfl, (za BK253.out 1).trans rfl, (za BK253.out 2).trans rfl, (za BK253.out 3).trans rfl, (za BK253.out 4).trans rfl, (za BK253.out 5).trans rfl⟩ (fun hHeld => ?_)
    clear hK K
    refine zia (a' := ?_) ?_ ?_
    rotate_left
    ·show Act.put _ (some 38) _ = _
     simp only [Act.put, List.setIfInBounds_toArray, List.set_cons_zero, List.set_cons_succ, zw, zv]
     rfl
    refine zda (i := 4) (N := some 39) (v := ?_) (a' := ?_) #[true, true, true, true, true] rfl rfl (by kernel_rfl) (fun _ _ _ h => h) (Or.inl ⟨by rfl, ?_⟩) ?_ ?_
    rotate_left
    ·intro w'
     go_simp
     with_reducible rfl
    rotate_left
    ·simp only [Act.put, List.setIfInBounds_toArray, List.set_cons_zero, List.set_cons_succ, zw, zv]
     rfl
    refine done_ (by kernel_rfl) ?_
    try go_wp2
    go_ret
    exact ⟨by first | rfl | (simp [errW_none, errW_some] <;> rfl) | (simp [*, errW_none, errW_some] <;> rfl), by repeat (first | (with_reducible first | exact HB.out | apply zh | apply zc | apply zk | refine zj ?_ GE253.out | refine zj ?_ GE273.out) | exact HB.out)⟩
   replace c30 := Bool.eq_false_iff.mpr c30
   subst c30
   have H1 : (some false) = some r := by rw [if_neg (show ¬ (false = true) by decide)] at H; exact H
   clear H
   have H := H1
   clear H1
   obtain rfl := Option.some.inj H
   try go_wp2
   have n0_ := zf.mk (Kd.R_drew HO_274000.out)
   have n1_ := zf.mk (zi BK253.out)
   have n2_ := zf.mk (zi BK273.out)
   have n3_ := zf.mk (zk HB.out)
   clear HO_274000
   clear BK253
   clear BK273
   clear HB
   have HO_274000 := n0_
   have BK253 := n1_
   have BK273 := n2_
   have HB := n3_
   clear n0_ n1_ n2_ n3_
   refine start_ (n := 5) (S := fun w' => w'.cell? ⟨gb273, 0, none⟩ = some (.slice Ao22 t265.length co22) ∧ w'.cell? ⟨gb273, 1, none⟩ = some (.int .i16 t268) ∧ w'.cell? ⟨gb273, 2, none⟩ = some (.int .i16 t269) ∧ w'.cell? ⟨gb273, 3, none⟩ = some (.int .i16 t270) ∧ w'.cell? ⟨gb273, 4, none⟩ = some (.int .i16 t271) ∧ w'.cell? ⟨gb273, 5, none⟩ = some (.bool t272) ∧ w'.cell? ⟨gb253, 0, none⟩ = some (.slice A0_0 l0_0.length c0_0) ∧ w'.cell? ⟨gb253, 1, none⟩ = some (.int .i16 a0_1) ∧ w'.cell? ⟨gb253, 2, none⟩ = some (.int .i16 a0_2) ∧ w'.cell? ⟨gb253, 3, none⟩ = some (.int .i16 a0_3) ∧ w'.cell? ⟨gb253, 4, none⟩ = some (.int .i16 a0_4) ∧ w'.cell? ⟨gb253, 5, none⟩ = some (.bool a0_5)) (ds := []) #[false, false, false, false, false] (by kernel_rfl) rfl rfl ⟨(za BK273.out 0).trans rfl, (za BK273.out 1).trans rfl, (za BK273.out 2).trans rfl, (za BK273.out 3).trans rfl, (za BK273.out 4).trans rfl, (za BK273.out 5).trans rfl, (za BK253.out 0).trans rfl, (za BK253.out 1).trans rfl, (za BK253.out 2).trans rfl, (za BK253.out 3).trans rfl, (za BK253.out 4).trans rfl, (za BK253.out 5).trans rfl⟩ (fun hHeld => ?_)
   generalize wc.drew = w35 at HO_274000 BK253 BK273 HB hHeld ⊢
   refine take_ (i := 0) (N := some 35) (v := ?_) (a' := ?_) #[true, false, false, false, false] rfl rfl (by kernel_rfl) (fun _ _ _ h => h) (Or.inl ⟨by rfl, ?_⟩) hHeld ?_ ?_
   rotate_left
   ·rintro w' ⟨s0, s1, s2, s3, s4, s5, s6, s7, s8, s9, s10, s11⟩
    go_simp
    with_reducible rfl
   rotate_left
   ·simp only [Act.put, List.setIfInBounds_toArray, List.set_cons_zero, List.set_cons_succ, zw, zv]
    rfl
   refine take_ (i := 1) (N := some 36) (v := ?_) (a' := ?_) #[true, true, false, false, false] rfl rfl (by kernel_rfl) (fun _ _ _ h => h) (Or.inl ⟨by rfl, ?_⟩) hHeld ?_ ?_
   rotate_left
   ·rintro w' ⟨s0, s1, s2, s3, s4, s5, s6, s7, s8, s9, s10, s11⟩
    go_simp
    with_reducible rfl
   rotate_left
   ·simp only [Act.put, List.setIfInBounds_toArray, List.set_cons_zero, List.set_cons_succ, zw, zv]
    rfl
   refine one_ (i := 2) (N := some 37) #[true, true, true, false, false] rfl rfl (by kernel_rfl) (by decide) (fun K hK => ?_)
   refine goes_ Try.func34 (by kernel_rfl) rfl #[.agg #[.slice A0_0 l0_0.length c0_0, .int .i16 a0_1, .int .i16 a0_2, .int .i16 a0_3, .int .i16 a0_4, .bool a0_5]] (by rfl) rfl rfl (by (try simp only [List.map_toArray, List.map_cons, List.map_nil]); first | done | rfl | (simp only [List.length_drop, List.length_take]; rfl)) ?_
   with_reducible refine (laws_toPuzzle.calls kj10 _ _ l0_0 a0_1 a0_2 a0_3 a0_4 a0_5 t276 t279 t280 t281 t282 t283 _ ?side1 ?side2 A28.out).mono ?_
   (case side1 => repeat (first | exact (Kd.C_below HR0_0.out HB.out) | (with_reducible refine Kd.C_alloc ?_ _) | (with_reducible refine Kd.C_drewN ?_ _) | (with_reducible refine Kd.C_drew ?_)))
   (case side2 => exact HC0_0.out)
   rintro e w36 ⟨v277, rfl, ho0, hb⟩
   refine ⟨_, rfl, ?_⟩
   have n0_ := zf.mk (Kd.R_elder' (by (with_reducible repeat (first | apply Kd.R_alloc | apply Kd.R_drewN | apply Kd.R_drew)); exact HO_274000.out) (Kd.R_base ho0) hb)
   have n1_ := zf.mk (Kd.R_lower (Kd.R_new' ho0 (Kd.R_lt (by (with_reducible repeat (first | apply Kd.R_alloc | apply Kd.R_drewN | apply Kd.R_drew)); exact HO_274000.out))) (zn (by repeat (first | (with_reducible first | exact HB.out | apply zh | apply zc | apply zk | refine zj ?_ GE253.out | refine zj ?_ GE273.out) | exact HB.out))))
   have n2_ := zf.mk (zl (by (with_reducible repeat (first | refine ze ?_ _ | refine zi ?_ | refine zg ?_ _)); exact BK253.out) hb)
   have n3_ := zf.mk (zl (by (with_reducible repeat (first | refine ze ?_ _ | refine zi ?_ | refine zg ?_ _)); exact BK273.out) hb)
   have n4_ := zf.mk (zm (by repeat (first | (with_reducible first | exact HB.out | apply zh | apply zc | apply zk | refine zj ?_ GE253.out | refine zj ?_ GE273.out) | exact HB.out)) hb)
   clear HO_274000
   clear BK253
   clear BK273
   clear HB
   have HO_274000 := n0_
   have HO278 := n1_
   have BK253 := n2_
   have BK273 := n3_
   have HB := n4_
   clear n0_ n1_ n2_ n3_ n4_
   (try clear hb)
   (try clear hb2)
   (try clear hk)
   (try clear hi)
   (try clear ho0)
   obtain ⟨Ao37, co37, eo37⟩ := Kd.R_slice HO278.out
   (first | subst eo37 | (injection eo37 with f1_ f2_ f3_; have f4_ := f1_.symm; have f5_ := f3_.symm; clear f1_ f2_ f3_; subst f4_; subst f5_))
   refine hK.out _ _ ⟨(za BK273.out 0).trans rfl, (za BK273.out 1).trans rfl, (za BK273.out 2).trans rfl, (za BK273.out 3).trans rfl, (za BK273.out 4).trans rfl, (za BK273.out 5).trans rfl, (za BK253.out 0).trans rfl, (za BK253.out 1).trans rfl, (za BK253.out 2).trans rfl, (za BK253.out 3).trans rfl, (za BK253.out 4).trans rfl, (za BK253.out 5).trans rfl⟩ (fun hHeld => ?_)
   clear hK K
   refine zia (a' := ?_) ?_ ?_
   rotate_left
   ·show Act.put _ (some 37) _ = _
    simp only [Act.put, List.setIfInBounds_toArray, List.set_cons_zero, List.set_cons_succ, zw, zv]
    rfl
   refine one_ (i := 3) (N := some 38) #[true, true, true, true, false] rfl rfl (by kernel_rfl) (by decide) (fun K hK => ?_)
   refine goes_ Try.func35 (by kernel_rfl) rfl #[.agg #[.slice Ao22 t265.length co22, .int .i16 t268, .int .i16 t269, .int .i16 t270, .int .i16 t271, .bool t272], .agg #[.slice Ao37 t276.length co37, .int .i16 t279, .int .i16 t280, .int .i16 t281, .int .i16 t282, .bool t283]] (by rfl) rfl rfl (by (try simp only [List.map_toArray, List.map_cons, List.map_nil]); first | done | rfl | (simp only [List.length_drop, List.length_take]; rfl)) ?_
   with_reducible refine (laws_eqPuzzle.calls kj10 _ _ t265 t268 t269 t270 t271 t272 _ _ t276 t279 t280 t281 t282 t283 false _ ?side1 ?side2 ?side3 ?side4 A29.out).mono ?_
   (case side1 => repeat (first | exact (Kd.R_reads' HO_274000.out).2.2 | (with_reducible refine Kd.C_alloc ?_ _) | (with_reducible refine Kd.C_drewN ?_ _) | (with_reducible refine Kd.C_drew ?_)))
   (case side2 => exact (Kd.R_reads' HO_274000.out).2.1)
   (case side3 => repeat (first | exact (Kd.R_reads' HO278.out).2.2 | (with_reducible refine Kd.C_alloc ?_ _) | (with_reducible refine Kd.C_drewN ?_ _) | (with_reducible refine Kd.C_drew ?_)))
   (case side4 => exact (Kd.R_reads' HO278.out).2.1)
   rintro e w38 ⟨rfl, hb⟩
   refine ⟨_, rfl, ?_⟩
   have n0_ := zf.mk (Kd.R_below (by (with_reducible repeat (first | apply Kd.R_alloc | apply Kd.R_drewN | apply Kd.R_drew)); exact HO_274000.out) hb)
   have n1_ := zf.mk (Kd.R_below (by (with_reducible repeat (first | apply Kd.R_alloc | apply Kd.R_drewN | apply Kd.R_drew)); exact HO278.out) hb)
   have n2_ := zf.mk (zl (by (with_reducible repeat (first | refine ze ?_ _ | refine zi ?_ | refine zg ?_ _)); exact BK253.out) hb)
   have n3_ := zf.mk (zl (by (with_reducible repeat (first | refine ze ?_ _ | refine zi ?_ | refine zg ?_ _)); exact BK273.out) hb)
   have n4_ := zf.mk (zm (by repeat (first | (with_reducible first | exact HB.out | apply zh | apply zc | apply zk | refine zj ?_ GE253.out | refine zj ?_ GE273.out) | exact HB.out)) hb)
   clear HO_274000
   clear HO278
   clear BK253
   clear BK273
   clear HB
   have HO_274000 := n0_
   have HO278 := n1_
   have BK253 := n2_
   have BK273 := n3_
   have HB := n4_
   clear n0_ n1_ n2_ n3_ n4_
   (try clear hb)
   (try clear hb2)
   (try clear hk)
   (try clear hi)
   refine hK.out _ _ ⟨(za BK273.out 0).trans rfl, (za BK273.out 1).trans rfl, (za BK273.out 2).trans rfl, (za BK273.out 3).trans rfl, (za BK273.out 4).trans rfl, (za BK273.out 5).trans rfl, (za BK253.out 0).trans rfl, (za BK253.out 1).trans rfl, (za BK253.out 2).trans rfl, (za BK253.out 3).trans rfl, (za BK253.out 4).trans rfl, (za BK253.out 5).trans rfl⟩ (fun hHeld => ?_)
   clear hK K
   refine zia (a' := ?_) ?_ ?_
   rotate_left
   ·show Act.put _ (some 38) _ = _
    simp only [Act.put, List.setIfInBounds_toArray, List.set_cons_zero, List.set_cons_succ, zw, zv]
    rfl
   refine zda (i := 4) (N := some 39) (v := ?_) (a' := ?_) #[true, true, true, true, true] rfl rfl (by kernel_rfl) (fun _ _ _ h => h) (Or.inl ⟨by rfl, ?_⟩) ?_ ?_
   rotate_left
   ·intro w'
    go_simp
    with_reducible rfl
   rotate_left
   ·simp only [Act.put, List.setIfInBounds_toArray, List.set_cons_zero, List.set_cons_succ, zw, zv]
    rfl
   refine done_ (by kernel_rfl) ?_
   try go_wp2
   go_ret
   exact ⟨by first | rfl | (simp [errW_none, errW_some] <;> rfl) | (simp [*, errW_none, errW_some] <;> rfl), by repeat (first | (with_reducible first | exact HB.out | apply zh | apply zc | apply zk | refine zj ?_ GE253.out | refine zj ?_ GE273.out) | exact HB.out)⟩

end Go.Proofs.Yteciomagemjjaaa.J
