/- The law of StepsTable. -/
import Derived.Test.YteciomagemjjaaaJx6
import Derived.Test.YteciomagemjjaaaJx13
import Derived.Test.YteciomagemjjaaaJx14
import Derived.Test.YteciomagemjjaaaJx15
import Derived.Test.YteciomagemjjaaaLMrkJ
import Derived.Test.YteciomagemjjaaaLStbJ
import Derived.Test.YteciomagemjjaaaLStbSJ
namespace Go.Proofs.Yteciomagemjjaaa.J
open Go.RowKit Go.Proofs.YteciomagemjjaaaW.PrintWords Go.Proofs.YteciomagemjjaaaW.PrintLast Go.Proofs.YteciomagemjjaaaW.PrintMore
attribute [local go_sem] zsa zqa zza zya zka zma zua zra   -- for this text's walks alone
set_option linter.unusedVariables false
set_option linter.unusedSimpArgs false
/-! ### laws_FnExactStepsTable: function 6 -/
mutual
def laws_FnExactStepsTable.j0 : Nat → List Int → Int → List Int → Int → Bool → List Int → Int → Int → Int → Int → Bool → List Int → Int → Int → Int → Int → Bool → Option (Bool)
 | 0, _, _, _, _, _, _, _, _, _, _, _, _, _, _, _, _, _ => none
 | k + 1, x4, x5, x7, x8, x40, x262000, x262001, x262002, x262003, x262004, x262005, x284000, x284001, x284002, x284003, x284004, x284005 => if x40 = true then (some false) else ((laws_toPuzzle.f k x262000 x262001 x262002 x262003 x262004 x262005).bind fun bt289 => ((laws_eqPuzzle.f k x284000 x284001 x284002 x284003 x284004 x284005 bt289.1 bt289.2.1 bt289.2.2.1 bt289.2.2.2.1 bt289.2.2.2.2.1 bt289.2.2.2.2.2).bind fun t297 => (if t297 = true then ((laws_markPuzzle.f k x284000 x284001 x284002 x284003 x284004 x284005 1).bind fun bt298 => (if bt298.1 < 0 then (laws_FnExactStepsTable.j1 k x4 x5 x7 true x262000 x262001 x262002 x262003 x262004 x262005) else ((laws_eqInt16S.f k x7 x4).bind fun t300 => (if t300 = true then (laws_FnExactStepsTable.j1 k x4 x5 x7 (x8 != x5) x262000 x262001 x262002 x262003 x262004 x262005) else (laws_FnExactStepsTable.j1 k x4 x5 x7 true x262000 x262001 x262002 x262003 x262004 x262005))))) else (some false))))
def laws_FnExactStepsTable.j1 : Nat → List Int → Int → List Int → Bool → List Int → Int → Int → Int → Int → Bool → Option (Bool)
 | 0, _, _, _, _, _, _, _, _, _, _ => none
 | k + 1, x4, x5, x7, x61, x262000, x262001, x262002, x262003, x262004, x262005 => if x61 = true then (some false) else ((laws_markInt16S.f k x7 1).bind fun bt301 => ((laws_heldInt16S.f k bt301.2 1).bind fun t303 => (if t303 < 0 then (some false) else (if t303 = bt301.1 then ((laws_toPuzzle.f k x262000 x262001 x262002 x262003 x262004 x262005).bind fun bt304 => ((impl_StepsTable.f k bt304.1 bt304.2.1 bt304.2.2.1 bt304.2.2.2.1 bt304.2.2.2.2.1 bt304.2.2.2.2.2).bind fun bt312 => ((laws_eqInt16S.f k bt312.1 x4).bind fun t316 => (if t316 = true then (laws_FnExactStepsTable.j2 k bt301.2 bt301.1 (bt312.2 != x5)) else (laws_FnExactStepsTable.j2 k bt301.2 bt301.1 true))))) else (some false)))))
def laws_FnExactStepsTable.j2 : Nat → List Int → Int → Bool → Option (Bool)
 | 0, _, _, _ => none
 | k + 1, x7, x10, x87 => if x87 = true then (some false) else ((laws_heldInt16S.f k x7 1).bind fun t317 => (if t317 < 0 then (some false) else (if t317 = x10 then (some true) else (some false))))
end
def laws_FnExactStepsTable.f (k : Nat) (l0_0 : List Int) (a0_1 : Int) (a0_2 : Int) (a0_3 : Int) (a0_4 : Int) (a0_5 : Bool) : Option (Bool) := (laws_szPuzzle.f l0_0 a0_1 a0_2 a0_3 a0_4 a0_5 1048576).bind fun t262 => (if t262 < 0 then (some true) else ((laws_toPuzzle.f k l0_0 a0_1 a0_2 a0_3 a0_4 a0_5).bind fun bt263 => ((spec_StepsTable.f k bt263.1 bt263.2.1 bt263.2.2.1 bt263.2.2.2.1 bt263.2.2.2.2.1 bt263.2.2.2.2.2).bind fun bt271 => ((laws_toPuzzle.f k l0_0 a0_1 a0_2 a0_3 a0_4 a0_5).bind fun bt275 => ((impl_StepsTable.f k bt275.1 bt275.2.1 bt275.2.2.1 bt275.2.2.2.1 bt275.2.2.2.2.1 bt275.2.2.2.2.2).bind fun bt284 => ((laws_eqInt16S.f k bt284.1 bt271.1).bind fun t288 => (if t288 = true then (laws_FnExactStepsTable.j0 k bt271.1 bt271.2 bt284.1 bt284.2 (bt284.2 != bt271.2) l0_0 a0_1 a0_2 a0_3 a0_4 a0_5 bt275.1 bt275.2.1 bt275.2.2.1 bt275.2.2.2.1 bt275.2.2.2.2.1 bt275.2.2.2.2.2) else (laws_FnExactStepsTable.j0 k bt271.1 bt271.2 bt284.1 bt284.2 true l0_0 a0_1 a0_2 a0_3 a0_4 a0_5 bt275.1 bt275.2.1 bt275.2.2.1 bt275.2.2.2.1 bt275.2.2.2.2.1 bt275.2.2.2.2.2))))))))
set_option maxHeartbeats 8000000 in
set_option maxRecDepth 100000 in
theorem laws_FnExactStepsTable.calls (k : Nat) (A0_0 : Option Addr) (c0_0 : Nat) (l0_0 : List Int) (a0_1 : Int) (a0_2 : Int) (a0_3 : Int) (a0_4 : Int) (a0_5 : Bool) (r : Bool) (w : World) (hr0_0 : Kd.C (Kd.int .i16) w A0_0 l0_0.length l0_0) (hc0_0 : l0_0.length ≤ c0_0) (h : laws_FnExactStepsTable.f k l0_0 a0_1 a0_2 a0_3 a0_4 a0_5 = some r) :
  Calls Try.prog 6 #[.agg #[.slice A0_0 l0_0.length c0_0, .int .i16 a0_1, .int .i16 a0_2, .int .i16 a0_3, .int .i16 a0_4, .bool a0_5]] w fun e w' => e = .returned (.bool r) ∧ Below w.heap.size w w' := by
 have hu53 := Try.underlying53
 have hu29 := Try.underlying29
 have HR0_0 := ze.mk hr0_0
 have HC0_0 := ze.mk hc0_0
 clear hr0_0 hc0_0
 have HB := ze.mk (Below.refl w.heap.size w)
 have H : ((laws_szPuzzle.f l0_0 a0_1 a0_2 a0_3 a0_4 a0_5 1048576).bind fun t262 => (if t262 < 0 then (some true) else ((laws_toPuzzle.f k l0_0 a0_1 a0_2 a0_3 a0_4 a0_5).bind fun bt263 => ((spec_StepsTable.f k bt263.1 bt263.2.1 bt263.2.2.1 bt263.2.2.2.1 bt263.2.2.2.2.1 bt263.2.2.2.2.2).bind fun bt271 => ((laws_toPuzzle.f k l0_0 a0_1 a0_2 a0_3 a0_4 a0_5).bind fun bt275 => ((impl_StepsTable.f k bt275.1 bt275.2.1 bt275.2.2.1 bt275.2.2.2.1 bt275.2.2.2.2.1 bt275.2.2.2.2.2).bind fun bt284 => ((laws_eqInt16S.f k bt284.1 bt271.1).bind fun t288 => (if t288 = true then (laws_FnExactStepsTable.j0 k bt271.1 bt271.2 bt284.1 bt284.2 (bt284.2 != bt271.2) l0_0 a0_1 a0_2 a0_3 a0_4 a0_5 bt275.1 bt275.2.1 bt275.2.2.1 bt275.2.2.2.1 bt275.2.2.2.2.1 bt275.2.2.2.2.2) else (laws_FnExactStepsTable.j0 k bt271.1 bt271.2 bt284.1 bt284.2 true l0_0 a0_1 a0_2 a0_3 a0_4 a0_5 bt275.1 bt275.2.1 bt275.2.2.1 bt275.2.2.2.1 bt275.2.2.2.2.1 bt275.2.2.2.2.2))))))))) = some r := h
 clear h
 replace H := Option.bind_eq_some_iff.mp H
 obtain ⟨t262, A20, H⟩ := H
 replace H : (if t262 < 0 then (some true) else ((laws_toPuzzle.f k l0_0 a0_1 a0_2 a0_3 a0_4 a0_5).bind fun bt263 => ((spec_StepsTable.f k bt263.1 bt263.2.1 bt263.2.2.1 bt263.2.2.2.1 bt263.2.2.2.2.1 bt263.2.2.2.2.2).bind fun bt271 => ((laws_toPuzzle.f k l0_0 a0_1 a0_2 a0_3 a0_4 a0_5).bind fun bt275 => ((impl_StepsTable.f k bt275.1 bt275.2.1 bt275.2.2.1 bt275.2.2.2.1 bt275.2.2.2.2.1 bt275.2.2.2.2.2).bind fun bt284 => ((laws_eqInt16S.f k bt284.1 bt271.1).bind fun t288 => (if t288 = true then (laws_FnExactStepsTable.j0 k bt271.1 bt271.2 bt284.1 bt284.2 (bt284.2 != bt271.2) l0_0 a0_1 a0_2 a0_3 a0_4 a0_5 bt275.1 bt275.2.1 bt275.2.2.1 bt275.2.2.2.1 bt275.2.2.2.2.1 bt275.2.2.2.2.2) else (laws_FnExactStepsTable.j0 k bt271.1 bt271.2 bt284.1 bt284.2 true l0_0 a0_1 a0_2 a0_3 a0_4 a0_5 bt275.1 bt275.2.1 bt275.2.2.1 bt275.2.2.2.1 bt275.2.2.2.2.1 bt275.2.2.2.2.2)))))))) = some r := H
 have A2 := ze.mk A20
 clear A20
 by_cases c3 : t262 < 0
 ·rw [if_pos c3] at H
  have c3b0 : decide (t262 < 0) = true := decide_eq_true c3
  clear c3
  obtain rfl := Option.some.inj H
  go_enter Try.func6, Try.ntmps6
  go_wp2_with (first | ((with_reducible refine zaa (N := 1) rfl ?_); refine zz ?hg (N := 1) ?hd (cs := #[.slice A0_0 l0_0.length c0_0, .int .i16 a0_1, .int .i16 a0_2, .int .i16 a0_3, .int .i16 a0_4, .bool a0_5]) (t := 53) ?hr ?_; (case hd => rfl); (case hg => rfl); (case hr => first | (go_simp; done) | (go_simp; rfl)); intro gb261 hg w4 hbox hb; have n0_ := ze.mk (zm (by repeat (first | (with_reducible first | exact HB.out | apply zj | apply zc | apply zi) | exact HB.out)) hb); have n1_ := ze.mk (hbox); have n2_ := ze.mk ((by rw [hg]; exact (zn (by repeat (first | (with_reducible first | exact HB.out | apply zj | apply zc | apply zi) | exact HB.out))) : w.heap.size ≤ gb261)); have n3_ := ze.mk ((by rw [hg]; exact (zn (by repeat (first | (with_reducible first | exact HB.out | apply zj | apply zc | apply zi) | exact HB.out))) : w.heap.size ≤ gb261)); clear HB; have HB := n0_; have BK261 := n1_; have GW261 := n2_; have GE261 := n3_; clear n0_ n1_ n2_ n3_; clear hb hbox hg; have hcz5_0 : w4.cell? ⟨gb261, 0, none⟩ = some (.slice A0_0 l0_0.length c0_0) := (za BK261.out 0).trans rfl; have hcz5_1 : w4.cell? ⟨gb261, 1, none⟩ = some (.int .i16 a0_1) := (za BK261.out 1).trans rfl; have hcz5_2 : w4.cell? ⟨gb261, 2, none⟩ = some (.int .i16 a0_2) := (za BK261.out 2).trans rfl; have hcz5_3 : w4.cell? ⟨gb261, 3, none⟩ = some (.int .i16 a0_3) := (za BK261.out 3).trans rfl; have hcz5_4 : w4.cell? ⟨gb261, 4, none⟩ = some (.int .i16 a0_4) := (za BK261.out 4).trans rfl; have hcz5_5 : w4.cell? ⟨gb261, 5, none⟩ = some (.bool a0_5) := (za BK261.out 5).trans rfl; have hfz5_0 := zb BK261.out 0; have hfz5_1 := zb BK261.out 1; have hfz5_2 := zb BK261.out 2; have hfz5_3 := zb BK261.out 3; have hfz5_4 := zb BK261.out 4; have hfz5_5 := zb BK261.out 5) | ((with_reducible refine zv (f := 32) rfl ?_); refine zha (some 16) rfl rfl Try.func32 (by kernel_rfl) rfl #[.agg #[.slice A0_0 l0_0.length c0_0, .int .i16 a0_1, .int .i16 a0_2, .int .i16 a0_3, .int .i16 a0_4, .bool a0_5], .int .i64 1048576] rfl (by (try simp only [List.map_toArray, List.map_cons, List.map_nil]); first | done | rfl | (simp only [List.length_drop, List.length_take]; rfl)) ?_; (with_reducible refine (laws_szPuzzle.calls _ _ l0_0 a0_1 a0_2 a0_3 a0_4 a0_5 1048576 t262 _ ?side1 ?side2 A2.out).mono ?_); (case side1 => repeat (first | exact (Kd.C_below HR0_0.out HB.out) | (with_reducible refine Kd.C_alloc ?_ _) | (with_reducible refine Kd.C_drewN ?_ _) | (with_reducible refine Kd.C_drew ?_))); (case side2 => exact HC0_0.out); rintro e w6 ⟨rfl, hb⟩; refine ⟨_, rfl, ?_⟩; have n0_ := ze.mk (zl (g := gb261) (o := .cells #[.slice A0_0 l0_0.length c0_0, .int .i16 a0_1, .int .i16 a0_2, .int .i16 a0_3, .int .i16 a0_4, .bool a0_5] 53 (0, 0)) (by (with_reducible repeat (first | refine zg ?_ _ | refine zh ?_ | refine zf ?_ _)); exact BK261.out) hb); have n1_ := ze.mk (zm (by repeat (first | (with_reducible first | exact HB.out | apply zj | apply zc | apply zi | refine zk ?_ GE261.out) | exact HB.out)) hb); clear BK261; clear HB; have BK261 := n0_; have HB := n1_; clear n0_ n1_; (try clear hb); (try clear hb2); (try clear hk); (try clear hi)))
  go_ret
  exact ⟨by first | rfl | (simp [zt, zr] <;> rfl) | (simp [*, zt, zr] <;> rfl), by repeat (first | (with_reducible first | exact HB.out | apply zj | apply zc | apply zi | refine zk ?_ GE261.out) | exact HB.out)⟩
 ·rw [if_neg c3] at H
  have c3b0 : decide (t262 < 0) = false := decide_eq_false c3
  clear c3
  replace H := Option.bind_eq_some_iff.mp H
  obtain ⟨⟨t263, t266, t267, t268, t269, t270⟩, A70, H⟩ := H
  replace H : ((spec_StepsTable.f k t263 t266 t267 t268 t269 t270).bind fun bt271 => ((laws_toPuzzle.f k l0_0 a0_1 a0_2 a0_3 a0_4 a0_5).bind fun bt275 => ((impl_StepsTable.f k bt275.1 bt275.2.1 bt275.2.2.1 bt275.2.2.2.1 bt275.2.2.2.2.1 bt275.2.2.2.2.2).bind fun bt284 => ((laws_eqInt16S.f k bt284.1 bt271.1).bind fun t288 => (if t288 = true then (laws_FnExactStepsTable.j0 k bt271.1 bt271.2 bt284.1 bt284.2 (bt284.2 != bt271.2) l0_0 a0_1 a0_2 a0_3 a0_4 a0_5 bt275.1 bt275.2.1 bt275.2.2.1 bt275.2.2.2.1 bt275.2.2.2.2.1 bt275.2.2.2.2.2) else (laws_FnExactStepsTable.j0 k bt271.1 bt271.2 bt284.1 bt284.2 true l0_0 a0_1 a0_2 a0_3 a0_4 a0_5 bt275.1 bt275.2.1 bt275.2.2.1 bt275.2.2.2.1 bt275.2.2.2.2.1 bt275.2.2.2.2.2)))))) = some r := H
  have A7 := ze.mk A70
  clear A70
  replace H := Option.bind_eq_some_iff.mp H
  obtain ⟨⟨t271, t274⟩, A80, H⟩ := H
  replace H : ((laws_toPuzzle.f k l0_0 a0_1 a0_2 a0_3 a0_4 a0_5).bind fun bt275 => ((impl_StepsTable.f k bt275.1 bt275.2.1 bt275.2.2.1 bt275.2.2.2.1 bt275.2.2.2.2.1 bt275.2.2.2.2.2).bind fun bt284 => ((laws_eqInt16S.f k bt284.1 t271).bind fun t288 => (if t288 = true then (laws_FnExactStepsTable.j0 k t271 t274 bt284.1 bt284.2 (bt284.2 != t274) l0_0 a0_1 a0_2 a0_3 a0_4 a0_5 bt275.1 bt275.2.1 bt275.2.2.1 bt275.2.2.2.1 bt275.2.2.2.2.1 bt275.2.2.2.2.2) else (laws_FnExactStepsTable.j0 k t271 t274 bt284.1 bt284.2 true l0_0 a0_1 a0_2 a0_3 a0_4 a0_5 bt275.1 bt275.2.1 bt275.2.2.1 bt275.2.2.2.1 bt275.2.2.2.2.1 bt275.2.2.2.2.2))))) = some r := H
  have A8 := ze.mk A80
  clear A80
  replace H := Option.bind_eq_some_iff.mp H
  obtain ⟨⟨t275, t278, t279, t280, t281, t282⟩, A90, H⟩ := H
  replace H : ((impl_StepsTable.f k t275 t278 t279 t280 t281 t282).bind fun bt284 => ((laws_eqInt16S.f k bt284.1 t271).bind fun t288 => (if t288 = true then (laws_FnExactStepsTable.j0 k t271 t274 bt284.1 bt284.2 (bt284.2 != t274) l0_0 a0_1 a0_2 a0_3 a0_4 a0_5 t275 t278 t279 t280 t281 t282) else (laws_FnExactStepsTable.j0 k t271 t274 bt284.1 bt284.2 true l0_0 a0_1 a0_2 a0_3 a0_4 a0_5 t275 t278 t279 t280 t281 t282)))) = some r := H
  have A9 := ze.mk A90
  clear A90
  replace H := Option.bind_eq_some_iff.mp H
  obtain ⟨⟨t284, t287⟩, A100, H⟩ := H
  replace H : ((laws_eqInt16S.f k t284 t271).bind fun t288 => (if t288 = true then (laws_FnExactStepsTable.j0 k t271 t274 t284 t287 (t287 != t274) l0_0 a0_1 a0_2 a0_3 a0_4 a0_5 t275 t278 t279 t280 t281 t282) else (laws_FnExactStepsTable.j0 k t271 t274 t284 t287 true l0_0 a0_1 a0_2 a0_3 a0_4 a0_5 t275 t278 t279 t280 t281 t282))) = some r := H
  have A10 := ze.mk A100
  clear A100
  have HC11 := ze.mk H
  clear H
  go_enter Try.func6, Try.ntmps6
  go_upto_region 8 with (first | ((with_reducible refine zaa (N := 1) rfl ?_); refine zz ?hg (N := 1) ?hd (cs := #[.slice A0_0 l0_0.length c0_0, .int .i16 a0_1, .int .i16 a0_2, .int .i16 a0_3, .int .i16 a0_4, .bool a0_5]) (t := 53) ?hr ?_; (case hd => rfl); (case hg => rfl); (case hr => first | (go_simp; done) | (go_simp; rfl)); intro gb261 hg w12 hbox hb; have n0_ := ze.mk (zm (by repeat (first | (with_reducible first | exact HB.out | apply zj | apply zc | apply zi) | exact HB.out)) hb); have n1_ := ze.mk (hbox); have n2_ := ze.mk ((by rw [hg]; exact (zn (by repeat (first | (with_reducible first | exact HB.out | apply zj | apply zc | apply zi) | exact HB.out))) : w.heap.size ≤ gb261)); have n3_ := ze.mk ((by rw [hg]; exact (zn (by repeat (first | (with_reducible first | exact HB.out | apply zj | apply zc | apply zi) | exact HB.out))) : w.heap.size ≤ gb261)); clear HB; have HB := n0_; have BK261 := n1_; have GW261 := n2_; have GE261 := n3_; clear n0_ n1_ n2_ n3_; clear hb hbox hg; have hcz13_0 : w12.cell? ⟨gb261, 0, none⟩ = some (.slice A0_0 l0_0.length c0_0) := (za BK261.out 0).trans rfl; have hcz13_1 : w12.cell? ⟨gb261, 1, none⟩ = some (.int .i16 a0_1) := (za BK261.out 1).trans rfl; have hcz13_2 : w12.cell? ⟨gb261, 2, none⟩ = some (.int .i16 a0_2) := (za BK261.out 2).trans rfl; have hcz13_3 : w12.cell? ⟨gb261, 3, none⟩ = some (.int .i16 a0_3) := (za BK261.out 3).trans rfl; have hcz13_4 : w12.cell? ⟨gb261, 4, none⟩ = some (.int .i16 a0_4) := (za BK261.out 4).trans rfl; have hcz13_5 : w12.cell? ⟨gb261, 5, none⟩ = some (.bool a0_5) := (za BK261.out 5).trans rfl; have hfz13_0 := zb BK261.out 0; have hfz13_1 := zb BK261.out 1; have hfz13_2 := zb BK261.out 2; have hfz13_3 := zb BK261.out 3; have hfz13_4 := zb BK261.out 4; have hfz13_5 := zb BK261.out 5) | ((with_reducible refine zv (f := 32) rfl ?_); refine zha (some 16) rfl rfl Try.func32 (by kernel_rfl) rfl #[.agg #[.slice A0_0 l0_0.length c0_0, .int .i16 a0_1, .int .i16 a0_2, .int .i16 a0_3, .int .i16 a0_4, .bool a0_5], .int .i64 1048576] rfl (by (try simp only [List.map_toArray, List.map_cons, List.map_nil]); first | done | rfl | (simp only [List.length_drop, List.length_take]; rfl)) ?_; (with_reducible refine (laws_szPuzzle.calls _ _ l0_0 a0_1 a0_2 a0_3 a0_4 a0_5 1048576 t262 _ ?side1 ?side2 A2.out).mono ?_); (case side1 => repeat (first | exact (Kd.C_below HR0_0.out HB.out) | (with_reducible refine Kd.C_alloc ?_ _) | (with_reducible refine Kd.C_drewN ?_ _) | (with_reducible refine Kd.C_drew ?_))); (case side2 => exact HC0_0.out); rintro e w14 ⟨rfl, hb⟩; refine ⟨_, rfl, ?_⟩; have n0_ := ze.mk (zl (g := gb261) (o := .cells #[.slice A0_0 l0_0.length c0_0, .int .i16 a0_1, .int .i16 a0_2, .int .i16 a0_3, .int .i16 a0_4, .bool a0_5] 53 (0, 0)) (by (with_reducible repeat (first | refine zg ?_ _ | refine zh ?_ | refine zf ?_ _)); exact BK261.out) hb); have n1_ := ze.mk (zm (by repeat (first | (with_reducible first | exact HB.out | apply zj | apply zc | apply zi | refine zk ?_ GE261.out) | exact HB.out)) hb); clear BK261; clear HB; have BK261 := n0_; have HB := n1_; clear n0_ n1_; (try clear hb); (try clear hb2); (try clear hk); (try clear hi); have hcz15_0 : w14.cell? ⟨gb261, 0, none⟩ = some (.slice A0_0 l0_0.length c0_0) := (za BK261.out 0).trans rfl; have hcz15_1 : w14.cell? ⟨gb261, 1, none⟩ = some (.int .i16 a0_1) := (za BK261.out 1).trans rfl; have hcz15_2 : w14.cell? ⟨gb261, 2, none⟩ = some (.int .i16 a0_2) := (za BK261.out 2).trans rfl; have hcz15_3 : w14.cell? ⟨gb261, 3, none⟩ = some (.int .i16 a0_3) := (za BK261.out 3).trans rfl; have hcz15_4 : w14.cell? ⟨gb261, 4, none⟩ = some (.int .i16 a0_4) := (za BK261.out 4).trans rfl; have hcz15_5 : w14.cell? ⟨gb261, 5, none⟩ = some (.bool a0_5) := (za BK261.out 5).trans rfl; have hfz15_0 := zb BK261.out 0; have hfz15_1 := zb BK261.out 1; have hfz15_2 := zb BK261.out 2; have hfz15_3 := zb BK261.out 3; have hfz15_4 := zb BK261.out 4; have hfz15_5 := zb BK261.out 5) | ((with_reducible refine zv (f := 34) rfl ?_); refine zha (some 21) rfl rfl Try.func34 (by kernel_rfl) rfl #[.agg #[.slice A0_0 l0_0.length c0_0, .int .i16 a0_1, .int .i16 a0_2, .int .i16 a0_3, .int .i16 a0_4, .bool a0_5]] rfl (by (try simp only [List.map_toArray, List.map_cons, List.map_nil]); first | done | rfl | (simp only [List.length_drop, List.length_take]; rfl)) ?_; (with_reducible refine (laws_toPuzzle.calls k _ _ l0_0 a0_1 a0_2 a0_3 a0_4 a0_5 t263 t266 t267 t268 t269 t270 _ ?side1 ?side2 A7.out).mono ?_); (case side1 => repeat (first | exact (Kd.C_below HR0_0.out HB.out) | (with_reducible refine Kd.C_alloc ?_ _) | (with_reducible refine Kd.C_drewN ?_ _) | (with_reducible refine Kd.C_drew ?_))); (case side2 => exact HC0_0.out); rintro e w16 ⟨v264, rfl, ho0, hb⟩; refine ⟨_, rfl, ?_⟩; have n0_ := ze.mk (Kd.R_lower ho0 (zn (by repeat (first | (with_reducible first | exact HB.out | apply zj | apply zc | apply zi | refine zk ?_ GE261.out) | exact HB.out)))); have n1_ := ze.mk (zl (g := gb261) (o := .cells #[.slice A0_0 l0_0.length c0_0, .int .i16 a0_1, .int .i16 a0_2, .int .i16 a0_3, .int .i16 a0_4, .bool a0_5] 53 (0, 0)) (by (with_reducible repeat (first | refine zg ?_ _ | refine zh ?_ | refine zf ?_ _)); exact BK261.out) hb); have n2_ := ze.mk (zm (by repeat (first | (with_reducible first | exact HB.out | apply zj | apply zc | apply zi | refine zk ?_ GE261.out) | exact HB.out)) hb); clear BK261; clear HB; have HO265 := n0_; have BK261 := n1_; have HB := n2_; clear n0_ n1_ n2_; (try clear hb); (try clear hb2); (try clear hk); (try clear hi); (try clear ho0); obtain ⟨Ao17, co17, eo17⟩ := Kd.R_slice HO265.out; subst eo17) | ((with_reducible refine zv (f := 13) rfl ?_); refine zha (some 22) rfl rfl Try.func13 (by kernel_rfl) rfl #[.agg #[.slice Ao17 t263.length co17, .int .i16 t266, .int .i16 t267, .int .i16 t268, .int .i16 t269, .bool t270]] rfl (by (try simp only [List.map_toArray, List.map_cons, List.map_nil]); first | done | rfl | (simp only [List.length_drop, List.length_take]; rfl)) ?_; (with_reducible refine (spec_StepsTable.calls k _ _ t263 t266 t267 t268 t269 t270 t271 t274 _ ?side1 ?side2 A8.out).mono ?_); (case side1 => repeat (first | exact (Kd.R_reads' HO265.out).2.2 | (with_reducible refine Kd.C_alloc ?_ _) | (with_reducible refine Kd.C_drewN ?_ _) | (with_reducible refine Kd.C_drew ?_))); (case side2 => exact (Kd.R_reads' HO265.out).2.1); rintro e w18 ⟨v272, rfl, ho0, hb⟩; refine ⟨_, rfl, ?_⟩; have n0_ := ze.mk (Kd.R_elder' (by (with_reducible repeat (first | apply Kd.R_alloc | apply Kd.R_drewN | apply Kd.R_drew)); exact HO265.out) (Kd.R_base ho0) hb); have n1_ := ze.mk (Kd.R_lower (Kd.R_new' ho0 (Kd.R_lt (by (with_reducible repeat (first | apply Kd.R_alloc | apply Kd.R_drewN | apply Kd.R_drew)); exact HO265.out))) (zn (by repeat (first | (with_reducible first | exact HB.out | apply zj | apply zc | apply zi | refine zk ?_ GE261.out) | exact HB.out)))); have n2_ := ze.mk (zl (g := gb261) (o := .cells #[.slice A0_0 l0_0.length c0_0, .int .i16 a0_1, .int .i16 a0_2, .int .i16 a0_3, .int .i16 a0_4, .bool a0_5] 53 (0, 0)) (by (with_reducible repeat (first | refine zg ?_ _ | refine zh ?_ | refine zf ?_ _)); exact BK261.out) hb); have n3_ := ze.mk (zm (by repeat (first | (with_reducible first | exact HB.out | apply zj | apply zc | apply zi | refine zk ?_ GE261.out) | exact HB.out)) hb); clear HO265; clear BK261; clear HB; have HO265 := n0_; have HO273 := n1_; have BK261 := n2_; have HB := n3_; clear n0_ n1_ n2_ n3_; (try clear hb); (try clear hb2); (try clear hk); (try clear hi); (try clear ho0); have hcz19_0 : w18.cell? ⟨gb261, 0, none⟩ = some (.slice A0_0 l0_0.length c0_0) := (za BK261.out 0).trans rfl; have hcz19_1 : w18.cell? ⟨gb261, 1, none⟩ = some (.int .i16 a0_1) := (za BK261.out 1).trans rfl; have hcz19_2 : w18.cell? ⟨gb261, 2, none⟩ = some (.int .i16 a0_2) := (za BK261.out 2).trans rfl; have hcz19_3 : w18.cell? ⟨gb261, 3, none⟩ = some (.int .i16 a0_3) := (za BK261.out 3).trans rfl; have hcz19_4 : w18.cell? ⟨gb261, 4, none⟩ = some (.int .i16 a0_4) := (za BK261.out 4).trans rfl; have hcz19_5 : w18.cell? ⟨gb261, 5, none⟩ = some (.bool a0_5) := (za BK261.out 5).trans rfl; have hfz19_0 := zb BK261.out 0; have hfz19_1 := zb BK261.out 1; have hfz19_2 := zb BK261.out 2; have hfz19_3 := zb BK261.out 3; have hfz19_4 := zb BK261.out 4; have hfz19_5 := zb BK261.out 5) | ((with_reducible refine zv (f := 34) rfl ?_); refine zha (some 26) rfl rfl Try.func34 (by kernel_rfl) rfl #[.agg #[.slice A0_0 l0_0.length c0_0, .int .i16 a0_1, .int .i16 a0_2, .int .i16 a0_3, .int .i16 a0_4, .bool a0_5]] rfl (by (try simp only [List.map_toArray, List.map_cons, List.map_nil]); first | done | rfl | (simp only [List.length_drop, List.length_take]; rfl)) ?_; (with_reducible refine (laws_toPuzzle.calls k _ _ l0_0 a0_1 a0_2 a0_3 a0_4 a0_5 t275 t278 t279 t280 t281 t282 _ ?side1 ?side2 A9.out).mono ?_); (case side1 => repeat (first | exact (Kd.C_below HR0_0.out HB.out) | (with_reducible refine Kd.C_alloc ?_ _) | (with_reducible refine Kd.C_drewN ?_ _) | (with_reducible refine Kd.C_drew ?_))); (case side2 => exact HC0_0.out); rintro e w20 ⟨v276, rfl, ho0, hb⟩; refine ⟨_, rfl, ?_⟩; have n0_ := ze.mk (Kd.R_elder' (by (with_reducible repeat (first | apply Kd.R_alloc | apply Kd.R_drewN | apply Kd.R_drew)); exact HO265.out) (Kd.R_base ho0) hb); have n1_ := ze.mk (Kd.R_elder' (by (with_reducible repeat (first | apply Kd.R_alloc | apply Kd.R_drewN | apply Kd.R_drew)); exact HO273.out) (Kd.R_base ho0) hb); have n2_ := ze.mk (Kd.R_lower (Kd.R_new' (Kd.R_new' ho0 (Kd.R_lt (by (with_reducible repeat (first | apply Kd.R_alloc | apply Kd.R_drewN | apply Kd.R_drew)); exact HO265.out))) (Kd.R_lt (by (with_reducible repeat (first | apply Kd.R_alloc | apply Kd.R_drewN | apply Kd.R_drew)); exact HO273.out))) (zn (by repeat (first | (with_reducible first | exact HB.out | apply zj | apply zc | apply zi | refine zk ?_ GE261.out) | exact HB.out)))); have n3_ := ze.mk (zl (g := gb261) (o := .cells #[.slice A0_0 l0_0.length c0_0, .int .i16 a0_1, .int .i16 a0_2, .int .i16 a0_3, .int .i16 a0_4, .bool a0_5] 53 (0, 0)) (by (with_reducible repeat (first | refine zg ?_ _ | refine zh ?_ | refine zf ?_ _)); exact BK261.out) hb); have n4_ := ze.mk (zm (by repeat (first | (with_reducible first | exact HB.out | apply zj | apply zc | apply zi | refine zk ?_ GE261.out) | exact HB.out)) hb); clear HO265; clear HO273; clear BK261; clear HB; have HO265 := n0_; have HO273 := n1_; have HO277 := n2_; have BK261 := n3_; have HB := n4_; clear n0_ n1_ n2_ n3_ n4_; (try clear hb); (try clear hb2); (try clear hk); (try clear hi); (try clear ho0)) | ((with_reducible refine zaa (N := 6) rfl ?_); refine zz ?hg (N := 6) ?hd (cs := #[.slice none 0 0, .int .i16 0, .int .i16 0, .int .i16 0, .int .i16 0, .bool false]) (t := 29) ?hr ?_; (case hd => rfl); (case hg => rfl); (case hr => first | (go_simp; done) | (go_simp; rfl)); intro gb283 hg w21 hbox hb; have n0_ := ze.mk (Kd.R_below (by (with_reducible repeat (first | apply Kd.R_alloc | apply Kd.R_drewN | apply Kd.R_drew)); exact HO265.out) hb); have n1_ := ze.mk (Kd.R_below (by (with_reducible repeat (first | apply Kd.R_alloc | apply Kd.R_drewN | apply Kd.R_drew)); exact HO273.out) hb); have n2_ := ze.mk (Kd.R_below (by (with_reducible repeat (first | apply Kd.R_alloc | apply Kd.R_drewN | apply Kd.R_drew)); exact HO277.out) hb); have n3_ := ze.mk (zl (g := gb261) (o := .cells #[.slice A0_0 l0_0.length c0_0, .int .i16 a0_1, .int .i16 a0_2, .int .i16 a0_3, .int .i16 a0_4, .bool a0_5] 53 (0, 0)) (by (with_reducible repeat (first | refine zg ?_ _ | refine zh ?_ | refine zf ?_ _)); exact BK261.out) hb); have n4_ := ze.mk (zm (by repeat (first | (with_reducible first | exact HB.out | apply zj | apply zc | apply zi | refine zk ?_ GE261.out) | exact HB.out)) hb); have n5_ := ze.mk (hbox); have n6_ := ze.mk ((by rw [hg]; exact (zn (by repeat (first | (with_reducible first | exact HB.out | apply zj | apply zc | apply zi | refine zk ?_ GE261.out) | exact HB.out))) : w.heap.size ≤ gb283)); have n7_ := ze.mk ((by rw [hg]; exact (zn (by repeat (first | (with_reducible first | exact HB.out | apply zj | apply zc | apply zi | refine zk ?_ GE261.out) | exact HB.out))) : w.heap.size ≤ gb283)); have n8_ := ze.mk ((by rw [hg]; exact Nat.ne_of_lt (zfa (g := gb261) (o := .cells #[.slice A0_0 l0_0.length c0_0, .int .i16 a0_1, .int .i16 a0_2, .int .i16 a0_3, .int .i16 a0_4, .bool a0_5] 53 (0, 0)) (by (with_reducible repeat (first | refine zg ?_ _ | refine zh ?_ | refine zf ?_ _)); exact BK261.out)) : gb261 ≠ gb283)); have n9_ := ze.mk ((by rw [hg]; exact Nat.ne_of_gt (zfa (g := gb261) (o := .cells #[.slice A0_0 l0_0.length c0_0, .int .i16 a0_1, .int .i16 a0_2, .int .i16 a0_3, .int .i16 a0_4, .bool a0_5] 53 (0, 0)) (by (with_reducible repeat (first | refine zg ?_ _ | refine zh ?_ | refine zf ?_ _)); exact BK261.out)) : gb283 ≠ gb261)); clear HO265; clear HO273; clear HO277; clear BK261; clear HB; have HO265 := n0_; have HO273 := n1_; have HO277 := n2_; have BK261 := n3_; have HB := n4_; have BK283 := n5_; have GW283 := n6_; have GE283 := n7_; have NB261_283 := n8_; have NB283_261 := n9_; clear n0_ n1_ n2_ n3_ n4_ n5_ n6_ n7_ n8_ n9_; clear hb hbox hg; obtain ⟨Ao22, co22, eo22⟩ := Kd.R_slice HO277.out; subst eo22; have hnb23 := NB283_261.out; have hnc23 := NB261_283.out; have hcz24_0 : w21.cell? ⟨gb283, 0, none⟩ = some (.slice none 0 0) := (za BK283.out 0).trans rfl; have hcz24_1 : w21.cell? ⟨gb283, 1, none⟩ = some (.int .i16 0) := (za BK283.out 1).trans rfl; have hcz24_2 : w21.cell? ⟨gb283, 2, none⟩ = some (.int .i16 0) := (za BK283.out 2).trans rfl; have hcz24_3 : w21.cell? ⟨gb283, 3, none⟩ = some (.int .i16 0) := (za BK283.out 3).trans rfl; have hcz24_4 : w21.cell? ⟨gb283, 4, none⟩ = some (.int .i16 0) := (za BK283.out 4).trans rfl; have hcz24_5 : w21.cell? ⟨gb283, 5, none⟩ = some (.bool false) := (za BK283.out 5).trans rfl; have hfz24_0 := zb BK283.out 0; have hfz24_1 := zb BK283.out 1; have hfz24_2 := zb BK283.out 2; have hfz24_3 := zb BK283.out 3; have hfz24_4 := zb BK283.out 4; have hfz24_5 := zb BK283.out 5) | ((with_reducible refine zv (f := 12) rfl ?_); refine zha (some 29) rfl rfl Try.func12 (by kernel_rfl) rfl #[.agg #[.slice Ao22 t275.length co22, .int .i16 t278, .int .i16 t279, .int .i16 t280, .int .i16 t281, .bool t282]] rfl (by (try simp only [List.map_toArray, List.map_cons, List.map_nil]); first | done | rfl | (simp only [List.length_drop, List.length_take]; rfl)) ?_; (with_reducible refine (impl_StepsTable.calls k _ _ t275 t278 t279 t280 t281 t282 t284 t287 _ ?side1 ?side2 A10.out).mono ?_); (case side1 => refine (Kd.R_reads' (e := 25) (base := w.heap.size) (ok := fun k_ => ((True ∧ some k_ ≠ (.slice Ao17 t263.length co17 : Value).ownBlock) ∧ some k_ ≠ (v272 : Value).ownBlock)) (n := t275.length) (c := co22) ?_).2.2; exact (by (with_reducible repeat (first | apply Kd.R_alloc | apply Kd.R_drewN | apply Kd.R_drew)); exact (Kd.R_mono (Kd.R_far (p := ⟨gb283, 5, none⟩) (Kd.R_far (p := ⟨gb283, 4, none⟩) (Kd.R_far (p := ⟨gb283, 3, none⟩) (Kd.R_far (p := ⟨gb283, 2, none⟩) (Kd.R_far (p := ⟨gb283, 1, none⟩) (Kd.R_far (p := ⟨gb283, 0, none⟩) (Kd.R_types HO277.out BK283.out (by decide)) (fun _ hk => hk.2) (.slice Ao22 t275.length co22)) (fun _ hk => hk.2) (.int .i16 t278)) (fun _ hk => hk.2) (.int .i16 t279)) (fun _ hk => hk.2) (.int .i16 t280)) (fun _ hk => hk.2) (.int .i16 t281)) (fun _ hk => hk.2) (.bool t282)) (fun _ h_ => h_.1)))); (case side2 => exact (Kd.R_reads' HO277.out).2.1); rintro e w25 ⟨v285, rfl, ho0, hb⟩; refine ⟨_, rfl, ?_⟩; have n0_ := ze.mk (Kd.R_elder' (by (with_reducible repeat (first | apply Kd.R_alloc | apply Kd.R_drewN | apply Kd.R_drew)); exact (Kd.R_mono (Kd.R_far (p := ⟨gb283, 5, none⟩) (Kd.R_far (p := ⟨gb283, 4, none⟩) (Kd.R_far (p := ⟨gb283, 3, none⟩) (Kd.R_far (p := ⟨gb283, 2, none⟩) (Kd.R_far (p := ⟨gb283, 1, none⟩) (Kd.R_far (p := ⟨gb283, 0, none⟩) (Kd.R_types HO265.out BK283.out (by decide)) (fun _ hk => hk.2) (.slice Ao22 t275.length co22)) (fun _ hk => hk.2) (.int .i16 t278)) (fun _ hk => hk.2) (.int .i16 t279)) (fun _ hk => hk.2) (.int .i16 t280)) (fun _ hk => hk.2) (.int .i16 t281)) (fun _ hk => hk.2) (.bool t282)) (fun _ h_ => h_.1))) (Kd.R_base ho0) hb); have n1_ := ze.mk (Kd.R_elder' (by (with_reducible repeat (first | apply Kd.R_alloc | apply Kd.R_drewN | apply Kd.R_drew)); exact (Kd.R_mono (Kd.R_far (p := ⟨gb283, 5, none⟩) (Kd.R_far (p := ⟨gb283, 4, none⟩) (Kd.R_far (p := ⟨gb283, 3, none⟩) (Kd.R_far (p := ⟨gb283, 2, none⟩) (Kd.R_far (p := ⟨gb283, 1, none⟩) (Kd.R_far (p := ⟨gb283, 0, none⟩) (Kd.R_types HO273.out BK283.out (by decide)) (fun _ hk => hk.2) (.slice Ao22 t275.length co22)) (fun _ hk => hk.2) (.int .i16 t278)) (fun _ hk => hk.2) (.int .i16 t279)) (fun _ hk => hk.2) (.int .i16 t280)) (fun _ hk => hk.2) (.int .i16 t281)) (fun _ hk => hk.2) (.bool t282)) (fun _ h_ => h_.1))) (Kd.R_base ho0) hb); have n2_ := ze.mk (Kd.R_elder' (by (with_reducible repeat (first | apply Kd.R_alloc | apply Kd.R_drewN | apply Kd.R_drew)); exact (Kd.R_mono (Kd.R_far (p := ⟨gb283, 5, none⟩) (Kd.R_far (p := ⟨gb283, 4, none⟩) (Kd.R_far (p := ⟨gb283, 3, none⟩) (Kd.R_far (p := ⟨gb283, 2, none⟩) (Kd.R_far (p := ⟨gb283, 1, none⟩) (Kd.R_far (p := ⟨gb283, 0, none⟩) (Kd.R_types HO277.out BK283.out (by decide)) (fun _ hk => hk.2) (.slice Ao22 t275.length co22)) (fun _ hk => hk.2) (.int .i16 t278)) (fun _ hk => hk.2) (.int .i16 t279)) (fun _ hk => hk.2) (.int .i16 t280)) (fun _ hk => hk.2) (.int .i16 t281)) (fun _ hk => hk.2) (.bool t282)) (fun _ h_ => h_.1))) (Kd.R_base ho0) hb); have n3_ := ze.mk (Kd.R_lower (Kd.R_new' (Kd.R_new' (Kd.R_new' ho0 (Kd.R_lt (by (with_reducible repeat (first | apply Kd.R_alloc | apply Kd.R_drewN | apply Kd.R_drew)); exact (Kd.R_mono (Kd.R_far (p := ⟨gb283, 5, none⟩) (Kd.R_far (p := ⟨gb283, 4, none⟩) (Kd.R_far (p := ⟨gb283, 3, none⟩) (Kd.R_far (p := ⟨gb283, 2, none⟩) (Kd.R_far (p := ⟨gb283, 1, none⟩) (Kd.R_far (p := ⟨gb283, 0, none⟩) (Kd.R_types HO265.out BK283.out (by decide)) (fun _ hk => hk.2) (.slice Ao22 t275.length co22)) (fun _ hk => hk.2) (.int .i16 t278)) (fun _ hk => hk.2) (.int .i16 t279)) (fun _ hk => hk.2) (.int .i16 t280)) (fun _ hk => hk.2) (.int .i16 t281)) (fun _ hk => hk.2) (.bool t282)) (fun _ h_ => h_.1))))) (Kd.R_lt (by (with_reducible repeat (first | apply Kd.R_alloc | apply Kd.R_drewN | apply Kd.R_drew)); exact (Kd.R_mono (Kd.R_far (p := ⟨gb283, 5, none⟩) (Kd.R_far (p := ⟨gb283, 4, none⟩) (Kd.R_far (p := ⟨gb283, 3, none⟩) (Kd.R_far (p := ⟨gb283, 2, none⟩) (Kd.R_far (p := ⟨gb283, 1, none⟩) (Kd.R_far (p := ⟨gb283, 0, none⟩) (Kd.R_types HO273.out BK283.out (by decide)) (fun _ hk => hk.2) (.slice Ao22 t275.length co22)) (fun _ hk => hk.2) (.int .i16 t278)) (fun _ hk => hk.2) (.int .i16 t279)) (fun _ hk => hk.2) (.int .i16 t280)) (fun _ hk => hk.2) (.int .i16 t281)) (fun _ hk => hk.2) (.bool t282)) (fun _ h_ => h_.1))))) (Kd.R_lt (by (with_reducible repeat (first | apply Kd.R_alloc | apply Kd.R_drewN | apply Kd.R_drew)); exact (Kd.R_mono (Kd.R_far (p := ⟨gb283, 5, none⟩) (Kd.R_far (p := ⟨gb283, 4, none⟩) (Kd.R_far (p := ⟨gb283, 3, none⟩) (Kd.R_far (p := ⟨gb283, 2, none⟩) (Kd.R_far (p := ⟨gb283, 1, none⟩) (Kd.R_far (p := ⟨gb283, 0, none⟩) (Kd.R_types HO277.out BK283.out (by decide)) (fun _ hk => hk.2) (.slice Ao22 t275.length co22)) (fun _ hk => hk.2) (.int .i16 t278)) (fun _ hk => hk.2) (.int .i16 t279)) (fun _ hk => hk.2) (.int .i16 t280)) (fun _ hk => hk.2) (.int .i16 t281)) (fun _ hk => hk.2) (.bool t282)) (fun _ h_ => h_.1))))) (zn (by repeat (first | (with_reducible first | exact HB.out | apply zj | apply zc | apply zi | refine zk ?_ GE261.out | refine zk ?_ GE283.out) | exact HB.out)))); have n4_ := ze.mk (zl (g := gb261) (o := .cells #[.slice A0_0 l0_0.length c0_0, .int .i16 a0_1, .int .i16 a0_2, .int .i16 a0_3, .int .i16 a0_4, .bool a0_5] 53 (0, 0)) (by (with_reducible repeat (first | refine zg ?_ _ | refine zh ?_ | refine zf ?_ _)); refine zu ?_ NB261_283.out _; (with_reducible repeat (first | refine zg ?_ _ | refine zh ?_ | refine zf ?_ _)); refine zu ?_ NB261_283.out _; (with_reducible repeat (first | refine zg ?_ _ | refine zh ?_ | refine zf ?_ _)); refine zu ?_ NB261_283.out _; (with_reducible repeat (first | refine zg ?_ _ | refine zh ?_ | refine zf ?_ _)); refine zu ?_ NB261_283.out _; (with_reducible repeat (first | refine zg ?_ _ | refine zh ?_ | refine zf ?_ _)); refine zu ?_ NB261_283.out _; (with_reducible repeat (first | refine zg ?_ _ | refine zh ?_ | refine zf ?_ _)); refine zu ?_ NB261_283.out _; (with_reducible repeat (first | refine zg ?_ _ | refine zh ?_ | refine zf ?_ _)); exact BK261.out) hb); have n5_ := ze.mk (zl (g := gb283) (o := .cells #[.slice Ao22 t275.length co22, .int .i16 t278, .int .i16 t279, .int .i16 t280, .int .i16 t281, .bool t282] 29 (0, 0)) (by (with_reducible repeat (first | refine zg ?_ _ | refine zh ?_ | refine zf ?_ _)); refine zca (cs := #[.slice Ao22 t275.length co22, .int .i16 t278, .int .i16 t279, .int .i16 t280, .int .i16 t281, .bool false]) ?_ 5 _ rfl; (with_reducible repeat (first | refine zg ?_ _ | refine zh ?_ | refine zf ?_ _)); refine zca (cs := #[.slice Ao22 t275.length co22, .int .i16 t278, .int .i16 t279, .int .i16 t280, .int .i16 0, .bool false]) ?_ 4 _ rfl; (with_reducible repeat (first | refine zg ?_ _ | refine zh ?_ | refine zf ?_ _)); refine zca (cs := #[.slice Ao22 t275.length co22, .int .i16 t278, .int .i16 t279, .int .i16 0, .int .i16 0, .bool false]) ?_ 3 _ rfl; (with_reducible repeat (first | refine zg ?_ _ | refine zh ?_ | refine zf ?_ _)); refine zca (cs := #[.slice Ao22 t275.length co22, .int .i16 t278, .int .i16 0, .int .i16 0, .int .i16 0, .bool false]) ?_ 2 _ rfl; (with_reducible repeat (first | refine zg ?_ _ | refine zh ?_ | refine zf ?_ _)); refine zca (cs := #[.slice Ao22 t275.length co22, .int .i16 0, .int .i16 0, .int .i16 0, .int .i16 0, .bool false]) ?_ 1 _ rfl; (with_reducible repeat (first | refine zg ?_ _ | refine zh ?_ | refine zf ?_ _)); refine zca (cs := #[.slice none 0 0, .int .i16 0, .int .i16 0, .int .i16 0, .int .i16 0, .bool false]) ?_ 0 _ rfl; (with_reducible repeat (first | refine zg ?_ _ | refine zh ?_ | refine zf ?_ _)); exact BK283.out) hb); have n6_ := ze.mk (zm (by repeat (first | (with_reducible first | exact HB.out | apply zj | apply zc | apply zi | refine zk ?_ GE261.out | refine zk ?_ GE283.out) | exact HB.out)) hb); clear HO265; clear HO273; clear HO277; clear BK261; clear BK283; clear HB; have HO265 := n0_; have HO273 := n1_; have HO277 := n2_; have HO286 := n3_; have BK261 := n4_; have BK283 := n5_; have HB := n6_; clear n0_ n1_ n2_ n3_ n4_ n5_ n6_; (try clear hb); (try clear hb2); (try clear hk); (try clear hi); (try clear ho0)))
  (try simp only [Act.put, List.setIfInBounds_toArray, List.set_cons_zero, List.set_cons_succ])
  go_cut [40] (fun v40 wc => ∃ (kq : Nat) (x40_10 : Bool), v40 = .bool x40_10 ∧ ze (laws_FnExactStepsTable.j0 kq t271 t274 t284 t287 x40_10 l0_0 a0_1 a0_2 a0_3 a0_4 a0_5 t275 t278 t279 t280 t281 t282 = some r) ∧ ze (kq ≤ k) ∧ ze (Kd.R (Kd.int .i16) 25 wc w.heap.size (fun k_ => some k_ ≠ (v285 : Value).ownBlock ∧ some k_ ≠ ((.slice Ao22 t275.length co22) : Value).ownBlock) v272 t271) ∧ ze (Kd.R (Kd.int .i16) 25 wc w.heap.size (fun k_ => some k_ ≠ (v272 : Value).ownBlock ∧ some k_ ≠ ((.slice Ao22 t275.length co22) : Value).ownBlock) v285 t284) ∧ ze (Kd.R (Kd.int .i16) 25 wc w.heap.size (fun k_ => some k_ ≠ (v272 : Value).ownBlock ∧ some k_ ≠ (v285 : Value).ownBlock) (.slice Ao22 t275.length co22) t275) ∧ ze (wc.heap[gb261]? = some (.cells #[(.slice A0_0 l0_0.length c0_0), .int .i16 a0_1, .int .i16 a0_2, .int .i16 a0_3, .int .i16 a0_4, .bool a0_5] 53 (0, 0))) ∧ ze (wc.heap[gb283]? = some (.cells #[(.slice Ao22 t275.length co22), .int .i16 t278, .int .i16 t279, .int .i16 t280, .int .i16 t281, .bool t282] 29 (0, 0))) ∧ ze (Below w.heap.size w wc))
  case first =>
   have H := HC11.out
   clear HC11
   replace H := Option.bind_eq_some_iff.mp H
   obtain ⟨t288, A260, H⟩ := H
   replace H : (if t288 = true then (laws_FnExactStepsTable.j0 k t271 t274 t284 t287 (t287 != t274) l0_0 a0_1 a0_2 a0_3 a0_4 a0_5 t275 t278 t279 t280 t281 t282) else (laws_FnExactStepsTable.j0 k t271 t274 t284 t287 true l0_0 a0_1 a0_2 a0_3 a0_4 a0_5 t275 t278 t279 t280 t281 t282)) = some r := H
   have A26 := ze.mk A260
   clear A260
   by_cases c27 : t288 = true
   ·subst c27
    have H1 : (laws_FnExactStepsTable.j0 k t271 t274 t284 t287 (t287 != t274) l0_0 a0_1 a0_2 a0_3 a0_4 a0_5 t275 t278 t279 t280 t281 t282) = some r := by rw [if_pos rfl] at H; exact H
    clear H
    have H := H1
    clear H1
    have H' := ze.mk H
    clear H
    obtain ⟨Ao28, co28, eo28⟩ := Kd.R_slice HO286.out
    subst eo28
    obtain ⟨Ao29, co29, eo29⟩ := Kd.R_slice HO273.out
    subst eo29
    go_wp2_with (first | ((with_reducible refine zv (f := 37) rfl ?_); refine zha (some 34) rfl rfl Try.func37 (by kernel_rfl) rfl #[.slice Ao28 t284.length co28, .slice Ao29 t271.length co29] rfl (by (try simp only [List.map_toArray, List.map_cons, List.map_nil]); first | done | rfl | (simp only [List.length_drop, List.length_take]; rfl)) ?_; (with_reducible refine (laws_eqInt16S.calls k _ _ t284 _ _ t271 true _ ?side1 ?side2 ?side3 ?side4 A26.out).mono ?_); (case side1 => repeat (first | exact (Kd.R_reads' HO286.out).2.2 | (with_reducible refine Kd.C_alloc ?_ _) | (with_reducible refine Kd.C_drewN ?_ _) | (with_reducible refine Kd.C_drew ?_))); (case side2 => exact (Kd.R_reads' HO286.out).2.1); (case side3 => repeat (first | exact (Kd.R_reads' HO273.out).2.2 | (with_reducible refine Kd.C_alloc ?_ _) | (with_reducible refine Kd.C_drewN ?_ _) | (with_reducible refine Kd.C_drew ?_))); (case side4 => exact (Kd.R_reads' HO273.out).2.1); rintro e w' ⟨rfl, ⟨nd, rfl⟩⟩; refine ⟨_, rfl, ?_⟩))
    go_meet
    case rel => exact ⟨_, ((t287 != t274)), (by first | rfl | (simp; done) | (simp [*]; done)), H', ⟨by first | omega | exact Nat.le_refl _⟩, ⟨by (with_reducible repeat (first | apply Kd.R_alloc | apply Kd.R_drewN | apply Kd.R_drew)); exact Kd.R_mono HO273.out (fun _ hk => ⟨hk.2, hk.1.2⟩)⟩, ⟨by (with_reducible repeat (first | apply Kd.R_alloc | apply Kd.R_drewN | apply Kd.R_drew)); exact Kd.R_mono HO286.out (fun _ hk => ⟨hk.1.2, hk.2⟩)⟩, ⟨by (with_reducible repeat (first | apply Kd.R_alloc | apply Kd.R_drewN | apply Kd.R_drew)); exact Kd.R_mono HO277.out (fun _ hk => ⟨hk.1.2, hk.2⟩)⟩, ⟨by (with_reducible repeat (first | refine zg ?_ _ | refine zh ?_ | refine zf ?_ _)); exact BK261.out⟩, ⟨by (with_reducible repeat (first | refine zg ?_ _ | refine zh ?_ | refine zf ?_ _)); exact BK283.out⟩, ⟨by repeat (first | (with_reducible first | exact HB.out | apply zj | apply zc | apply zi | refine zk ?_ GE261.out | refine zk ?_ GE283.out) | exact HB.out)⟩⟩
   ·replace c27 := Bool.eq_false_iff.mpr c27
    subst c27
    have H1 : (laws_FnExactStepsTable.j0 k t271 t274 t284 t287 true l0_0 a0_1 a0_2 a0_3 a0_4 a0_5 t275 t278 t279 t280 t281 t282) = some r := by rw [if_neg (show ¬ (false = true) by decide)] at H; exact H
    clear H
    have H := H1
    clear H1
    have H' := ze.mk H
    clear H
    obtain ⟨Ao30, co30, eo30⟩ := Kd.R_slice HO286.out
    subst eo30
    obtain ⟨Ao31, co31, eo31⟩ := Kd.R_slice HO273.out
    subst eo31
    go_wp2_with (first | ((with_reducible refine zv (f := 37) rfl ?_); refine zha (some 34) rfl rfl Try.func37 (by kernel_rfl) rfl #[.slice Ao30 t284.length co30, .slice Ao31 t271.length co31] rfl (by (try simp only [List.map_toArray, List.map_cons, List.map_nil]); first | done | rfl | (simp only [List.length_drop, List.length_take]; rfl)) ?_; (with_reducible refine (laws_eqInt16S.calls k _ _ t284 _ _ t271 false _ ?side1 ?side2 ?side3 ?side4 A26.out).mono ?_); (case side1 => repeat (first | exact (Kd.R_reads' HO286.out).2.2 | (with_reducible refine Kd.C_alloc ?_ _) | (with_reducible refine Kd.C_drewN ?_ _) | (with_reducible refine Kd.C_drew ?_))); (case side2 => exact (Kd.R_reads' HO286.out).2.1); (case side3 => repeat (first | exact (Kd.R_reads' HO273.out).2.2 | (with_reducible refine Kd.C_alloc ?_ _) | (with_reducible refine Kd.C_drewN ?_ _) | (with_reducible refine Kd.C_drew ?_))); (case side4 => exact (Kd.R_reads' HO273.out).2.1); rintro e w' ⟨rfl, ⟨nd, rfl⟩⟩; refine ⟨_, rfl, ?_⟩))
    go_meet
    case rel => exact ⟨_, (true), (by first | rfl | (simp; done) | (simp [*]; done)), H', ⟨by first | omega | exact Nat.le_refl _⟩, ⟨by (with_reducible repeat (first | apply Kd.R_alloc | apply Kd.R_drewN | apply Kd.R_drew)); exact Kd.R_mono HO273.out (fun _ hk => ⟨hk.2, hk.1.2⟩)⟩, ⟨by (with_reducible repeat (first | apply Kd.R_alloc | apply Kd.R_drewN | apply Kd.R_drew)); exact Kd.R_mono HO286.out (fun _ hk => ⟨hk.1.2, hk.2⟩)⟩, ⟨by (with_reducible repeat (first | apply Kd.R_alloc | apply Kd.R_drewN | apply Kd.R_drew)); exact Kd.R_mono HO277.out (fun _ hk => ⟨hk.1.2, hk.2⟩)⟩, ⟨by (with_reducible repeat (first | refine zg ?_ _ | refine zh ?_ | refine zf ?_ _)); exact BK261.out⟩, ⟨by (with_reducible repeat (first | refine zg ?_ _ | refine zh ?_ | refine zf ?_ _)); exact BK283.out⟩, ⟨by repeat (first | (with_reducible first | exact HB.out | apply zj | apply zc | apply zi | refine zk ?_ GE261.out | refine zk ?_ GE283.out) | exact HB.out)⟩⟩
  case rest =>
   clear HC11
   try clear c1
   try clear c2
   try clear p2
   try clear c3
   try clear c3b0
   try clear c6
   try clear c12
   try clear c13
   try clear c23
   try clear c27
   try clear hcz13_0
   try clear hcz13_1
   try clear hcz13_2
   try clear hcz13_3
   try clear hcz13_4
   try clear hcz13_5
   try clear hcz15_0
   try clear hcz15_1
   try clear hcz15_2
   try clear hcz15_3
   try clear hcz15_4
   try clear hcz15_5
   try clear hcz19_0
   try clear hcz19_1
   try clear hcz19_2
   try clear hcz19_3
   try clear hcz19_4
   try clear hcz19_5
   try clear hcz24_0
   try clear hcz24_1
   try clear hcz24_2
   try clear hcz24_3
   try clear hcz24_4
   try clear hcz24_5
   try clear hcz5_0
   try clear hcz5_1
   try clear hcz5_2
   try clear hcz5_3
   try clear hcz5_4
   try clear hcz5_5
   try clear hfz13_0
   try clear hfz13_1
   try clear hfz13_2
   try clear hfz13_3
   try clear hfz13_4
   try clear hfz13_5
   try clear hfz15_0
   try clear hfz15_1
   try clear hfz15_2
   try clear hfz15_3
   try clear hfz15_4
   try clear hfz15_5
   try clear hfz19_0
   try clear hfz19_1
   try clear hfz19_2
   try clear hfz19_3
   try clear hfz19_4
   try clear hfz19_5
   try clear hfz24_0
   try clear hfz24_1
   try clear hfz24_2
   try clear hfz24_3
   try clear hfz24_4
   try clear hfz24_5
   try clear hfz5_0
   try clear hfz5_1
   try clear hfz5_2
   try clear hfz5_3
   try clear hfz5_4
   try clear hfz5_5
   obtain ⟨kq, x40_10, rfl, HA, HJ10, HO_4, HO_7, HO_284000, BK261, BK283, HB⟩ := hcut
   cases kq with
   | zero => exact absurd HA.out (by simp [laws_FnExactStepsTable.j0])
   | succ kj10 =>
    have H := HA.out
    clear HA
    simp only [laws_FnExactStepsTable.j0] at H
    by_cases c32 : x40_10 = true
    ·subst c32
     have H1 : (some false) = some r := by rw [if_pos rfl] at H; exact H
     clear H
     have H := H1
     clear H1
     obtain rfl := Option.some.inj H
     go_wp2
     go_ret
     exact ⟨by first | rfl | (simp [zt, zr] <;> rfl) | (simp [*, zt, zr] <;> rfl), by repeat (first | (with_reducible first | exact HB.out | apply zj | apply zc | apply zi | refine zk ?_ GE261.out | refine zk ?_ GE283.out) | exact HB.out)⟩
    ·replace c32 := Bool.eq_false_iff.mpr c32
     subst c32
     have H1 : ((laws_toPuzzle.f kj10 l0_0 a0_1 a0_2 a0_3 a0_4 a0_5).bind fun bt289 => ((laws_eqPuzzle.f kj10 t275 t278 t279 t280 t281 t282 bt289.1 bt289.2.1 bt289.2.2.1 bt289.2.2.2.1 bt289.2.2.2.2.1 bt289.2.2.2.2.2).bind fun t297 => (if t297 = true then ((laws_markPuzzle.f kj10 t275 t278 t279 t280 t281 t282 1).bind fun bt298 => (if bt298.1 < 0 then (laws_FnExactStepsTable.j1 kj10 t271 t274 t284 true l0_0 a0_1 a0_2 a0_3 a0_4 a0_5) else ((laws_eqInt16S.f kj10 t284 t271).bind fun t300 => (if t300 = true then (laws_FnExactStepsTable.j1 kj10 t271 t274 t284 (t287 != t274) l0_0 a0_1 a0_2 a0_3 a0_4 a0_5) else (laws_FnExactStepsTable.j1 kj10 t271 t274 t284 true l0_0 a0_1 a0_2 a0_3 a0_4 a0_5))))) else (some false)))) = some r := by rw [if_neg (show ¬ (false = true) by decide)] at H; exact H
     clear H
     have H := H1
     clear H1
     replace H := Option.bind_eq_some_iff.mp H
     obtain ⟨⟨t289, t292, t293, t294, t295, t296⟩, A330, H⟩ := H
     replace H : ((laws_eqPuzzle.f kj10 t275 t278 t279 t280 t281 t282 t289 t292 t293 t294 t295 t296).bind fun t297 => (if t297 = true then ((laws_markPuzzle.f kj10 t275 t278 t279 t280 t281 t282 1).bind fun bt298 => (if bt298.1 < 0 then (laws_FnExactStepsTable.j1 kj10 t271 t274 t284 true l0_0 a0_1 a0_2 a0_3 a0_4 a0_5) else ((laws_eqInt16S.f kj10 t284 t271).bind fun t300 => (if t300 = true then (laws_FnExactStepsTable.j1 kj10 t271 t274 t284 (t287 != t274) l0_0 a0_1 a0_2 a0_3 a0_4 a0_5) else (laws_FnExactStepsTable.j1 kj10 t271 t274 t284 true l0_0 a0_1 a0_2 a0_3 a0_4 a0_5))))) else (some false))) = some r := H
     have A33 := ze.mk A330
     clear A330
     replace H := Option.bind_eq_some_iff.mp H
     obtain ⟨t297, A340, H⟩ := H
     replace H : (if t297 = true then ((laws_markPuzzle.f kj10 t275 t278 t279 t280 t281 t282 1).bind fun bt298 => (if bt298.1 < 0 then (laws_FnExactStepsTable.j1 kj10 t271 t274 t284 true l0_0 a0_1 a0_2 a0_3 a0_4 a0_5) else ((laws_eqInt16S.f kj10 t284 t271).bind fun t300 => (if t300 = true then (laws_FnExactStepsTable.j1 kj10 t271 t274 t284 (t287 != t274) l0_0 a0_1 a0_2 a0_3 a0_4 a0_5) else (laws_FnExactStepsTable.j1 kj10 t271 t274 t284 true l0_0 a0_1 a0_2 a0_3 a0_4 a0_5))))) else (some false)) = some r := H
     have A34 := ze.mk A340
     clear A340
     by_cases c35 : t297 = true
     ·subst c35
      have H1 : ((laws_markPuzzle.f kj10 t275 t278 t279 t280 t281 t282 1).bind fun bt298 => (if bt298.1 < 0 then (laws_FnExactStepsTable.j1 kj10 t271 t274 t284 true l0_0 a0_1 a0_2 a0_3 a0_4 a0_5) else ((laws_eqInt16S.f kj10 t284 t271).bind fun t300 => (if t300 = true then (laws_FnExactStepsTable.j1 kj10 t271 t274 t284 (t287 != t274) l0_0 a0_1 a0_2 a0_3 a0_4 a0_5) else (laws_FnExactStepsTable.j1 kj10 t271 t274 t284 true l0_0 a0_1 a0_2 a0_3 a0_4 a0_5))))) = some r := by rw [if_pos rfl] at H; exact H
      clear H
      have H := H1
      clear H1
      replace H := Option.bind_eq_some_iff.mp H
      obtain ⟨⟨t298, t299⟩, A360, H⟩ := H
      replace H : (if t298 < 0 then (laws_FnExactStepsTable.j1 kj10 t271 t274 t284 true l0_0 a0_1 a0_2 a0_3 a0_4 a0_5) else ((laws_eqInt16S.f kj10 t284 t271).bind fun t300 => (if t300 = true then (laws_FnExactStepsTable.j1 kj10 t271 t274 t284 (t287 != t274) l0_0 a0_1 a0_2 a0_3 a0_4 a0_5) else (laws_FnExactStepsTable.j1 kj10 t271 t274 t284 true l0_0 a0_1 a0_2 a0_3 a0_4 a0_5)))) = some r := H
      have A36 := ze.mk A360
      clear A360
      have HC37 := ze.mk H
      clear H
      try go_wp2
      have n0_ := ze.mk (Kd.R_drew HO_4.out)
      have n1_ := ze.mk (Kd.R_drew HO_7.out)
      have n2_ := ze.mk (Kd.R_drew HO_284000.out)
      have n3_ := ze.mk (zh BK261.out)
      have n4_ := ze.mk (zh BK283.out)
      have n5_ := ze.mk (zi HB.out)
      clear HO_4
      clear HO_7
      clear HO_284000
      clear BK261
      clear BK283
      clear HB
      have HO_4 := n0_
      have HO_7 := n1_
      have HO_284000 := n2_
      have BK261 := n3_
      have BK283 := n4_
      have HB := n5_
      clear n0_ n1_ n2_ n3_ n4_ n5_
      refine zhc (n := 5) (S := fun w' => w'.cell? ⟨gb283, 0, none⟩ = some (.slice Ao22 t275.length co22) ∧ w'.cell? ⟨gb283, 1, none⟩ = some (.int .i16 t278) ∧ w'.cell? ⟨gb283, 2, none⟩ = some (.int .i16 t279) ∧ w'.cell? ⟨gb283, 3, none⟩ = some (.int .i16 t280) ∧ w'.cell? ⟨gb283, 4, none⟩ = some (.int .i16 t281) ∧ w'.cell? ⟨gb283, 5, none⟩ = some (.bool t282) ∧ w'.cell? ⟨gb261, 0, none⟩ = some (.slice A0_0 l0_0.length c0_0) ∧ w'.cell? ⟨gb261, 1, none⟩ = some (.int .i16 a0_1) ∧ w'.cell? ⟨gb261, 2, none⟩ = some (.int .i16 a0_2) ∧ w'.cell? ⟨gb261, 3, none⟩ = some (.int .i16 a0_3) ∧ w'.cell? ⟨gb261, 4, none⟩ = some (.int .i16 a0_4) ∧ w'.cell? ⟨gb261, 5, none⟩ = some (.bool a0_5)) (ds := []) #[false, false, false, false, false] (by kernel_rfl) rfl rfl ⟨(za BK283.out 0).trans rfl, (za BK283.out 1).trans rfl, (za BK283.out 2).trans rfl, (za BK283.out 3).trans rfl, (za BK283.out 4).trans rfl, (za BK283.out 5).trans rfl, (za BK261.out 0).trans rfl, (za BK261.out 1).trans rfl, (za BK261.out 2).trans rfl, (za BK261.out 3).trans rfl, (za BK261.out 4).trans rfl, (za BK261.out 5).trans rfl⟩ (fun hHeld => ?_)
      generalize wc.drew = w38 at HO_4 HO_7 HO_284000 BK261 BK283 HB hHeld ⊢
      refine take_ (i := 0) (N := some 41) (v := ?_) (a' := ?_) #[true, false, false, false, false] rfl rfl (by kernel_rfl) (fun _ _ _ h => h) (Or.inl ⟨by rfl, ?_⟩) hHeld ?_ ?_
      rotate_left
      ·rintro w' ⟨s0, s1, s2, s3, s4, s5, s6, s7, s8, s9, s10, s11⟩
       go_simp
       with_reducible rfl
      rotate_left
      ·simp only [Act.put, List.setIfInBounds_toArray, List.set_cons_zero, List.set_cons_succ, zy, zba]
       rfl
      refine take_ (i := 1) (N := some 42) (v := ?_) (a' := ?_) #[true, true, false, false, false] rfl rfl (by kernel_rfl) (fun _ _ _ h => h) (Or.inl ⟨by rfl, ?_⟩) hHeld ?_ ?_
      rotate_left
      ·rintro w' ⟨s0, s1, s2, s3, s4, s5, s6, s7, s8, s9, s10, s11⟩
       go_simp
       with_reducible rfl
      rotate_left
      ·simp only [Act.put, List.setIfInBounds_toArray, List.set_cons_zero, List.set_cons_succ, zy, zba]
       rfl
      refine one_ (i := 2) (N := some 43) #[true, true, true, false, false] rfl rfl (by kernel_rfl) (by decide) (fun K hK => ?_)
      refine zsd Try.func34 (by kernel_rfl) rfl #[.agg #[.slice A0_0 l0_0.length c0_0, .int .i16 a0_1, .int .i16 a0_2, .int .i16 a0_3, .int .i16 a0_4, .bool a0_5]] (by rfl) rfl rfl (by (try simp only [List.map_toArray, List.map_cons, List.map_nil]); first | done | rfl | (simp only [List.length_drop, List.length_take]; rfl)) ?_
      with_reducible refine (laws_toPuzzle.calls kj10 _ _ l0_0 a0_1 a0_2 a0_3 a0_4 a0_5 t289 t292 t293 t294 t295 t296 _ ?side1 ?side2 A33.out).mono ?_
      (case side1 => repeat (first | exact (Kd.C_below HR0_0.out HB.out) | (with_reducible refine Kd.C_alloc ?_ _) | (with_reducible refine Kd.C_drewN ?_ _) | (with_reducible refine Kd.C_drew ?_)))
      (case side2 => exact HC0_0.out)
      rintro e w39 ⟨v290, rfl, ho0, hb⟩
      refine ⟨_, rfl, ?_⟩
      have n0_ := ze.mk (Kd.R_elder' (by (with_reducible repeat (first | apply Kd.R_alloc | apply Kd.R_drewN | apply Kd.R_drew)); exact HO_4.out) (Kd.R_base ho0) hb)
      have n1_ := ze.mk (Kd.R_elder' (by (with_reducible repeat (first | apply Kd.R_alloc | apply Kd.R_drewN | apply Kd.R_drew)); exact HO_7.out) (Kd.R_base ho0) hb)
      have n2_ := ze.mk (Kd.R_elder' (by (with_reducible repeat (first | apply Kd.R_alloc | apply Kd.R_drewN | apply Kd.R_drew)); exact HO_284000.out) (Kd.R_base ho0) hb)
      have n3_ := ze.mk (Kd.R_lower (Kd.R_new' (Kd.R_new' (Kd.R_new' ho0 (Kd.R_lt (by (with_reducible repeat (first | apply Kd.R_alloc | apply Kd.R_drewN | apply Kd.R_drew)); exact HO_4.out))) (Kd.R_lt (by (with_reducible repeat (first | apply Kd.R_alloc | apply Kd.R_drewN | apply Kd.R_drew)); exact HO_7.out))) (Kd.R_lt (by (with_reducible repeat (first | apply Kd.R_alloc | apply Kd.R_drewN | apply Kd.R_drew)); exact HO_284000.out))) (zn (by repeat (first | (with_reducible first | exact HB.out | apply zj | apply zc | apply zi | refine zk ?_ GE261.out | refine zk ?_ GE283.out) | exact HB.out))))
      have n4_ := ze.mk (zl (g := gb261) (o := .cells #[.slice A0_0 l0_0.length c0_0, .int .i16 a0_1, .int .i16 a0_2, .int .i16 a0_3, .int .i16 a0_4, .bool a0_5] 53 (0, 0)) (by (with_reducible repeat (first | refine zg ?_ _ | refine zh ?_ | refine zf ?_ _)); exact BK261.out) hb)
      have n5_ := ze.mk (zl (g := gb283) (o := .cells #[.slice Ao22 t275.length co22, .int .i16 t278, .int .i16 t279, .int .i16 t280, .int .i16 t281, .bool t282] 29 (0, 0)) (by (with_reducible repeat (first | refine zg ?_ _ | refine zh ?_ | refine zf ?_ _)); exact BK283.out) hb)
      have n6_ := ze.mk (zm (by repeat (first | (with_reducible first | exact HB.out | apply zj | apply zc | apply zi | refine zk ?_ GE261.out | refine zk ?_ GE283.out) | exact HB.out)) hb)
      clear HO_4
      clear HO_7
      clear HO_284000
      clear BK261
      clear BK283
      clear HB
      have HO_4 := n0_
      have HO_7 := n1_
      have HO_284000 := n2_
      have HO291 := n3_
      have BK261 := n4_
      have BK283 := n5_
      have HB := n6_
      clear n0_ n1_ n2_ n3_ n4_ n5_ n6_
      (try clear hb)
      (try clear hb2)
      (try clear hk)
      (try clear hi)
      (try clear ho0)
      obtain ⟨Ao40, co40, eo40⟩ := Kd.R_slice HO291.out
      (first | subst eo40 | (injection eo40 with f1_ f2_ f3_; have f4_ := f1_.symm; have f5_ := f3_.symm; clear f1_ f2_ f3_; subst f4_; subst f5_))
      refine hK.out _ _ ⟨(za BK283.out 0).trans rfl, (za BK283.out 1).trans rfl, (za BK283.out 2).trans rfl, (za BK283.out 3).trans rfl, (za BK283.out 4).trans rfl, (za BK283.out 5).trans rfl, (za BK261.out 0).trans rfl, (za BK261.out 1).trans rfl, (za BK261.out 2).trans rfl, (za BK261.out 3).trans rfl, (za BK261.out 4).trans rfl, (za BK261.out 5).trans rfl⟩ (fun hHeld => ?_)
      clear hK K
      refine zpa (a' := ?_) ?_ ?_
      rotate_left
      ·show Act.put _ (some 43) _ = _
       simp only [Act.put, List.setIfInBounds_toArray, List.set_cons_zero, List.set_cons_succ, zy, zba]
       rfl
      refine one_ (i := 3) (N := some 44) #[true, true, true, true, false] rfl rfl (by kernel_rfl) (by decide) (fun K hK => ?_)
      refine zsd Try.func35 (by kernel_rfl) rfl #[.agg #[.slice Ao22 t275.length co22, .int .i16 t278, .int .i16 t279, .int .i16 t280, .int .i16 t281, .bool t282], .agg #[.slice Ao40 t289.length co40, .int .i16 t292, .int .i16 t293, .int .i16 t294, .int .i16 t295, .bool t296]] (by rfl) rfl rfl (by (try simp only [List.map_toArray, List.map_cons, List.map_nil]); first | done | rfl | (simp only [List.length_drop, List.length_take]; rfl)) ?_
      with_reducible refine (laws_eqPuzzle.calls kj10 _ _ t275 t278 t279 t280 t281 t282 _ _ t289 t292 t293 t294 t295 t296 true _ ?side1 ?side2 ?side3 ?side4 A34.out).mono ?_
      (case side1 => repeat (first | exact (Kd.R_reads' HO_284000.out).2.2 | (with_reducible refine Kd.C_alloc ?_ _) | (with_reducible refine Kd.C_drewN ?_ _) | (with_reducible refine Kd.C_drew ?_)))
      (case side2 => exact (Kd.R_reads' HO_284000.out).2.1)
      (case side3 => repeat (first | exact (Kd.R_reads' HO291.out).2.2 | (with_reducible refine Kd.C_alloc ?_ _) | (with_reducible refine Kd.C_drewN ?_ _) | (with_reducible refine Kd.C_drew ?_)))
      (case side4 => exact (Kd.R_reads' HO291.out).2.1)
      rintro e w41 ⟨rfl, hb⟩
      refine ⟨_, rfl, ?_⟩
      have n0_ := ze.mk (Kd.R_below (by (with_reducible repeat (first | apply Kd.R_alloc | apply Kd.R_drewN | apply Kd.R_drew)); exact HO_4.out) hb)
      have n1_ := ze.mk (Kd.R_below (by (with_reducible repeat (first | apply Kd.R_alloc | apply Kd.R_drewN | apply Kd.R_drew)); exact HO_7.out) hb)
      have n2_ := ze.mk (Kd.R_below (by (with_reducible repeat (first | apply Kd.R_alloc | apply Kd.R_drewN | apply Kd.R_drew)); exact HO_284000.out) hb)
      have n3_ := ze.mk (Kd.R_below (by (with_reducible repeat (first | apply Kd.R_alloc | apply Kd.R_drewN | apply Kd.R_drew)); exact HO291.out) hb)
      have n4_ := ze.mk (zl (g := gb261) (o := .cells #[.slice A0_0 l0_0.length c0_0, .int .i16 a0_1, .int .i16 a0_2, .int .i16 a0_3, .int .i16 a0_4, .bool a0_5] 53 (0, 0)) (by (with_reducible repeat (first | refine zg ?_ _ | refine zh ?_ | refine zf ?_ _)); exact BK261.out) hb)
      have n5_ := ze.mk (zl (g := gb283) (o := .cells #[.slice Ao22 t275.length co22, .int .i16 t278, .int .i16 t279, .int .i16 t280, .int .i16 t281, .bool t282] 29 (0, 0)) (by (with_reducible repeat (first | refine zg ?_ _ | refine zh ?_ | refine zf ?_ _)); exact BK283.out) hb)
      have n6_ := ze.mk (zm (by repeat (first | (with_reducible first | exact HB.out | apply zj | apply zc | apply zi | refine zk ?_ GE261.out | refine zk ?_ GE283.out) | exact HB.out)) hb)
      clear HO_4
      clear HO_7
      clear HO_284000
      clear HO291
      clear BK261
      clear BK283
      clear HB
      have HO_4 := n0_
      have HO_7 := n1_
      have HO_284000 := n2_
      have HO291 := n3_
      have BK261 := n4_
      have BK283 := n5_
      have HB := n6_
      clear n0_ n1_ n2_ n3_ n4_ n5_ n6_
      (try clear hb)
      (try clear hb2)
      (try clear hk)
      (try clear hi)
      refine hK.out _ _ ⟨(za BK283.out 0).trans rfl, (za BK283.out 1).trans rfl, (za BK283.out 2).trans rfl, (za BK283.out 3).trans rfl, (za BK283.out 4).trans rfl, (za BK283.out 5).trans rfl, (za BK261.out 0).trans rfl, (za BK261.out 1).trans rfl, (za BK261.out 2).trans rfl, (za BK261.out 3).trans rfl, (za BK261.out 4).trans rfl, (za BK261.out 5).trans rfl⟩ (fun hHeld => ?_)
      clear hK K
      refine zpa (a' := ?_) ?_ ?_
      rotate_left
      ·show Act.put _ (some 44) _ = _
       simp only [Act.put, List.setIfInBounds_toArray, List.set_cons_zero, List.set_cons_succ, zy, zba]
       rfl
      refine zia (i := 4) (N := some 45) (v := ?_) (a' := ?_) #[true, true, true, true, true] rfl rfl (by kernel_rfl) (fun _ _ _ h => h) (Or.inl ⟨by rfl, ?_⟩) ?_ ?_
      rotate_left
      ·intro w'
       go_simp
       with_reducible rfl
      rotate_left
      ·simp only [Act.put, List.setIfInBounds_toArray, List.set_cons_zero, List.set_cons_succ, zy, zba]
       rfl
      refine zhd (by kernel_rfl) ?_
      have hnb42 := NB283_261.out
      have hnc42 := NB261_283.out
      have hcz43_0 : w41.cell? ⟨gb283, 0, none⟩ = some (.slice Ao22 t275.length co22) := (za BK283.out 0).trans rfl
      have hcz43_1 : w41.cell? ⟨gb283, 1, none⟩ = some (.int .i16 t278) := (za BK283.out 1).trans rfl
      have hcz43_2 : w41.cell? ⟨gb283, 2, none⟩ = some (.int .i16 t279) := (za BK283.out 2).trans rfl
      have hcz43_3 : w41.cell? ⟨gb283, 3, none⟩ = some (.int .i16 t280) := (za BK283.out 3).trans rfl
      have hcz43_4 : w41.cell? ⟨gb283, 4, none⟩ = some (.int .i16 t281) := (za BK283.out 4).trans rfl
      have hcz43_5 : w41.cell? ⟨gb283, 5, none⟩ = some (.bool t282) := (za BK283.out 5).trans rfl
      have hfz43_0 := zb BK283.out 0
      have hfz43_1 := zb BK283.out 1
      have hfz43_2 := zb BK283.out 2
      have hfz43_3 := zb BK283.out 3
      have hfz43_4 := zb BK283.out 4
      have hfz43_5 := zb BK283.out 5
      go_upto_region 14 with (first | ((with_reducible refine zv (f := 38) rfl ?_); refine zha (some 48) rfl rfl Try.func38 (by kernel_rfl) rfl #[.agg #[.slice Ao22 t275.length co22, .int .i16 t278, .int .i16 t279, .int .i16 t280, .int .i16 t281, .bool t282], .int .i64 1] rfl (by (try simp only [List.map_toArray, List.map_cons, List.map_nil]); first | done | rfl | (simp only [List.length_drop, List.length_take]; rfl)) ?_; (with_reducible refine (laws_markPuzzle.calls kj10 (fun k_ => some k_ = (.slice Ao22 t275.length co22 : Value).ownBlock) (.slice Ao22 t275.length co22) t275 t278 t279 t280 t281 t282 1 t298 t299 w _ ?side1 ?side2 A36.out).mono ?_); (case side1 => repeat (first | (with_reducible first | exact HB.out | apply zj | apply zc | apply zi | refine zk ?_ GE261.out | refine zk ?_ GE283.out) | exact HB.out)); (case side2 => exact Kd.R_tight rfl HO_284000.out); rintro e w44 ⟨rfl, hy0, hb, hkp⟩; refine ⟨_, rfl, ?_⟩; have n0_ := ze.mk (Kd.R_mono (ok' := fun k_ => some k_ ≠ (v285 : Value).ownBlock ∧ some k_ ≠ (.slice Ao22 t275.length co22 : Value).ownBlock ∧ some k_ ≠ (.slice Ao40 t289.length co40 : Value).ownBlock) (Kd.R_keptB (HO_4.out) hkp (fun k_ hk_ hs_ => (hk_.1.2) hs_)) (fun k_ hk_ => ⟨hk_.1.1.1, hk_.1.1.2, hk_.1.2⟩)); have n1_ := ze.mk (Kd.R_mono (ok' := fun k_ => some k_ ≠ (v272 : Value).ownBlock ∧ some k_ ≠ (.slice Ao22 t275.length co22 : Value).ownBlock ∧ some k_ ≠ (.slice Ao40 t289.length co40 : Value).ownBlock) (Kd.R_keptB (HO_7.out) hkp (fun k_ hk_ hs_ => (hk_.1.2) hs_)) (fun k_ hk_ => ⟨hk_.1.1.1, hk_.1.1.2, hk_.1.2⟩)); have n2_ := ze.mk (Kd.R_reok rfl hy0 (fun k_ e_ => HO_284000.out.1 k_ e_)); have n3_ := ze.mk (zcc (by (with_reducible repeat (first | refine zg ?_ _ | refine zh ?_ | refine zf ?_ _)); exact BK261.out) hkp (fun hs_ => (fun e_ => (Kd.R_ne HO_284000.out BK261.out (by decide)) e_) hs_)); have n4_ := ze.mk (zcc (by (with_reducible repeat (first | refine zg ?_ _ | refine zh ?_ | refine zf ?_ _)); exact BK283.out) hkp (fun hs_ => (fun e_ => (Kd.R_ne HO_284000.out BK283.out (by decide)) e_) hs_)); have n5_ := ze.mk (Kd.R_mono (ok' := fun k_ => some k_ ≠ (v272 : Value).ownBlock ∧ some k_ ≠ (v285 : Value).ownBlock ∧ some k_ ≠ (.slice Ao22 t275.length co22 : Value).ownBlock) (Kd.R_keptB (HO291.out) hkp (fun k_ hk_ hs_ => (hk_.2) hs_)) (fun k_ hk_ => ⟨hk_.1.1.1.2, hk_.1.1.2, hk_.1.2⟩)); have n6_ := ze.mk (hb); clear HO_4; clear HO_7; clear HO_284000; clear BK261; clear BK283; clear HO291; clear HB; have HO_4 := n0_; have HO_7 := n1_; have HO_284000 := n2_; have BK261 := n3_; have BK283 := n4_; have HO291 := n5_; have HB := n6_; clear n0_ n1_ n2_ n3_ n4_ n5_ n6_; (try clear hb); (try clear hkp); (try clear hy0)))
      (try simp only [Act.put, List.setIfInBounds_toArray, List.set_cons_zero, List.set_cons_succ])
      go_cut [61] (fun v61 wc => ∃ (kq : Nat) (x61_36 : Bool), v61 = .bool x61_36 ∧ ze (laws_FnExactStepsTable.j1 kq t271 t274 t284 x61_36 l0_0 a0_1 a0_2 a0_3 a0_4 a0_5 = some r) ∧ ze (kq ≤ kj10) ∧ ze (Kd.R (Kd.int .i16) 25 wc w.heap.size (fun k_ => some k_ ≠ (v285 : Value).ownBlock ∧ some k_ ≠ ((.slice Ao22 t275.length co22) : Value).ownBlock) v272 t271) ∧ ze (Kd.R (Kd.int .i16) 25 wc w.heap.size (fun k_ => some k_ ≠ (v272 : Value).ownBlock ∧ some k_ ≠ ((.slice Ao22 t275.length co22) : Value).ownBlock) v285 t284) ∧ ze (Kd.R (Kd.int .i16) 25 wc w.heap.size (fun k_ => some k_ ≠ (v272 : Value).ownBlock ∧ some k_ ≠ (v285 : Value).ownBlock) (.slice Ao22 t275.length co22) t299) ∧ ze (wc.heap[gb261]? = some (.cells #[(.slice A0_0 l0_0.length c0_0), .int .i16 a0_1, .int .i16 a0_2, .int .i16 a0_3, .int .i16 a0_4, .bool a0_5] 53 (0, 0))) ∧ ze (wc.heap[gb283]? = some (.cells #[(.slice Ao22 t275.length co22), .int .i16 t278, .int .i16 t279, .int .i16 t280, .int .i16 t281, .bool t282] 29 (0, 0))) ∧ ze (Below w.heap.size w wc))
      case first =>
       have H := HC37.out
       clear HC37
       by_cases c45 : t298 < 0
       ·rw [if_pos c45] at H
        have c45b0 : decide (t298 < 0) = true := decide_eq_true c45
        clear c45
        (first | rw [c45b0] | (simp only [zy, zba]; rw [c45b0]) | skip)
        have H' := ze.mk H
        clear H
        go_wp2
        go_meet
        case rel => exact ⟨_, (true), (by first | rfl | (simp; done) | (simp [*]; done)), H', ⟨by have := HJ10.out; first | omega | exact Nat.le_refl _⟩, ⟨by (with_reducible repeat (first | apply Kd.R_alloc | apply Kd.R_drewN | apply Kd.R_drew)); exact Kd.R_mono HO_4.out (fun _ hk => ⟨hk.1, hk.2.1⟩)⟩, ⟨by (with_reducible repeat (first | apply Kd.R_alloc | apply Kd.R_drewN | apply Kd.R_drew)); exact Kd.R_mono HO_7.out (fun _ hk => ⟨hk.1, hk.2.1⟩)⟩, ⟨by (with_reducible repeat (first | apply Kd.R_alloc | apply Kd.R_drewN | apply Kd.R_drew)); exact Kd.R_mono HO_284000.out (fun _ hk => ⟨hk.1.1, hk.1.2⟩)⟩, ⟨by (with_reducible repeat (first | refine zg ?_ _ | refine zh ?_ | refine zf ?_ _)); exact BK261.out⟩, ⟨by (with_reducible repeat (first | refine zg ?_ _ | refine zh ?_ | refine zf ?_ _)); exact BK283.out⟩, ⟨by repeat (first | (with_reducible first | exact HB.out | apply zj | apply zc | apply zi | refine zk ?_ GE261.out | refine zk ?_ GE283.out) | exact HB.out)⟩⟩
       ·rw [if_neg c45] at H
        have c45b0 : decide (t298 < 0) = false := decide_eq_false c45
        clear c45
        (first | rw [c45b0] | (simp only [zy, zba]; rw [c45b0]) | skip)
        replace H := Option.bind_eq_some_iff.mp H
        obtain ⟨t300, A460, H⟩ := H
        replace H : (if t300 = true then (laws_FnExactStepsTable.j1 kj10 t271 t274 t284 (t287 != t274) l0_0 a0_1 a0_2 a0_3 a0_4 a0_5) else (laws_FnExactStepsTable.j1 kj10 t271 t274 t284 true l0_0 a0_1 a0_2 a0_3 a0_4 a0_5)) = some r := H
        have A46 := ze.mk A460
        clear A460
        by_cases c47 : t300 = true
        ·subst c47
         have H1 : (laws_FnExactStepsTable.j1 kj10 t271 t274 t284 (t287 != t274) l0_0 a0_1 a0_2 a0_3 a0_4 a0_5) = some r := by rw [if_pos rfl] at H; exact H
         clear H
         have H := H1
         clear H1
         have H' := ze.mk H
         clear H
         obtain ⟨Ao48, co48, eo48⟩ := Kd.R_slice HO_7.out
         subst eo48
         obtain ⟨Ao49, co49, eo49⟩ := Kd.R_slice HO_4.out
         subst eo49
         go_wp2_with (first | (go_at_call 37; (with_reducible refine (laws_eqInt16S.calls kj10 _ _ t284 _ _ t271 true _ ?side1 ?side2 ?side3 ?side4 A46.out).mono ?_); (case side1 => repeat (first | exact (Kd.R_reads' HO_7.out).2.2 | (with_reducible refine Kd.C_alloc ?_ _) | (with_reducible refine Kd.C_drewN ?_ _) | (with_reducible refine Kd.C_drew ?_))); (case side2 => exact (Kd.R_reads' HO_7.out).2.1); (case side3 => repeat (first | exact (Kd.R_reads' HO_4.out).2.2 | (with_reducible refine Kd.C_alloc ?_ _) | (with_reducible refine Kd.C_drewN ?_ _) | (with_reducible refine Kd.C_drew ?_))); (case side4 => exact (Kd.R_reads' HO_4.out).2.1); rintro e w' ⟨rfl, ⟨nd, rfl⟩⟩))
         go_meet
         case rel => exact ⟨_, ((t287 != t274)), (by first | rfl | (simp; done) | (simp [*]; done)), H', ⟨by have := HJ10.out; first | omega | exact Nat.le_refl _⟩, ⟨by (with_reducible repeat (first | apply Kd.R_alloc | apply Kd.R_drewN | apply Kd.R_drew)); exact Kd.R_mono HO_4.out (fun _ hk => ⟨hk.1, hk.2.1⟩)⟩, ⟨by (with_reducible repeat (first | apply Kd.R_alloc | apply Kd.R_drewN | apply Kd.R_drew)); exact Kd.R_mono HO_7.out (fun _ hk => ⟨hk.1, hk.2.1⟩)⟩, ⟨by (with_reducible repeat (first | apply Kd.R_alloc | apply Kd.R_drewN | apply Kd.R_drew)); exact Kd.R_mono HO_284000.out (fun _ hk => ⟨hk.1.1, hk.1.2⟩)⟩, ⟨by (with_reducible repeat (first | refine zg ?_ _ | refine zh ?_ | refine zf ?_ _)); exact BK261.out⟩, ⟨by (with_reducible repeat (first | refine zg ?_ _ | refine zh ?_ | refine zf ?_ _)); exact BK283.out⟩, ⟨by repeat (first | (with_reducible first | exact HB.out | apply zj | apply zc | apply zi | refine zk ?_ GE261.out | refine zk ?_ GE283.out) | exact HB.out)⟩⟩
        ·replace c47 := Bool.eq_false_iff.mpr c47
         subst c47
         have H1 : (laws_FnExactStepsTable.j1 kj10 t271 t274 t284 true l0_0 a0_1 a0_2 a0_3 a0_4 a0_5) = some r := by rw [if_neg (show ¬ (false = true) by decide)] at H; exact H
         clear H
         have H := H1
         clear H1
         have H' := ze.mk H
         clear H
         obtain ⟨Ao50, co50, eo50⟩ := Kd.R_slice HO_7.out
         subst eo50
         obtain ⟨Ao51, co51, eo51⟩ := Kd.R_slice HO_4.out
         subst eo51
         go_wp2_with (first | (go_at_call 37; (with_reducible refine (laws_eqInt16S.calls kj10 _ _ t284 _ _ t271 false _ ?side1 ?side2 ?side3 ?side4 A46.out).mono ?_); (case side1 => repeat (first | exact (Kd.R_reads' HO_7.out).2.2 | (with_reducible refine Kd.C_alloc ?_ _) | (with_reducible refine Kd.C_drewN ?_ _) | (with_reducible refine Kd.C_drew ?_))); (case side2 => exact (Kd.R_reads' HO_7.out).2.1); (case side3 => repeat (first | exact (Kd.R_reads' HO_4.out).2.2 | (with_reducible refine Kd.C_alloc ?_ _) | (with_reducible refine Kd.C_drewN ?_ _) | (with_reducible refine Kd.C_drew ?_))); (case side4 => exact (Kd.R_reads' HO_4.out).2.1); rintro e w' ⟨rfl, ⟨nd, rfl⟩⟩))
         go_meet
         case rel => exact ⟨_, (true), (by first | rfl | (simp; done) | (simp [*]; done)), H', ⟨by have := HJ10.out; first | omega | exact Nat.le_refl _⟩, ⟨by (with_reducible repeat (first | apply Kd.R_alloc | apply Kd.R_drewN | apply Kd.R_drew)); exact Kd.R_mono HO_4.out (fun _ hk => ⟨hk.1, hk.2.1⟩)⟩, ⟨by (with_reducible repeat (first | apply Kd.R_alloc | apply Kd.R_drewN | apply Kd.R_drew)); exact Kd.R_mono HO_7.out (fun _ hk => ⟨hk.1, hk.2.1⟩)⟩, ⟨by (with_reducible repeat (first | apply Kd.R_alloc | apply Kd.R_drewN | apply Kd.R_drew)); exact Kd.R_mono HO_284000.out (fun _ hk => ⟨hk.1.1, hk.1.2⟩)⟩, ⟨by (with_reducible repeat (first | refine zg ?_ _ | refine zh ?_ | refine zf ?_ _)); exact BK261.out⟩, ⟨by (with_reducible repeat (first | refine zg ?_ _ | refine zh ?_ | refine zf ?_ _)); exact BK283.out⟩, ⟨by repeat (first | (with_reducible first | exact HB.out | apply zj | apply zc | apply zi | refine zk ?_ GE261.out | refine zk ?_ GE283.out) | exact HB.out)⟩⟩
      case rest =>
       clear HC37
       try clear c1
       try clear c2
       try clear p2
       try clear c3
       try clear c3b0
       try clear c4
       try clear c6
       try clear c12
       try clear c13
       try clear c23
       try clear c27
       try clear c32
       try clear c34
       try clear c35
       try clear c37
       try clear c38
       try clear c42
       try clear c45
       try clear c45b0
       try clear c47
       try clear hcz13_0
       try clear hcz13_1
       try clear hcz13_2
       try clear hcz13_3
       try clear hcz13_4
       try clear hcz13_5
       try clear hcz15_0
       try clear hcz15_1
       try clear hcz15_2
       try clear hcz15_3
       try clear hcz15_4
       try clear hcz15_5
       try clear hcz19_0
       try clear hcz19_1
       try clear hcz19_2
       try clear hcz19_3
       try clear hcz19_4
       try clear hcz19_5
       try clear hcz24_0
       try clear hcz24_1
       try clear hcz24_2
       try clear hcz24_3
       try clear hcz24_4
       try clear hcz24_5
       try clear hcz43_0
       try clear hcz43_1
       try clear hcz43_2
       try clear hcz43_3
       try clear hcz43_4
       try clear hcz43_5
       try clear hcz5_0
       try clear hcz5_1
       try clear hcz5_2
       try clear hcz5_3
       try clear hcz5_4
       try clear hcz5_5
       try clear hfz13_0
       try clear hfz13_1
       try clear hfz13_2
       try clear hfz13_3
       try clear hfz13_4
       try clear hfz13_5
       try clear hfz15_0
       try clear hfz15_1
       try clear hfz15_2
       try clear hfz15_3
       try clear hfz15_4
       try clear hfz15_5
       try clear hfz19_0
       try clear hfz19_1
       try clear hfz19_2
       try clear hfz19_3
       try clear hfz19_4
       try clear hfz19_5
       try clear hfz24_0
       try clear hfz24_1
       try clear hfz24_2
       try clear hfz24_3
       try clear hfz24_4
       try clear hfz24_5
       try clear hfz43_0
       try clear hfz43_1
       try clear hfz43_2
       try clear hfz43_3
       try clear hfz43_4
       try clear hfz43_5
       try clear hfz5_0
       try clear hfz5_1
       try clear hfz5_2
       try clear hfz5_3
       try clear hfz5_4
       try clear hfz5_5
       try clear p2
       obtain ⟨kq, x61_36, rfl, HA, HJ36, HO_4, HO_7, HO_284000, BK261, BK283, HB⟩ := hcut
       have hl284000_36 := (Kd.R_reads' HO_284000.out).1
       rw [hl284000_36] at HO_284000
       (try simp only [hl284000_36])
       (try simp only [hl284000_36] at BK261)
       (try simp only [hl284000_36] at BK283)
       (try simp only [hl284000_36] at HO_4)
       (try simp only [hl284000_36] at HO_7)
       cases kq with
       | zero => exact absurd HA.out (by simp [laws_FnExactStepsTable.j1])
       | succ kj36 =>
        have H := HA.out
        clear HA
        simp only [laws_FnExactStepsTable.j1] at H
        by_cases c52 : x61_36 = true
        ·subst c52
         have H1 : (some false) = some r := by rw [if_pos rfl] at H; exact H
         clear H
         have H := H1
         clear H1
         obtain rfl := Option.some.inj H
         go_wp2
         go_ret
         exact ⟨by first | rfl | (simp [zt, zr] <;> rfl) | (simp [*, zt, zr] <;> rfl), by repeat (first | (with_reducible first | exact HB.out | apply zj | apply zc | apply zi | refine zk ?_ GE261.out | refine zk ?_ GE283.out) | exact HB.out)⟩
        ·replace c52 := Bool.eq_false_iff.mpr c52
         subst c52
         have H1 : ((laws_markInt16S.f kj36 t284 1).bind fun bt301 => ((laws_heldInt16S.f kj36 bt301.2 1).bind fun t303 => (if t303 < 0 then (some false) else (if t303 = bt301.1 then ((laws_toPuzzle.f kj36 l0_0 a0_1 a0_2 a0_3 a0_4 a0_5).bind fun bt304 => ((impl_StepsTable.f kj36 bt304.1 bt304.2.1 bt304.2.2.1 bt304.2.2.2.1 bt304.2.2.2.2.1 bt304.2.2.2.2.2).bind fun bt312 => ((laws_eqInt16S.f kj36 bt312.1 t271).bind fun t316 => (if t316 = true then (laws_FnExactStepsTable.j2 kj36 bt301.2 bt301.1 (bt312.2 != t274)) else (laws_FnExactStepsTable.j2 kj36 bt301.2 bt301.1 true))))) else (some false))))) = some r := by rw [if_neg (show ¬ (false = true) by decide)] at H; exact H
         clear H
         have H := H1
         clear H1
         replace H := Option.bind_eq_some_iff.mp H
         obtain ⟨⟨t301, t302⟩, A530, H⟩ := H
         replace H : ((laws_heldInt16S.f kj36 t302 1).bind fun t303 => (if t303 < 0 then (some false) else (if t303 = t301 then ((laws_toPuzzle.f kj36 l0_0 a0_1 a0_2 a0_3 a0_4 a0_5).bind fun bt304 => ((impl_StepsTable.f kj36 bt304.1 bt304.2.1 bt304.2.2.1 bt304.2.2.2.1 bt304.2.2.2.2.1 bt304.2.2.2.2.2).bind fun bt312 => ((laws_eqInt16S.f kj36 bt312.1 t271).bind fun t316 => (if t316 = true then (laws_FnExactStepsTable.j2 kj36 t302 t301 (bt312.2 != t274)) else (laws_FnExactStepsTable.j2 kj36 t302 t301 true))))) else (some false)))) = some r := H
         have A53 := ze.mk A530
         clear A530
         replace H := Option.bind_eq_some_iff.mp H
         obtain ⟨t303, A540, H⟩ := H
         replace H : (if t303 < 0 then (some false) else (if t303 = t301 then ((laws_toPuzzle.f kj36 l0_0 a0_1 a0_2 a0_3 a0_4 a0_5).bind fun bt304 => ((impl_StepsTable.f kj36 bt304.1 bt304.2.1 bt304.2.2.1 bt304.2.2.2.1 bt304.2.2.2.2.1 bt304.2.2.2.2.2).bind fun bt312 => ((laws_eqInt16S.f kj36 bt312.1 t271).bind fun t316 => (if t316 = true then (laws_FnExactStepsTable.j2 kj36 t302 t301 (bt312.2 != t274)) else (laws_FnExactStepsTable.j2 kj36 t302 t301 true))))) else (some false))) = some r := H
         have A54 := ze.mk A540
         clear A540
         by_cases c55 : t303 < 0
         ·rw [if_pos c55] at H
          have c55b0 : decide (t303 < 0) = true := decide_eq_true c55
          clear c55
          obtain rfl := Option.some.inj H
          obtain ⟨Ao56, co56, eo56⟩ := Kd.R_slice HO_7.out
          subst eo56
          go_wp2_with (first | ((with_reducible refine zv (f := 39) rfl ?_); refine zha (some 64) rfl rfl Try.func39 (by kernel_rfl) rfl #[.slice Ao56 t284.length co56, .int .i64 1] rfl (by (try simp only [List.map_toArray, List.map_cons, List.map_nil]); first | done | rfl | (simp only [List.length_drop, List.length_take]; rfl)) ?_; (with_reducible refine (laws_markInt16S.calls kj36 (fun k_ => some k_ = (.slice Ao56 t284.length co56 : Value).ownBlock) (.slice Ao56 t284.length co56) t284 1 t301 t302 w _ ?side1 ?side2 A53.out).mono ?_); (case side1 => repeat (first | (with_reducible first | exact HB.out | apply zj | apply zc | apply zi | refine zk ?_ GE261.out | refine zk ?_ GE283.out) | exact HB.out)); (case side2 => exact Kd.R_tight rfl HO_7.out); rintro e w57 ⟨rfl, hy0, hb, hkp⟩; refine ⟨_, rfl, ?_⟩; have n0_ := ze.mk (Kd.R_mono (ok' := fun k_ => some k_ ≠ (.slice Ao56 t284.length co56 : Value).ownBlock ∧ some k_ ≠ (.slice Ao22 t299.length co22 : Value).ownBlock) (Kd.R_keptB (HO_4.out) hkp (fun k_ hk_ hs_ => (hk_.1) hs_)) (fun k_ hk_ => ⟨hk_.1.1, hk_.1.2⟩)); have n1_ := ze.mk (Kd.R_reok rfl hy0 (fun k_ e_ => HO_7.out.1 k_ e_)); have n2_ := ze.mk (Kd.R_mono (ok' := fun k_ => some k_ ≠ (v272 : Value).ownBlock ∧ some k_ ≠ (.slice Ao56 t284.length co56 : Value).ownBlock) (Kd.R_keptB (HO_284000.out) hkp (fun k_ hk_ hs_ => (hk_.2) hs_)) (fun k_ hk_ => ⟨hk_.1.1, hk_.1.2⟩)); have n3_ := ze.mk (zcc (by (with_reducible repeat (first | refine zg ?_ _ | refine zh ?_ | refine zf ?_ _)); exact BK261.out) hkp (fun hs_ => (fun e_ => (Kd.R_ne HO_7.out BK261.out (by decide)) e_) hs_)); have n4_ := ze.mk (zcc (by (with_reducible repeat (first | refine zg ?_ _ | refine zh ?_ | refine zf ?_ _)); exact BK283.out) hkp (fun hs_ => (fun e_ => (Kd.R_ne HO_7.out BK283.out (by decide)) e_) hs_)); have n5_ := ze.mk (hb); clear HO_4; clear HO_7; clear HO_284000; clear BK261; clear BK283; clear HB; have HO_4 := n0_; have HO_7 := n1_; have HO_284000 := n2_; have BK261 := n3_; have BK283 := n4_; have HB := n5_; clear n0_ n1_ n2_ n3_ n4_ n5_; (try clear hb); (try clear hkp); (try clear hy0)) | ((with_reducible refine zv (f := 40) rfl ?_); refine zha (some 67) rfl rfl Try.func40 (by kernel_rfl) rfl #[.slice Ao56 t302.length co56, .int .i64 1] rfl (by (try simp only [List.map_toArray, List.map_cons, List.map_nil]); first | done | (rw [show t302.length = t284.length from (Kd.R_reads' HO_7.out).1.symm] <;> rfl) | rfl | (simp only [List.length_drop, List.length_take]; rfl)) ?_; (with_reducible refine (laws_heldInt16S.calls kj36 _ _ t302 1 t303 _ ?side1 ?side2 A54.out).mono ?_); (case side1 => repeat (first | exact (Kd.R_reads' HO_7.out).2.2 | (with_reducible refine Kd.C_alloc ?_ _) | (with_reducible refine Kd.C_drewN ?_ _) | (with_reducible refine Kd.C_drew ?_))); (case side2 => rw [show t302.length = t284.length from (Kd.R_reads' HO_7.out).1.symm]; exact (Kd.R_reads' HO_7.out).2.1); rintro e w' ⟨rfl, ⟨nd, rfl⟩⟩; refine ⟨_, rfl, ?_⟩))
          go_ret
          exact ⟨by first | rfl | (simp [zt, zr] <;> rfl) | (simp [*, zt, zr] <;> rfl), by repeat (first | (with_reducible first | exact HB.out | apply zj | apply zc | apply zi | refine zk ?_ GE261.out | refine zk ?_ GE283.out) | exact HB.out)⟩
         ·rw [if_neg c55] at H
          have c55b0 : decide (t303 < 0) = false := decide_eq_false c55
          clear c55
          by_cases c58 : t303 = t301
          ·rw [if_pos c58] at H
           have c58b0 : (t303 == t301) = true := beq_iff_eq.mpr c58
           have c58b1 : (t303 != t301) = false := bne_eq_false_iff_eq.mpr c58
           clear c58
           replace H := Option.bind_eq_some_iff.mp H
           obtain ⟨⟨t304, t307, t308, t309, t310, t311⟩, A590, H⟩ := H
           replace H : ((impl_StepsTable.f kj36 t304 t307 t308 t309 t310 t311).bind fun bt312 => ((laws_eqInt16S.f kj36 bt312.1 t271).bind fun t316 => (if t316 = true then (laws_FnExactStepsTable.j2 kj36 t302 t301 (bt312.2 != t274)) else (laws_FnExactStepsTable.j2 kj36 t302 t301 true)))) = some r := H
           have A59 := ze.mk A590
           clear A590
           replace H := Option.bind_eq_some_iff.mp H
           obtain ⟨⟨t312, t315⟩, A600, H⟩ := H
           replace H : ((laws_eqInt16S.f kj36 t312 t271).bind fun t316 => (if t316 = true then (laws_FnExactStepsTable.j2 kj36 t302 t301 (t315 != t274)) else (laws_FnExactStepsTable.j2 kj36 t302 t301 true))) = some r := H
           have A60 := ze.mk A600
           clear A600
           have HC61 := ze.mk H
           clear H
           obtain ⟨Ao62, co62, eo62⟩ := Kd.R_slice HO_7.out
           subst eo62
           go_upto_region 25 with (first | ((with_reducible refine zv (f := 39) rfl ?_); refine zha (some 64) rfl rfl Try.func39 (by kernel_rfl) rfl #[.slice Ao62 t284.length co62, .int .i64 1] rfl (by (try simp only [List.map_toArray, List.map_cons, List.map_nil]); first | done | rfl | (simp only [List.length_drop, List.length_take]; rfl)) ?_; (with_reducible refine (laws_markInt16S.calls kj36 (fun k_ => some k_ = (.slice Ao62 t284.length co62 : Value).ownBlock) (.slice Ao62 t284.length co62) t284 1 t301 t302 w _ ?side1 ?side2 A53.out).mono ?_); (case side1 => repeat (first | (with_reducible first | exact HB.out | apply zj | apply zc | apply zi | refine zk ?_ GE261.out | refine zk ?_ GE283.out) | exact HB.out)); (case side2 => exact Kd.R_tight rfl HO_7.out); rintro e w63 ⟨rfl, hy0, hb, hkp⟩; refine ⟨_, rfl, ?_⟩; have n0_ := ze.mk (Kd.R_mono (ok' := fun k_ => some k_ ≠ (.slice Ao62 t284.length co62 : Value).ownBlock ∧ some k_ ≠ (.slice Ao22 t299.length co22 : Value).ownBlock) (Kd.R_keptB (HO_4.out) hkp (fun k_ hk_ hs_ => (hk_.1) hs_)) (fun k_ hk_ => ⟨hk_.1.1, hk_.1.2⟩)); have n1_ := ze.mk (Kd.R_reok rfl hy0 (fun k_ e_ => HO_7.out.1 k_ e_)); have n2_ := ze.mk (Kd.R_mono (ok' := fun k_ => some k_ ≠ (v272 : Value).ownBlock ∧ some k_ ≠ (.slice Ao62 t284.length co62 : Value).ownBlock) (Kd.R_keptB (HO_284000.out) hkp (fun k_ hk_ hs_ => (hk_.2) hs_)) (fun k_ hk_ => ⟨hk_.1.1, hk_.1.2⟩)); have n3_ := ze.mk (zcc (by (with_reducible repeat (first | refine zg ?_ _ | refine zh ?_ | refine zf ?_ _)); exact BK261.out) hkp (fun hs_ => (fun e_ => (Kd.R_ne HO_7.out BK261.out (by decide)) e_) hs_)); have n4_ := ze.mk (zcc (by (with_reducible repeat (first | refine zg ?_ _ | refine zh ?_ | refine zf ?_ _)); exact BK283.out) hkp (fun hs_ => (fun e_ => (Kd.R_ne HO_7.out BK283.out (by decide)) e_) hs_)); have n5_ := ze.mk (hb); clear HO_4; clear HO_7; clear HO_284000; clear BK261; clear BK283; clear HB; have HO_4 := n0_; have HO_7 := n1_; have HO_284000 := n2_; have BK261 := n3_; have BK283 := n4_; have HB := n5_; clear n0_ n1_ n2_ n3_ n4_ n5_; (try clear hb); (try clear hkp); (try clear hy0)) | ((with_reducible refine zv (f := 40) rfl ?_); refine zha (some 67) rfl rfl Try.func40 (by kernel_rfl) rfl #[.slice Ao62 t302.length co62, .int .i64 1] rfl (by (try simp only [List.map_toArray, List.map_cons, List.map_nil]); first | done | (rw [show t302.length = t284.length from (Kd.R_reads' HO_7.out).1.symm] <;> rfl) | rfl | (simp only [List.length_drop, List.length_take]; rfl)) ?_; (with_reducible refine (laws_heldInt16S.calls kj36 _ _ t302 1 t303 _ ?side1 ?side2 A54.out).mono ?_); (case side1 => repeat (first | exact (Kd.R_reads' HO_7.out).2.2 | (with_reducible refine Kd.C_alloc ?_ _) | (with_reducible refine Kd.C_drewN ?_ _) | (with_reducible refine Kd.C_drew ?_))); (case side2 => rw [show t302.length = t284.length from (Kd.R_reads' HO_7.out).1.symm]; exact (Kd.R_reads' HO_7.out).2.1); rintro e w' ⟨rfl, ⟨nd, rfl⟩⟩; refine ⟨_, rfl, ?_⟩; have hnb64 := NB261_283.out; have hnc64 := NB283_261.out; have hcz65_0 : w63.cell? ⟨gb261, 0, none⟩ = some (.slice A0_0 l0_0.length c0_0) := (za BK261.out 0).trans rfl; have hcz65_1 : w63.cell? ⟨gb261, 1, none⟩ = some (.int .i16 a0_1) := (za BK261.out 1).trans rfl; have hcz65_2 : w63.cell? ⟨gb261, 2, none⟩ = some (.int .i16 a0_2) := (za BK261.out 2).trans rfl; have hcz65_3 : w63.cell? ⟨gb261, 3, none⟩ = some (.int .i16 a0_3) := (za BK261.out 3).trans rfl; have hcz65_4 : w63.cell? ⟨gb261, 4, none⟩ = some (.int .i16 a0_4) := (za BK261.out 4).trans rfl; have hcz65_5 : w63.cell? ⟨gb261, 5, none⟩ = some (.bool a0_5) := (za BK261.out 5).trans rfl; have hfz65_0 := zb BK261.out 0; have hfz65_1 := zb BK261.out 1; have hfz65_2 := zb BK261.out 2; have hfz65_3 := zb BK261.out 3; have hfz65_4 := zb BK261.out 4; have hfz65_5 := zb BK261.out 5) | ((with_reducible refine zv (f := 34) rfl ?_); refine zha (some 75) rfl rfl Try.func34 (by kernel_rfl) rfl #[.agg #[.slice A0_0 l0_0.length c0_0, .int .i16 a0_1, .int .i16 a0_2, .int .i16 a0_3, .int .i16 a0_4, .bool a0_5]] rfl (by (try simp only [List.map_toArray, List.map_cons, List.map_nil]); first | done | rfl | (simp only [List.length_drop, List.length_take]; rfl)) ?_; (with_reducible refine (laws_toPuzzle.calls kj36 _ _ l0_0 a0_1 a0_2 a0_3 a0_4 a0_5 t304 t307 t308 t309 t310 t311 _ ?side1 ?side2 A59.out).mono ?_); (case side1 => repeat (first | exact (Kd.C_below HR0_0.out (by repeat (first | (with_reducible first | exact HB.out | apply zj | apply zc | apply zi | refine zk ?_ GE261.out | refine zk ?_ GE283.out) | exact HB.out))) | (with_reducible refine Kd.C_alloc ?_ _) | (with_reducible refine Kd.C_drewN ?_ _) | (with_reducible refine Kd.C_drew ?_))); (case side2 => exact HC0_0.out); rintro e w66 ⟨v305, rfl, ho0, hb⟩; refine ⟨_, rfl, ?_⟩; have n0_ := ze.mk (Kd.R_elder' (by (with_reducible repeat (first | apply Kd.R_alloc | apply Kd.R_drewN | apply Kd.R_drew)); exact HO_4.out) (Kd.R_base ho0) hb); have n1_ := ze.mk (Kd.R_elder' (by (with_reducible repeat (first | apply Kd.R_alloc | apply Kd.R_drewN | apply Kd.R_drew)); exact HO_7.out) (Kd.R_base ho0) hb); have n2_ := ze.mk (Kd.R_elder' (by (with_reducible repeat (first | apply Kd.R_alloc | apply Kd.R_drewN | apply Kd.R_drew)); exact HO_284000.out) (Kd.R_base ho0) hb); have n3_ := ze.mk (Kd.R_lower (Kd.R_new' (Kd.R_new' (Kd.R_new' ho0 (Kd.R_lt (by (with_reducible repeat (first | apply Kd.R_alloc | apply Kd.R_drewN | apply Kd.R_drew)); exact HO_4.out))) (Kd.R_lt (by (with_reducible repeat (first | apply Kd.R_alloc | apply Kd.R_drewN | apply Kd.R_drew)); exact HO_7.out))) (Kd.R_lt (by (with_reducible repeat (first | apply Kd.R_alloc | apply Kd.R_drewN | apply Kd.R_drew)); exact HO_284000.out))) (zn (by repeat (first | (with_reducible first | exact HB.out | apply zj | apply zc | apply zi | refine zk ?_ GE261.out | refine zk ?_ GE283.out) | exact HB.out)))); have n4_ := ze.mk (zl (g := gb261) (o := .cells #[.slice A0_0 l0_0.length c0_0, .int .i16 a0_1, .int .i16 a0_2, .int .i16 a0_3, .int .i16 a0_4, .bool a0_5] 53 (0, 0)) (by (with_reducible repeat (first | refine zg ?_ _ | refine zh ?_ | refine zf ?_ _)); exact BK261.out) hb); have n5_ := ze.mk (zl (g := gb283) (o := .cells #[.slice Ao22 t299.length co22, .int .i16 t278, .int .i16 t279, .int .i16 t280, .int .i16 t281, .bool t282] 29 (0, 0)) (by (with_reducible repeat (first | refine zg ?_ _ | refine zh ?_ | refine zf ?_ _)); exact BK283.out) hb); have n6_ := ze.mk (zm (by repeat (first | (with_reducible first | exact HB.out | apply zj | apply zc | apply zi | refine zk ?_ GE261.out | refine zk ?_ GE283.out) | exact HB.out)) hb); clear HO_4; clear HO_7; clear HO_284000; clear BK261; clear BK283; clear HB; have HO_4 := n0_; have HO_7 := n1_; have HO_284000 := n2_; have HO306 := n3_; have BK261 := n4_; have BK283 := n5_; have HB := n6_; clear n0_ n1_ n2_ n3_ n4_ n5_ n6_; (try clear hb); (try clear hb2); (try clear hk); (try clear hi); (try clear ho0); obtain ⟨Ao67, co67, eo67⟩ := Kd.R_slice HO306.out; subst eo67) | ((with_reducible refine zv (f := 12) rfl ?_); refine zha (some 76) rfl rfl Try.func12 (by kernel_rfl) rfl #[.agg #[.slice Ao67 t304.length co67, .int .i16 t307, .int .i16 t308, .int .i16 t309, .int .i16 t310, .bool t311]] rfl (by (try simp only [List.map_toArray, List.map_cons, List.map_nil]); first | done | rfl | (simp only [List.length_drop, List.length_take]; rfl)) ?_; (with_reducible refine (impl_StepsTable.calls kj36 _ _ t304 t307 t308 t309 t310 t311 t312 t315 _ ?side1 ?side2 A60.out).mono ?_); (case side1 => repeat (first | exact (Kd.R_reads' HO306.out).2.2 | (with_reducible refine Kd.C_alloc ?_ _) | (with_reducible refine Kd.C_drewN ?_ _) | (with_reducible refine Kd.C_drew ?_))); (case side2 => exact (Kd.R_reads' HO306.out).2.1); rintro e w68 ⟨v313, rfl, ho0, hb⟩; refine ⟨_, rfl, ?_⟩; have n0_ := ze.mk (Kd.R_elder' (by (with_reducible repeat (first | apply Kd.R_alloc | apply Kd.R_drewN | apply Kd.R_drew)); exact HO_4.out) (Kd.R_base ho0) hb); have n1_ := ze.mk (Kd.R_elder' (by (with_reducible repeat (first | apply Kd.R_alloc | apply Kd.R_drewN | apply Kd.R_drew)); exact HO_7.out) (Kd.R_base ho0) hb); have n2_ := ze.mk (Kd.R_elder' (by (with_reducible repeat (first | apply Kd.R_alloc | apply Kd.R_drewN | apply Kd.R_drew)); exact HO_284000.out) (Kd.R_base ho0) hb); have n3_ := ze.mk (Kd.R_elder' (by (with_reducible repeat (first | apply Kd.R_alloc | apply Kd.R_drewN | apply Kd.R_drew)); exact HO306.out) (Kd.R_base ho0) hb); have n4_ := ze.mk (Kd.R_lower (Kd.R_new' (Kd.R_new' (Kd.R_new' (Kd.R_new' ho0 (Kd.R_lt (by (with_reducible repeat (first | apply Kd.R_alloc | apply Kd.R_drewN | apply Kd.R_drew)); exact HO_4.out))) (Kd.R_lt (by (with_reducible repeat (first | apply Kd.R_alloc | apply Kd.R_drewN | apply Kd.R_drew)); exact HO_7.out))) (Kd.R_lt (by (with_reducible repeat (first | apply Kd.R_alloc | apply Kd.R_drewN | apply Kd.R_drew)); exact HO_284000.out))) (Kd.R_lt (by (with_reducible repeat (first | apply Kd.R_alloc | apply Kd.R_drewN | apply Kd.R_drew)); exact HO306.out))) (zn (by repeat (first | (with_reducible first | exact HB.out | apply zj | apply zc | apply zi | refine zk ?_ GE261.out | refine zk ?_ GE283.out) | exact HB.out)))); have n5_ := ze.mk (zl (g := gb261) (o := .cells #[.slice A0_0 l0_0.length c0_0, .int .i16 a0_1, .int .i16 a0_2, .int .i16 a0_3, .int .i16 a0_4, .bool a0_5] 53 (0, 0)) (by (with_reducible repeat (first | refine zg ?_ _ | refine zh ?_ | refine zf ?_ _)); exact BK261.out) hb); have n6_ := ze.mk (zl (g := gb283) (o := .cells #[.slice Ao22 t299.length co22, .int .i16 t278, .int .i16 t279, .int .i16 t280, .int .i16 t281, .bool t282] 29 (0, 0)) (by (with_reducible repeat (first | refine zg ?_ _ | refine zh ?_ | refine zf ?_ _)); exact BK283.out) hb); have n7_ := ze.mk (zm (by repeat (first | (with_reducible first | exact HB.out | apply zj | apply zc | apply zi | refine zk ?_ GE261.out | refine zk ?_ GE283.out) | exact HB.out)) hb); clear HO_4; clear HO_7; clear HO_284000; clear HO306; clear BK261; clear BK283; clear HB; have HO_4 := n0_; have HO_7 := n1_; have HO_284000 := n2_; have HO306 := n3_; have HO314 := n4_; have BK261 := n5_; have BK283 := n6_; have HB := n7_; clear n0_ n1_ n2_ n3_ n4_ n5_ n6_ n7_; (try clear hb); (try clear hb2); (try clear hk); (try clear hi); (try clear ho0)))
           (try simp only [Act.put, List.setIfInBounds_toArray, List.set_cons_zero, List.set_cons_succ])
           go_cut [87] (fun v87 wc => ∃ (kq : Nat) (x87_60 : Bool), v87 = .bool x87_60 ∧ ze (laws_FnExactStepsTable.j2 kq t302 t301 x87_60 = some r) ∧ ze (kq ≤ kj36) ∧ ze (Kd.R (Kd.int .i16) 25 wc w.heap.size (fun k_ => some k_ ≠ ((.slice Ao22 t299.length co22) : Value).ownBlock) (.slice Ao62 t284.length co62) t302) ∧ ze (Kd.R (Kd.int .i16) 25 wc w.heap.size (fun k_ => some k_ ≠ ((.slice Ao62 t284.length co62) : Value).ownBlock) (.slice Ao22 t299.length co22) t299) ∧ ze (wc.heap[gb261]? = some (.cells #[(.slice A0_0 l0_0.length c0_0), .int .i16 a0_1, .int .i16 a0_2, .int .i16 a0_3, .int .i16 a0_4, .bool a0_5] 53 (0, 0))) ∧ ze (wc.heap[gb283]? = some (.cells #[(.slice Ao22 t299.length co22), .int .i16 t278, .int .i16 t279, .int .i16 t280, .int .i16 t281, .bool t282] 29 (0, 0))) ∧ ze (Below w.heap.size w wc))
           case first =>
            have H := HC61.out
            clear HC61
            replace H := Option.bind_eq_some_iff.mp H
            obtain ⟨t316, A690, H⟩ := H
            replace H : (if t316 = true then (laws_FnExactStepsTable.j2 kj36 t302 t301 (t315 != t274)) else (laws_FnExactStepsTable.j2 kj36 t302 t301 true)) = some r := H
            have A69 := ze.mk A690
            clear A690
            by_cases c70 : t316 = true
            ·subst c70
             have H1 : (laws_FnExactStepsTable.j2 kj36 t302 t301 (t315 != t274)) = some r := by rw [if_pos rfl] at H; exact H
             clear H
             have H := H1
             clear H1
             have H' := ze.mk H
             clear H
             obtain ⟨Ao71, co71, eo71⟩ := Kd.R_slice HO314.out
             subst eo71
             obtain ⟨Ao72, co72, eo72⟩ := Kd.R_slice HO_4.out
             subst eo72
             go_wp2_with (first | ((with_reducible refine zv (f := 37) rfl ?_); refine zha (some 81) rfl rfl Try.func37 (by kernel_rfl) rfl #[.slice Ao71 t312.length co71, .slice Ao72 t271.length co72] rfl (by (try simp only [List.map_toArray, List.map_cons, List.map_nil]); first | done | rfl | (simp only [List.length_drop, List.length_take]; rfl)) ?_; (with_reducible refine (laws_eqInt16S.calls kj36 _ _ t312 _ _ t271 true _ ?side1 ?side2 ?side3 ?side4 A69.out).mono ?_); (case side1 => repeat (first | exact (Kd.R_reads' HO314.out).2.2 | (with_reducible refine Kd.C_alloc ?_ _) | (with_reducible refine Kd.C_drewN ?_ _) | (with_reducible refine Kd.C_drew ?_))); (case side2 => exact (Kd.R_reads' HO314.out).2.1); (case side3 => repeat (first | exact (Kd.R_reads' HO_4.out).2.2 | (with_reducible refine Kd.C_alloc ?_ _) | (with_reducible refine Kd.C_drewN ?_ _) | (with_reducible refine Kd.C_drew ?_))); (case side4 => exact (Kd.R_reads' HO_4.out).2.1); rintro e w' ⟨rfl, ⟨nd, rfl⟩⟩; refine ⟨_, rfl, ?_⟩))
             go_meet
             case rel => exact ⟨_, ((t315 != t274)), (by first | rfl | (simp; done) | (simp [*]; done)), H', ⟨by have := HJ10.out; have := HJ36.out; first | omega | exact Nat.le_refl _⟩, ⟨by (try simp only [hl284000_36]); (with_reducible repeat (first | apply Kd.R_alloc | apply Kd.R_drewN | apply Kd.R_drew)); exact Kd.R_mono HO_7.out (fun _ hk => hk.1.1.2)⟩, ⟨by (try simp only [hl284000_36]); (with_reducible repeat (first | apply Kd.R_alloc | apply Kd.R_drewN | apply Kd.R_drew)); exact Kd.R_mono HO_284000.out (fun _ hk => hk.1.1.2)⟩, ⟨by (try simp only [hl284000_36]); (with_reducible repeat (first | refine zg ?_ _ | refine zh ?_ | refine zf ?_ _)); exact BK261.out⟩, ⟨by (try simp only [hl284000_36]); (with_reducible repeat (first | refine zg ?_ _ | refine zh ?_ | refine zf ?_ _)); exact BK283.out⟩, ⟨by repeat (first | (with_reducible first | exact HB.out | apply zj | apply zc | apply zi | refine zk ?_ GE261.out | refine zk ?_ GE283.out) | exact HB.out)⟩⟩
            ·replace c70 := Bool.eq_false_iff.mpr c70
             subst c70
             have H1 : (laws_FnExactStepsTable.j2 kj36 t302 t301 true) = some r := by rw [if_neg (show ¬ (false = true) by decide)] at H; exact H
             clear H
             have H := H1
             clear H1
             have H' := ze.mk H
             clear H
             obtain ⟨Ao73, co73, eo73⟩ := Kd.R_slice HO314.out
             subst eo73
             obtain ⟨Ao74, co74, eo74⟩ := Kd.R_slice HO_4.out
             subst eo74
             go_wp2_with (first | ((with_reducible refine zv (f := 37) rfl ?_); refine zha (some 81) rfl rfl Try.func37 (by kernel_rfl) rfl #[.slice Ao73 t312.length co73, .slice Ao74 t271.length co74] rfl (by (try simp only [List.map_toArray, List.map_cons, List.map_nil]); first | done | rfl | (simp only [List.length_drop, List.length_take]; rfl)) ?_; (with_reducible refine (laws_eqInt16S.calls kj36 _ _ t312 _ _ t271 false _ ?side1 ?side2 ?side3 ?side4 A69.out).mono ?_); (case side1 => repeat (first | exact (Kd.R_reads' HO314.out).2.2 | (with_reducible refine Kd.C_alloc ?_ _) | (with_reducible refine Kd.C_drewN ?_ _) | (with_reducible refine Kd.C_drew ?_))); (case side2 => exact (Kd.R_reads' HO314.out).2.1); (case side3 => repeat (first | exact (Kd.R_reads' HO_4.out).2.2 | (with_reducible refine Kd.C_alloc ?_ _) | (with_reducible refine Kd.C_drewN ?_ _) | (with_reducible refine Kd.C_drew ?_))); (case side4 => exact (Kd.R_reads' HO_4.out).2.1); rintro e w' ⟨rfl, ⟨nd, rfl⟩⟩; refine ⟨_, rfl, ?_⟩))
             go_meet
             case rel => exact ⟨_, (true), (by first | rfl | (simp; done) | (simp [*]; done)), H', ⟨by have := HJ10.out; have := HJ36.out; first | omega | exact Nat.le_refl _⟩, ⟨by (try simp only [hl284000_36]); (with_reducible repeat (first | apply Kd.R_alloc | apply Kd.R_drewN | apply Kd.R_drew)); exact Kd.R_mono HO_7.out (fun _ hk => hk.1.1.2)⟩, ⟨by (try simp only [hl284000_36]); (with_reducible repeat (first | apply Kd.R_alloc | apply Kd.R_drewN | apply Kd.R_drew)); exact Kd.R_mono HO_284000.out (fun _ hk => hk.1.1.2)⟩, ⟨by (try simp only [hl284000_36]); (with_reducible repeat (first | refine zg ?_ _ | refine zh ?_ | refine zf ?_ _)); exact BK261.out⟩, ⟨by (try simp only [hl284000_36]); (with_reducible repeat (first | refine zg ?_ _ | refine zh ?_ | refine zf ?_ _)); exact BK283.out⟩, ⟨by repeat (first | (with_reducible first | exact HB.out | apply zj | apply zc | apply zi | refine zk ?_ GE261.out | refine zk ?_ GE283.out) | exact HB.out)⟩⟩
           case rest =>
            clear HC61
            try clear c1
            try clear c2
            try clear p2
            try clear c3
            try clear c3b0
            try clear c4
            try clear c5
            try clear c6
            try clear c7
            try clear c12
            try clear c13
            try clear c23
            try clear c27
            try clear c32
            try clear c34
            try clear c35
            try clear c37
            try clear c38
            try clear c39
            try clear c40
            try clear c42
            try clear c45
            try clear c45b0
            try clear c47
            try clear c52
            try clear c55
            try clear c55b0
            try clear c58
            try clear c58b0
            try clear c58b1
            try clear c64
            try clear c70
            try clear hcz13_0
            try clear hcz13_1
            try clear hcz13_2
            try clear hcz13_3
            try clear hcz13_4
            try clear hcz13_5
            try clear hcz15_0
            try clear hcz15_1
            try clear hcz15_2
            try clear hcz15_3
            try clear hcz15_4
            try clear hcz15_5
            try clear hcz19_0
            try clear hcz19_1
            try clear hcz19_2
            try clear hcz19_3
            try clear hcz19_4
            try clear hcz19_5
            try clear hcz24_0
            try clear hcz24_1
            try clear hcz24_2
            try clear hcz24_3
            try clear hcz24_4
            try clear hcz24_5
            try clear hcz43_0
            try clear hcz43_1
            try clear hcz43_2
            try clear hcz43_3
            try clear hcz43_4
            try clear hcz43_5
            try clear hcz5_0
            try clear hcz5_1
            try clear hcz5_2
            try clear hcz5_3
            try clear hcz5_4
            try clear hcz5_5
            try clear hcz65_0
            try clear hcz65_1
            try clear hcz65_2
            try clear hcz65_3
            try clear hcz65_4
            try clear hcz65_5
            try clear hfz13_0
            try clear hfz13_1
            try clear hfz13_2
            try clear hfz13_3
            try clear hfz13_4
            try clear hfz13_5
            try clear hfz15_0
            try clear hfz15_1
            try clear hfz15_2
            try clear hfz15_3
            try clear hfz15_4
            try clear hfz15_5
            try clear hfz19_0
            try clear hfz19_1
            try clear hfz19_2
            try clear hfz19_3
            try clear hfz19_4
            try clear hfz19_5
            try clear hfz24_0
            try clear hfz24_1
            try clear hfz24_2
            try clear hfz24_3
            try clear hfz24_4
            try clear hfz24_5
            try clear hfz43_0
            try clear hfz43_1
            try clear hfz43_2
            try clear hfz43_3
            try clear hfz43_4
            try clear hfz43_5
            try clear hfz5_0
            try clear hfz5_1
            try clear hfz5_2
            try clear hfz5_3
            try clear hfz5_4
            try clear hfz5_5
            try clear hfz65_0
            try clear hfz65_1
            try clear hfz65_2
            try clear hfz65_3
            try clear hfz65_4
            try clear hfz65_5
            try clear p2
            obtain ⟨kq, x87_60, rfl, HA, HJ60, HO_7, HO_284000, BK261, BK283, HB⟩ := hcut
            have hl7_60 := (Kd.R_reads' HO_7.out).1
            rw [hl7_60] at HO_7
            (try simp only [hl7_60])
            (try simp only [hl7_60] at BK261)
            (try simp only [hl7_60] at BK283)
            (try simp only [hl7_60] at HO_284000)
            cases kq with
            | zero => exact absurd HA.out (by simp [laws_FnExactStepsTable.j2])
            | succ kj60 =>
             have H := HA.out
             clear HA
             simp only [laws_FnExactStepsTable.j2] at H
             by_cases c75 : x87_60 = true
             ·subst c75
              have H1 : (some false) = some r := by rw [if_pos rfl] at H; exact H
              clear H
              have H := H1
              clear H1
              obtain rfl := Option.some.inj H
              go_wp2
              go_ret
              exact ⟨by first | rfl | (simp [zt, zr] <;> rfl) | (simp [*, zt, zr] <;> rfl), by repeat (first | (with_reducible first | exact HB.out | apply zj | apply zc | apply zi | refine zk ?_ GE261.out | refine zk ?_ GE283.out) | exact HB.out)⟩
             ·replace c75 := Bool.eq_false_iff.mpr c75
              subst c75
              have H1 : ((laws_heldInt16S.f kj60 t302 1).bind fun t317 => (if t317 < 0 then (some false) else (if t317 = t301 then (some true) else (some false)))) = some r := by rw [if_neg (show ¬ (false = true) by decide)] at H; exact H
              clear H
              have H := H1
              clear H1
              replace H := Option.bind_eq_some_iff.mp H
              obtain ⟨t317, A760, H⟩ := H
              replace H : (if t317 < 0 then (some false) else (if t317 = t301 then (some true) else (some false))) = some r := H
              have A76 := ze.mk A760
              clear A760
              by_cases c77 : t317 < 0
              ·rw [if_pos c77] at H
               have c77b0 : decide (t317 < 0) = true := decide_eq_true c77
               clear c77
               obtain rfl := Option.some.inj H
               go_wp2_with (first | ((with_reducible refine zv (f := 40) rfl ?_); refine zha (some 90) rfl rfl Try.func40 (by kernel_rfl) rfl #[.slice Ao62 t302.length co62, .int .i64 1] rfl (by (try simp only [List.map_toArray, List.map_cons, List.map_nil]); first | done | rfl | (simp only [List.length_drop, List.length_take]; rfl)) ?_; (with_reducible refine (laws_heldInt16S.calls kj60 _ _ t302 1 t317 _ ?side1 ?side2 A76.out).mono ?_); (case side1 => repeat (first | exact (Kd.R_reads' HO_7.out).2.2 | (with_reducible refine Kd.C_alloc ?_ _) | (with_reducible refine Kd.C_drewN ?_ _) | (with_reducible refine Kd.C_drew ?_))); (case side2 => exact (Kd.R_reads' HO_7.out).2.1); rintro e w' ⟨rfl, ⟨nd, rfl⟩⟩; refine ⟨_, rfl, ?_⟩))
               go_ret
               exact ⟨by first | rfl | (simp [zt, zr] <;> rfl) | (simp [*, zt, zr] <;> rfl), by repeat (first | (with_reducible first | exact HB.out | apply zj | apply zc | apply zi | refine zk ?_ GE261.out | refine zk ?_ GE283.out) | exact HB.out)⟩
              ·rw [if_neg c77] at H
               have c77b0 : decide (t317 < 0) = false := decide_eq_false c77
               clear c77
               by_cases c78 : t317 = t301
               ·rw [if_pos c78] at H
                have c78b0 : (t317 == t301) = true := beq_iff_eq.mpr c78
                have c78b1 : (t317 != t301) = false := bne_eq_false_iff_eq.mpr c78
                clear c78
                obtain rfl := Option.some.inj H
                go_wp2_with (first | ((with_reducible refine zv (f := 40) rfl ?_); refine zha (some 90) rfl rfl Try.func40 (by kernel_rfl) rfl #[.slice Ao62 t302.length co62, .int .i64 1] rfl (by (try simp only [List.map_toArray, List.map_cons, List.map_nil]); first | done | rfl | (simp only [List.length_drop, List.length_take]; rfl)) ?_; (with_reducible refine (laws_heldInt16S.calls kj60 _ _ t302 1 t317 _ ?side1 ?side2 A76.out).mono ?_); (case side1 => repeat (first | exact (Kd.R_reads' HO_7.out).2.2 | (with_reducible refine Kd.C_alloc ?_ _) | (with_reducible refine Kd.C_drewN ?_ _) | (with_reducible refine Kd.C_drew ?_))); (case side2 => exact (Kd.R_reads' HO_7.out).2.1); rintro e w' ⟨rfl, ⟨nd, rfl⟩⟩; refine ⟨_, rfl, ?_⟩))
                go_ret
                exact ⟨by first | rfl | (simp [zt, zr] <;> rfl) | (simp [*, zt, zr] <;> rfl), by repeat (first | (with_reducible first | exact HB.out | apply zj | apply zc | apply zi | refine zk ?_ GE261.out | refine zk ?_ GE283.out) | exact HB.out)⟩
               ·rw [if_neg c78] at H
                have c78b0 : (t317 == t301) = false := beq_eq_false_iff_ne.mpr c78
                have c78b1 : (t317 != t301) = true := bne_iff_ne.mpr c78
                obtain rfl := Option.some.inj H
                go_wp2_with (first | ((with_reducible refine zv (f := 40) rfl ?_); refine zha (some 90) rfl rfl Try.func40 (by kernel_rfl) rfl #[.slice Ao62 t302.length co62, .int .i64 1] rfl (by (try simp only [List.map_toArray, List.map_cons, List.map_nil]); first | done | rfl | (simp only [List.length_drop, List.length_take]; rfl)) ?_; (with_reducible refine (laws_heldInt16S.calls kj60 _ _ t302 1 t317 _ ?side1 ?side2 A76.out).mono ?_); (case side1 => repeat (first | exact (Kd.R_reads' HO_7.out).2.2 | (with_reducible refine Kd.C_alloc ?_ _) | (with_reducible refine Kd.C_drewN ?_ _) | (with_reducible refine Kd.C_drew ?_))); (case side2 => exact (Kd.R_reads' HO_7.out).2.1); rintro e w' ⟨rfl, ⟨nd, rfl⟩⟩; refine ⟨_, rfl, ?_⟩))
                go_ret
                exact ⟨by first | rfl | (simp [zt, zr] <;> rfl) | (simp [*, zt, zr] <;> rfl), by repeat (first | (with_reducible first | exact HB.out | apply zj | apply zc | apply zi | refine zk ?_ GE261.out | refine zk ?_ GE283.out) | exact HB.out)⟩
          ·rw [if_neg c58] at H
           have c58b0 : (t303 == t301) = false := beq_eq_false_iff_ne.mpr c58
           have c58b1 : (t303 != t301) = true := bne_iff_ne.mpr c58
           obtain rfl := Option.some.inj H
           obtain ⟨Ao79, co79, eo79⟩ := Kd.R_slice HO_7.out
           subst eo79
           go_wp2_with (first | ((with_reducible refine zv (f := 39) rfl ?_); refine zha (some 64) rfl rfl Try.func39 (by kernel_rfl) rfl #[.slice Ao79 t284.length co79, .int .i64 1] rfl (by (try simp only [List.map_toArray, List.map_cons, List.map_nil]); first | done | rfl | (simp only [List.length_drop, List.length_take]; rfl)) ?_; (with_reducible refine (laws_markInt16S.calls kj36 (fun k_ => some k_ = (.slice Ao79 t284.length co79 : Value).ownBlock) (.slice Ao79 t284.length co79) t284 1 t301 t302 w _ ?side1 ?side2 A53.out).mono ?_); (case side1 => repeat (first | (with_reducible first | exact HB.out | apply zj | apply zc | apply zi | refine zk ?_ GE261.out | refine zk ?_ GE283.out) | exact HB.out)); (case side2 => exact Kd.R_tight rfl HO_7.out); rintro e w80 ⟨rfl, hy0, hb, hkp⟩; refine ⟨_, rfl, ?_⟩; have n0_ := ze.mk (Kd.R_mono (ok' := fun k_ => some k_ ≠ (.slice Ao79 t284.length co79 : Value).ownBlock ∧ some k_ ≠ (.slice Ao22 t299.length co22 : Value).ownBlock) (Kd.R_keptB (HO_4.out) hkp (fun k_ hk_ hs_ => (hk_.1) hs_)) (fun k_ hk_ => ⟨hk_.1.1, hk_.1.2⟩)); have n1_ := ze.mk (Kd.R_reok rfl hy0 (fun k_ e_ => HO_7.out.1 k_ e_)); have n2_ := ze.mk (Kd.R_mono (ok' := fun k_ => some k_ ≠ (v272 : Value).ownBlock ∧ some k_ ≠ (.slice Ao79 t284.length co79 : Value).ownBlock) (Kd.R_keptB (HO_284000.out) hkp (fun k_ hk_ hs_ => (hk_.2) hs_)) (fun k_ hk_ => ⟨hk_.1.1, hk_.1.2⟩)); have n3_ := ze.mk (zcc (by (with_reducible repeat (first | refine zg ?_ _ | refine zh ?_ | refine zf ?_ _)); exact BK261.out) hkp (fun hs_ => (fun e_ => (Kd.R_ne HO_7.out BK261.out (by decide)) e_) hs_)); have n4_ := ze.mk (zcc (by (with_reducible repeat (first | refine zg ?_ _ | refine zh ?_ | refine zf ?_ _)); exact BK283.out) hkp (fun hs_ => (fun e_ => (Kd.R_ne HO_7.out BK283.out (by decide)) e_) hs_)); have n5_ := ze.mk (hb); clear HO_4; clear HO_7; clear HO_284000; clear BK261; clear BK283; clear HB; have HO_4 := n0_; have HO_7 := n1_; have HO_284000 := n2_; have BK261 := n3_; have BK283 := n4_; have HB := n5_; clear n0_ n1_ n2_ n3_ n4_ n5_; (try clear hb); (try clear hkp); (try clear hy0)) | ((with_reducible refine zv (f := 40) rfl ?_); refine zha (some 67) rfl rfl Try.func40 (by kernel_rfl) rfl #[.slice Ao79 t302.length co79, .int .i64 1] rfl (by (try simp only [List.map_toArray, List.map_cons, List.map_nil]); first | done | (rw [show t302.length = t284.length from (Kd.R_reads' HO_7.out).1.symm] <;> rfl) | rfl | (simp only [List.length_drop, List.length_take]; rfl)) ?_; (with_reducible refine (laws_heldInt16S.calls kj36 _ _ t302 1 t303 _ ?side1 ?side2 A54.out).mono ?_); (case side1 => repeat (first | exact (Kd.R_reads' HO_7.out).2.2 | (with_reducible refine Kd.C_alloc ?_ _) | (with_reducible refine Kd.C_drewN ?_ _) | (with_reducible refine Kd.C_drew ?_))); (case side2 => rw [show t302.length = t284.length from (Kd.R_reads' HO_7.out).1.symm]; exact (Kd.R_reads' HO_7.out).2.1); rintro e w' ⟨rfl, ⟨nd, rfl⟩⟩; refine ⟨_, rfl, ?_⟩))
           go_ret
           exact ⟨by first | rfl | (simp [zt, zr] <;> rfl) | (simp [*, zt, zr] <;> rfl), by repeat (first | (with_reducible first | exact HB.out | apply zj | apply zc | apply zi | refine zk ?_ GE261.out | refine zk ?_ GE283.out) | exact HB.out)⟩
     ·replace c35 := Bool.eq_false_iff.mpr c35
      subst c35
      have H1 : (some false) = some r := by rw [if_neg (show ¬ (false = true) by decide)] at H; exact H
      clear H
      have H := H1
      clear H1
      obtain rfl := Option.some.inj H
      try go_wp2
      have n0_ := ze.mk (Kd.R_drew HO_4.out)
      have n1_ := ze.mk (Kd.R_drew HO_7.out)
      have n2_ := ze.mk (Kd.R_drew HO_284000.out)
      have n3_ := ze.mk (zh BK261.out)
      have n4_ := ze.mk (zh BK283.out)
      have n5_ := ze.mk (zi HB.out)
      clear HO_4
      clear HO_7
      clear HO_284000
      clear BK261
      clear BK283
      clear HB
      have HO_4 := n0_
      have HO_7 := n1_
      have HO_284000 := n2_
      have BK261 := n3_
      have BK283 := n4_
      have HB := n5_
      clear n0_ n1_ n2_ n3_ n4_ n5_
      refine zhc (n := 5) (S := fun w' => w'.cell? ⟨gb283, 0, none⟩ = some (.slice Ao22 t275.length co22) ∧ w'.cell? ⟨gb283, 1, none⟩ = some (.int .i16 t278) ∧ w'.cell? ⟨gb283, 2, none⟩ = some (.int .i16 t279) ∧ w'.cell? ⟨gb283, 3, none⟩ = some (.int .i16 t280) ∧ w'.cell? ⟨gb283, 4, none⟩ = some (.int .i16 t281) ∧ w'.cell? ⟨gb283, 5, none⟩ = some (.bool t282) ∧ w'.cell? ⟨gb261, 0, none⟩ = some (.slice A0_0 l0_0.length c0_0) ∧ w'.cell? ⟨gb261, 1, none⟩ = some (.int .i16 a0_1) ∧ w'.cell? ⟨gb261, 2, none⟩ = some (.int .i16 a0_2) ∧ w'.cell? ⟨gb261, 3, none⟩ = some (.int .i16 a0_3) ∧ w'.cell? ⟨gb261, 4, none⟩ = some (.int .i16 a0_4) ∧ w'.cell? ⟨gb261, 5, none⟩ = some (.bool a0_5)) (ds := []) #[false, false, false, false, false] (by kernel_rfl) rfl rfl ⟨(za BK283.out 0).trans rfl, (za BK283.out 1).trans rfl, (za BK283.out 2).trans rfl, (za BK283.out 3).trans rfl, (za BK283.out 4).trans rfl, (za BK283.out 5).trans rfl, (za BK261.out 0).trans rfl, (za BK261.out 1).trans rfl, (za BK261.out 2).trans rfl, (za BK261.out 3).trans rfl, (za BK261.out 4).trans rfl, (za BK261.out 5).trans rfl⟩ (fun hHeld => ?_)
      generalize wc.drew = w81 at HO_4 HO_7 HO_284000 BK261 BK283 HB hHeld ⊢
      refine take_ (i := 0) (N := some 41) (v := ?_) (a' := ?_) #[true, false, false, false, false] rfl rfl (by kernel_rfl) (fun _ _ _ h => h) (Or.inl ⟨by rfl, ?_⟩) hHeld ?_ ?_
      rotate_left
      ·rintro w' ⟨s0, s1, s2, s3, s4, s5, s6, s7, s8, s9, s10, s11⟩
       go_simp
       with_reducible rfl
      rotate_left
      ·simp only [Act.put, List.setIfInBounds_toArray, List.set_cons_zero, List.set_cons_succ, zy, zba]
       rfl
      refine take_ (i := 1) (N := some 42) (v := ?_) (a' := ?_) #[true, true, false, false, false] rfl rfl (by kernel_rfl) (fun _ _ _ h => h) (Or.inl ⟨by rfl, ?_⟩) hHeld ?_ ?_
      rotate_left
      ·rintro w' ⟨s0, s1, s2, s3, s4, s5, s6, s7, s8, s9, s10, s11⟩
       go_simp
       with_reducible rfl
      rotate_left
      ·simp only [Act.put, List.setIfInBounds_toArray, List.set_cons_zero, List.set_cons_succ, zy, zba]
       rfl
      refine one_ (i := 2) (N := some 43) #[true, true, true, false, false] rfl rfl (by kernel_rfl) (by decide) (fun K hK => ?_)
      refine zsd Try.func34 (by kernel_rfl) rfl #[.agg #[.slice A0_0 l0_0.length c0_0, .int .i16 a0_1, .int .i16 a0_2, .int .i16 a0_3, .int .i16 a0_4, .bool a0_5]] (by rfl) rfl rfl (by (try simp only [List.map_toArray, List.map_cons, List.map_nil]); first | done | rfl | (simp only [List.length_drop, List.length_take]; rfl)) ?_
      with_reducible refine (laws_toPuzzle.calls kj10 _ _ l0_0 a0_1 a0_2 a0_3 a0_4 a0_5 t289 t292 t293 t294 t295 t296 _ ?side1 ?side2 A33.out).mono ?_
      (case side1 => repeat (first | exact (Kd.C_below HR0_0.out HB.out) | (with_reducible refine Kd.C_alloc ?_ _) | (with_reducible refine Kd.C_drewN ?_ _) | (with_reducible refine Kd.C_drew ?_)))
      (case side2 => exact HC0_0.out)
      rintro e w82 ⟨v290, rfl, ho0, hb⟩
      refine ⟨_, rfl, ?_⟩
      have n0_ := ze.mk (Kd.R_elder' (by (with_reducible repeat (first | apply Kd.R_alloc | apply Kd.R_drewN | apply Kd.R_drew)); exact HO_4.out) (Kd.R_base ho0) hb)
      have n1_ := ze.mk (Kd.R_elder' (by (with_reducible repeat (first | apply Kd.R_alloc | apply Kd.R_drewN | apply Kd.R_drew)); exact HO_7.out) (Kd.R_base ho0) hb)
      have n2_ := ze.mk (Kd.R_elder' (by (with_reducible repeat (first | apply Kd.R_alloc | apply Kd.R_drewN | apply Kd.R_drew)); exact HO_284000.out) (Kd.R_base ho0) hb)
      have n3_ := ze.mk (Kd.R_lower (Kd.R_new' (Kd.R_new' (Kd.R_new' ho0 (Kd.R_lt (by (with_reducible repeat (first | apply Kd.R_alloc | apply Kd.R_drewN | apply Kd.R_drew)); exact HO_4.out))) (Kd.R_lt (by (with_reducible repeat (first | apply Kd.R_alloc | apply Kd.R_drewN | apply Kd.R_drew)); exact HO_7.out))) (Kd.R_lt (by (with_reducible repeat (first | apply Kd.R_alloc | apply Kd.R_drewN | apply Kd.R_drew)); exact HO_284000.out))) (zn (by repeat (first | (with_reducible first | exact HB.out | apply zj | apply zc | apply zi | refine zk ?_ GE261.out | refine zk ?_ GE283.out) | exact HB.out))))
      have n4_ := ze.mk (zl (g := gb261) (o := .cells #[.slice A0_0 l0_0.length c0_0, .int .i16 a0_1, .int .i16 a0_2, .int .i16 a0_3, .int .i16 a0_4, .bool a0_5] 53 (0, 0)) (by (with_reducible repeat (first | refine zg ?_ _ | refine zh ?_ | refine zf ?_ _)); exact BK261.out) hb)
      have n5_ := ze.mk (zl (g := gb283) (o := .cells #[.slice Ao22 t275.length co22, .int .i16 t278, .int .i16 t279, .int .i16 t280, .int .i16 t281, .bool t282] 29 (0, 0)) (by (with_reducible repeat (first | refine zg ?_ _ | refine zh ?_ | refine zf ?_ _)); exact BK283.out) hb)
      have n6_ := ze.mk (zm (by repeat (first | (with_reducible first | exact HB.out | apply zj | apply zc | apply zi | refine zk ?_ GE261.out | refine zk ?_ GE283.out) | exact HB.out)) hb)
      clear HO_4
      clear HO_7
      clear HO_284000
      clear BK261
      clear BK283
      clear HB
      have HO_4 := n0_
      have HO_7 := n1_
      have HO_284000 := n2_
      have HO291 := n3_
      have BK261 := n4_
      have BK283 := n5_
      have HB := n6_
      clear n0_ n1_ n2_ n3_ n4_ n5_ n6_
      (try clear hb)
      (try clear hb2)
      (try clear hk)
      (try clear hi)
      (try clear ho0)
      obtain ⟨Ao83, co83, eo83⟩ := Kd.R_slice HO291.out
      (first | subst eo83 | (injection eo83 with f1_ f2_ f3_; have f4_ := f1_.symm; have f5_ := f3_.symm; clear f1_ f2_ f3_; subst f4_; subst f5_))
      refine hK.out _ _ ⟨(za BK283.out 0).trans rfl, (za BK283.out 1).trans rfl, (za BK283.out 2).trans rfl, (za BK283.out 3).trans rfl, (za BK283.out 4).trans rfl, (za BK283.out 5).trans rfl, (za BK261.out 0).trans rfl, (za BK261.out 1).trans rfl, (za BK261.out 2).trans rfl, (za BK261.out 3).trans rfl, (za BK261.out 4).trans rfl, (za BK261.out 5).trans rfl⟩ (fun hHeld => ?_)
      clear hK K
      refine zpa (a' := ?_) ?_ ?_
      rotate_left
      ·show Act.put _ (some 43) _ = _
       simp only [Act.put, List.setIfInBounds_toArray, List.set_cons_zero, List.set_cons_succ, zy, zba]
       rfl
      refine one_ (i := 3) (N := some 44) #[true, true, true, true, false] rfl rfl (by kernel_rfl) (by decide) (fun K hK => ?_)
      refine zsd Try.func35 (by kernel_rfl) rfl #[.agg #[.slice Ao22 t275.length co22, .int .i16 t278, .int .i16 t279, .int .i16 t280, .int .i16 t281, .bool t282], .agg #[.slice Ao83 t289.length co83, .int .i16 t292, .int .i16 t293, .int .i16 t294, .int .i16 t295, .bool t296]] (by rfl) rfl rfl (by (try simp only [List.map_toArray, List.map_cons, List.map_nil]); first | done | rfl | (simp only [List.length_drop, List.length_take]; rfl)) ?_
      with_reducible refine (laws_eqPuzzle.calls kj10 _ _ t275 t278 t279 t280 t281 t282 _ _ t289 t292 t293 t294 t295 t296 false _ ?side1 ?side2 ?side3 ?side4 A34.out).mono ?_
      (case side1 => repeat (first | exact (Kd.R_reads' HO_284000.out).2.2 | (with_reducible refine Kd.C_alloc ?_ _) | (with_reducible refine Kd.C_drewN ?_ _) | (with_reducible refine Kd.C_drew ?_)))
      (case side2 => exact (Kd.R_reads' HO_284000.out).2.1)
      (case side3 => repeat (first | exact (Kd.R_reads' HO291.out).2.2 | (with_reducible refine Kd.C_alloc ?_ _) | (with_reducible refine Kd.C_drewN ?_ _) | (with_reducible refine Kd.C_drew ?_)))
      (case side4 => exact (Kd.R_reads' HO291.out).2.1)
      rintro e w84 ⟨rfl, hb⟩
      refine ⟨_, rfl, ?_⟩
      have n0_ := ze.mk (Kd.R_below (by (with_reducible repeat (first | apply Kd.R_alloc | apply Kd.R_drewN | apply Kd.R_drew)); exact HO_4.out) hb)
      have n1_ := ze.mk (Kd.R_below (by (with_reducible repeat (first | apply Kd.R_alloc | apply Kd.R_drewN | apply Kd.R_drew)); exact HO_7.out) hb)
      have n2_ := ze.mk (Kd.R_below (by (with_reducible repeat (first | apply Kd.R_alloc | apply Kd.R_drewN | apply Kd.R_drew)); exact HO_284000.out) hb)
      have n3_ := ze.mk (Kd.R_below (by (with_reducible repeat (first | apply Kd.R_alloc | apply Kd.R_drewN | apply Kd.R_drew)); exact HO291.out) hb)
      have n4_ := ze.mk (zl (g := gb261) (o := .cells #[.slice A0_0 l0_0.length c0_0, .int .i16 a0_1, .int .i16 a0_2, .int .i16 a0_3, .int .i16 a0_4, .bool a0_5] 53 (0, 0)) (by (with_reducible repeat (first | refine zg ?_ _ | refine zh ?_ | refine zf ?_ _)); exact BK261.out) hb)
      have n5_ := ze.mk (zl (g := gb283) (o := .cells #[.slice Ao22 t275.length co22, .int .i16 t278, .int .i16 t279, .int .i16 t280, .int .i16 t281, .bool t282] 29 (0, 0)) (by (with_reducible repeat (first | refine zg ?_ _ | refine zh ?_ | refine zf ?_ _)); exact BK283.out) hb)
      have n6_ := ze.mk (zm (by repeat (first | (with_reducible first | exact HB.out | apply zj | apply zc | apply zi | refine zk ?_ GE261.out | refine zk ?_ GE283.out) | exact HB.out)) hb)
      clear HO_4
      clear HO_7
      clear HO_284000
      clear HO291
      clear BK261
      clear BK283
      clear HB
      have HO_4 := n0_
      have HO_7 := n1_
      have HO_284000 := n2_
      have HO291 := n3_
      have BK261 := n4_
      have BK283 := n5_
      have HB := n6_
      clear n0_ n1_ n2_ n3_ n4_ n5_ n6_
      (try clear hb)
      (try clear hb2)
      (try clear hk)
      (try clear hi)
      refine hK.out _ _ ⟨(za BK283.out 0).trans rfl, (za BK283.out 1).trans rfl, (za BK283.out 2).trans rfl, (za BK283.out 3).trans rfl, (za BK283.out 4).trans rfl, (za BK283.out 5).trans rfl, (za BK261.out 0).trans rfl, (za BK261.out 1).trans rfl, (za BK261.out 2).trans rfl, (za BK261.out 3).trans rfl, (za BK261.out 4).trans rfl, (za BK261.out 5).trans rfl⟩ (fun hHeld => ?_)
      clear hK K
      refine zpa (a' := ?_) ?_ ?_
      rotate_left
      ·show Act.put _ (some 44) _ = _
       simp only [Act.put, List.setIfInBounds_toArray, List.set_cons_zero, List.set_cons_succ, zy, zba]
       rfl
      refine zia (i := 4) (N := some 45) (v := ?_) (a' := ?_) #[true, true, true, true, true] rfl rfl (by kernel_rfl) (fun _ _ _ h => h) (Or.inl ⟨by rfl, ?_⟩) ?_ ?_
      rotate_left
      ·intro w'
       go_simp
       with_reducible rfl
      rotate_left
      ·simp only [Act.put, List.setIfInBounds_toArray, List.set_cons_zero, List.set_cons_succ, zy, zba]
       rfl
      refine zhd (by kernel_rfl) ?_
      try go_wp2
      go_ret
      exact ⟨by first | rfl | (simp [zt, zr] <;> rfl) | (simp [*, zt, zr] <;> rfl), by repeat (first | (with_reducible first | exact HB.out | apply zj | apply zc | apply zi | refine zk ?_ GE261.out | refine zk ?_ GE283.out) | exact HB.out)⟩
end Go.Proofs.Yteciomagemjjaaa.J
