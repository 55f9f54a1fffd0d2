/- The law of HardestWater. -/
import Derived.Test.YteciomagemjjaaaJx6
import Derived.Test.YteciomagemjjaaaJx13
import Derived.Test.YteciomagemjjaaaJx14
import Derived.Test.YteciomagemjjaaaJx15
import Derived.Test.YteciomagemjjaaaLHardJ
import Derived.Test.YteciomagemjjaaaLHardSJ
namespace Go.Proofs.Yteciomagemjjaaa.J
open Go.RowKit Go.Proofs.YteciomagemjjaaaW.PrintWords Go.Proofs.YteciomagemjjaaaW.PrintLast Go.Proofs.YteciomagemjjaaaW.PrintMore
attribute [local go_sem] zta zva zya zza zma zna zua zsa
set_option linter.unusedVariables false
set_option linter.unusedSimpArgs false
def laws_FnExactHardestWater.j0 : Nat → Bool → List Int → Int → Int → Int → Int → Bool → List Int → Int → Int → Int → Int → Bool → Option (Bool)
 | 0, _, _, _, _, _, _, _, _, _, _, _, _, _ => none
 | k + 1, x44, x253000, x253001, x253002, x253003, x253004, x253005, x278000, x278001, x278002, x278003, x278004, x278005 => if x44 = true then (some false) else ((laws_toPuzzle.f k x253000 x253001 x253002 x253003 x253004 x253005).bind fun bt286 => ((laws_eqPuzzle.f k x278000 x278001 x278002 x278003 x278004 x278005 bt286.1 bt286.2.1 bt286.2.2.1 bt286.2.2.2.1 bt286.2.2.2.2.1 bt286.2.2.2.2.2).bind fun t294 => (if t294 = true then (some true) else (some false))))
def laws_FnExactHardestWater.f (k : Nat) (l0_0 : List Int) (a0_1 : Int) (a0_2 : Int) (a0_3 : Int) (a0_4 : Int) (a0_5 : Bool) : Option (Bool) := (laws_szPuzzle.f l0_0 a0_1 a0_2 a0_3 a0_4 a0_5 1048576).bind fun t253 => (if t253 < 0 then (some true) else ((laws_toPuzzle.f k l0_0 a0_1 a0_2 a0_3 a0_4 a0_5).bind fun bt254 => ((spec_HardestWater.f k bt254.1 bt254.2.1 bt254.2.2.1 bt254.2.2.2.1 bt254.2.2.2.2.1 bt254.2.2.2.2.2).bind fun bt262 => ((laws_toPuzzle.f k l0_0 a0_1 a0_2 a0_3 a0_4 a0_5).bind fun bt269 => ((impl_HardestWater.f k bt269.1 bt269.2.1 bt269.2.2.1 bt269.2.2.2.1 bt269.2.2.2.2.1 bt269.2.2.2.2.2).bind fun bt278 => ((laws_eqWater.f k bt278.1 bt278.2.1 bt278.2.2.1 bt278.2.2.2.1 bt262.1 bt262.2.1 bt262.2.2.1 bt262.2.2.2.1).bind fun t285 => (if t285 = true then (if bt278.2.2.2.2.1 = bt262.2.2.2.2.1 then (laws_FnExactHardestWater.j0 k (bt278.2.2.2.2.2 != bt262.2.2.2.2.2) l0_0 a0_1 a0_2 a0_3 a0_4 a0_5 bt269.1 bt269.2.1 bt269.2.2.1 bt269.2.2.2.1 bt269.2.2.2.2.1 bt269.2.2.2.2.2) else (laws_FnExactHardestWater.j0 k true l0_0 a0_1 a0_2 a0_3 a0_4 a0_5 bt269.1 bt269.2.1 bt269.2.2.1 bt269.2.2.2.1 bt269.2.2.2.2.1 bt269.2.2.2.2.2)) else (laws_FnExactHardestWater.j0 k true l0_0 a0_1 a0_2 a0_3 a0_4 a0_5 bt269.1 bt269.2.1 bt269.2.2.1 bt269.2.2.2.1 bt269.2.2.2.2.1 bt269.2.2.2.2.2))))))))
set_option maxHeartbeats 8000000 in
set_option maxRecDepth 100000 in
theorem laws_FnExactHardestWater.calls (k : Nat) (A0_0 : Option Addr) (c0_0 : Nat) (l0_0 : List Int) (a0_1 : Int) (a0_2 : Int) (a0_3 : Int) (a0_4 : Int) (a0_5 : Bool) (r : Bool) (w : World) (hr0_0 : Kd.C (Kd.int .i16) w A0_0 l0_0.length l0_0) (hc0_0 : l0_0.length ≤ c0_0) (h : laws_FnExactHardestWater.f k l0_0 a0_1 a0_2 a0_3 a0_4 a0_5 = some r) :
  Calls Try.prog 5 #[.agg #[.slice A0_0 l0_0.length c0_0, .int .i16 a0_1, .int .i16 a0_2, .int .i16 a0_3, .int .i16 a0_4, .bool a0_5]] w fun e w' => e = .returned (.bool r) ∧ Below w.heap.size w w' := by
 have hu53 := Try.underlying53
 have hu27 := Try.underlying27
 have hu29 := Try.underlying29
 have HR0_0 := zh.mk hr0_0
 have HC0_0 := zh.mk hc0_0
 clear hr0_0 hc0_0
 have HB := zh.mk (Below.refl w.heap.size w)
 have H : ((laws_szPuzzle.f l0_0 a0_1 a0_2 a0_3 a0_4 a0_5 1048576).bind fun t253 => (if t253 < 0 then (some true) else ((laws_toPuzzle.f k l0_0 a0_1 a0_2 a0_3 a0_4 a0_5).bind fun bt254 => ((spec_HardestWater.f k bt254.1 bt254.2.1 bt254.2.2.1 bt254.2.2.2.1 bt254.2.2.2.2.1 bt254.2.2.2.2.2).bind fun bt262 => ((laws_toPuzzle.f k l0_0 a0_1 a0_2 a0_3 a0_4 a0_5).bind fun bt269 => ((impl_HardestWater.f k bt269.1 bt269.2.1 bt269.2.2.1 bt269.2.2.2.1 bt269.2.2.2.2.1 bt269.2.2.2.2.2).bind fun bt278 => ((laws_eqWater.f k bt278.1 bt278.2.1 bt278.2.2.1 bt278.2.2.2.1 bt262.1 bt262.2.1 bt262.2.2.1 bt262.2.2.2.1).bind fun t285 => (if t285 = true then (if bt278.2.2.2.2.1 = bt262.2.2.2.2.1 then (laws_FnExactHardestWater.j0 k (bt278.2.2.2.2.2 != bt262.2.2.2.2.2) l0_0 a0_1 a0_2 a0_3 a0_4 a0_5 bt269.1 bt269.2.1 bt269.2.2.1 bt269.2.2.2.1 bt269.2.2.2.2.1 bt269.2.2.2.2.2) else (laws_FnExactHardestWater.j0 k true l0_0 a0_1 a0_2 a0_3 a0_4 a0_5 bt269.1 bt269.2.1 bt269.2.2.1 bt269.2.2.2.1 bt269.2.2.2.2.1 bt269.2.2.2.2.2)) else (laws_FnExactHardestWater.j0 k true l0_0 a0_1 a0_2 a0_3 a0_4 a0_5 bt269.1 bt269.2.1 bt269.2.2.1 bt269.2.2.2.1 bt269.2.2.2.2.1 bt269.2.2.2.2.2))))))))) = some r := h
 clear h
 replace H := Option.bind_eq_some_iff.mp H
 obtain ⟨t253, A20, H⟩ := H
 replace H : (if t253 < 0 then (some true) else ((laws_toPuzzle.f k l0_0 a0_1 a0_2 a0_3 a0_4 a0_5).bind fun bt254 => ((spec_HardestWater.f k bt254.1 bt254.2.1 bt254.2.2.1 bt254.2.2.2.1 bt254.2.2.2.2.1 bt254.2.2.2.2.2).bind fun bt262 => ((laws_toPuzzle.f k l0_0 a0_1 a0_2 a0_3 a0_4 a0_5).bind fun bt269 => ((impl_HardestWater.f k bt269.1 bt269.2.1 bt269.2.2.1 bt269.2.2.2.1 bt269.2.2.2.2.1 bt269.2.2.2.2.2).bind fun bt278 => ((laws_eqWater.f k bt278.1 bt278.2.1 bt278.2.2.1 bt278.2.2.2.1 bt262.1 bt262.2.1 bt262.2.2.1 bt262.2.2.2.1).bind fun t285 => (if t285 = true then (if bt278.2.2.2.2.1 = bt262.2.2.2.2.1 then (laws_FnExactHardestWater.j0 k (bt278.2.2.2.2.2 != bt262.2.2.2.2.2) l0_0 a0_1 a0_2 a0_3 a0_4 a0_5 bt269.1 bt269.2.1 bt269.2.2.1 bt269.2.2.2.1 bt269.2.2.2.2.1 bt269.2.2.2.2.2) else (laws_FnExactHardestWater.j0 k true l0_0 a0_1 a0_2 a0_3 a0_4 a0_5 bt269.1 bt269.2.1 bt269.2.2.1 bt269.2.2.2.1 bt269.2.2.2.2.1 bt269.2.2.2.2.2)) else (laws_FnExactHardestWater.j0 k true l0_0 a0_1 a0_2 a0_3 a0_4 a0_5 bt269.1 bt269.2.1 bt269.2.2.1 bt269.2.2.2.1 bt269.2.2.2.2.1 bt269.2.2.2.2.2)))))))) = some r := H
 have A2 := zh.mk A20
 clear A20
 by_cases c3 : t253 < 0
 ·rw [if_pos c3] at H
  have c3b0 : decide (t253 < 0) = true := decide_eq_true c3
  clear c3
  obtain rfl := Option.some.inj H
  go_enter Try.func5, Try.ntmps5
  go_wp2_with (first | ((with_reducible refine zda (N := 1) rfl ?_); refine zca ?hg (N := 1) ?hd (cs := #[.slice A0_0 l0_0.length c0_0, .int .i16 a0_1, .int .i16 a0_2, .int .i16 a0_3, .int .i16 a0_4, .bool a0_5]) (t := 53) ?hr ?_; (case hd => rfl); (case hg => rfl); (case hr => first | (go_simp; done) | (go_simp; rfl)); intro gb252 hg w4 hbox hb; have n0_ := zh.mk (zo (by repeat (first | (with_reducible first | exact HB.out | apply zk | apply zg | apply zj) | exact HB.out)) hb); have n1_ := zh.mk (hbox); have n2_ := zh.mk ((by rw [hg]; exact (zq (by repeat (first | (with_reducible first | exact HB.out | apply zk | apply zg | apply zj) | exact HB.out))) : w.heap.size ≤ gb252)); have n3_ := n2_; clear HB; have HB := n0_; have BK252 := n1_; have GW252 := n2_; have GE252 := n3_; clear n0_ n1_ n2_ n3_; clear hb hbox hg; have hcz5_0 : w4.cell? ⟨gb252, 0, none⟩ = some (.slice A0_0 l0_0.length c0_0) := (za BK252.out 0).trans rfl; have hcz5_1 : w4.cell? ⟨gb252, 1, none⟩ = some (.int .i16 a0_1) := (za BK252.out 1).trans rfl; have hcz5_2 : w4.cell? ⟨gb252, 2, none⟩ = some (.int .i16 a0_2) := (za BK252.out 2).trans rfl; have hcz5_3 : w4.cell? ⟨gb252, 3, none⟩ = some (.int .i16 a0_3) := (za BK252.out 3).trans rfl; have hcz5_4 : w4.cell? ⟨gb252, 4, none⟩ = some (.int .i16 a0_4) := (za BK252.out 4).trans rfl; have hcz5_5 : w4.cell? ⟨gb252, 5, none⟩ = some (.bool a0_5) := (za BK252.out 5).trans rfl; have hfz5_0 := ze BK252.out 0; have hfz5_1 := ze BK252.out 1; have hfz5_2 := ze BK252.out 2; have hfz5_3 := ze BK252.out 3; have hfz5_4 := ze BK252.out 4; have hfz5_5 := ze BK252.out 5) | ((with_reducible refine zba (f := 32) rfl ?_); refine zja (some 13) rfl rfl Try.func32 (by kernel_rfl) rfl #[.agg #[.slice A0_0 l0_0.length c0_0, .int .i16 a0_1, .int .i16 a0_2, .int .i16 a0_3, .int .i16 a0_4, .bool a0_5], .int .i64 1048576] rfl (by (try simp only [List.map_toArray, List.map_cons, List.map_nil]); first | done | rfl | (simp only [List.length_drop, List.length_take]; rfl)) ?_; (with_reducible refine (laws_szPuzzle.calls _ _ l0_0 a0_1 a0_2 a0_3 a0_4 a0_5 1048576 t253 _ ?side1 ?side2 A2.out).mono ?_); (case side1 => repeat (first | exact (Kd.C_below HR0_0.out HB.out) | (with_reducible refine Kd.C_alloc ?_ _) | (with_reducible refine Kd.C_drewN ?_ _) | (with_reducible refine Kd.C_drew ?_))); (case side2 => exact HC0_0.out); rintro e w6 ⟨rfl, hb⟩; refine ⟨_, rfl, ?_⟩; have n0_ := zh.mk (zm (by (with_reducible repeat (first | refine zc ?_ _ | refine zf ?_ | refine zb ?_ _)); exact BK252.out) hb); have n1_ := zh.mk (zo (by repeat (first | (with_reducible first | exact HB.out | apply zk | apply zg | apply zj | refine zi ?_ GE252.out) | exact HB.out)) hb); clear BK252; clear HB; have BK252 := n0_; have HB := n1_; clear n0_ n1_; (try clear hb); (try clear hb2); (try clear hk); (try clear hi)))
  go_ret
  exact ⟨by first | rfl | (simp [zy, zx] <;> rfl) | (simp [*, zy, zx] <;> rfl), by repeat (first | (with_reducible first | exact HB.out | apply zk | apply zg | apply zj | refine zi ?_ GE252.out) | exact HB.out)⟩
 rw [if_neg c3] at H
 have c3b0 : decide (t253 < 0) = false := decide_eq_false c3
 clear c3
 replace H := Option.bind_eq_some_iff.mp H
 obtain ⟨⟨t254, t257, t258, t259, t260, t261⟩, A70, H⟩ := H
 replace H : ((spec_HardestWater.f k t254 t257 t258 t259 t260 t261).bind fun bt262 => ((laws_toPuzzle.f k l0_0 a0_1 a0_2 a0_3 a0_4 a0_5).bind fun bt269 => ((impl_HardestWater.f k bt269.1 bt269.2.1 bt269.2.2.1 bt269.2.2.2.1 bt269.2.2.2.2.1 bt269.2.2.2.2.2).bind fun bt278 => ((laws_eqWater.f k bt278.1 bt278.2.1 bt278.2.2.1 bt278.2.2.2.1 bt262.1 bt262.2.1 bt262.2.2.1 bt262.2.2.2.1).bind fun t285 => (if t285 = true then (if bt278.2.2.2.2.1 = bt262.2.2.2.2.1 then (laws_FnExactHardestWater.j0 k (bt278.2.2.2.2.2 != bt262.2.2.2.2.2) l0_0 a0_1 a0_2 a0_3 a0_4 a0_5 bt269.1 bt269.2.1 bt269.2.2.1 bt269.2.2.2.1 bt269.2.2.2.2.1 bt269.2.2.2.2.2) else (laws_FnExactHardestWater.j0 k true l0_0 a0_1 a0_2 a0_3 a0_4 a0_5 bt269.1 bt269.2.1 bt269.2.2.1 bt269.2.2.2.1 bt269.2.2.2.2.1 bt269.2.2.2.2.2)) else (laws_FnExactHardestWater.j0 k true l0_0 a0_1 a0_2 a0_3 a0_4 a0_5 bt269.1 bt269.2.1 bt269.2.2.1 bt269.2.2.2.1 bt269.2.2.2.2.1 bt269.2.2.2.2.2)))))) = some r := H
 have A7 := zh.mk A70
 clear A70
 replace H := Option.bind_eq_some_iff.mp H
 obtain ⟨⟨t262, t263, t264, t265, t266, t267⟩, A80, H⟩ := H
 replace H : ((laws_toPuzzle.f k l0_0 a0_1 a0_2 a0_3 a0_4 a0_5).bind fun bt269 => ((impl_HardestWater.f k bt269.1 bt269.2.1 bt269.2.2.1 bt269.2.2.2.1 bt269.2.2.2.2.1 bt269.2.2.2.2.2).bind fun bt278 => ((laws_eqWater.f k bt278.1 bt278.2.1 bt278.2.2.1 bt278.2.2.2.1 t262 t263 t264 t265).bind fun t285 => (if t285 = true then (if bt278.2.2.2.2.1 = t266 then (laws_FnExactHardestWater.j0 k (bt278.2.2.2.2.2 != t267) l0_0 a0_1 a0_2 a0_3 a0_4 a0_5 bt269.1 bt269.2.1 bt269.2.2.1 bt269.2.2.2.1 bt269.2.2.2.2.1 bt269.2.2.2.2.2) else (laws_FnExactHardestWater.j0 k true l0_0 a0_1 a0_2 a0_3 a0_4 a0_5 bt269.1 bt269.2.1 bt269.2.2.1 bt269.2.2.2.1 bt269.2.2.2.2.1 bt269.2.2.2.2.2)) else (laws_FnExactHardestWater.j0 k true l0_0 a0_1 a0_2 a0_3 a0_4 a0_5 bt269.1 bt269.2.1 bt269.2.2.1 bt269.2.2.2.1 bt269.2.2.2.2.1 bt269.2.2.2.2.2))))) = some r := H
 have A8 := zh.mk A80
 clear A80
 replace H := Option.bind_eq_some_iff.mp H
 obtain ⟨⟨t269, t272, t273, t274, t275, t276⟩, A90, H⟩ := H
 replace H : ((impl_HardestWater.f k t269 t272 t273 t274 t275 t276).bind fun bt278 => ((laws_eqWater.f k bt278.1 bt278.2.1 bt278.2.2.1 bt278.2.2.2.1 t262 t263 t264 t265).bind fun t285 => (if t285 = true then (if bt278.2.2.2.2.1 = t266 then (laws_FnExactHardestWater.j0 k (bt278.2.2.2.2.2 != t267) l0_0 a0_1 a0_2 a0_3 a0_4 a0_5 t269 t272 t273 t274 t275 t276) else (laws_FnExactHardestWater.j0 k true l0_0 a0_1 a0_2 a0_3 a0_4 a0_5 t269 t272 t273 t274 t275 t276)) else (laws_FnExactHardestWater.j0 k true l0_0 a0_1 a0_2 a0_3 a0_4 a0_5 t269 t272 t273 t274 t275 t276)))) = some r := H
 have A9 := zh.mk A90
 clear A90
 replace H := Option.bind_eq_some_iff.mp H
 obtain ⟨⟨t278, t279, t280, t281, t282, t283⟩, A100, H⟩ := H
 replace H : ((laws_eqWater.f k t278 t279 t280 t281 t262 t263 t264 t265).bind fun t285 => (if t285 = true then (if t282 = t266 then (laws_FnExactHardestWater.j0 k (t283 != t267) l0_0 a0_1 a0_2 a0_3 a0_4 a0_5 t269 t272 t273 t274 t275 t276) else (laws_FnExactHardestWater.j0 k true l0_0 a0_1 a0_2 a0_3 a0_4 a0_5 t269 t272 t273 t274 t275 t276)) else (laws_FnExactHardestWater.j0 k true l0_0 a0_1 a0_2 a0_3 a0_4 a0_5 t269 t272 t273 t274 t275 t276))) = some r := H
 have A10 := zh.mk A100
 clear A100
 have HC11 := zh.mk H
 clear H
 go_enter Try.func5, Try.ntmps5
 go_upto_region 8 with (first | ((with_reducible refine zda (N := 1) rfl ?_); refine zca ?hg (N := 1) ?hd (cs := #[.slice A0_0 l0_0.length c0_0, .int .i16 a0_1, .int .i16 a0_2, .int .i16 a0_3, .int .i16 a0_4, .bool a0_5]) (t := 53) ?hr ?_; (case hd => rfl); (case hg => rfl); (case hr => first | (go_simp; done) | (go_simp; rfl)); intro gb252 hg w12 hbox hb; have n0_ := zh.mk (zo (by repeat (first | (with_reducible first | exact HB.out | apply zk | apply zg | apply zj) | exact HB.out)) hb); have n1_ := zh.mk (hbox); have n2_ := zh.mk ((by rw [hg]; exact (zq (by repeat (first | (with_reducible first | exact HB.out | apply zk | apply zg | apply zj) | exact HB.out))) : w.heap.size ≤ gb252)); have n3_ := n2_; clear HB; have HB := n0_; have BK252 := n1_; have GW252 := n2_; have GE252 := n3_; clear n0_ n1_ n2_ n3_; clear hb hbox hg; have hcz13_0 : w12.cell? ⟨gb252, 0, none⟩ = some (.slice A0_0 l0_0.length c0_0) := (za BK252.out 0).trans rfl; have hcz13_1 : w12.cell? ⟨gb252, 1, none⟩ = some (.int .i16 a0_1) := (za BK252.out 1).trans rfl; have hcz13_2 : w12.cell? ⟨gb252, 2, none⟩ = some (.int .i16 a0_2) := (za BK252.out 2).trans rfl; have hcz13_3 : w12.cell? ⟨gb252, 3, none⟩ = some (.int .i16 a0_3) := (za BK252.out 3).trans rfl; have hcz13_4 : w12.cell? ⟨gb252, 4, none⟩ = some (.int .i16 a0_4) := (za BK252.out 4).trans rfl; have hcz13_5 : w12.cell? ⟨gb252, 5, none⟩ = some (.bool a0_5) := (za BK252.out 5).trans rfl; have hfz13_0 := ze BK252.out 0; have hfz13_1 := ze BK252.out 1; have hfz13_2 := ze BK252.out 2; have hfz13_3 := ze BK252.out 3; have hfz13_4 := ze BK252.out 4; have hfz13_5 := ze BK252.out 5) | ((with_reducible refine zba (f := 32) rfl ?_); refine zja (some 13) rfl rfl Try.func32 (by kernel_rfl) rfl #[.agg #[.slice A0_0 l0_0.length c0_0, .int .i16 a0_1, .int .i16 a0_2, .int .i16 a0_3, .int .i16 a0_4, .bool a0_5], .int .i64 1048576] rfl (by (try simp only [List.map_toArray, List.map_cons, List.map_nil]); first | done | rfl | (simp only [List.length_drop, List.length_take]; rfl)) ?_; (with_reducible refine (laws_szPuzzle.calls _ _ l0_0 a0_1 a0_2 a0_3 a0_4 a0_5 1048576 t253 _ ?side1 ?side2 A2.out).mono ?_); (case side1 => repeat (first | exact (Kd.C_below HR0_0.out HB.out) | (with_reducible refine Kd.C_alloc ?_ _) | (with_reducible refine Kd.C_drewN ?_ _) | (with_reducible refine Kd.C_drew ?_))); (case side2 => exact HC0_0.out); rintro e w14 ⟨rfl, hb⟩; refine ⟨_, rfl, ?_⟩; have n0_ := zh.mk (zm (by (with_reducible repeat (first | refine zc ?_ _ | refine zf ?_ | refine zb ?_ _)); exact BK252.out) hb); have n1_ := zh.mk (zo (by repeat (first | (with_reducible first | exact HB.out | apply zk | apply zg | apply zj | refine zi ?_ GE252.out) | exact HB.out)) hb); clear BK252; clear HB; have BK252 := n0_; have HB := n1_; clear n0_ n1_; (try clear hb); (try clear hb2); (try clear hk); (try clear hi); have hcz15_0 : w14.cell? ⟨gb252, 0, none⟩ = some (.slice A0_0 l0_0.length c0_0) := (za BK252.out 0).trans rfl; have hcz15_1 : w14.cell? ⟨gb252, 1, none⟩ = some (.int .i16 a0_1) := (za BK252.out 1).trans rfl; have hcz15_2 : w14.cell? ⟨gb252, 2, none⟩ = some (.int .i16 a0_2) := (za BK252.out 2).trans rfl; have hcz15_3 : w14.cell? ⟨gb252, 3, none⟩ = some (.int .i16 a0_3) := (za BK252.out 3).trans rfl; have hcz15_4 : w14.cell? ⟨gb252, 4, none⟩ = some (.int .i16 a0_4) := (za BK252.out 4).trans rfl; have hcz15_5 : w14.cell? ⟨gb252, 5, none⟩ = some (.bool a0_5) := (za BK252.out 5).trans rfl; have hfz15_0 := ze BK252.out 0; have hfz15_1 := ze BK252.out 1; have hfz15_2 := ze BK252.out 2; have hfz15_3 := ze BK252.out 3; have hfz15_4 := ze BK252.out 4; have hfz15_5 := ze BK252.out 5) | ((with_reducible refine zba (f := 34) rfl ?_); refine zja (some 18) rfl rfl Try.func34 (by kernel_rfl) rfl #[.agg #[.slice A0_0 l0_0.length c0_0, .int .i16 a0_1, .int .i16 a0_2, .int .i16 a0_3, .int .i16 a0_4, .bool a0_5]] rfl (by (try simp only [List.map_toArray, List.map_cons, List.map_nil]); first | done | rfl | (simp only [List.length_drop, List.length_take]; rfl)) ?_; (with_reducible refine (laws_toPuzzle.calls k _ _ l0_0 a0_1 a0_2 a0_3 a0_4 a0_5 t254 t257 t258 t259 t260 t261 _ ?side1 ?side2 A7.out).mono ?_); (case side1 => repeat (first | exact (Kd.C_below HR0_0.out HB.out) | (with_reducible refine Kd.C_alloc ?_ _) | (with_reducible refine Kd.C_drewN ?_ _) | (with_reducible refine Kd.C_drew ?_))); (case side2 => exact HC0_0.out); rintro e w16 ⟨v255, rfl, ho0, hb⟩; refine ⟨_, rfl, ?_⟩; have n0_ := zh.mk (Kd.R_lower ho0 (zq (by repeat (first | (with_reducible first | exact HB.out | apply zk | apply zg | apply zj | refine zi ?_ GE252.out) | exact HB.out)))); have n1_ := zh.mk (zm (by (with_reducible repeat (first | refine zc ?_ _ | refine zf ?_ | refine zb ?_ _)); exact BK252.out) hb); have n2_ := zh.mk (zo (by repeat (first | (with_reducible first | exact HB.out | apply zk | apply zg | apply zj | refine zi ?_ GE252.out) | exact HB.out)) hb); clear BK252; clear HB; have HO256 := n0_; have BK252 := n1_; have HB := n2_; clear n0_ n1_ n2_; (try clear hb); (try clear hb2); (try clear hk); (try clear hi); (try clear ho0); obtain ⟨Ao17, co17, eo17⟩ := Kd.R_slice HO256.out; subst eo17) | ((with_reducible refine zba (f := 29) rfl ?_); refine zja (some 19) rfl rfl Try.func29 (by kernel_rfl) rfl #[.agg #[.slice Ao17 t254.length co17, .int .i16 t257, .int .i16 t258, .int .i16 t259, .int .i16 t260, .bool t261]] rfl (by (try simp only [List.map_toArray, List.map_cons, List.map_nil]); first | done | rfl | (simp only [List.length_drop, List.length_take]; rfl)) ?_; (with_reducible refine (spec_HardestWater.calls k _ _ t254 t257 t258 t259 t260 t261 t262 t263 t264 t265 t266 t267 _ ?side1 ?side2 A8.out).mono ?_); (case side1 => repeat (first | exact (Kd.R_reads' HO256.out).2.2 | (with_reducible refine Kd.C_alloc ?_ _) | (with_reducible refine Kd.C_drewN ?_ _) | (with_reducible refine Kd.C_drew ?_))); (case side2 => exact (Kd.R_reads' HO256.out).2.1); rintro e w18 ⟨rfl, hb⟩; refine ⟨_, rfl, ?_⟩; have n0_ := zh.mk (Kd.R_below (by (with_reducible repeat (first | apply Kd.R_alloc | apply Kd.R_drewN | apply Kd.R_drew)); exact HO256.out) hb); have n1_ := zh.mk (zm (by (with_reducible repeat (first | refine zc ?_ _ | refine zf ?_ | refine zb ?_ _)); exact BK252.out) hb); have n2_ := zh.mk (zo (by repeat (first | (with_reducible first | exact HB.out | apply zk | apply zg | apply zj | refine zi ?_ GE252.out) | exact HB.out)) hb); clear HO256; clear BK252; clear HB; have HO256 := n0_; have BK252 := n1_; have HB := n2_; clear n0_ n1_ n2_; (try clear hb); (try clear hb2); (try clear hk); (try clear hi)) | ((with_reducible refine zda (N := 4) rfl ?_); refine zca ?hg (N := 4) ?hd (cs := #[.int .i16 0, .int .i16 0, .int .i16 0, .int .i16 0]) (t := 27) ?hr ?_; (case hd => rfl); (case hg => rfl); (case hr => first | (go_simp; done) | (go_simp; rfl)); intro gb268 hg w19 hbox hb; have n0_ := zh.mk (Kd.R_below (by (with_reducible repeat (first | apply Kd.R_alloc | apply Kd.R_drewN | apply Kd.R_drew)); exact HO256.out) hb); have n1_ := zh.mk (zm (by (with_reducible repeat (first | refine zc ?_ _ | refine zf ?_ | refine zb ?_ _)); exact BK252.out) hb); have n2_ := zh.mk (zo (by repeat (first | (with_reducible first | exact HB.out | apply zk | apply zg | apply zj | refine zi ?_ GE252.out) | exact HB.out)) hb); have n3_ := zh.mk (hbox); have n4_ := zh.mk ((by rw [hg]; exact (zq (by repeat (first | (with_reducible first | exact HB.out | apply zk | apply zg | apply zj | refine zi ?_ GE252.out) | exact HB.out))) : w.heap.size ≤ gb268)); have n5_ := n4_; have n6_ := zh.mk ((by rw [hg]; exact Nat.ne_of_lt (zfa (by (with_reducible repeat (first | refine zc ?_ _ | refine zf ?_ | refine zb ?_ _)); exact BK252.out)) : gb252 ≠ gb268)); have n7_ := zh.mk n6_.out.symm; clear HO256; clear BK252; clear HB; have HO256 := n0_; have BK252 := n1_; have HB := n2_; have BK268 := n3_; have GW268 := n4_; have GE268 := n5_; have NB252_268 := n6_; have NB268_252 := n7_; clear n0_ n1_ n2_ n3_ n4_ n5_ n6_ n7_; clear hb hbox hg; have hnb20 := NB268_252.out; have hnc20 := NB252_268.out; have hcz21_0 : w19.cell? ⟨gb268, 0, none⟩ = some (.int .i16 0) := (za BK268.out 0).trans rfl; have hcz21_1 : w19.cell? ⟨gb268, 1, none⟩ = some (.int .i16 0) := (za BK268.out 1).trans rfl; have hcz21_2 : w19.cell? ⟨gb268, 2, none⟩ = some (.int .i16 0) := (za BK268.out 2).trans rfl; have hcz21_3 : w19.cell? ⟨gb268, 3, none⟩ = some (.int .i16 0) := (za BK268.out 3).trans rfl; have hfz21_0 := ze BK268.out 0; have hfz21_1 := ze BK268.out 1; have hfz21_2 := ze BK268.out 2; have hfz21_3 := ze BK268.out 3; have hcz22_0 : w19.cell? ⟨gb252, 0, none⟩ = some (.slice A0_0 l0_0.length c0_0) := (za BK252.out 0).trans rfl; have hcz22_1 : w19.cell? ⟨gb252, 1, none⟩ = some (.int .i16 a0_1) := (za BK252.out 1).trans rfl; have hcz22_2 : w19.cell? ⟨gb252, 2, none⟩ = some (.int .i16 a0_2) := (za BK252.out 2).trans rfl; have hcz22_3 : w19.cell? ⟨gb252, 3, none⟩ = some (.int .i16 a0_3) := (za BK252.out 3).trans rfl; have hcz22_4 : w19.cell? ⟨gb252, 4, none⟩ = some (.int .i16 a0_4) := (za BK252.out 4).trans rfl; have hcz22_5 : w19.cell? ⟨gb252, 5, none⟩ = some (.bool a0_5) := (za BK252.out 5).trans rfl; have hfz22_0 := ze BK252.out 0; have hfz22_1 := ze BK252.out 1; have hfz22_2 := ze BK252.out 2; have hfz22_3 := ze BK252.out 3; have hfz22_4 := ze BK252.out 4; have hfz22_5 := ze BK252.out 5) | ((with_reducible refine zba (f := 34) rfl ?_); refine zja (some 24) rfl rfl Try.func34 (by kernel_rfl) rfl #[.agg #[.slice A0_0 l0_0.length c0_0, .int .i16 a0_1, .int .i16 a0_2, .int .i16 a0_3, .int .i16 a0_4, .bool a0_5]] rfl (by (try simp only [List.map_toArray, List.map_cons, List.map_nil]); first | done | rfl | (simp only [List.length_drop, List.length_take]; rfl)) ?_; (with_reducible refine (laws_toPuzzle.calls k _ _ l0_0 a0_1 a0_2 a0_3 a0_4 a0_5 t269 t272 t273 t274 t275 t276 _ ?side1 ?side2 A9.out).mono ?_); (case side1 => exact Kd.C_below HR0_0.out (by repeat (first | (with_reducible first | exact HB.out | apply zk | apply zg | apply zj | refine zi ?_ GE252.out | refine zi ?_ GE268.out) | exact HB.out))); (case side2 => exact HC0_0.out); rintro e w23 ⟨v270, rfl, ho0, hb⟩; refine ⟨_, rfl, ?_⟩; have n0_ := zh.mk (Kd.R_elder' (by (with_reducible repeat (first | apply Kd.R_alloc | apply Kd.R_drewN | apply Kd.R_drew)); exact (Kd.R_mono (Kd.R_far (p := ⟨gb268, 3, none⟩) (Kd.R_far (p := ⟨gb268, 2, none⟩) (Kd.R_far (p := ⟨gb268, 1, none⟩) (Kd.R_far (p := ⟨gb268, 0, none⟩) (Kd.R_types HO256.out BK268.out (by decide)) (fun _ hk => hk.2) (.int .i16 t262)) (fun _ hk => hk.2) (.int .i16 t263)) (fun _ hk => hk.2) (.int .i16 t264)) (fun _ hk => hk.2) (.int .i16 t265)) (fun _ h_ => h_.1))) (Kd.R_base ho0) hb); have n1_ := zh.mk (Kd.R_lower (Kd.R_new' ho0 (Kd.R_lt (by (with_reducible repeat (first | apply Kd.R_alloc | apply Kd.R_drewN | apply Kd.R_drew)); exact (Kd.R_mono (Kd.R_far (p := ⟨gb268, 3, none⟩) (Kd.R_far (p := ⟨gb268, 2, none⟩) (Kd.R_far (p := ⟨gb268, 1, none⟩) (Kd.R_far (p := ⟨gb268, 0, none⟩) (Kd.R_types HO256.out BK268.out (by decide)) (fun _ hk => hk.2) (.int .i16 t262)) (fun _ hk => hk.2) (.int .i16 t263)) (fun _ hk => hk.2) (.int .i16 t264)) (fun _ hk => hk.2) (.int .i16 t265)) (fun _ h_ => h_.1))))) (zq (by repeat (first | (with_reducible first | exact HB.out | apply zk | apply zg | apply zj | refine zi ?_ GE252.out | refine zi ?_ GE268.out) | exact HB.out)))); have n2_ := zh.mk (zm (g := gb252) (o := .cells #[.slice A0_0 l0_0.length c0_0, .int .i16 a0_1, .int .i16 a0_2, .int .i16 a0_3, .int .i16 a0_4, .bool a0_5] 53 (0, 0)) (by (with_reducible repeat (first | refine zc ?_ _ | refine zf ?_ | refine zb ?_ _)); refine zn ?_ NB252_268.out _; (with_reducible repeat (first | refine zc ?_ _ | refine zf ?_ | refine zb ?_ _)); refine zn ?_ NB252_268.out _; (with_reducible repeat (first | refine zc ?_ _ | refine zf ?_ | refine zb ?_ _)); refine zn ?_ NB252_268.out _; (with_reducible repeat (first | refine zc ?_ _ | refine zf ?_ | refine zb ?_ _)); refine zn ?_ NB252_268.out _; (with_reducible repeat (first | refine zc ?_ _ | refine zf ?_ | refine zb ?_ _)); exact BK252.out) hb); have n3_ := zh.mk (zm (g := gb268) (o := .cells #[.int .i16 t262, .int .i16 t263, .int .i16 t264, .int .i16 t265] 27 (0, 0)) (by (with_reducible repeat (first | refine zc ?_ _ | refine zf ?_ | refine zb ?_ _)); refine zw (cs := #[.int .i16 t262, .int .i16 t263, .int .i16 t264, .int .i16 0]) ?_ 3 _ rfl; (with_reducible repeat (first | refine zc ?_ _ | refine zf ?_ | refine zb ?_ _)); refine zw (cs := #[.int .i16 t262, .int .i16 t263, .int .i16 0, .int .i16 0]) ?_ 2 _ rfl; (with_reducible repeat (first | refine zc ?_ _ | refine zf ?_ | refine zb ?_ _)); refine zw (cs := #[.int .i16 t262, .int .i16 0, .int .i16 0, .int .i16 0]) ?_ 1 _ rfl; (with_reducible repeat (first | refine zc ?_ _ | refine zf ?_ | refine zb ?_ _)); refine zw (cs := #[.int .i16 0, .int .i16 0, .int .i16 0, .int .i16 0]) ?_ 0 _ rfl; (with_reducible repeat (first | refine zc ?_ _ | refine zf ?_ | refine zb ?_ _)); exact BK268.out) hb); have n4_ := zh.mk (zo (by repeat (first | (with_reducible first | exact HB.out | apply zk | apply zg | apply zj | refine zi ?_ GE252.out | refine zi ?_ GE268.out) | exact HB.out)) hb); clear HO256; clear BK252; clear BK268; clear HB; have HO256 := n0_; have HO271 := n1_; have BK252 := n2_; have BK268 := n3_; have HB := n4_; clear n0_ n1_ n2_ n3_ n4_; (try clear hb); (try clear hb2); (try clear hk); (try clear hi); (try clear ho0)) | ((with_reducible refine zda (N := 7) rfl ?_); refine zca ?hg (N := 7) ?hd (cs := #[.slice none 0 0, .int .i16 0, .int .i16 0, .int .i16 0, .int .i16 0, .bool false]) (t := 29) ?hr ?_; (case hd => rfl); (case hg => rfl); (case hr => first | (go_simp; done) | (go_simp; rfl)); intro gb277 hg w24 hbox hb; have n0_ := zh.mk (Kd.R_below (by (with_reducible repeat (first | apply Kd.R_alloc | apply Kd.R_drewN | apply Kd.R_drew)); exact HO256.out) hb); have n1_ := zh.mk (Kd.R_below (by (with_reducible repeat (first | apply Kd.R_alloc | apply Kd.R_drewN | apply Kd.R_drew)); exact HO271.out) hb); have n2_ := zh.mk (zm (by (with_reducible repeat (first | refine zc ?_ _ | refine zf ?_ | refine zb ?_ _)); exact BK252.out) hb); have n3_ := zh.mk (zm (by (with_reducible repeat (first | refine zc ?_ _ | refine zf ?_ | refine zb ?_ _)); exact BK268.out) hb); have n4_ := zh.mk (zo (by repeat (first | (with_reducible first | exact HB.out | apply zk | apply zg | apply zj | refine zi ?_ GE252.out | refine zi ?_ GE268.out) | exact HB.out)) hb); have n5_ := zh.mk (hbox); have n6_ := zh.mk ((by rw [hg]; exact (zq (by repeat (first | (with_reducible first | exact HB.out | apply zk | apply zg | apply zj | refine zi ?_ GE252.out | refine zi ?_ GE268.out) | exact HB.out))) : w.heap.size ≤ gb277)); have n7_ := n6_; have n8_ := zh.mk ((by rw [hg]; exact Nat.ne_of_lt (zfa (by (with_reducible repeat (first | refine zc ?_ _ | refine zf ?_ | refine zb ?_ _)); exact BK252.out)) : gb252 ≠ gb277)); have n9_ := zh.mk n8_.out.symm; have n10_ := zh.mk ((by rw [hg]; exact Nat.ne_of_lt (zfa (by (with_reducible repeat (first | refine zc ?_ _ | refine zf ?_ | refine zb ?_ _)); exact BK268.out)) : gb268 ≠ gb277)); have n11_ := zh.mk n10_.out.symm; clear HO256; clear HO271; clear BK252; clear BK268; clear HB; have HO256 := n0_; have HO271 := n1_; have BK252 := n2_; have BK268 := n3_; have HB := n4_; have BK277 := n5_; have GW277 := n6_; have GE277 := n7_; have NB252_277 := n8_; have NB277_252 := n9_; have NB268_277 := n10_; have NB277_268 := n11_; clear n0_ n1_ n2_ n3_ n4_ n5_ n6_ n7_ n8_ n9_ n10_ n11_; clear hb hbox hg; obtain ⟨Ao25, co25, eo25⟩ := Kd.R_slice HO271.out; subst eo25; have hnb26 := NB277_252.out; have hnc26 := NB252_277.out; have hnb27 := NB277_268.out; have hnc27 := NB268_277.out; have hcz28_0 : w24.cell? ⟨gb277, 0, none⟩ = some (.slice none 0 0) := (za BK277.out 0).trans rfl; have hcz28_1 : w24.cell? ⟨gb277, 1, none⟩ = some (.int .i16 0) := (za BK277.out 1).trans rfl; have hcz28_2 : w24.cell? ⟨gb277, 2, none⟩ = some (.int .i16 0) := (za BK277.out 2).trans rfl; have hcz28_3 : w24.cell? ⟨gb277, 3, none⟩ = some (.int .i16 0) := (za BK277.out 3).trans rfl; have hcz28_4 : w24.cell? ⟨gb277, 4, none⟩ = some (.int .i16 0) := (za BK277.out 4).trans rfl; have hcz28_5 : w24.cell? ⟨gb277, 5, none⟩ = some (.bool false) := (za BK277.out 5).trans rfl; have hfz28_0 := ze BK277.out 0; have hfz28_1 := ze BK277.out 1; have hfz28_2 := ze BK277.out 2; have hfz28_3 := ze BK277.out 3; have hfz28_4 := ze BK277.out 4; have hfz28_5 := ze BK277.out 5) | ((with_reducible refine zba (f := 28) rfl ?_); refine zja (some 27) rfl rfl Try.func28 (by kernel_rfl) rfl #[.agg #[.slice Ao25 t269.length co25, .int .i16 t272, .int .i16 t273, .int .i16 t274, .int .i16 t275, .bool t276]] rfl (by (try simp only [List.map_toArray, List.map_cons, List.map_nil]); first | done | rfl | (simp only [List.length_drop, List.length_take]; rfl)) ?_; (with_reducible refine (impl_HardestWater.calls k _ _ t269 t272 t273 t274 t275 t276 t278 t279 t280 t281 t282 t283 _ ?side1 ?side2 A10.out).mono ?_); (case side1 => refine (Kd.R_reads' (e := 25) (base := w.heap.size) (ok := fun k_ => (True ∧ some k_ ≠ (.slice Ao17 t254.length co17 : Value).ownBlock)) (n := t269.length) (c := co25) ?_).2.2; exact (by (with_reducible repeat (first | apply Kd.R_alloc | apply Kd.R_drewN | apply Kd.R_drew)); exact (Kd.R_mono (Kd.R_far (p := ⟨gb277, 5, none⟩) (Kd.R_far (p := ⟨gb277, 4, none⟩) (Kd.R_far (p := ⟨gb277, 3, none⟩) (Kd.R_far (p := ⟨gb277, 2, none⟩) (Kd.R_far (p := ⟨gb277, 1, none⟩) (Kd.R_far (p := ⟨gb277, 0, none⟩) (Kd.R_types HO271.out BK277.out (by decide)) (fun _ hk => hk.2) (.slice Ao25 t269.length co25)) (fun _ hk => hk.2) (.int .i16 t272)) (fun _ hk => hk.2) (.int .i16 t273)) (fun _ hk => hk.2) (.int .i16 t274)) (fun _ hk => hk.2) (.int .i16 t275)) (fun _ hk => hk.2) (.bool t276)) (fun _ h_ => h_.1)))); (case side2 => exact (Kd.R_reads' HO271.out).2.1); rintro e w29 ⟨rfl, hb⟩; refine ⟨_, rfl, ?_⟩; have n0_ := zh.mk (Kd.R_below (by (with_reducible repeat (first | apply Kd.R_alloc | apply Kd.R_drewN | apply Kd.R_drew)); exact (Kd.R_mono (Kd.R_far (p := ⟨gb277, 5, none⟩) (Kd.R_far (p := ⟨gb277, 4, none⟩) (Kd.R_far (p := ⟨gb277, 3, none⟩) (Kd.R_far (p := ⟨gb277, 2, none⟩) (Kd.R_far (p := ⟨gb277, 1, none⟩) (Kd.R_far (p := ⟨gb277, 0, none⟩) (Kd.R_types HO256.out BK277.out (by decide)) (fun _ hk => hk.2) (.slice Ao25 t269.length co25)) (fun _ hk => hk.2) (.int .i16 t272)) (fun _ hk => hk.2) (.int .i16 t273)) (fun _ hk => hk.2) (.int .i16 t274)) (fun _ hk => hk.2) (.int .i16 t275)) (fun _ hk => hk.2) (.bool t276)) (fun _ h_ => h_.1))) hb); have n1_ := zh.mk (Kd.R_below (by (with_reducible repeat (first | apply Kd.R_alloc | apply Kd.R_drewN | apply Kd.R_drew)); exact (Kd.R_mono (Kd.R_far (p := ⟨gb277, 5, none⟩) (Kd.R_far (p := ⟨gb277, 4, none⟩) (Kd.R_far (p := ⟨gb277, 3, none⟩) (Kd.R_far (p := ⟨gb277, 2, none⟩) (Kd.R_far (p := ⟨gb277, 1, none⟩) (Kd.R_far (p := ⟨gb277, 0, none⟩) (Kd.R_types HO271.out BK277.out (by decide)) (fun _ hk => hk.2) (.slice Ao25 t269.length co25)) (fun _ hk => hk.2) (.int .i16 t272)) (fun _ hk => hk.2) (.int .i16 t273)) (fun _ hk => hk.2) (.int .i16 t274)) (fun _ hk => hk.2) (.int .i16 t275)) (fun _ hk => hk.2) (.bool t276)) (fun _ h_ => h_.1))) hb); have n2_ := zh.mk (zm (g := gb252) (o := .cells #[.slice A0_0 l0_0.length c0_0, .int .i16 a0_1, .int .i16 a0_2, .int .i16 a0_3, .int .i16 a0_4, .bool a0_5] 53 (0, 0)) (by (with_reducible repeat (first | refine zc ?_ _ | refine zf ?_ | refine zb ?_ _)); refine zn ?_ NB252_277.out _; (with_reducible repeat (first | refine zc ?_ _ | refine zf ?_ | refine zb ?_ _)); refine zn ?_ NB252_277.out _; (with_reducible repeat (first | refine zc ?_ _ | refine zf ?_ | refine zb ?_ _)); refine zn ?_ NB252_277.out _; (with_reducible repeat (first | refine zc ?_ _ | refine zf ?_ | refine zb ?_ _)); refine zn ?_ NB252_277.out _; (with_reducible repeat (first | refine zc ?_ _ | refine zf ?_ | refine zb ?_ _)); refine zn ?_ NB252_277.out _; (with_reducible repeat (first | refine zc ?_ _ | refine zf ?_ | refine zb ?_ _)); refine zn ?_ NB252_277.out _; (with_reducible repeat (first | refine zc ?_ _ | refine zf ?_ | refine zb ?_ _)); exact BK252.out) hb); have n3_ := zh.mk (zm (g := gb268) (o := .cells #[.int .i16 t262, .int .i16 t263, .int .i16 t264, .int .i16 t265] 27 (0, 0)) (by (with_reducible repeat (first | refine zc ?_ _ | refine zf ?_ | refine zb ?_ _)); refine zn ?_ NB268_277.out _; (with_reducible repeat (first | refine zc ?_ _ | refine zf ?_ | refine zb ?_ _)); refine zn ?_ NB268_277.out _; (with_reducible repeat (first | refine zc ?_ _ | refine zf ?_ | refine zb ?_ _)); refine zn ?_ NB268_277.out _; (with_reducible repeat (first | refine zc ?_ _ | refine zf ?_ | refine zb ?_ _)); refine zn ?_ NB268_277.out _; (with_reducible repeat (first | refine zc ?_ _ | refine zf ?_ | refine zb ?_ _)); refine zn ?_ NB268_277.out _; (with_reducible repeat (first | refine zc ?_ _ | refine zf ?_ | refine zb ?_ _)); refine zn ?_ NB268_277.out _; (with_reducible repeat (first | refine zc ?_ _ | refine zf ?_ | refine zb ?_ _)); exact BK268.out) hb); have n4_ := zh.mk (zm (g := gb277) (o := .cells #[.slice Ao25 t269.length co25, .int .i16 t272, .int .i16 t273, .int .i16 t274, .int .i16 t275, .bool t276] 29 (0, 0)) (by (with_reducible repeat (first | refine zc ?_ _ | refine zf ?_ | refine zb ?_ _)); refine zw (cs := #[.slice Ao25 t269.length co25, .int .i16 t272, .int .i16 t273, .int .i16 t274, .int .i16 t275, .bool false]) ?_ 5 _ rfl; (with_reducible repeat (first | refine zc ?_ _ | refine zf ?_ | refine zb ?_ _)); refine zw (cs := #[.slice Ao25 t269.length co25, .int .i16 t272, .int .i16 t273, .int .i16 t274, .int .i16 0, .bool false]) ?_ 4 _ rfl; (with_reducible repeat (first | refine zc ?_ _ | refine zf ?_ | refine zb ?_ _)); refine zw (cs := #[.slice Ao25 t269.length co25, .int .i16 t272, .int .i16 t273, .int .i16 0, .int .i16 0, .bool false]) ?_ 3 _ rfl; (with_reducible repeat (first | refine zc ?_ _ | refine zf ?_ | refine zb ?_ _)); refine zw (cs := #[.slice Ao25 t269.length co25, .int .i16 t272, .int .i16 0, .int .i16 0, .int .i16 0, .bool false]) ?_ 2 _ rfl; (with_reducible repeat (first | refine zc ?_ _ | refine zf ?_ | refine zb ?_ _)); refine zw (cs := #[.slice Ao25 t269.length co25, .int .i16 0, .int .i16 0, .int .i16 0, .int .i16 0, .bool false]) ?_ 1 _ rfl; (with_reducible repeat (first | refine zc ?_ _ | refine zf ?_ | refine zb ?_ _)); refine zw (cs := #[.slice none 0 0, .int .i16 0, .int .i16 0, .int .i16 0, .int .i16 0, .bool false]) ?_ 0 _ rfl; (with_reducible repeat (first | refine zc ?_ _ | refine zf ?_ | refine zb ?_ _)); exact BK277.out) hb); have n5_ := zh.mk (zo (by repeat (first | (with_reducible first | exact HB.out | apply zk | apply zg | apply zj | refine zi ?_ GE252.out | refine zi ?_ GE268.out | refine zi ?_ GE277.out) | exact HB.out)) hb); clear HO256; clear HO271; clear BK252; clear BK268; clear BK277; clear HB; have HO256 := n0_; have HO271 := n1_; have BK252 := n2_; have BK268 := n3_; have BK277 := n4_; have HB := n5_; clear n0_ n1_ n2_ n3_ n4_ n5_; (try clear hb); (try clear hb2); (try clear hk); (try clear hi)) | ((with_reducible refine zda (N := 8) rfl ?_); refine zca ?hg (N := 8) ?hd (cs := #[.int .i16 0, .int .i16 0, .int .i16 0, .int .i16 0]) (t := 27) ?hr ?_; (case hd => rfl); (case hg => rfl); (case hr => first | (go_simp; done) | (go_simp; rfl)); intro gb284 hg w30 hbox hb; have n0_ := zh.mk (Kd.R_below (by (with_reducible repeat (first | apply Kd.R_alloc | apply Kd.R_drewN | apply Kd.R_drew)); exact HO256.out) hb); have n1_ := zh.mk (Kd.R_below (by (with_reducible repeat (first | apply Kd.R_alloc | apply Kd.R_drewN | apply Kd.R_drew)); exact HO271.out) hb); have n2_ := zh.mk (zm (by (with_reducible repeat (first | refine zc ?_ _ | refine zf ?_ | refine zb ?_ _)); exact BK252.out) hb); have n3_ := zh.mk (zm (by (with_reducible repeat (first | refine zc ?_ _ | refine zf ?_ | refine zb ?_ _)); exact BK268.out) hb); have n4_ := zh.mk (zm (by (with_reducible repeat (first | refine zc ?_ _ | refine zf ?_ | refine zb ?_ _)); exact BK277.out) hb); have n5_ := zh.mk (zo (by repeat (first | (with_reducible first | exact HB.out | apply zk | apply zg | apply zj | refine zi ?_ GE252.out | refine zi ?_ GE268.out | refine zi ?_ GE277.out) | exact HB.out)) hb); have n6_ := zh.mk (hbox); have n7_ := zh.mk ((by rw [hg]; exact (zq (by repeat (first | (with_reducible first | exact HB.out | apply zk | apply zg | apply zj | refine zi ?_ GE252.out | refine zi ?_ GE268.out | refine zi ?_ GE277.out) | exact HB.out))) : w.heap.size ≤ gb284)); have n8_ := n7_; have n9_ := zh.mk ((by rw [hg]; exact Nat.ne_of_lt (zfa (by (with_reducible repeat (first | refine zc ?_ _ | refine zf ?_ | refine zb ?_ _)); exact BK252.out)) : gb252 ≠ gb284)); have n10_ := zh.mk n9_.out.symm; have n11_ := zh.mk ((by rw [hg]; exact Nat.ne_of_lt (zfa (by (with_reducible repeat (first | refine zc ?_ _ | refine zf ?_ | refine zb ?_ _)); exact BK268.out)) : gb268 ≠ gb284)); have n12_ := zh.mk n11_.out.symm; have n13_ := zh.mk ((by rw [hg]; exact Nat.ne_of_lt (zfa (by (with_reducible repeat (first | refine zc ?_ _ | refine zf ?_ | refine zb ?_ _)); exact BK277.out)) : gb277 ≠ gb284)); have n14_ := zh.mk n13_.out.symm; clear HO256; clear HO271; clear BK252; clear BK268; clear BK277; clear HB; have HO256 := n0_; have HO271 := n1_; have BK252 := n2_; have BK268 := n3_; have BK277 := n4_; have HB := n5_; have BK284 := n6_; have GW284 := n7_; have GE284 := n8_; have NB252_284 := n9_; have NB284_252 := n10_; have NB268_284 := n11_; have NB284_268 := n12_; have NB277_284 := n13_; have NB284_277 := n14_; clear n0_ n1_ n2_ n3_ n4_ n5_ n6_ n7_ n8_ n9_ n10_ n11_ n12_ n13_ n14_; clear hb hbox hg; have hnb31 := NB284_252.out; have hnc31 := NB252_284.out; have hnb32 := NB284_268.out; have hnc32 := NB268_284.out; have hnb33 := NB284_277.out; have hnc33 := NB277_284.out; have hcz34_0 : w30.cell? ⟨gb284, 0, none⟩ = some (.int .i16 0) := (za BK284.out 0).trans rfl; have hcz34_1 : w30.cell? ⟨gb284, 1, none⟩ = some (.int .i16 0) := (za BK284.out 1).trans rfl; have hcz34_2 : w30.cell? ⟨gb284, 2, none⟩ = some (.int .i16 0) := (za BK284.out 2).trans rfl; have hcz34_3 : w30.cell? ⟨gb284, 3, none⟩ = some (.int .i16 0) := (za BK284.out 3).trans rfl; have hfz34_0 := ze BK284.out 0; have hfz34_1 := ze BK284.out 1; have hfz34_2 := ze BK284.out 2; have hfz34_3 := ze BK284.out 3))
 (try simp only [Act.put, List.setIfInBounds_toArray, List.set_cons_zero, List.set_cons_succ])
 go_cut [44] (fun v44 wc => ∃ (kq : Nat) (x44_10 : Bool), v44 = .bool x44_10 ∧ zh (laws_FnExactHardestWater.j0 kq x44_10 l0_0 a0_1 a0_2 a0_3 a0_4 a0_5 t269 t272 t273 t274 t275 t276 = some r) ∧ zh (kq ≤ k) ∧ zh (Kd.R (Kd.int .i16) 25 wc w.heap.size (fun _ => True) (.slice Ao25 t269.length co25) t269) ∧ zh (wc.heap[gb252]? = some (.cells #[(.slice A0_0 l0_0.length c0_0), .int .i16 a0_1, .int .i16 a0_2, .int .i16 a0_3, .int .i16 a0_4, .bool a0_5] 53 (0, 0))) ∧ zh (wc.heap[gb268]? = some (.cells #[.int .i16 t262, .int .i16 t263, .int .i16 t264, .int .i16 t265] 27 (0, 0))) ∧ zh (wc.heap[gb277]? = some (.cells #[(.slice Ao25 t269.length co25), .int .i16 t272, .int .i16 t273, .int .i16 t274, .int .i16 t275, .bool t276] 29 (0, 0))) ∧ zh (wc.heap[gb284]? = some (.cells #[.int .i16 t278, .int .i16 t279, .int .i16 t280, .int .i16 t281] 27 (0, 0))) ∧ zh (Below w.heap.size w wc))
 case first =>
  have H := HC11.out
  clear HC11
  replace H := Option.bind_eq_some_iff.mp H
  obtain ⟨t285, A350, H⟩ := H
  replace H : (if t285 = true then (if t282 = t266 then (laws_FnExactHardestWater.j0 k (t283 != t267) l0_0 a0_1 a0_2 a0_3 a0_4 a0_5 t269 t272 t273 t274 t275 t276) else (laws_FnExactHardestWater.j0 k true l0_0 a0_1 a0_2 a0_3 a0_4 a0_5 t269 t272 t273 t274 t275 t276)) else (laws_FnExactHardestWater.j0 k true l0_0 a0_1 a0_2 a0_3 a0_4 a0_5 t269 t272 t273 t274 t275 t276)) = some r := H
  have A35 := zh.mk A350
  clear A350
  by_cases c36 : t285 = true
  ·subst c36
   have H1 : (if t282 = t266 then (laws_FnExactHardestWater.j0 k (t283 != t267) l0_0 a0_1 a0_2 a0_3 a0_4 a0_5 t269 t272 t273 t274 t275 t276) else (laws_FnExactHardestWater.j0 k true l0_0 a0_1 a0_2 a0_3 a0_4 a0_5 t269 t272 t273 t274 t275 t276)) = some r := by rw [if_pos rfl] at H; exact H
   clear H
   have H := H1
   clear H1
   by_cases c37 : t282 = t266
   ·rw [if_pos c37] at H
    have c37b0 : (t282 == t266) = true := beq_iff_eq.mpr c37
    have c37b1 : (t282 != t266) = false := bne_eq_false_iff_eq.mpr c37
    clear c37
    (first | rw [c37b0] | (simp only [zu, zz]; rw [c37b0]) | skip)
    have H' := zh.mk H
    clear H
    have hnb38 := NB284_252.out
    have hnc38 := NB252_284.out
    have hnb39 := NB284_268.out
    have hnc39 := NB268_284.out
    have hnb40 := NB284_277.out
    have hnc40 := NB277_284.out
    have hcz41_0 : w30.cell? ⟨gb284, 0, none⟩ = some (.int .i16 0) := (za BK284.out 0).trans rfl
    have hcz41_1 : w30.cell? ⟨gb284, 1, none⟩ = some (.int .i16 0) := (za BK284.out 1).trans rfl
    have hcz41_2 : w30.cell? ⟨gb284, 2, none⟩ = some (.int .i16 0) := (za BK284.out 2).trans rfl
    have hcz41_3 : w30.cell? ⟨gb284, 3, none⟩ = some (.int .i16 0) := (za BK284.out 3).trans rfl
    have hfz41_0 := ze BK284.out 0
    have hfz41_1 := ze BK284.out 1
    have hfz41_2 := ze BK284.out 2
    have hfz41_3 := ze BK284.out 3
    have hnb42 := NB268_252.out
    have hnc42 := NB252_268.out
    have hnb43 := NB268_277.out
    have hnc43 := NB277_268.out
    have hcz44_0 : w30.cell? ⟨gb268, 0, none⟩ = some (.int .i16 t262) := (za BK268.out 0).trans rfl
    have hcz44_1 : w30.cell? ⟨gb268, 1, none⟩ = some (.int .i16 t263) := (za BK268.out 1).trans rfl
    have hcz44_2 : w30.cell? ⟨gb268, 2, none⟩ = some (.int .i16 t264) := (za BK268.out 2).trans rfl
    have hcz44_3 : w30.cell? ⟨gb268, 3, none⟩ = some (.int .i16 t265) := (za BK268.out 3).trans rfl
    have hfz44_0 := ze BK268.out 0
    have hfz44_1 := ze BK268.out 1
    have hfz44_2 := ze BK268.out 2
    have hfz44_3 := ze BK268.out 3
    go_wp2_with (first | ((with_reducible refine zba (f := 36) rfl ?_); refine zja (some 33) rfl rfl Try.func36 (by kernel_rfl) rfl #[.agg #[.int .i16 t278, .int .i16 t279, .int .i16 t280, .int .i16 t281], .agg #[.int .i16 t262, .int .i16 t263, .int .i16 t264, .int .i16 t265]] rfl (by (try simp only [List.map_toArray, List.map_cons, List.map_nil]); first | done | rfl | (simp only [List.length_drop, List.length_take]; rfl)) ?_; (with_reducible refine (laws_eqWater.calls k t278 t279 t280 t281 t262 t263 t264 t265 true _ A35.out).mono ?_); rintro e w45 ⟨rfl, hb⟩; refine ⟨_, rfl, ?_⟩; have n0_ := zh.mk (Kd.R_below (by (with_reducible repeat (first | apply Kd.R_alloc | apply Kd.R_drewN | apply Kd.R_drew)); exact (Kd.R_mono (Kd.R_far (p := ⟨gb284, 3, none⟩) (Kd.R_far (p := ⟨gb284, 2, none⟩) (Kd.R_far (p := ⟨gb284, 1, none⟩) (Kd.R_far (p := ⟨gb284, 0, none⟩) (Kd.R_types HO256.out BK284.out (by decide)) (fun _ hk => hk.2) (.int .i16 t278)) (fun _ hk => hk.2) (.int .i16 t279)) (fun _ hk => hk.2) (.int .i16 t280)) (fun _ hk => hk.2) (.int .i16 t281)) (fun _ h_ => h_.1))) hb); have n1_ := zh.mk (Kd.R_below (by (with_reducible repeat (first | apply Kd.R_alloc | apply Kd.R_drewN | apply Kd.R_drew)); exact (Kd.R_mono (Kd.R_far (p := ⟨gb284, 3, none⟩) (Kd.R_far (p := ⟨gb284, 2, none⟩) (Kd.R_far (p := ⟨gb284, 1, none⟩) (Kd.R_far (p := ⟨gb284, 0, none⟩) (Kd.R_types HO271.out BK284.out (by decide)) (fun _ hk => hk.2) (.int .i16 t278)) (fun _ hk => hk.2) (.int .i16 t279)) (fun _ hk => hk.2) (.int .i16 t280)) (fun _ hk => hk.2) (.int .i16 t281)) (fun _ h_ => h_.1))) hb); have n2_ := zh.mk (zm (g := gb252) (o := .cells #[.slice A0_0 l0_0.length c0_0, .int .i16 a0_1, .int .i16 a0_2, .int .i16 a0_3, .int .i16 a0_4, .bool a0_5] 53 (0, 0)) (by (with_reducible repeat (first | refine zc ?_ _ | refine zf ?_ | refine zb ?_ _)); refine zn ?_ NB252_284.out _; (with_reducible repeat (first | refine zc ?_ _ | refine zf ?_ | refine zb ?_ _)); refine zn ?_ NB252_284.out _; (with_reducible repeat (first | refine zc ?_ _ | refine zf ?_ | refine zb ?_ _)); refine zn ?_ NB252_284.out _; (with_reducible repeat (first | refine zc ?_ _ | refine zf ?_ | refine zb ?_ _)); refine zn ?_ NB252_284.out _; (with_reducible repeat (first | refine zc ?_ _ | refine zf ?_ | refine zb ?_ _)); exact BK252.out) hb); have n3_ := zh.mk (zm (g := gb268) (o := .cells #[.int .i16 t262, .int .i16 t263, .int .i16 t264, .int .i16 t265] 27 (0, 0)) (by (with_reducible repeat (first | refine zc ?_ _ | refine zf ?_ | refine zb ?_ _)); refine zn ?_ NB268_284.out _; (with_reducible repeat (first | refine zc ?_ _ | refine zf ?_ | refine zb ?_ _)); refine zn ?_ NB268_284.out _; (with_reducible repeat (first | refine zc ?_ _ | refine zf ?_ | refine zb ?_ _)); refine zn ?_ NB268_284.out _; (with_reducible repeat (first | refine zc ?_ _ | refine zf ?_ | refine zb ?_ _)); refine zn ?_ NB268_284.out _; (with_reducible repeat (first | refine zc ?_ _ | refine zf ?_ | refine zb ?_ _)); exact BK268.out) hb); have n4_ := zh.mk (zm (g := gb277) (o := .cells #[.slice Ao25 t269.length co25, .int .i16 t272, .int .i16 t273, .int .i16 t274, .int .i16 t275, .bool t276] 29 (0, 0)) (by (with_reducible repeat (first | refine zc ?_ _ | refine zf ?_ | refine zb ?_ _)); refine zn ?_ NB277_284.out _; (with_reducible repeat (first | refine zc ?_ _ | refine zf ?_ | refine zb ?_ _)); refine zn ?_ NB277_284.out _; (with_reducible repeat (first | refine zc ?_ _ | refine zf ?_ | refine zb ?_ _)); refine zn ?_ NB277_284.out _; (with_reducible repeat (first | refine zc ?_ _ | refine zf ?_ | refine zb ?_ _)); refine zn ?_ NB277_284.out _; (with_reducible repeat (first | refine zc ?_ _ | refine zf ?_ | refine zb ?_ _)); exact BK277.out) hb); have n5_ := zh.mk (zm (g := gb284) (o := .cells #[.int .i16 t278, .int .i16 t279, .int .i16 t280, .int .i16 t281] 27 (0, 0)) (by (with_reducible repeat (first | refine zc ?_ _ | refine zf ?_ | refine zb ?_ _)); refine zw (cs := #[.int .i16 t278, .int .i16 t279, .int .i16 t280, .int .i16 0]) ?_ 3 _ rfl; (with_reducible repeat (first | refine zc ?_ _ | refine zf ?_ | refine zb ?_ _)); refine zw (cs := #[.int .i16 t278, .int .i16 t279, .int .i16 0, .int .i16 0]) ?_ 2 _ rfl; (with_reducible repeat (first | refine zc ?_ _ | refine zf ?_ | refine zb ?_ _)); refine zw (cs := #[.int .i16 t278, .int .i16 0, .int .i16 0, .int .i16 0]) ?_ 1 _ rfl; (with_reducible repeat (first | refine zc ?_ _ | refine zf ?_ | refine zb ?_ _)); refine zw (cs := #[.int .i16 0, .int .i16 0, .int .i16 0, .int .i16 0]) ?_ 0 _ rfl; (with_reducible repeat (first | refine zc ?_ _ | refine zf ?_ | refine zb ?_ _)); exact BK284.out) hb); have n6_ := zh.mk (zo (by repeat (first | (with_reducible first | exact HB.out | apply zk | apply zg | apply zj | refine zi ?_ GE252.out | refine zi ?_ GE268.out | refine zi ?_ GE277.out | refine zi ?_ GE284.out) | exact HB.out)) hb); clear HO256; clear HO271; clear BK252; clear BK268; clear BK277; clear BK284; clear HB; have HO256 := n0_; have HO271 := n1_; have BK252 := n2_; have BK268 := n3_; have BK277 := n4_; have BK284 := n5_; have HB := n6_; clear n0_ n1_ n2_ n3_ n4_ n5_ n6_; (try clear hb); (try clear hb2); (try clear hk); (try clear hi)))
    go_meet
    case rel => exact ⟨_, ((t283 != t267)), (by first | rfl | (simp; done) | (simp [*]; done)), H', ⟨by first | omega | exact Nat.le_refl _⟩, ⟨by (with_reducible repeat (first | apply Kd.R_alloc | apply Kd.R_drewN | apply Kd.R_drew)); exact Kd.R_mono HO271.out (fun _ hk => trivial)⟩, ⟨by (with_reducible repeat (first | refine zc ?_ _ | refine zf ?_ | refine zb ?_ _)); exact BK252.out⟩, ⟨by (with_reducible repeat (first | refine zc ?_ _ | refine zf ?_ | refine zb ?_ _)); exact BK268.out⟩, ⟨by (with_reducible repeat (first | refine zc ?_ _ | refine zf ?_ | refine zb ?_ _)); exact BK277.out⟩, ⟨by (with_reducible repeat (first | refine zc ?_ _ | refine zf ?_ | refine zb ?_ _)); exact BK284.out⟩, ⟨by repeat (first | (with_reducible first | exact HB.out | apply zk | apply zg | apply zj | refine zi ?_ GE252.out | refine zi ?_ GE268.out | refine zi ?_ GE277.out | refine zi ?_ GE284.out) | exact HB.out)⟩⟩
   rw [if_neg c37] at H
   have c37b0 : (t282 == t266) = false := beq_eq_false_iff_ne.mpr c37
   have c37b1 : (t282 != t266) = true := bne_iff_ne.mpr c37
   (first | rw [c37b0] | (simp only [zu, zz]; rw [c37b0]) | skip)
   have H' := zh.mk H
   clear H
   have hnb46 := NB284_252.out
   have hnc46 := NB252_284.out
   have hnb47 := NB284_268.out
   have hnc47 := NB268_284.out
   have hnb48 := NB284_277.out
   have hnc48 := NB277_284.out
   have hcz49_0 : w30.cell? ⟨gb284, 0, none⟩ = some (.int .i16 0) := (za BK284.out 0).trans rfl
   have hcz49_1 : w30.cell? ⟨gb284, 1, none⟩ = some (.int .i16 0) := (za BK284.out 1).trans rfl
   have hcz49_2 : w30.cell? ⟨gb284, 2, none⟩ = some (.int .i16 0) := (za BK284.out 2).trans rfl
   have hcz49_3 : w30.cell? ⟨gb284, 3, none⟩ = some (.int .i16 0) := (za BK284.out 3).trans rfl
   have hfz49_0 := ze BK284.out 0
   have hfz49_1 := ze BK284.out 1
   have hfz49_2 := ze BK284.out 2
   have hfz49_3 := ze BK284.out 3
   have hnb50 := NB268_252.out
   have hnc50 := NB252_268.out
   have hnb51 := NB268_277.out
   have hnc51 := NB277_268.out
   have hcz52_0 : w30.cell? ⟨gb268, 0, none⟩ = some (.int .i16 t262) := (za BK268.out 0).trans rfl
   have hcz52_1 : w30.cell? ⟨gb268, 1, none⟩ = some (.int .i16 t263) := (za BK268.out 1).trans rfl
   have hcz52_2 : w30.cell? ⟨gb268, 2, none⟩ = some (.int .i16 t264) := (za BK268.out 2).trans rfl
   have hcz52_3 : w30.cell? ⟨gb268, 3, none⟩ = some (.int .i16 t265) := (za BK268.out 3).trans rfl
   have hfz52_0 := ze BK268.out 0
   have hfz52_1 := ze BK268.out 1
   have hfz52_2 := ze BK268.out 2
   have hfz52_3 := ze BK268.out 3
   go_wp2_with (first | ((with_reducible refine zba (f := 36) rfl ?_); refine zja (some 33) rfl rfl Try.func36 (by kernel_rfl) rfl #[.agg #[.int .i16 t278, .int .i16 t279, .int .i16 t280, .int .i16 t281], .agg #[.int .i16 t262, .int .i16 t263, .int .i16 t264, .int .i16 t265]] rfl (by (try simp only [List.map_toArray, List.map_cons, List.map_nil]); first | done | rfl | (simp only [List.length_drop, List.length_take]; rfl)) ?_; (with_reducible refine (laws_eqWater.calls k t278 t279 t280 t281 t262 t263 t264 t265 true _ A35.out).mono ?_); rintro e w53 ⟨rfl, hb⟩; refine ⟨_, rfl, ?_⟩; have n0_ := zh.mk (Kd.R_below (by (with_reducible repeat (first | apply Kd.R_alloc | apply Kd.R_drewN | apply Kd.R_drew)); exact (Kd.R_mono (Kd.R_far (p := ⟨gb284, 3, none⟩) (Kd.R_far (p := ⟨gb284, 2, none⟩) (Kd.R_far (p := ⟨gb284, 1, none⟩) (Kd.R_far (p := ⟨gb284, 0, none⟩) (Kd.R_types HO256.out BK284.out (by decide)) (fun _ hk => hk.2) (.int .i16 t278)) (fun _ hk => hk.2) (.int .i16 t279)) (fun _ hk => hk.2) (.int .i16 t280)) (fun _ hk => hk.2) (.int .i16 t281)) (fun _ h_ => h_.1))) hb); have n1_ := zh.mk (Kd.R_below (by (with_reducible repeat (first | apply Kd.R_alloc | apply Kd.R_drewN | apply Kd.R_drew)); exact (Kd.R_mono (Kd.R_far (p := ⟨gb284, 3, none⟩) (Kd.R_far (p := ⟨gb284, 2, none⟩) (Kd.R_far (p := ⟨gb284, 1, none⟩) (Kd.R_far (p := ⟨gb284, 0, none⟩) (Kd.R_types HO271.out BK284.out (by decide)) (fun _ hk => hk.2) (.int .i16 t278)) (fun _ hk => hk.2) (.int .i16 t279)) (fun _ hk => hk.2) (.int .i16 t280)) (fun _ hk => hk.2) (.int .i16 t281)) (fun _ h_ => h_.1))) hb); have n2_ := zh.mk (zm (g := gb252) (o := .cells #[.slice A0_0 l0_0.length c0_0, .int .i16 a0_1, .int .i16 a0_2, .int .i16 a0_3, .int .i16 a0_4, .bool a0_5] 53 (0, 0)) (by (with_reducible repeat (first | refine zc ?_ _ | refine zf ?_ | refine zb ?_ _)); refine zn ?_ NB252_284.out _; (with_reducible repeat (first | refine zc ?_ _ | refine zf ?_ | refine zb ?_ _)); refine zn ?_ NB252_284.out _; (with_reducible repeat (first | refine zc ?_ _ | refine zf ?_ | refine zb ?_ _)); refine zn ?_ NB252_284.out _; (with_reducible repeat (first | refine zc ?_ _ | refine zf ?_ | refine zb ?_ _)); refine zn ?_ NB252_284.out _; (with_reducible repeat (first | refine zc ?_ _ | refine zf ?_ | refine zb ?_ _)); exact BK252.out) hb); have n3_ := zh.mk (zm (g := gb268) (o := .cells #[.int .i16 t262, .int .i16 t263, .int .i16 t264, .int .i16 t265] 27 (0, 0)) (by (with_reducible repeat (first | refine zc ?_ _ | refine zf ?_ | refine zb ?_ _)); refine zn ?_ NB268_284.out _; (with_reducible repeat (first | refine zc ?_ _ | refine zf ?_ | refine zb ?_ _)); refine zn ?_ NB268_284.out _; (with_reducible repeat (first | refine zc ?_ _ | refine zf ?_ | refine zb ?_ _)); refine zn ?_ NB268_284.out _; (with_reducible repeat (first | refine zc ?_ _ | refine zf ?_ | refine zb ?_ _)); refine zn ?_ NB268_284.out _; (with_reducible repeat (first | refine zc ?_ _ | refine zf ?_ | refine zb ?_ _)); exact BK268.out) hb); have n4_ := zh.mk (zm (g := gb277) (o := .cells #[.slice Ao25 t269.length co25, .int .i16 t272, .int .i16 t273, .int .i16 t274, .int .i16 t275, .bool t276] 29 (0, 0)) (by (with_reducible repeat (first | refine zc ?_ _ | refine zf ?_ | refine zb ?_ _)); refine zn ?_ NB277_284.out _; (with_reducible repeat (first | refine zc ?_ _ | refine zf ?_ | refine zb ?_ _)); refine zn ?_ NB277_284.out _; (with_reducible repeat (first | refine zc ?_ _ | refine zf ?_ | refine zb ?_ _)); refine zn ?_ NB277_284.out _; (with_reducible repeat (first | refine zc ?_ _ | refine zf ?_ | refine zb ?_ _)); refine zn ?_ NB277_284.out _; (with_reducible repeat (first | refine zc ?_ _ | refine zf ?_ | refine zb ?_ _)); exact BK277.out) hb); have n5_ := zh.mk (zm (g := gb284) (o := .cells #[.int .i16 t278, .int .i16 t279, .int .i16 t280, .int .i16 t281] 27 (0, 0)) (by (with_reducible repeat (first | refine zc ?_ _ | refine zf ?_ | refine zb ?_ _)); refine zw (cs := #[.int .i16 t278, .int .i16 t279, .int .i16 t280, .int .i16 0]) ?_ 3 _ rfl; (with_reducible repeat (first | refine zc ?_ _ | refine zf ?_ | refine zb ?_ _)); refine zw (cs := #[.int .i16 t278, .int .i16 t279, .int .i16 0, .int .i16 0]) ?_ 2 _ rfl; (with_reducible repeat (first | refine zc ?_ _ | refine zf ?_ | refine zb ?_ _)); refine zw (cs := #[.int .i16 t278, .int .i16 0, .int .i16 0, .int .i16 0]) ?_ 1 _ rfl; (with_reducible repeat (first | refine zc ?_ _ | refine zf ?_ | refine zb ?_ _)); refine zw (cs := #[.int .i16 0, .int .i16 0, .int .i16 0, .int .i16 0]) ?_ 0 _ rfl; (with_reducible repeat (first | refine zc ?_ _ | refine zf ?_ | refine zb ?_ _)); exact BK284.out) hb); have n6_ := zh.mk (zo (by repeat (first | (with_reducible first | exact HB.out | apply zk | apply zg | apply zj | refine zi ?_ GE252.out | refine zi ?_ GE268.out | refine zi ?_ GE277.out | refine zi ?_ GE284.out) | exact HB.out)) hb); clear HO256; clear HO271; clear BK252; clear BK268; clear BK277; clear BK284; clear HB; have HO256 := n0_; have HO271 := n1_; have BK252 := n2_; have BK268 := n3_; have BK277 := n4_; have BK284 := n5_; have HB := n6_; clear n0_ n1_ n2_ n3_ n4_ n5_ n6_; (try clear hb); (try clear hb2); (try clear hk); (try clear hi)))
   go_meet
   case rel => exact ⟨_, (true), (by first | rfl | (simp; done) | (simp [*]; done)), H', ⟨by first | omega | exact Nat.le_refl _⟩, ⟨by (with_reducible repeat (first | apply Kd.R_alloc | apply Kd.R_drewN | apply Kd.R_drew)); exact Kd.R_mono HO271.out (fun _ hk => trivial)⟩, ⟨by (with_reducible repeat (first | refine zc ?_ _ | refine zf ?_ | refine zb ?_ _)); exact BK252.out⟩, ⟨by (with_reducible repeat (first | refine zc ?_ _ | refine zf ?_ | refine zb ?_ _)); exact BK268.out⟩, ⟨by (with_reducible repeat (first | refine zc ?_ _ | refine zf ?_ | refine zb ?_ _)); exact BK277.out⟩, ⟨by (with_reducible repeat (first | refine zc ?_ _ | refine zf ?_ | refine zb ?_ _)); exact BK284.out⟩, ⟨by repeat (first | (with_reducible first | exact HB.out | apply zk | apply zg | apply zj | refine zi ?_ GE252.out | refine zi ?_ GE268.out | refine zi ?_ GE277.out | refine zi ?_ GE284.out) | exact HB.out)⟩⟩
  replace c36 := Bool.eq_false_iff.mpr c36
  subst c36
  have H1 : (laws_FnExactHardestWater.j0 k true l0_0 a0_1 a0_2 a0_3 a0_4 a0_5 t269 t272 t273 t274 t275 t276) = some r := by rw [if_neg (show ¬ (false = true) by decide)] at H; exact H
  clear H
  have H := H1
  clear H1
  have H' := zh.mk H
  clear H
  have hnb54 := NB284_252.out
  have hnc54 := NB252_284.out
  have hnb55 := NB284_268.out
  have hnc55 := NB268_284.out
  have hnb56 := NB284_277.out
  have hnc56 := NB277_284.out
  have hcz57_0 : w30.cell? ⟨gb284, 0, none⟩ = some (.int .i16 0) := (za BK284.out 0).trans rfl
  have hcz57_1 : w30.cell? ⟨gb284, 1, none⟩ = some (.int .i16 0) := (za BK284.out 1).trans rfl
  have hcz57_2 : w30.cell? ⟨gb284, 2, none⟩ = some (.int .i16 0) := (za BK284.out 2).trans rfl
  have hcz57_3 : w30.cell? ⟨gb284, 3, none⟩ = some (.int .i16 0) := (za BK284.out 3).trans rfl
  have hfz57_0 := ze BK284.out 0
  have hfz57_1 := ze BK284.out 1
  have hfz57_2 := ze BK284.out 2
  have hfz57_3 := ze BK284.out 3
  have hnb58 := NB268_252.out
  have hnc58 := NB252_268.out
  have hnb59 := NB268_277.out
  have hnc59 := NB277_268.out
  have hcz60_0 : w30.cell? ⟨gb268, 0, none⟩ = some (.int .i16 t262) := (za BK268.out 0).trans rfl
  have hcz60_1 : w30.cell? ⟨gb268, 1, none⟩ = some (.int .i16 t263) := (za BK268.out 1).trans rfl
  have hcz60_2 : w30.cell? ⟨gb268, 2, none⟩ = some (.int .i16 t264) := (za BK268.out 2).trans rfl
  have hcz60_3 : w30.cell? ⟨gb268, 3, none⟩ = some (.int .i16 t265) := (za BK268.out 3).trans rfl
  have hfz60_0 := ze BK268.out 0
  have hfz60_1 := ze BK268.out 1
  have hfz60_2 := ze BK268.out 2
  have hfz60_3 := ze BK268.out 3
  go_wp2_with (first | ((with_reducible refine zba (f := 36) rfl ?_); refine zja (some 33) rfl rfl Try.func36 (by kernel_rfl) rfl #[.agg #[.int .i16 t278, .int .i16 t279, .int .i16 t280, .int .i16 t281], .agg #[.int .i16 t262, .int .i16 t263, .int .i16 t264, .int .i16 t265]] rfl (by (try simp only [List.map_toArray, List.map_cons, List.map_nil]); first | done | rfl | (simp only [List.length_drop, List.length_take]; rfl)) ?_; (with_reducible refine (laws_eqWater.calls k t278 t279 t280 t281 t262 t263 t264 t265 false _ A35.out).mono ?_); rintro e w61 ⟨rfl, hb⟩; refine ⟨_, rfl, ?_⟩; have n0_ := zh.mk (Kd.R_below (by (with_reducible repeat (first | apply Kd.R_alloc | apply Kd.R_drewN | apply Kd.R_drew)); exact (Kd.R_mono (Kd.R_far (p := ⟨gb284, 3, none⟩) (Kd.R_far (p := ⟨gb284, 2, none⟩) (Kd.R_far (p := ⟨gb284, 1, none⟩) (Kd.R_far (p := ⟨gb284, 0, none⟩) (Kd.R_types HO256.out BK284.out (by decide)) (fun _ hk => hk.2) (.int .i16 t278)) (fun _ hk => hk.2) (.int .i16 t279)) (fun _ hk => hk.2) (.int .i16 t280)) (fun _ hk => hk.2) (.int .i16 t281)) (fun _ h_ => h_.1))) hb); have n1_ := zh.mk (Kd.R_below (by (with_reducible repeat (first | apply Kd.R_alloc | apply Kd.R_drewN | apply Kd.R_drew)); exact (Kd.R_mono (Kd.R_far (p := ⟨gb284, 3, none⟩) (Kd.R_far (p := ⟨gb284, 2, none⟩) (Kd.R_far (p := ⟨gb284, 1, none⟩) (Kd.R_far (p := ⟨gb284, 0, none⟩) (Kd.R_types HO271.out BK284.out (by decide)) (fun _ hk => hk.2) (.int .i16 t278)) (fun _ hk => hk.2) (.int .i16 t279)) (fun _ hk => hk.2) (.int .i16 t280)) (fun _ hk => hk.2) (.int .i16 t281)) (fun _ h_ => h_.1))) hb); have n2_ := zh.mk (zm (g := gb252) (o := .cells #[.slice A0_0 l0_0.length c0_0, .int .i16 a0_1, .int .i16 a0_2, .int .i16 a0_3, .int .i16 a0_4, .bool a0_5] 53 (0, 0)) (by (with_reducible repeat (first | refine zc ?_ _ | refine zf ?_ | refine zb ?_ _)); refine zn ?_ NB252_284.out _; (with_reducible repeat (first | refine zc ?_ _ | refine zf ?_ | refine zb ?_ _)); refine zn ?_ NB252_284.out _; (with_reducible repeat (first | refine zc ?_ _ | refine zf ?_ | refine zb ?_ _)); refine zn ?_ NB252_284.out _; (with_reducible repeat (first | refine zc ?_ _ | refine zf ?_ | refine zb ?_ _)); refine zn ?_ NB252_284.out _; (with_reducible repeat (first | refine zc ?_ _ | refine zf ?_ | refine zb ?_ _)); exact BK252.out) hb); have n3_ := zh.mk (zm (g := gb268) (o := .cells #[.int .i16 t262, .int .i16 t263, .int .i16 t264, .int .i16 t265] 27 (0, 0)) (by (with_reducible repeat (first | refine zc ?_ _ | refine zf ?_ | refine zb ?_ _)); refine zn ?_ NB268_284.out _; (with_reducible repeat (first | refine zc ?_ _ | refine zf ?_ | refine zb ?_ _)); refine zn ?_ NB268_284.out _; (with_reducible repeat (first | refine zc ?_ _ | refine zf ?_ | refine zb ?_ _)); refine zn ?_ NB268_284.out _; (with_reducible repeat (first | refine zc ?_ _ | refine zf ?_ | refine zb ?_ _)); refine zn ?_ NB268_284.out _; (with_reducible repeat (first | refine zc ?_ _ | refine zf ?_ | refine zb ?_ _)); exact BK268.out) hb); have n4_ := zh.mk (zm (g := gb277) (o := .cells #[.slice Ao25 t269.length co25, .int .i16 t272, .int .i16 t273, .int .i16 t274, .int .i16 t275, .bool t276] 29 (0, 0)) (by (with_reducible repeat (first | refine zc ?_ _ | refine zf ?_ | refine zb ?_ _)); refine zn ?_ NB277_284.out _; (with_reducible repeat (first | refine zc ?_ _ | refine zf ?_ | refine zb ?_ _)); refine zn ?_ NB277_284.out _; (with_reducible repeat (first | refine zc ?_ _ | refine zf ?_ | refine zb ?_ _)); refine zn ?_ NB277_284.out _; (with_reducible repeat (first | refine zc ?_ _ | refine zf ?_ | refine zb ?_ _)); refine zn ?_ NB277_284.out _; (with_reducible repeat (first | refine zc ?_ _ | refine zf ?_ | refine zb ?_ _)); exact BK277.out) hb); have n5_ := zh.mk (zm (g := gb284) (o := .cells #[.int .i16 t278, .int .i16 t279, .int .i16 t280, .int .i16 t281] 27 (0, 0)) (by (with_reducible repeat (first | refine zc ?_ _ | refine zf ?_ | refine zb ?_ _)); refine zw (cs := #[.int .i16 t278, .int .i16 t279, .int .i16 t280, .int .i16 0]) ?_ 3 _ rfl; (with_reducible repeat (first | refine zc ?_ _ | refine zf ?_ | refine zb ?_ _)); refine zw (cs := #[.int .i16 t278, .int .i16 t279, .int .i16 0, .int .i16 0]) ?_ 2 _ rfl; (with_reducible repeat (first | refine zc ?_ _ | refine zf ?_ | refine zb ?_ _)); refine zw (cs := #[.int .i16 t278, .int .i16 0, .int .i16 0, .int .i16 0]) ?_ 1 _ rfl; (with_reducible repeat (first | refine zc ?_ _ | refine zf ?_ | refine zb ?_ _)); refine zw (cs := #[.int .i16 0, .int .i16 0, .int .i16 0, .int .i16 0]) ?_ 0 _ rfl; (with_reducible repeat (first | refine zc ?_ _ | refine zf ?_ | refine zb ?_ _)); exact BK284.out) hb); have n6_ := zh.mk (zo (by repeat (first | (with_reducible first | exact HB.out | apply zk | apply zg | apply zj | refine zi ?_ GE252.out | refine zi ?_ GE268.out | refine zi ?_ GE277.out | refine zi ?_ GE284.out) | exact HB.out)) hb); clear HO256; clear HO271; clear BK252; clear BK268; clear BK277; clear BK284; clear HB; have HO256 := n0_; have HO271 := n1_; have BK252 := n2_; have BK268 := n3_; have BK277 := n4_; have BK284 := n5_; have HB := n6_; clear n0_ n1_ n2_ n3_ n4_ n5_ n6_; (try clear hb); (try clear hb2); (try clear hk); (try clear hi)))
  go_meet
  case rel => exact ⟨_, (true), (by first | rfl | (simp; done) | (simp [*]; done)), H', ⟨by first | omega | exact Nat.le_refl _⟩, ⟨by (with_reducible repeat (first | apply Kd.R_alloc | apply Kd.R_drewN | apply Kd.R_drew)); exact Kd.R_mono HO271.out (fun _ hk => trivial)⟩, ⟨by (with_reducible repeat (first | refine zc ?_ _ | refine zf ?_ | refine zb ?_ _)); exact BK252.out⟩, ⟨by (with_reducible repeat (first | refine zc ?_ _ | refine zf ?_ | refine zb ?_ _)); exact BK268.out⟩, ⟨by (with_reducible repeat (first | refine zc ?_ _ | refine zf ?_ | refine zb ?_ _)); exact BK277.out⟩, ⟨by (with_reducible repeat (first | refine zc ?_ _ | refine zf ?_ | refine zb ?_ _)); exact BK284.out⟩, ⟨by repeat (first | (with_reducible first | exact HB.out | apply zk | apply zg | apply zj | refine zi ?_ GE252.out | refine zi ?_ GE268.out | refine zi ?_ GE277.out | refine zi ?_ GE284.out) | exact HB.out)⟩⟩
 case rest =>
  clear HC11
  try clear c2
  try clear p2
  try clear c3
  try clear c3b0
  try clear c4
  try clear c5
  try clear c20
  try clear c26
  try clear c27
  try clear c28
  try clear c29
  try clear c31
  try clear c32
  try clear c33
  try clear c34
  try clear c36
  try clear c37
  try clear c37b0
  try clear c37b1
  try clear c38
  try clear c39
  try clear c40
  try clear c42
  try clear c43
  try clear c46
  try clear c47
  try clear c48
  try clear c50
  try clear c51
  try clear c54
  try clear c55
  try clear c56
  try clear c58
  try clear c59
  try clear hcz13_0 hcz13_1 hcz13_2 hcz13_3 hcz13_4 hcz13_5
  try clear hcz15_0 hcz15_1 hcz15_2 hcz15_3 hcz15_4 hcz15_5
  try clear hcz21_0 hcz21_1 hcz21_2 hcz21_3
  try clear hcz22_0 hcz22_1 hcz22_2 hcz22_3 hcz22_4 hcz22_5
  try clear hcz28_0 hcz28_1 hcz28_2 hcz28_3 hcz28_4 hcz28_5
  try clear hcz34_0 hcz34_1 hcz34_2 hcz34_3
  try clear hcz41_0 hcz41_1 hcz41_2 hcz41_3
  try clear hcz44_0 hcz44_1 hcz44_2 hcz44_3
  try clear hcz49_0 hcz49_1 hcz49_2 hcz49_3
  try clear hcz52_0 hcz52_1 hcz52_2 hcz52_3
  try clear hcz57_0 hcz57_1 hcz57_2 hcz57_3
  try clear hcz5_0 hcz5_1 hcz5_2 hcz5_3 hcz5_4 hcz5_5
  try clear hcz60_0 hcz60_1 hcz60_2 hcz60_3
  try clear hfz13_0 hfz13_1 hfz13_2 hfz13_3 hfz13_4 hfz13_5
  try clear hfz15_0 hfz15_1 hfz15_2 hfz15_3 hfz15_4 hfz15_5
  try clear hfz21_0 hfz21_1 hfz21_2 hfz21_3
  try clear hfz22_0 hfz22_1 hfz22_2 hfz22_3 hfz22_4 hfz22_5
  try clear hfz28_0 hfz28_1 hfz28_2 hfz28_3 hfz28_4 hfz28_5
  try clear hfz34_0 hfz34_1 hfz34_2 hfz34_3
  try clear hfz41_0 hfz41_1 hfz41_2 hfz41_3
  try clear hfz44_0 hfz44_1 hfz44_2 hfz44_3
  try clear hfz49_0 hfz49_1 hfz49_2 hfz49_3
  try clear hfz52_0 hfz52_1 hfz52_2 hfz52_3
  try clear hfz57_0 hfz57_1 hfz57_2 hfz57_3
  try clear hfz5_0 hfz5_1 hfz5_2 hfz5_3 hfz5_4 hfz5_5
  try clear hfz60_0 hfz60_1 hfz60_2 hfz60_3
  obtain ⟨kq, x44_10, rfl, HA, HJ10, HO_278000, BK252, BK268, BK277, BK284, HB⟩ := hcut
  cases kq with
  | zero => exact absurd HA.out (by simp [laws_FnExactHardestWater.j0])
  | succ kj10 =>
   have H := HA.out
   clear HA
   simp only [laws_FnExactHardestWater.j0] at H
   by_cases c62 : x44_10 = true
   ·subst c62
    have H1 : (some false) = some r := by rw [if_pos rfl] at H; exact H
    clear H
    have H := H1
    clear H1
    obtain rfl := Option.some.inj H
    go_wp2
    go_ret
    exact ⟨by first | rfl | (simp [zy, zx] <;> rfl) | (simp [*, zy, zx] <;> rfl), by repeat (first | (with_reducible first | exact HB.out | apply zk | apply zg | apply zj | refine zi ?_ GE252.out | refine zi ?_ GE268.out | refine zi ?_ GE277.out | refine zi ?_ GE284.out) | exact HB.out)⟩
   replace c62 := Bool.eq_false_iff.mpr c62
   subst c62
   have H1 : ((laws_toPuzzle.f kj10 l0_0 a0_1 a0_2 a0_3 a0_4 a0_5).bind fun bt286 => ((laws_eqPuzzle.f kj10 t269 t272 t273 t274 t275 t276 bt286.1 bt286.2.1 bt286.2.2.1 bt286.2.2.2.1 bt286.2.2.2.2.1 bt286.2.2.2.2.2).bind fun t294 => (if t294 = true then (some true) else (some false)))) = some r := by rw [if_neg (show ¬ (false = true) by decide)] at H; exact H
   clear H
   have H := H1
   clear H1
   replace H := Option.bind_eq_some_iff.mp H
   obtain ⟨⟨t286, t289, t290, t291, t292, t293⟩, A630, H⟩ := H
   replace H : ((laws_eqPuzzle.f kj10 t269 t272 t273 t274 t275 t276 t286 t289 t290 t291 t292 t293).bind fun t294 => (if t294 = true then (some true) else (some false))) = some r := H
   have A63 := zh.mk A630
   clear A630
   replace H := Option.bind_eq_some_iff.mp H
   obtain ⟨t294, A640, H⟩ := H
   replace H : (if t294 = true then (some true) else (some false)) = some r := H
   have A64 := zh.mk A640
   clear A640
   by_cases c65 : t294 = true
   ·subst c65
    have H1 : (some true) = some r := by rw [if_pos rfl] at H; exact H
    clear H
    have H := H1
    clear H1
    obtain rfl := Option.some.inj H
    try go_wp2
    have n0_ := zh.mk (Kd.R_drew HO_278000.out)
    have n1_ := zh.mk (zf BK252.out)
    have n2_ := zh.mk (zf BK268.out)
    have n3_ := zh.mk (zf BK277.out)
    have n4_ := zh.mk (zf BK284.out)
    have n5_ := zh.mk (zj HB.out)
    clear HO_278000
    clear BK252
    clear BK268
    clear BK277
    clear BK284
    clear HB
    have HO_278000 := n0_
    have BK252 := n1_
    have BK268 := n2_
    have BK277 := n3_
    have BK284 := n4_
    have HB := n5_
    clear n0_ n1_ n2_ n3_ n4_ n5_
    refine zrb (n := 5) (S := fun w' => w'.cell? ⟨gb277, 0, none⟩ = some (.slice Ao25 t269.length co25) ∧ w'.cell? ⟨gb277, 1, none⟩ = some (.int .i16 t272) ∧ w'.cell? ⟨gb277, 2, none⟩ = some (.int .i16 t273) ∧ w'.cell? ⟨gb277, 3, none⟩ = some (.int .i16 t274) ∧ w'.cell? ⟨gb277, 4, none⟩ = some (.int .i16 t275) ∧ w'.cell? ⟨gb277, 5, none⟩ = some (.bool t276) ∧ w'.cell? ⟨gb252, 0, none⟩ = some (.slice A0_0 l0_0.length c0_0) ∧ w'.cell? ⟨gb252, 1, none⟩ = some (.int .i16 a0_1) ∧ w'.cell? ⟨gb252, 2, none⟩ = some (.int .i16 a0_2) ∧ w'.cell? ⟨gb252, 3, none⟩ = some (.int .i16 a0_3) ∧ w'.cell? ⟨gb252, 4, none⟩ = some (.int .i16 a0_4) ∧ w'.cell? ⟨gb252, 5, none⟩ = some (.bool a0_5)) (ds := []) #[false, false, false, false, false] (by kernel_rfl) rfl rfl ⟨(za BK277.out 0).trans rfl, (za BK277.out 1).trans rfl, (za BK277.out 2).trans rfl, (za BK277.out 3).trans rfl, (za BK277.out 4).trans rfl, (za BK277.out 5).trans rfl, (za BK252.out 0).trans rfl, (za BK252.out 1).trans rfl, (za BK252.out 2).trans rfl, (za BK252.out 3).trans rfl, (za BK252.out 4).trans rfl, (za BK252.out 5).trans rfl⟩ (fun hHeld => ?_)
    generalize wc.drew = w66 at HO_278000 BK252 BK268 BK277 BK284 HB hHeld ⊢
    refine take_ (i := 0) (N := some 45) (v := ?_) (a' := ?_) #[true, false, false, false, false] rfl rfl (by kernel_rfl) (fun _ _ _ h => h) (Or.inl ⟨by rfl, ?_⟩) hHeld ?_ ?_
    rotate_left
    ·rintro w' ⟨s0, s1, s2, s3, s4, s5, s6, s7, s8, s9, s10, s11⟩
     go_simp
     with_reducible rfl
    rotate_left
    ·simp only [Act.put, List.setIfInBounds_toArray, List.set_cons_zero, List.set_cons_succ, zu, zz]
     rfl
    refine take_ (i := 1) (N := some 46) (v := ?_) (a' := ?_) #[true, true, false, false, false] rfl rfl (by kernel_rfl) (fun _ _ _ h => h) (Or.inl ⟨by rfl, ?_⟩) hHeld ?_ ?_
    rotate_left
    ·rintro w' ⟨s0, s1, s2, s3, s4, s5, s6, s7, s8, s9, s10, s11⟩
     go_simp
     with_reducible rfl
    rotate_left
    ·simp only [Act.put, List.setIfInBounds_toArray, List.set_cons_zero, List.set_cons_succ, zu, zz]
     rfl
    refine one_ (i := 2) (N := some 47) #[true, true, true, false, false] rfl rfl (by kernel_rfl) (by decide) (fun K hK => ?_)
    refine zbd Try.func34 (by kernel_rfl) rfl #[.agg #[.slice A0_0 l0_0.length c0_0, .int .i16 a0_1, .int .i16 a0_2, .int .i16 a0_3, .int .i16 a0_4, .bool a0_5]] (by rfl) rfl rfl (by (try simp only [List.map_toArray, List.map_cons, List.map_nil]); first | done | rfl | (simp only [List.length_drop, List.length_take]; rfl)) ?_
    with_reducible refine (laws_toPuzzle.calls kj10 _ _ l0_0 a0_1 a0_2 a0_3 a0_4 a0_5 t286 t289 t290 t291 t292 t293 _ ?side1 ?side2 A63.out).mono ?_
    (case side1 => repeat (first | exact (Kd.C_below HR0_0.out HB.out) | (with_reducible refine Kd.C_alloc ?_ _) | (with_reducible refine Kd.C_drewN ?_ _) | (with_reducible refine Kd.C_drew ?_)))
    (case side2 => exact HC0_0.out)
    rintro e w67 ⟨v287, rfl, ho0, hb⟩
    refine ⟨_, rfl, ?_⟩
    have n0_ := zh.mk (Kd.R_elder' (by (with_reducible repeat (first | apply Kd.R_alloc | apply Kd.R_drewN | apply Kd.R_drew)); exact HO_278000.out) (Kd.R_base ho0) hb)
    have n1_ := zh.mk (Kd.R_lower (Kd.R_new' ho0 (Kd.R_lt (by (with_reducible repeat (first | apply Kd.R_alloc | apply Kd.R_drewN | apply Kd.R_drew)); exact HO_278000.out))) (zq (by repeat (first | (with_reducible first | exact HB.out | apply zk | apply zg | apply zj | refine zi ?_ GE252.out | refine zi ?_ GE268.out | refine zi ?_ GE277.out | refine zi ?_ GE284.out) | exact HB.out))))
    have n2_ := zh.mk (zm (by (with_reducible repeat (first | refine zc ?_ _ | refine zf ?_ | refine zb ?_ _)); exact BK252.out) hb)
    have n3_ := zh.mk (zm (by (with_reducible repeat (first | refine zc ?_ _ | refine zf ?_ | refine zb ?_ _)); exact BK268.out) hb)
    have n4_ := zh.mk (zm (by (with_reducible repeat (first | refine zc ?_ _ | refine zf ?_ | refine zb ?_ _)); exact BK277.out) hb)
    have n5_ := zh.mk (zm (by (with_reducible repeat (first | refine zc ?_ _ | refine zf ?_ | refine zb ?_ _)); exact BK284.out) hb)
    have n6_ := zh.mk (zo (by repeat (first | (with_reducible first | exact HB.out | apply zk | apply zg | apply zj | refine zi ?_ GE252.out | refine zi ?_ GE268.out | refine zi ?_ GE277.out | refine zi ?_ GE284.out) | exact HB.out)) hb)
    clear HO_278000
    clear BK252
    clear BK268
    clear BK277
    clear BK284
    clear HB
    have HO_278000 := n0_
    have HO288 := n1_
    have BK252 := n2_
    have BK268 := n3_
    have BK277 := n4_
    have BK284 := n5_
    have HB := n6_
    clear n0_ n1_ n2_ n3_ n4_ n5_ n6_
    (try clear hb)
    (try clear hb2)
    (try clear hk)
    (try clear hi)
    (try clear ho0)
    obtain ⟨Ao68, co68, eo68⟩ := Kd.R_slice HO288.out
    (first | subst eo68 | (injection eo68 with f1_ f2_ f3_; have f4_ := f1_.symm; have f5_ := f3_.symm; clear f1_ f2_ f3_; subst f4_; subst f5_))
    refine hK.out _ _ ⟨(za BK277.out 0).trans rfl, (za BK277.out 1).trans rfl, (za BK277.out 2).trans rfl, (za BK277.out 3).trans rfl, (za BK277.out 4).trans rfl, (za BK277.out 5).trans rfl, (za BK252.out 0).trans rfl, (za BK252.out 1).trans rfl, (za BK252.out 2).trans rfl, (za BK252.out 3).trans rfl, (za BK252.out 4).trans rfl, (za BK252.out 5).trans rfl⟩ (fun hHeld => ?_)
    clear hK K
    refine zqa (a' := ?_) ?_ ?_
    rotate_left
    ·show Act.put _ (some 47) _ = _
     simp only [Act.put, List.setIfInBounds_toArray, List.set_cons_zero, List.set_cons_succ, zu, zz]
     rfl
    refine one_ (i := 3) (N := some 48) #[true, true, true, true, false] rfl rfl (by kernel_rfl) (by decide) (fun K hK => ?_)
    refine zbd Try.func35 (by kernel_rfl) rfl #[.agg #[.slice Ao25 t269.length co25, .int .i16 t272, .int .i16 t273, .int .i16 t274, .int .i16 t275, .bool t276], .agg #[.slice Ao68 t286.length co68, .int .i16 t289, .int .i16 t290, .int .i16 t291, .int .i16 t292, .bool t293]] (by rfl) rfl rfl (by (try simp only [List.map_toArray, List.map_cons, List.map_nil]); first | done | rfl | (simp only [List.length_drop, List.length_take]; rfl)) ?_
    with_reducible refine (laws_eqPuzzle.calls kj10 _ _ t269 t272 t273 t274 t275 t276 _ _ t286 t289 t290 t291 t292 t293 true _ ?side1 ?side2 ?side3 ?side4 A64.out).mono ?_
    (case side1 => repeat (first | exact (Kd.R_reads' HO_278000.out).2.2 | (with_reducible refine Kd.C_alloc ?_ _) | (with_reducible refine Kd.C_drewN ?_ _) | (with_reducible refine Kd.C_drew ?_)))
    (case side2 => exact (Kd.R_reads' HO_278000.out).2.1)
    (case side3 => repeat (first | exact (Kd.R_reads' HO288.out).2.2 | (with_reducible refine Kd.C_alloc ?_ _) | (with_reducible refine Kd.C_drewN ?_ _) | (with_reducible refine Kd.C_drew ?_)))
    (case side4 => exact (Kd.R_reads' HO288.out).2.1)
    rintro e w69 ⟨rfl, hb⟩
    refine ⟨_, rfl, ?_⟩
    have n0_ := zh.mk (Kd.R_below (by (with_reducible repeat (first | apply Kd.R_alloc | apply Kd.R_drewN | apply Kd.R_drew)); exact HO_278000.out) hb)
    have n1_ := zh.mk (Kd.R_below (by (with_reducible repeat (first | apply Kd.R_alloc | apply Kd.R_drewN | apply Kd.R_drew)); exact HO288.out) hb)
    have n2_ := zh.mk (zm (by (with_reducible repeat (first | refine zc ?_ _ | refine zf ?_ | refine zb ?_ _)); exact BK252.out) hb)
    have n3_ := zh.mk (zm (by (with_reducible repeat (first | refine zc ?_ _ | refine zf ?_ | refine zb ?_ _)); exact BK268.out) hb)
    have n4_ := zh.mk (zm (by (with_reducible repeat (first | refine zc ?_ _ | refine zf ?_ | refine zb ?_ _)); exact BK277.out) hb)
    have n5_ := zh.mk (zm (by (with_reducible repeat (first | refine zc ?_ _ | refine zf ?_ | refine zb ?_ _)); exact BK284.out) hb)
    have n6_ := zh.mk (zo (by repeat (first | (with_reducible first | exact HB.out | apply zk | apply zg | apply zj | refine zi ?_ GE252.out | refine zi ?_ GE268.out | refine zi ?_ GE277.out | refine zi ?_ GE284.out) | exact HB.out)) hb)
    clear HO_278000
    clear HO288
    clear BK252
    clear BK268
    clear BK277
    clear BK284
    clear HB
    have HO_278000 := n0_
    have HO288 := n1_
    have BK252 := n2_
    have BK268 := n3_
    have BK277 := n4_
    have BK284 := n5_
    have HB := n6_
    clear n0_ n1_ n2_ n3_ n4_ n5_ n6_
    (try clear hb)
    (try clear hb2)
    (try clear hk)
    (try clear hi)
    refine hK.out _ _ ⟨(za BK277.out 0).trans rfl, (za BK277.out 1).trans rfl, (za BK277.out 2).trans rfl, (za BK277.out 3).trans rfl, (za BK277.out 4).trans rfl, (za BK277.out 5).trans rfl, (za BK252.out 0).trans rfl, (za BK252.out 1).trans rfl, (za BK252.out 2).trans rfl, (za BK252.out 3).trans rfl, (za BK252.out 4).trans rfl, (za BK252.out 5).trans rfl⟩ (fun hHeld => ?_)
    clear hK K
    refine zqa (a' := ?_) ?_ ?_
    rotate_left
    ·show Act.put _ (some 48) _ = _
     simp only [Act.put, List.setIfInBounds_toArray, List.set_cons_zero, List.set_cons_succ, zu, zz]
     rfl
    refine zea (i := 4) (N := some 49) (v := ?_) (a' := ?_) #[true, true, true, true, true] rfl rfl (by kernel_rfl) (fun _ _ _ h => h) (Or.inl ⟨by rfl, ?_⟩) ?_ ?_
    rotate_left
    ·intro w'
     go_simp
     with_reducible rfl
    rotate_left
    ·simp only [Act.put, List.setIfInBounds_toArray, List.set_cons_zero, List.set_cons_succ, zu, zz]
     rfl
    refine zmc (by kernel_rfl) ?_
    try go_wp2
    go_ret
    exact ⟨by first | rfl | (simp [zy, zx] <;> rfl) | (simp [*, zy, zx] <;> rfl), by repeat (first | (with_reducible first | exact HB.out | apply zk | apply zg | apply zj | refine zi ?_ GE252.out | refine zi ?_ GE268.out | refine zi ?_ GE277.out | refine zi ?_ GE284.out) | exact HB.out)⟩
   replace c65 := Bool.eq_false_iff.mpr c65
   subst c65
   have H1 : (some false) = some r := by rw [if_neg (show ¬ (false = true) by decide)] at H; exact H
   clear H
   have H := H1
   clear H1
   obtain rfl := Option.some.inj H
   try go_wp2
   have n0_ := zh.mk (Kd.R_drew HO_278000.out)
   have n1_ := zh.mk (zf BK252.out)
   have n2_ := zh.mk (zf BK268.out)
   have n3_ := zh.mk (zf BK277.out)
   have n4_ := zh.mk (zf BK284.out)
   have n5_ := zh.mk (zj HB.out)
   clear HO_278000
   clear BK252
   clear BK268
   clear BK277
   clear BK284
   clear HB
   have HO_278000 := n0_
   have BK252 := n1_
   have BK268 := n2_
   have BK277 := n3_
   have BK284 := n4_
   have HB := n5_
   clear n0_ n1_ n2_ n3_ n4_ n5_
   refine zrb (n := 5) (S := fun w' => w'.cell? ⟨gb277, 0, none⟩ = some (.slice Ao25 t269.length co25) ∧ w'.cell? ⟨gb277, 1, none⟩ = some (.int .i16 t272) ∧ w'.cell? ⟨gb277, 2, none⟩ = some (.int .i16 t273) ∧ w'.cell? ⟨gb277, 3, none⟩ = some (.int .i16 t274) ∧ w'.cell? ⟨gb277, 4, none⟩ = some (.int .i16 t275) ∧ w'.cell? ⟨gb277, 5, none⟩ = some (.bool t276) ∧ w'.cell? ⟨gb252, 0, none⟩ = some (.slice A0_0 l0_0.length c0_0) ∧ w'.cell? ⟨gb252, 1, none⟩ = some (.int .i16 a0_1) ∧ w'.cell? ⟨gb252, 2, none⟩ = some (.int .i16 a0_2) ∧ w'.cell? ⟨gb252, 3, none⟩ = some (.int .i16 a0_3) ∧ w'.cell? ⟨gb252, 4, none⟩ = some (.int .i16 a0_4) ∧ w'.cell? ⟨gb252, 5, none⟩ = some (.bool a0_5)) (ds := []) #[false, false, false, false, false] (by kernel_rfl) rfl rfl ⟨(za BK277.out 0).trans rfl, (za BK277.out 1).trans rfl, (za BK277.out 2).trans rfl, (za BK277.out 3).trans rfl, (za BK277.out 4).trans rfl, (za BK277.out 5).trans rfl, (za BK252.out 0).trans rfl, (za BK252.out 1).trans rfl, (za BK252.out 2).trans rfl, (za BK252.out 3).trans rfl, (za BK252.out 4).trans rfl, (za BK252.out 5).trans rfl⟩ (fun hHeld => ?_)
   generalize wc.drew = w70 at HO_278000 BK252 BK268 BK277 BK284 HB hHeld ⊢
   refine take_ (i := 0) (N := some 45) (v := ?_) (a' := ?_) #[true, false, false, false, false] rfl rfl (by kernel_rfl) (fun _ _ _ h => h) (Or.inl ⟨by rfl, ?_⟩) hHeld ?_ ?_
   rotate_left
   ·rintro w' ⟨s0, s1, s2, s3, s4, s5, s6, s7, s8, s9, s10, s11⟩
    go_simp
    with_reducible rfl
   rotate_left
   ·simp only [Act.put, List.setIfInBounds_toArray, List.set_cons_zero, List.set_cons_succ, zu, zz]
    rfl
   refine take_ (i := 1) (N := some 46) (v := ?_) (a' := ?_) #[true, true, false, false, false] rfl rfl (by kernel_rfl) (fun _ _ _ h => h) (Or.inl ⟨by rfl, ?_⟩) hHeld ?_ ?_
   rotate_left
   ·rintro w' ⟨s0, s1, s2, s3, s4, s5, s6, s7, s8, s9, s10, s11⟩
    go_simp
    with_reducible rfl
   rotate_left
   ·simp only [Act.put, List.setIfInBounds_toArray, List.set_cons_zero, List.set_cons_succ, zu, zz]
    rfl
   refine one_ (i := 2) (N := some 47) #[true, true, true, false, false] rfl rfl (by kernel_rfl) (by decide) (fun K hK => ?_)
   refine zbd Try.func34 (by kernel_rfl) rfl #[.agg #[.slice A0_0 l0_0.length c0_0, .int .i16 a0_1, .int .i16 a0_2, .int .i16 a0_3, .int .i16 a0_4, .bool a0_5]] (by rfl) rfl rfl (by (try simp only [List.map_toArray, List.map_cons, List.map_nil]); first | done | rfl | (simp only [List.length_drop, List.length_take]; rfl)) ?_
   with_reducible refine (laws_toPuzzle.calls kj10 _ _ l0_0 a0_1 a0_2 a0_3 a0_4 a0_5 t286 t289 t290 t291 t292 t293 _ ?side1 ?side2 A63.out).mono ?_
   (case side1 => repeat (first | exact (Kd.C_below HR0_0.out HB.out) | (with_reducible refine Kd.C_alloc ?_ _) | (with_reducible refine Kd.C_drewN ?_ _) | (with_reducible refine Kd.C_drew ?_)))
   (case side2 => exact HC0_0.out)
   rintro e w71 ⟨v287, rfl, ho0, hb⟩
   refine ⟨_, rfl, ?_⟩
   have n0_ := zh.mk (Kd.R_elder' (by (with_reducible repeat (first | apply Kd.R_alloc | apply Kd.R_drewN | apply Kd.R_drew)); exact HO_278000.out) (Kd.R_base ho0) hb)
   have n1_ := zh.mk (Kd.R_lower (Kd.R_new' ho0 (Kd.R_lt (by (with_reducible repeat (first | apply Kd.R_alloc | apply Kd.R_drewN | apply Kd.R_drew)); exact HO_278000.out))) (zq (by repeat (first | (with_reducible first | exact HB.out | apply zk | apply zg | apply zj | refine zi ?_ GE252.out | refine zi ?_ GE268.out | refine zi ?_ GE277.out | refine zi ?_ GE284.out) | exact HB.out))))
   have n2_ := zh.mk (zm (by (with_reducible repeat (first | refine zc ?_ _ | refine zf ?_ | refine zb ?_ _)); exact BK252.out) hb)
   have n3_ := zh.mk (zm (by (with_reducible repeat (first | refine zc ?_ _ | refine zf ?_ | refine zb ?_ _)); exact BK268.out) hb)
   have n4_ := zh.mk (zm (by (with_reducible repeat (first | refine zc ?_ _ | refine zf ?_ | refine zb ?_ _)); exact BK277.out) hb)
   have n5_ := zh.mk (zm (by (with_reducible repeat (first | refine zc ?_ _ | refine zf ?_ | refine zb ?_ _)); exact BK284.out) hb)
   have n6_ := zh.mk (zo (by repeat (first | (with_reducible first | exact HB.out | apply zk | apply zg | apply zj | refine zi ?_ GE252.out | refine zi ?_ GE268.out | refine zi ?_ GE277.out | refine zi ?_ GE284.out) | exact HB.out)) hb)
   clear HO_278000
   clear BK252
   clear BK268
   clear BK277
   clear BK284
   clear HB
   have HO_278000 := n0_
   have HO288 := n1_
   have BK252 := n2_
   have BK268 := n3_
   have BK277 := n4_
   have BK284 := n5_
   have HB := n6_
   clear n0_ n1_ n2_ n3_ n4_ n5_ n6_
   (try clear hb)
   (try clear hb2)
   (try clear hk)
   (try clear hi)
   (try clear ho0)
   obtain ⟨Ao72, co72, eo72⟩ := Kd.R_slice HO288.out
   (first | subst eo72 | (injection eo72 with f1_ f2_ f3_; have f4_ := f1_.symm; have f5_ := f3_.symm; clear f1_ f2_ f3_; subst f4_; subst f5_))
   refine hK.out _ _ ⟨(za BK277.out 0).trans rfl, (za BK277.out 1).trans rfl, (za BK277.out 2).trans rfl, (za BK277.out 3).trans rfl, (za BK277.out 4).trans rfl, (za BK277.out 5).trans rfl, (za BK252.out 0).trans rfl, (za BK252.out 1).trans rfl, (za BK252.out 2).trans rfl, (za BK252.out 3).trans rfl, (za BK252.out 4).trans rfl, (za BK252.out 5).trans rfl⟩ (fun hHeld => ?_)
   clear hK K
   refine zqa (a' := ?_) ?_ ?_
   rotate_left
   ·show Act.put _ (some 47) _ = _
    simp only [Act.put, List.setIfInBounds_toArray, List.set_cons_zero, List.set_cons_succ, zu, zz]
    rfl
   refine one_ (i := 3) (N := some 48) #[true, true, true, true, false] rfl rfl (by kernel_rfl) (by decide) (fun K hK => ?_)
   refine zbd Try.func35 (by kernel_rfl) rfl #[.agg #[.slice Ao25 t269.length co25, .int .i16 t272, .int .i16 t273, .int .i16 t274, .int .i16 t275, .bool t276], .agg #[.slice Ao72 t286.length co72, .int .i16 t289, .int .i16 t290, .int .i16 t291, .int .i16 t292, .bool t293]] (by rfl) rfl rfl (by (try simp only [List.map_toArray, List.map_cons, List.map_nil]); first | done | rfl | (simp only [List.length_drop, List.length_take]; rfl)) ?_
   with_reducible refine (laws_eqPuzzle.calls kj10 _ _ t269 t272 t273 t274 t275 t276 _ _ t286 t289 t290 t291 t292 t293 false _ ?side1 ?side2 ?side3 ?side4 A64.out).mono ?_
   (case side1 => repeat (first | exact (Kd.R_reads' HO_278000.out).2.2 | (with_reducible refine Kd.C_alloc ?_ _) | (with_reducible refine Kd.C_drewN ?_ _) | (with_reducible refine Kd.C_drew ?_)))
   (case side2 => exact (Kd.R_reads' HO_278000.out).2.1)
   (case side3 => repeat (first | exact (Kd.R_reads' HO288.out).2.2 | (with_reducible refine Kd.C_alloc ?_ _) | (with_reducible refine Kd.C_drewN ?_ _) | (with_reducible refine Kd.C_drew ?_)))
   (case side4 => exact (Kd.R_reads' HO288.out).2.1)
   rintro e w73 ⟨rfl, hb⟩
   refine ⟨_, rfl, ?_⟩
   have n0_ := zh.mk (Kd.R_below (by (with_reducible repeat (first | apply Kd.R_alloc | apply Kd.R_drewN | apply Kd.R_drew)); exact HO_278000.out) hb)
   have n1_ := zh.mk (Kd.R_below (by (with_reducible repeat (first | apply Kd.R_alloc | apply Kd.R_drewN | apply Kd.R_drew)); exact HO288.out) hb)
   have n2_ := zh.mk (zm (by (with_reducible repeat (first | refine zc ?_ _ | refine zf ?_ | refine zb ?_ _)); exact BK252.out) hb)
   have n3_ := zh.mk (zm (by (with_reducible repeat (first | refine zc ?_ _ | refine zf ?_ | refine zb ?_ _)); exact BK268.out) hb)
   have n4_ := zh.mk (zm (by (with_reducible repeat (first | refine zc ?_ _ | refine zf ?_ | refine zb ?_ _)); exact BK277.out) hb)
   have n5_ := zh.mk (zm (by (with_reducible repeat (first | refine zc ?_ _ | refine zf ?_ | refine zb ?_ _)); exact BK284.out) hb)
   have n6_ := zh.mk (zo (by repeat (first | (with_reducible first | exact HB.out | apply zk | apply zg | apply zj | refine zi ?_ GE252.out | refine zi ?_ GE268.out | refine zi ?_ GE277.out | refine zi ?_ GE284.out) | exact HB.out)) hb)
   clear HO_278000
   clear HO288
   clear BK252
   clear BK268
   clear BK277
   clear BK284
   clear HB
   have HO_278000 := n0_
   have HO288 := n1_
   have BK252 := n2_
   have BK268 := n3_
   have BK277 := n4_
   have BK284 := n5_
   have HB := n6_
   clear n0_ n1_ n2_ n3_ n4_ n5_ n6_
   (try clear hb)
   (try clear hb2)
   (try clear hk)
   (try clear hi)
   refine hK.out _ _ ⟨(za BK277.out 0).trans rfl, (za BK277.out 1).trans rfl, (za BK277.out 2).trans rfl, (za BK277.out 3).trans rfl, (za BK277.out 4).trans rfl, (za BK277.out 5).trans rfl, (za BK252.out 0).trans rfl, (za BK252.out 1).trans rfl, (za BK252.out 2).trans rfl, (za BK252.out 3).trans rfl, (za BK252.out 4).trans rfl, (za BK252.out 5).trans rfl⟩ (fun hHeld => ?_)
   clear hK K
   refine zqa (a' := ?_) ?_ ?_
   rotate_left
   ·show Act.put _ (some 48) _ = _
    simp only [Act.put, List.setIfInBounds_toArray, List.set_cons_zero, List.set_cons_succ, zu, zz]
    rfl
   refine zea (i := 4) (N := some 49) (v := ?_) (a' := ?_) #[true, true, true, true, true] rfl rfl (by kernel_rfl) (fun _ _ _ h => h) (Or.inl ⟨by rfl, ?_⟩) ?_ ?_
   rotate_left
   ·intro w'
    go_simp
    with_reducible rfl
   rotate_left
   ·simp only [Act.put, List.setIfInBounds_toArray, List.set_cons_zero, List.set_cons_succ, zu, zz]
    rfl
   refine zmc (by kernel_rfl) ?_
   try go_wp2
   go_ret
   exact ⟨by first | rfl | (simp [zy, zx] <;> rfl) | (simp [*, zy, zx] <;> rfl), by repeat (first | (with_reducible first | exact HB.out | apply zk | apply zg | apply zj | refine zi ?_ GE252.out | refine zi ?_ GE268.out | refine zi ?_ GE277.out | refine zi ?_ GE284.out) | exact HB.out)⟩
end Go.Proofs.Yteciomagemjjaaa.J
