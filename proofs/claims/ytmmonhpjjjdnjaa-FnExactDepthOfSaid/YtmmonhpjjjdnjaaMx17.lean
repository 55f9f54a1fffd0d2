-- Written by wip/tools/myprint.py, a program of this session, by way of the kit's print.
import Derived.Test.YtmmonhpjjjdnjaaMx0
import Derived.Test.YtmmonhpjjjdnjaaLLoad
import Derived.Test.YtmmonhpjjjdnjaaMx1
import Derived.Test.YtmmonhpjjjdnjaaMx2
import Derived.Test.YtmmonhpjjjdnjaaMx3
import Derived.Test.YtmmonhpjjjdnjaaMx14
import Derived.Test.YtmmonhpjjjdnjaaMx15
import Derived.Test.YtmmonhpjjjdnjaaMx16
namespace Go.Proofs.Ytmmonhpjjjdnjaa.M
open Go.RowKit Go.Proofs.YtmmonhpjjjdnjaaW.PrintWords Go.Proofs.YtmmonhpjjjdnjaaW.PrintLast Go.Proofs.YtmmonhpjjjdnjaaW.PrintMore
attribute [local go_sem] zea zca zka zja zy zz zfa zda   -- for this text's walks alone
set_option linter.unusedVariables false
set_option linter.unusedSimpArgs false

attribute [local go_sem high] eqA46 eqA50 eqA52
/-! ### impl_ValidPlan: function 28 -/
mutual
def impl_ValidPlan.j0 : Nat → List (S54) → Bool → Int → Int → Bool → Bool → Option (Bool)
 | 0, _, _, _, _, _, _ => none
 | k + 1, x1, x18, x283000, x283001, x283002, x283003 => if x18 = true then (some false) else ((impl_Task_cases.f k x283000 x283001 x283002 x283003).bind fun t286 => (impl_ValidPlan.l0 k x1 t286 x1 (x1.length : Int) 0 x283000 x283001 x283002 x283003))
def impl_ValidPlan.l0 : Nat → List (S54) → List (S46) → List (S54) → Int → Int → Int → Int → Bool → Bool → Option (Bool)
 | 0, _, _, _, _, _, _, _, _, _ => none
 | k + 1, x1, x5, x21, x22, x23, x283000, x283001, x283002, x283003 => if x23 < x22 then (if 0 ≤ x23 then (if x23 < (x21.length : Int) then (if (rd_T54 x21 x23).f3 = true then (if (!(((rd_T54 x21 x23).f0.f0) == 0) || (!(((rd_T54 x21 x23).f0.f1) == 0) || (!(((rd_T54 x21 x23).f0.f2) == 0) || (!(((rd_T54 x21 x23).f0.f3) == 0) || (!(((rd_T54 x21 x23).f0.f4) == 0) || (!(((rd_T54 x21 x23).f0.f5) == 0) || (!(((rd_T54 x21 x23).f0.f6) == 0) || (!(((rd_T54 x21 x23).f0.f7) == 0) || (!(((rd_T54 x21 x23).f0.f8) == 0) || (!(((rd_T54 x21 x23).f0.f9) == 0) || (!(((rd_T54 x21 x23).f0.f10) == 0) || (!(((rd_T54 x21 x23).f0.f11) == 0) || (!(((rd_T54 x21 x23).f0.f12) == 0) || (!(((rd_T54 x21 x23).f0.f13) == 0))))))))))))))) = true then (some false) else (if (!(((rd_T54 x21 x23).f1.f0) == 0) || (!(((rd_T54 x21 x23).f1.f1) == 0) || (!(((rd_T54 x21 x23).f1.f2) == 0)))) = true then (some false) else ((impl_Case_47.f k x5 ((rd_T54 x21 x23).f2.f0) ((rd_T54 x21 x23).f2.f1)).bind fun t291 => (if t291 = true then (impl_ValidPlan.l0 k x1 x5 x21 x22 (wrap64 (x23 + 1)) x283000 x283001 x283002 x283003) else (some false))))) else (if (!(((rd_T54 x21 x23).f2.f0) == 0) || (((rd_T54 x21 x23).f2.f1))) = true then (impl_ValidPlan.j2 k x1 x5 x23 x21 x22 x23 true x283000 x283001 x283002 x283003 ((rd_T54 x21 x23).f0.f0) ((rd_T54 x21 x23).f0.f1) ((rd_T54 x21 x23).f0.f2) ((rd_T54 x21 x23).f0.f3) ((rd_T54 x21 x23).f0.f4) ((rd_T54 x21 x23).f0.f5) ((rd_T54 x21 x23).f0.f6) ((rd_T54 x21 x23).f0.f7) ((rd_T54 x21 x23).f0.f8) ((rd_T54 x21 x23).f0.f9) ((rd_T54 x21 x23).f0.f10) ((rd_T54 x21 x23).f0.f11) ((rd_T54 x21 x23).f0.f12) ((rd_T54 x21 x23).f0.f13) ((rd_T54 x21 x23).f1.f0) ((rd_T54 x21 x23).f1.f1) ((rd_T54 x21 x23).f1.f2) ((rd_T54 x21 x23).f2.f0) ((rd_T54 x21 x23).f2.f1) ((rd_T54 x21 x23).f3)) else (if (((rd_T54 x21 x23).f0.f0) == 0 && (((rd_T54 x21 x23).f0.f1) == 0 && (((rd_T54 x21 x23).f0.f2) == 0 && (((rd_T54 x21 x23).f0.f3) == 0 && (((rd_T54 x21 x23).f0.f4) == 0 && (((rd_T54 x21 x23).f0.f5) == 0 && (((rd_T54 x21 x23).f0.f6) == 0 && (((rd_T54 x21 x23).f0.f7) == 0 && (((rd_T54 x21 x23).f0.f8) == 0 && (((rd_T54 x21 x23).f0.f9) == 0 && (((rd_T54 x21 x23).f0.f10) == 0 && (((rd_T54 x21 x23).f0.f11) == 0 && (((rd_T54 x21 x23).f0.f12) == 0 && (((rd_T54 x21 x23).f0.f13) == 0)))))))))))))) = true then (impl_ValidPlan.j2 k x1 x5 x23 x21 x22 x23 true x283000 x283001 x283002 x283003 ((rd_T54 x21 x23).f0.f0) ((rd_T54 x21 x23).f0.f1) ((rd_T54 x21 x23).f0.f2) ((rd_T54 x21 x23).f0.f3) ((rd_T54 x21 x23).f0.f4) ((rd_T54 x21 x23).f0.f5) ((rd_T54 x21 x23).f0.f6) ((rd_T54 x21 x23).f0.f7) ((rd_T54 x21 x23).f0.f8) ((rd_T54 x21 x23).f0.f9) ((rd_T54 x21 x23).f0.f10) ((rd_T54 x21 x23).f0.f11) ((rd_T54 x21 x23).f0.f12) ((rd_T54 x21 x23).f0.f13) ((rd_T54 x21 x23).f1.f0) ((rd_T54 x21 x23).f1.f1) ((rd_T54 x21 x23).f1.f2) ((rd_T54 x21 x23).f2.f0) ((rd_T54 x21 x23).f2.f1) ((rd_T54 x21 x23).f3)) else ((impl_ValidWeighing.f k x283000 x283001 x283002 x283003 ((rd_T54 x21 x23).f0.f0) ((rd_T54 x21 x23).f0.f1) ((rd_T54 x21 x23).f0.f2) ((rd_T54 x21 x23).f0.f3) ((rd_T54 x21 x23).f0.f4) ((rd_T54 x21 x23).f0.f5) ((rd_T54 x21 x23).f0.f6) ((rd_T54 x21 x23).f0.f7) ((rd_T54 x21 x23).f0.f8) ((rd_T54 x21 x23).f0.f9) ((rd_T54 x21 x23).f0.f10) ((rd_T54 x21 x23).f0.f11) ((rd_T54 x21 x23).f0.f12) ((rd_T54 x21 x23).f0.f13)).bind fun t292 => (impl_ValidPlan.j2 k x1 x5 x23 x21 x22 x23 (!t292) x283000 x283001 x283002 x283003 ((rd_T54 x21 x23).f0.f0) ((rd_T54 x21 x23).f0.f1) ((rd_T54 x21 x23).f0.f2) ((rd_T54 x21 x23).f0.f3) ((rd_T54 x21 x23).f0.f4) ((rd_T54 x21 x23).f0.f5) ((rd_T54 x21 x23).f0.f6) ((rd_T54 x21 x23).f0.f7) ((rd_T54 x21 x23).f0.f8) ((rd_T54 x21 x23).f0.f9) ((rd_T54 x21 x23).f0.f10) ((rd_T54 x21 x23).f0.f11) ((rd_T54 x21 x23).f0.f12) ((rd_T54 x21 x23).f0.f13) ((rd_T54 x21 x23).f1.f0) ((rd_T54 x21 x23).f1.f1) ((rd_T54 x21 x23).f1.f2) ((rd_T54 x21 x23).f2.f0) ((rd_T54 x21 x23).f2.f1) ((rd_T54 x21 x23).f3)))))) else (none)) else (none)) else (some true)
def impl_ValidPlan.j2 : Nat → List (S54) → List (S46) → Int → List (S54) → Int → Int → Bool → Int → Int → Bool → Bool → Int → Int → Int → Int → Int → Int → Int → Int → Int → Int → Int → Int → Int → Int → Int → Int → Int → Int → Bool → Bool → Option (Bool)
 | 0, _, _, _, _, _, _, _, _, _, _, _, _, _, _, _, _, _, _, _, _, _, _, _, _, _, _, _, _, _, _, _ => none
 | k + 1, x1, x5, x6, x21, x22, x23, x63, x283000, x283001, x283002, x283003, x291000, x291001, x291002, x291003, x291004, x291005, x291006, x291007, x291008, x291009, x291010, x291011, x291012, x291013, x291014, x291015, x291016, x291017, x291018, x291019 => if x63 = true then (some false) else (impl_ValidPlan.l1 k x1 x5 x6 x21 x22 x23 0 x283000 x283001 x283002 x283003 x291014 x291015 x291016)
def impl_ValidPlan.l1 : Nat → List (S54) → List (S46) → Int → List (S54) → Int → Int → Int → Int → Int → Bool → Bool → Int → Int → Int → Option (Bool)
 | 0, _, _, _, _, _, _, _, _, _, _, _, _, _, _ => none
 | k + 1, x1, x5, x6, x21, x22, x23, x66, x283000, x283001, x283002, x283003, x90066000, x90066001, x90066002 => if x66 < 3 then (if 0 ≤ x66 then ((impl_Node.f x1).bind fun t294 => ((impl_within.f (wrap64 (rd [x90066000, x90066001, x90066002] x66)) (wrap64 (x6 + 1)) (wrap64 (t294 - 1))).bind fun t295 => (if t295 = true then (impl_ValidPlan.l1 k x1 x5 x6 x21 x22 x23 (wrap64 (x66 + 1)) x283000 x283001 x283002 x283003 x90066000 x90066001 x90066002) else (some false)))) else (none)) else (impl_ValidPlan.l0 k x1 x5 x21 x22 (wrap64 (x23 + 1)) x283000 x283001 x283002 x283003)
end
def impl_ValidPlan.f (k : Nat) (a0_0 : Int) (a0_1 : Int) (a0_2 : Bool) (a0_3 : Bool) (l1 : List (S54)) : Option (Bool) := (impl_ValidTask.f a0_0 a0_1 a0_2 a0_3).bind fun t283 => (if t283 = true then ((impl_Node.f l1).bind fun t284 => ((impl_within.f t284 1 400).bind fun t285 => (impl_ValidPlan.j0 k l1 (!t285) a0_0 a0_1 a0_2 a0_3))) else (impl_ValidPlan.j0 k l1 true a0_0 a0_1 a0_2 a0_3))
theorem impl_ValidPlan.mono_l : ∀ k, (∀ y0 y1 y2 y3 y4 y5, LeO (impl_ValidPlan.j0 k y0 y1 y2 y3 y4 y5) (impl_ValidPlan.j0 (k + 1) y0 y1 y2 y3 y4 y5)) ∧ (∀ y0 y1 y2 y3 y4 y5 y6 y7 y8, LeO (impl_ValidPlan.l0 k y0 y1 y2 y3 y4 y5 y6 y7 y8) (impl_ValidPlan.l0 (k + 1) y0 y1 y2 y3 y4 y5 y6 y7 y8)) ∧ (∀ y0 y1 y2 y3 y4 y5 y6 y7 y8 y9 y10 y11 y12 y13 y14 y15 y16 y17 y18 y19 y20 y21 y22 y23 y24 y25 y26 y27 y28 y29 y30, LeO (impl_ValidPlan.j2 k y0 y1 y2 y3 y4 y5 y6 y7 y8 y9 y10 y11 y12 y13 y14 y15 y16 y17 y18 y19 y20 y21 y22 y23 y24 y25 y26 y27 y28 y29 y30) (impl_ValidPlan.j2 (k + 1) y0 y1 y2 y3 y4 y5 y6 y7 y8 y9 y10 y11 y12 y13 y14 y15 y16 y17 y18 y19 y20 y21 y22 y23 y24 y25 y26 y27 y28 y29 y30)) ∧ (∀ y0 y1 y2 y3 y4 y5 y6 y7 y8 y9 y10 y11 y12 y13, LeO (impl_ValidPlan.l1 k y0 y1 y2 y3 y4 y5 y6 y7 y8 y9 y10 y11 y12 y13) (impl_ValidPlan.l1 (k + 1) y0 y1 y2 y3 y4 y5 y6 y7 y8 y9 y10 y11 y12 y13))
 | 0 => ⟨fun _ _ _ _ _ _ r h => by simp [impl_ValidPlan.j0] at h, fun _ _ _ _ _ _ _ _ _ r h => by simp [impl_ValidPlan.l0] at h, fun _ _ _ _ _ _ _ _ _ _ _ _ _ _ _ _ _ _ _ _ _ _ _ _ _ _ _ _ _ _ _ r h => by simp [impl_ValidPlan.j2] at h, fun _ _ _ _ _ _ _ _ _ _ _ _ _ _ r h => by simp [impl_ValidPlan.l1] at h⟩
 | k + 1 => by
  obtain ⟨ih0, ih1, ih2, ih3⟩ := impl_ValidPlan.mono_l k
  refine ⟨?_, ?_, ?_, ?_⟩
  ·intro y0 y1 y2 y3 y4 y5
   unfold impl_ValidPlan.j0
   repeat' first
   | (with_reducible exact ih0 _ _ _ _ _ _)
   | (with_reducible exact ih1 _ _ _ _ _ _ _ _ _)
   | (with_reducible exact ih2 _ _ _ _ _ _ _ _ _ _ _ _ _ _ _ _ _ _ _ _ _ _ _ _ _ _ _ _ _ _ _)
   | (with_reducible exact ih3 _ _ _ _ _ _ _ _ _ _ _ _ _ _)
   | (with_reducible exact impl_Case_47.mono _ _ _ _)
   | (with_reducible exact impl_Task_cases.mono _ _ _ _ _)
   | (with_reducible exact impl_ValidWeighing.mono _ _ _ _ _ _ _ _ _ _ _ _ _ _ _ _ _ _ _)
   | (with_reducible exact LeO.refl _)
   | (with_reducible exact LeO.none _)
   | (with_reducible refine LeO.ite ?_ ?_)
   | (with_reducible refine LeO.bind ?_ (fun _ => ?_))
   | exact ih0 _ _ _ _ _ _
   | exact ih1 _ _ _ _ _ _ _ _ _
   | exact ih2 _ _ _ _ _ _ _ _ _ _ _ _ _ _ _ _ _ _ _ _ _ _ _ _ _ _ _ _ _ _ _
   | exact ih3 _ _ _ _ _ _ _ _ _ _ _ _ _ _
   | exact impl_Case_47.mono _ _ _ _
   | exact impl_Task_cases.mono _ _ _ _ _
   | exact impl_ValidWeighing.mono _ _ _ _ _ _ _ _ _ _ _ _ _ _ _ _ _ _ _
   | exact LeO.none _
   | refine LeO.ite ?_ ?_
   | refine LeO.bind ?_ (fun _ => ?_)
  ·intro y0 y1 y2 y3 y4 y5 y6 y7 y8
   unfold impl_ValidPlan.l0
   repeat' first
   | (with_reducible exact ih0 _ _ _ _ _ _)
   | (with_reducible exact ih1 _ _ _ _ _ _ _ _ _)
   | (with_reducible exact ih2 _ _ _ _ _ _ _ _ _ _ _ _ _ _ _ _ _ _ _ _ _ _ _ _ _ _ _ _ _ _ _)
   | (with_reducible exact ih3 _ _ _ _ _ _ _ _ _ _ _ _ _ _)
   | (with_reducible exact impl_Case_47.mono _ _ _ _)
   | (with_reducible exact impl_Task_cases.mono _ _ _ _ _)
   | (with_reducible exact impl_ValidWeighing.mono _ _ _ _ _ _ _ _ _ _ _ _ _ _ _ _ _ _ _)
   | (with_reducible exact LeO.refl _)
   | (with_reducible exact LeO.none _)
   | (with_reducible refine LeO.ite ?_ ?_)
   | (with_reducible refine LeO.bind ?_ (fun _ => ?_))
   | exact ih0 _ _ _ _ _ _
   | exact ih1 _ _ _ _ _ _ _ _ _
   | exact ih2 _ _ _ _ _ _ _ _ _ _ _ _ _ _ _ _ _ _ _ _ _ _ _ _ _ _ _ _ _ _ _
   | exact ih3 _ _ _ _ _ _ _ _ _ _ _ _ _ _
   | exact impl_Case_47.mono _ _ _ _
   | exact impl_Task_cases.mono _ _ _ _ _
   | exact impl_ValidWeighing.mono _ _ _ _ _ _ _ _ _ _ _ _ _ _ _ _ _ _ _
   | exact LeO.none _
   | refine LeO.ite ?_ ?_
   | refine LeO.bind ?_ (fun _ => ?_)
  ·intro y0 y1 y2 y3 y4 y5 y6 y7 y8 y9 y10 y11 y12 y13 y14 y15 y16 y17 y18 y19 y20 y21 y22 y23 y24 y25 y26 y27 y28 y29 y30
   unfold impl_ValidPlan.j2
   repeat' first
   | (with_reducible exact ih0 _ _ _ _ _ _)
   | (with_reducible exact ih1 _ _ _ _ _ _ _ _ _)
   | (with_reducible exact ih2 _ _ _ _ _ _ _ _ _ _ _ _ _ _ _ _ _ _ _ _ _ _ _ _ _ _ _ _ _ _ _)
   | (with_reducible exact ih3 _ _ _ _ _ _ _ _ _ _ _ _ _ _)
   | (with_reducible exact impl_Case_47.mono _ _ _ _)
   | (with_reducible exact impl_Task_cases.mono _ _ _ _ _)
   | (with_reducible exact impl_ValidWeighing.mono _ _ _ _ _ _ _ _ _ _ _ _ _ _ _ _ _ _ _)
   | (with_reducible exact LeO.refl _)
   | (with_reducible exact LeO.none _)
   | (with_reducible refine LeO.ite ?_ ?_)
   | (with_reducible refine LeO.bind ?_ (fun _ => ?_))
   | exact ih0 _ _ _ _ _ _
   | exact ih1 _ _ _ _ _ _ _ _ _
   | exact ih2 _ _ _ _ _ _ _ _ _ _ _ _ _ _ _ _ _ _ _ _ _ _ _ _ _ _ _ _ _ _ _
   | exact ih3 _ _ _ _ _ _ _ _ _ _ _ _ _ _
   | exact impl_Case_47.mono _ _ _ _
   | exact impl_Task_cases.mono _ _ _ _ _
   | exact impl_ValidWeighing.mono _ _ _ _ _ _ _ _ _ _ _ _ _ _ _ _ _ _ _
   | exact LeO.none _
   | refine LeO.ite ?_ ?_
   | refine LeO.bind ?_ (fun _ => ?_)
  ·intro y0 y1 y2 y3 y4 y5 y6 y7 y8 y9 y10 y11 y12 y13
   unfold impl_ValidPlan.l1
   repeat' first
   | (with_reducible exact ih0 _ _ _ _ _ _)
   | (with_reducible exact ih1 _ _ _ _ _ _ _ _ _)
   | (with_reducible exact ih2 _ _ _ _ _ _ _ _ _ _ _ _ _ _ _ _ _ _ _ _ _ _ _ _ _ _ _ _ _ _ _)
   | (with_reducible exact ih3 _ _ _ _ _ _ _ _ _ _ _ _ _ _)
   | (with_reducible exact impl_Case_47.mono _ _ _ _)
   | (with_reducible exact impl_Task_cases.mono _ _ _ _ _)
   | (with_reducible exact impl_ValidWeighing.mono _ _ _ _ _ _ _ _ _ _ _ _ _ _ _ _ _ _ _)
   | (with_reducible exact LeO.refl _)
   | (with_reducible exact LeO.none _)
   | (with_reducible refine LeO.ite ?_ ?_)
   | (with_reducible refine LeO.bind ?_ (fun _ => ?_))
   | exact ih0 _ _ _ _ _ _
   | exact ih1 _ _ _ _ _ _ _ _ _
   | exact ih2 _ _ _ _ _ _ _ _ _ _ _ _ _ _ _ _ _ _ _ _ _ _ _ _ _ _ _ _ _ _ _
   | exact ih3 _ _ _ _ _ _ _ _ _ _ _ _ _ _
   | exact impl_Case_47.mono _ _ _ _
   | exact impl_Task_cases.mono _ _ _ _ _
   | exact impl_ValidWeighing.mono _ _ _ _ _ _ _ _ _ _ _ _ _ _ _ _ _ _ _
   | exact LeO.none _
   | refine LeO.ite ?_ ?_
   | refine LeO.bind ?_ (fun _ => ?_)
theorem impl_ValidPlan.mono : ∀ a0 a1 a2 a3 a4 k, LeO (impl_ValidPlan.f k a0 a1 a2 a3 a4) (impl_ValidPlan.f (k + 1) a0 a1 a2 a3 a4) := by
 intro a0 a1 a2 a3 a4 k
 obtain ⟨ih0, ih1, ih2, ih3⟩ := impl_ValidPlan.mono_l k
 unfold impl_ValidPlan.f
 repeat' first
   | (with_reducible exact ih0 _ _ _ _ _ _)
   | (with_reducible exact ih1 _ _ _ _ _ _ _ _ _)
   | (with_reducible exact ih2 _ _ _ _ _ _ _ _ _ _ _ _ _ _ _ _ _ _ _ _ _ _ _ _ _ _ _ _ _ _ _)
   | (with_reducible exact ih3 _ _ _ _ _ _ _ _ _ _ _ _ _ _)
   | (with_reducible exact impl_Case_47.mono _ _ _ _)
   | (with_reducible exact impl_Task_cases.mono _ _ _ _ _)
   | (with_reducible exact impl_ValidWeighing.mono _ _ _ _ _ _ _ _ _ _ _ _ _ _ _ _ _ _ _)
   | (with_reducible exact LeO.refl _)
   | (with_reducible exact LeO.none _)
   | (with_reducible refine LeO.ite ?_ ?_)
   | (with_reducible refine LeO.bind ?_ (fun _ => ?_))
   | exact ih0 _ _ _ _ _ _
   | exact ih1 _ _ _ _ _ _ _ _ _
   | exact ih2 _ _ _ _ _ _ _ _ _ _ _ _ _ _ _ _ _ _ _ _ _ _ _ _ _ _ _ _ _ _ _
   | exact ih3 _ _ _ _ _ _ _ _ _ _ _ _ _ _
   | exact impl_Case_47.mono _ _ _ _
   | exact impl_Task_cases.mono _ _ _ _ _
   | exact impl_ValidWeighing.mono _ _ _ _ _ _ _ _ _ _ _ _ _ _ _ _ _ _ _
   | exact LeO.none _
   | refine LeO.ite ?_ ?_
   | refine LeO.bind ?_ (fun _ => ?_)
set_option maxHeartbeats 8000000 in
set_option maxRecDepth 100000 in
theorem impl_ValidPlan.calls (k : Nat) (a0_0 : Int) (a0_1 : Int) (a0_2 : Bool) (a0_3 : Bool) (A1 : Option Addr) (c1 : Nat) (l1 : List (S54)) (r : Bool) (w : World) (hr1 : Kd.C k54 w A1 l1.length l1) (hc1 : l1.length ≤ c1) (h : impl_ValidPlan.f k a0_0 a0_1 a0_2 a0_3 l1 = some r) :
  Calls Try.prog 28 #[.agg #[.int .i8 a0_0, .int .i8 a0_1, .bool a0_2, .bool a0_3], .slice A1 l1.length c1] w fun e w' => e = .returned (.bool r) ∧ Below w.heap.size w w' := by
 have hu29 := Try.underlying29
 have hu54 := Try.underlying54
 have hu50 := Try.underlying50
 have hu52 := Try.underlying52
 have hu46 := Try.underlying46
 have HR1 := ze.mk hr1
 have HC1 := ze.mk hc1
 clear hr1 hc1
 have HB := ze.mk (Below.refl w.heap.size w)
 have H : ((impl_ValidTask.f a0_0 a0_1 a0_2 a0_3).bind fun t283 => (if t283 = true then ((impl_Node.f l1).bind fun t284 => ((impl_within.f t284 1 400).bind fun t285 => (impl_ValidPlan.j0 k l1 (!t285) a0_0 a0_1 a0_2 a0_3))) else (impl_ValidPlan.j0 k l1 true a0_0 a0_1 a0_2 a0_3))) = some r := h
 clear h
 have HC3 := ze.mk H
 clear H
 go_enter Try.func28, Try.ntmps28
 go_upto_region 1 with (first | ((with_reducible refine zn (N := 2) rfl ?_); refine zm ?hg (N := 2) ?hd (cs := #[.int .i8 a0_0, .int .i8 a0_1, .bool a0_2, .bool a0_3]) (t := 29) ?hr ?_; (case hd => rfl); (case hg => rfl); (case hr => first | (go_simp; done) | (go_simp; rfl)); intro gb282 hg w4 hbox hb; have n0_ := ze.mk (zk (by repeat (first | (with_reducible first | exact HB.out | apply zc | apply za | apply zb) | exact HB.out)) hb); have n1_ := ze.mk (hbox); have n2_ := ze.mk ((by rw [hg]; exact (zj (by repeat (first | (with_reducible first | exact HB.out | apply zc | apply za | apply zb) | exact HB.out))) : w.heap.size ≤ gb282)); have n3_ := ze.mk ((by rw [hg]; exact (zj (by repeat (first | (with_reducible first | exact HB.out | apply zc | apply za | apply zb) | exact HB.out))) : w.heap.size ≤ gb282)); clear HB; have HB := n0_; have BK282 := n1_; have GW282 := n2_; have GE282 := n3_; clear n0_ n1_ n2_ n3_; clear hb hbox hg))
 (try simp only [Act.put, List.setIfInBounds_toArray, List.set_cons_zero, List.set_cons_succ])
 go_cut [18] (fun v18 wc => ∃ (kq : Nat) (x18_2 : Bool), v18 = .bool x18_2 ∧ ze (impl_ValidPlan.j0 kq l1 x18_2 a0_0 a0_1 a0_2 a0_3 = some r) ∧ ze (kq ≤ k) ∧ ze (wc.heap[gb282]? = some (.cells #[.int .i8 a0_0, .int .i8 a0_1, .bool a0_2, .bool a0_3] 29 (0, 0))) ∧ ze (Below w.heap.size w wc))
 case first =>
  have H := HC3.out
  clear HC3
  replace H := Option.bind_eq_some_iff.mp H
  obtain ⟨t283, A50, H⟩ := H
  replace H : (if t283 = true then ((impl_Node.f l1).bind fun t284 => ((impl_within.f t284 1 400).bind fun t285 => (impl_ValidPlan.j0 k l1 (!t285) a0_0 a0_1 a0_2 a0_3))) else (impl_ValidPlan.j0 k l1 true a0_0 a0_1 a0_2 a0_3)) = some r := H
  have A5 := ze.mk A50
  clear A50
  by_cases c6 : t283 = true
  ·subst c6
   have H1 : ((impl_Node.f l1).bind fun t284 => ((impl_within.f t284 1 400).bind fun t285 => (impl_ValidPlan.j0 k l1 (!t285) a0_0 a0_1 a0_2 a0_3))) = some r := by rw [if_pos rfl] at H; exact H
   clear H
   have H := H1
   clear H1
   replace H := Option.bind_eq_some_iff.mp H
   obtain ⟨t284, A70, H⟩ := H
   replace H : ((impl_within.f t284 1 400).bind fun t285 => (impl_ValidPlan.j0 k l1 (!t285) a0_0 a0_1 a0_2 a0_3)) = some r := H
   have A7 := ze.mk A70
   clear A70
   replace H := Option.bind_eq_some_iff.mp H
   obtain ⟨t285, A80, H⟩ := H
   replace H : (impl_ValidPlan.j0 k l1 (!t285) a0_0 a0_1 a0_2 a0_3) = some r := H
   have A8 := ze.mk A80
   clear A80
   have H' := ze.mk H
   clear H
   have hcz9_0 := cz BK282.out 0 rfl
   have hcz9_1 := cz BK282.out 1 rfl
   have hcz9_2 := cz BK282.out 2 rfl
   have hcz9_3 := cz BK282.out 3 rfl
   have hfz9_0 := zd BK282.out 0
   have hfz9_1 := zd BK282.out 1
   have hfz9_2 := zd BK282.out 2
   have hfz9_3 := zd BK282.out 3
   go_wp2_with (first | ((with_reducible refine zo (f := 45) rfl ?_); refine zx (some 11) rfl rfl Try.func45 (by kernel_rfl) rfl #[.agg #[.int .i8 a0_0, .int .i8 a0_1, .bool a0_2, .bool a0_3]] rfl (by (try simp only [List.map_toArray, List.map_cons, List.map_nil]); first | done | rfl | (simp only [List.length_drop, List.length_take]; rfl)) ?_; (with_reducible refine (impl_ValidTask.calls a0_0 a0_1 a0_2 a0_3 true _ A5.out).mono ?_); rintro e w10 ⟨rfl, hb⟩; refine ⟨_, rfl, ?_⟩; have n0_ := ze.mk (zl (g := gb282) (o := .cells #[.int .i8 a0_0, .int .i8 a0_1, .bool a0_2, .bool a0_3] 29 (0, 0)) (by (with_reducible repeat (first | refine zh ?_ _ | refine zi ?_ | refine zg ?_ _)); exact BK282.out) hb); have n1_ := ze.mk (zk (by repeat (first | (with_reducible first | exact HB.out | apply zc | apply za | apply zb | refine zf ?_ GE282.out) | exact HB.out)) hb); clear BK282; clear HB; have BK282 := n0_; have HB := n1_; clear n0_ n1_; (try clear hb); (try clear hb2); (try clear hk); (try clear hi)) | (go_at_call 46; (with_reducible refine (impl_Node.calls _ _ l1 t284 _ ?side1 ?side2 A7.out).mono ?_); (case side1 => repeat (first | exact (Kd.C_below HR1.out HB.out) | (with_reducible refine Kd.C_alloc ?_ _) | (with_reducible refine Kd.C_drewN ?_ _) | (with_reducible refine Kd.C_drew ?_))); (case side2 => exact HC1.out); rintro e w' ⟨rfl, ⟨nd, rfl⟩⟩) | (go_at_call 38; (with_reducible refine (impl_within.calls t284 1 400 t285 _ A8.out).mono ?_); rintro e w' ⟨rfl, ⟨nd, rfl⟩⟩))
   go_meet
   case rel => exact ⟨_, (!t285), (by first | rfl | (simp; done) | (simp [*]; done)), H', ⟨by first | omega | exact Nat.le_refl _⟩, ⟨by (with_reducible repeat (first | refine zh ?_ _ | refine zi ?_ | refine zg ?_ _)); exact BK282.out⟩, ⟨by repeat (first | (with_reducible first | exact HB.out | apply zc | apply za | apply zb | refine zf ?_ GE282.out) | exact HB.out)⟩⟩
  ·replace c6 := Bool.eq_false_iff.mpr c6
   subst c6
   have H1 : (impl_ValidPlan.j0 k l1 true a0_0 a0_1 a0_2 a0_3) = some r := by rw [if_neg (show ¬ (false = true) by decide)] at H; exact H
   clear H
   have H := H1
   clear H1
   have H' := ze.mk H
   clear H
   have hcz11_0 := cz BK282.out 0 rfl
   have hcz11_1 := cz BK282.out 1 rfl
   have hcz11_2 := cz BK282.out 2 rfl
   have hcz11_3 := cz BK282.out 3 rfl
   have hfz11_0 := zd BK282.out 0
   have hfz11_1 := zd BK282.out 1
   have hfz11_2 := zd BK282.out 2
   have hfz11_3 := zd BK282.out 3
   go_wp2_with (first | ((with_reducible refine zo (f := 45) rfl ?_); refine zx (some 11) rfl rfl Try.func45 (by kernel_rfl) rfl #[.agg #[.int .i8 a0_0, .int .i8 a0_1, .bool a0_2, .bool a0_3]] rfl (by (try simp only [List.map_toArray, List.map_cons, List.map_nil]); first | done | rfl | (simp only [List.length_drop, List.length_take]; rfl)) ?_; (with_reducible refine (impl_ValidTask.calls a0_0 a0_1 a0_2 a0_3 false _ A5.out).mono ?_); rintro e w12 ⟨rfl, hb⟩; refine ⟨_, rfl, ?_⟩; have n0_ := ze.mk (zl (g := gb282) (o := .cells #[.int .i8 a0_0, .int .i8 a0_1, .bool a0_2, .bool a0_3] 29 (0, 0)) (by (with_reducible repeat (first | refine zh ?_ _ | refine zi ?_ | refine zg ?_ _)); exact BK282.out) hb); have n1_ := ze.mk (zk (by repeat (first | (with_reducible first | exact HB.out | apply zc | apply za | apply zb | refine zf ?_ GE282.out) | exact HB.out)) hb); clear BK282; clear HB; have BK282 := n0_; have HB := n1_; clear n0_ n1_; (try clear hb); (try clear hb2); (try clear hk); (try clear hi)))
   go_meet
   case rel => exact ⟨_, (true), (by first | rfl | (simp; done) | (simp [*]; done)), H', ⟨by first | omega | exact Nat.le_refl _⟩, ⟨by (with_reducible repeat (first | refine zh ?_ _ | refine zi ?_ | refine zg ?_ _)); exact BK282.out⟩, ⟨by repeat (first | (with_reducible first | exact HB.out | apply zc | apply za | apply zb | refine zf ?_ GE282.out) | exact HB.out)⟩⟩
 case rest =>
  clear HC3
  try clear c1
  try clear c2
  try clear p2
  try clear c4
  try clear c6
  try clear hcz11_0
  try clear hcz11_1
  try clear hcz11_2
  try clear hcz11_3
  try clear hcz9_0
  try clear hcz9_1
  try clear hcz9_2
  try clear hcz9_3
  try clear hfz11_0
  try clear hfz11_1
  try clear hfz11_2
  try clear hfz11_3
  try clear hfz9_0
  try clear hfz9_1
  try clear hfz9_2
  try clear hfz9_3
  obtain ⟨kq, x18_2, rfl, HA, HJ2, BK282, HB⟩ := hcut
  cases kq with
  | zero => exact absurd HA.out (by simp [impl_ValidPlan.j0])
  | succ kj2 =>
   have H := HA.out
   clear HA
   simp only [impl_ValidPlan.j0] at H
   by_cases c13 : x18_2 = true
   ·subst c13
    have H1 : (some false) = some r := by rw [if_pos rfl] at H; exact H
    clear H
    have H := H1
    clear H1
    obtain rfl := Option.some.inj H
    go_wp2
    go_ret
    exact ⟨by first | rfl | (simp [errW_none, errW_some] <;> rfl) | (simp [*, errW_none, errW_some] <;> rfl), by repeat (first | (with_reducible first | exact HB.out | apply zc | apply za | apply zb | refine zf ?_ GE282.out) | exact HB.out)⟩
   ·replace c13 := Bool.eq_false_iff.mpr c13
    subst c13
    have H1 : ((impl_Task_cases.f kj2 a0_0 a0_1 a0_2 a0_3).bind fun t286 => (impl_ValidPlan.l0 kj2 l1 t286 l1 (l1.length : Int) 0 a0_0 a0_1 a0_2 a0_3)) = some r := by rw [if_neg (show ¬ (false = true) by decide)] at H; exact H
    clear H
    have H := H1
    clear H1
    replace H := Option.bind_eq_some_iff.mp H
    obtain ⟨t286, A140, H⟩ := H
    replace H : (impl_ValidPlan.l0 kj2 l1 t286 l1 (l1.length : Int) 0 a0_0 a0_1 a0_2 a0_3) = some r := H
    have A14 := ze.mk A140
    clear A140
    have H' := ze.mk H
    clear H
    have hcz15_0 := cz BK282.out 0 rfl
    have hcz15_1 := cz BK282.out 1 rfl
    have hcz15_2 := cz BK282.out 2 rfl
    have hcz15_3 := cz BK282.out 3 rfl
    have hfz15_0 := zd BK282.out 0
    have hfz15_1 := zd BK282.out 1
    have hfz15_2 := zd BK282.out 2
    have hfz15_3 := zd BK282.out 3
    go_wp2_with (first | ((with_reducible refine zo (f := 29) rfl ?_); refine zx (some 20) rfl rfl Try.func29 (by kernel_rfl) rfl #[.agg #[.int .i8 a0_0, .int .i8 a0_1, .bool a0_2, .bool a0_3]] rfl (by (try simp only [List.map_toArray, List.map_cons, List.map_nil]); first | done | rfl | (simp only [List.length_drop, List.length_take]; rfl)) ?_; (with_reducible refine (impl_Task_cases.calls kj2 a0_0 a0_1 a0_2 a0_3 t286 _ A14.out).mono ?_); rintro e w16 ⟨v287, rfl, ho0, hb⟩; refine ⟨_, rfl, ?_⟩; have n0_ := ze.mk (Kd.R_lower ho0 (zj (by repeat (first | (with_reducible first | exact HB.out | apply zc | apply za | apply zb | refine zf ?_ GE282.out) | exact HB.out)))); have n1_ := ze.mk (zl (g := gb282) (o := .cells #[.int .i8 a0_0, .int .i8 a0_1, .bool a0_2, .bool a0_3] 29 (0, 0)) (by (with_reducible repeat (first | refine zh ?_ _ | refine zi ?_ | refine zg ?_ _)); exact BK282.out) hb); have n2_ := ze.mk (zk (by repeat (first | (with_reducible first | exact HB.out | apply zc | apply za | apply zb | refine zf ?_ GE282.out) | exact HB.out)) hb); clear BK282; clear HB; have HO288 := n0_; have BK282 := n1_; have HB := n2_; clear n0_ n1_ n2_; (try clear hb); (try clear hb2); (try clear hk); (try clear hi); (try clear ho0)))
    go_loopg [23] kj2 (fun kq v23 w' => ∃ (x23_2 : Int), v23 = .int .i64 x23_2 ∧ ze (impl_ValidPlan.l0 kq l1 t286 l1 (l1.length : Int) x23_2 a0_0 a0_1 a0_2 a0_3 = some r) ∧ ze (kq ≤ kj2) ∧ ze (Kd.R k46 46 w' w.heap.size (fun _ => True) v287 t286) ∧ ze (w'.heap[gb282]? = some (.cells #[.int .i8 a0_0, .int .i8 a0_1, .bool a0_2, .bool a0_3] 29 (0, 0))) ∧ ze (Below w.heap.size w w'))
    case atStart => exact ⟨(0), (by first | rfl | (simp; done) | (simp [*]; done)), H', ⟨Nat.le_refl _⟩, ⟨by (with_reducible repeat (first | apply Kd.R_alloc | apply Kd.R_drewN | apply Kd.R_drew)); exact HO288.out⟩, ⟨by (with_reducible repeat (first | refine zh ?_ _ | refine zi ?_ | refine zg ?_ _)); exact BK282.out⟩, ⟨by repeat (first | (with_reducible first | exact HB.out | apply zc | apply za | apply zb | refine zf ?_ GE282.out) | exact HB.out)⟩⟩
    case round =>
     clear H'
     try clear c1
     try clear c2
     try clear p2
     try clear c4
     try clear c6
     try clear c13
     try clear hcz11_0
     try clear hcz11_1
     try clear hcz11_2
     try clear hcz11_3
     try clear hcz15_0
     try clear hcz15_1
     try clear hcz15_2
     try clear hcz15_3
     try clear hcz9_0
     try clear hcz9_1
     try clear hcz9_2
     try clear hcz9_3
     try clear hfz11_0
     try clear hfz11_1
     try clear hfz11_2
     try clear hfz11_3
     try clear hfz15_0
     try clear hfz15_1
     try clear hfz15_2
     try clear hfz15_3
     try clear hfz9_0
     try clear hfz9_1
     try clear hfz9_2
     try clear hfz9_3
     try clear p2
     obtain ⟨x23_2, rfl, HA, HK2, HO_5, BK282, HB⟩ := hrel
     cases gk with
     | zero => exact absurd HA.out (by simp [impl_ValidPlan.l0])
     | succ k2 =>
      have H := HA.out
      clear HA
      simp only [impl_ValidPlan.l0] at H
      by_cases c17 : x23_2 < (l1.length : Int)
      ·rw [if_pos c17] at H
       have c17b0 : decide (x23_2 < (l1.length : Int)) = true := decide_eq_true c17
       clear c17
       by_cases c18 : 0 ≤ x23_2
       ·rw [if_pos c18] at H
        have c18b0 : decide (0 ≤ x23_2) = true := decide_eq_true c18
        clear c18
        by_cases c19 : x23_2 < (l1.length : Int)
        ·rw [if_pos c19] at H
         have c19b0 : decide (x23_2 < (l1.length : Int)) = true := decide_eq_true c19
         clear c19
         obtain ⟨bq20, hbq20⟩ : ∃ b_ : Bool, b_ = ((rd_T54 l1 x23_2).f3) := ⟨_, rfl⟩
         replace H : (if bq20 = true then (if (!(((rd_T54 l1 x23_2).f0.f0) == 0) || (!(((rd_T54 l1 x23_2).f0.f1) == 0) || (!(((rd_T54 l1 x23_2).f0.f2) == 0) || (!(((rd_T54 l1 x23_2).f0.f3) == 0) || (!(((rd_T54 l1 x23_2).f0.f4) == 0) || (!(((rd_T54 l1 x23_2).f0.f5) == 0) || (!(((rd_T54 l1 x23_2).f0.f6) == 0) || (!(((rd_T54 l1 x23_2).f0.f7) == 0) || (!(((rd_T54 l1 x23_2).f0.f8) == 0) || (!(((rd_T54 l1 x23_2).f0.f9) == 0) || (!(((rd_T54 l1 x23_2).f0.f10) == 0) || (!(((rd_T54 l1 x23_2).f0.f11) == 0) || (!(((rd_T54 l1 x23_2).f0.f12) == 0) || (!(((rd_T54 l1 x23_2).f0.f13) == 0))))))))))))))) = true then (some false) else (if (!(((rd_T54 l1 x23_2).f1.f0) == 0) || (!(((rd_T54 l1 x23_2).f1.f1) == 0) || (!(((rd_T54 l1 x23_2).f1.f2) == 0)))) = true then (some false) else ((impl_Case_47.f k2 t286 ((rd_T54 l1 x23_2).f2.f0) ((rd_T54 l1 x23_2).f2.f1)).bind fun t291 => (if t291 = true then (impl_ValidPlan.l0 k2 l1 t286 l1 (l1.length : Int) (wrap64 (x23_2 + 1)) a0_0 a0_1 a0_2 a0_3) else (some false))))) else (if (!(((rd_T54 l1 x23_2).f2.f0) == 0) || (((rd_T54 l1 x23_2).f2.f1))) = true then (impl_ValidPlan.j2 k2 l1 t286 x23_2 l1 (l1.length : Int) x23_2 true a0_0 a0_1 a0_2 a0_3 ((rd_T54 l1 x23_2).f0.f0) ((rd_T54 l1 x23_2).f0.f1) ((rd_T54 l1 x23_2).f0.f2) ((rd_T54 l1 x23_2).f0.f3) ((rd_T54 l1 x23_2).f0.f4) ((rd_T54 l1 x23_2).f0.f5) ((rd_T54 l1 x23_2).f0.f6) ((rd_T54 l1 x23_2).f0.f7) ((rd_T54 l1 x23_2).f0.f8) ((rd_T54 l1 x23_2).f0.f9) ((rd_T54 l1 x23_2).f0.f10) ((rd_T54 l1 x23_2).f0.f11) ((rd_T54 l1 x23_2).f0.f12) ((rd_T54 l1 x23_2).f0.f13) ((rd_T54 l1 x23_2).f1.f0) ((rd_T54 l1 x23_2).f1.f1) ((rd_T54 l1 x23_2).f1.f2) ((rd_T54 l1 x23_2).f2.f0) ((rd_T54 l1 x23_2).f2.f1) bq20) else (if (((rd_T54 l1 x23_2).f0.f0) == 0 && (((rd_T54 l1 x23_2).f0.f1) == 0 && (((rd_T54 l1 x23_2).f0.f2) == 0 && (((rd_T54 l1 x23_2).f0.f3) == 0 && (((rd_T54 l1 x23_2).f0.f4) == 0 && (((rd_T54 l1 x23_2).f0.f5) == 0 && (((rd_T54 l1 x23_2).f0.f6) == 0 && (((rd_T54 l1 x23_2).f0.f7) == 0 && (((rd_T54 l1 x23_2).f0.f8) == 0 && (((rd_T54 l1 x23_2).f0.f9) == 0 && (((rd_T54 l1 x23_2).f0.f10) == 0 && (((rd_T54 l1 x23_2).f0.f11) == 0 && (((rd_T54 l1 x23_2).f0.f12) == 0 && (((rd_T54 l1 x23_2).f0.f13) == 0)))))))))))))) = true then (impl_ValidPlan.j2 k2 l1 t286 x23_2 l1 (l1.length : Int) x23_2 true a0_0 a0_1 a0_2 a0_3 ((rd_T54 l1 x23_2).f0.f0) ((rd_T54 l1 x23_2).f0.f1) ((rd_T54 l1 x23_2).f0.f2) ((rd_T54 l1 x23_2).f0.f3) ((rd_T54 l1 x23_2).f0.f4) ((rd_T54 l1 x23_2).f0.f5) ((rd_T54 l1 x23_2).f0.f6) ((rd_T54 l1 x23_2).f0.f7) ((rd_T54 l1 x23_2).f0.f8) ((rd_T54 l1 x23_2).f0.f9) ((rd_T54 l1 x23_2).f0.f10) ((rd_T54 l1 x23_2).f0.f11) ((rd_T54 l1 x23_2).f0.f12) ((rd_T54 l1 x23_2).f0.f13) ((rd_T54 l1 x23_2).f1.f0) ((rd_T54 l1 x23_2).f1.f1) ((rd_T54 l1 x23_2).f1.f2) ((rd_T54 l1 x23_2).f2.f0) ((rd_T54 l1 x23_2).f2.f1) bq20) else ((impl_ValidWeighing.f k2 a0_0 a0_1 a0_2 a0_3 ((rd_T54 l1 x23_2).f0.f0) ((rd_T54 l1 x23_2).f0.f1) ((rd_T54 l1 x23_2).f0.f2) ((rd_T54 l1 x23_2).f0.f3) ((rd_T54 l1 x23_2).f0.f4) ((rd_T54 l1 x23_2).f0.f5) ((rd_T54 l1 x23_2).f0.f6) ((rd_T54 l1 x23_2).f0.f7) ((rd_T54 l1 x23_2).f0.f8) ((rd_T54 l1 x23_2).f0.f9) ((rd_T54 l1 x23_2).f0.f10) ((rd_T54 l1 x23_2).f0.f11) ((rd_T54 l1 x23_2).f0.f12) ((rd_T54 l1 x23_2).f0.f13)).bind fun t292 => (impl_ValidPlan.j2 k2 l1 t286 x23_2 l1 (l1.length : Int) x23_2 (!t292) a0_0 a0_1 a0_2 a0_3 ((rd_T54 l1 x23_2).f0.f0) ((rd_T54 l1 x23_2).f0.f1) ((rd_T54 l1 x23_2).f0.f2) ((rd_T54 l1 x23_2).f0.f3) ((rd_T54 l1 x23_2).f0.f4) ((rd_T54 l1 x23_2).f0.f5) ((rd_T54 l1 x23_2).f0.f6) ((rd_T54 l1 x23_2).f0.f7) ((rd_T54 l1 x23_2).f0.f8) ((rd_T54 l1 x23_2).f0.f9) ((rd_T54 l1 x23_2).f0.f10) ((rd_T54 l1 x23_2).f0.f11) ((rd_T54 l1 x23_2).f0.f12) ((rd_T54 l1 x23_2).f0.f13) ((rd_T54 l1 x23_2).f1.f0) ((rd_T54 l1 x23_2).f1.f1) ((rd_T54 l1 x23_2).f1.f2) ((rd_T54 l1 x23_2).f2.f0) ((rd_T54 l1 x23_2).f2.f1) bq20))))) = some r := by rw [← hbq20] at H; exact H
         have Nbq20 := ze.mk hbq20
         clear hbq20
         by_cases c21 : bq20 = true
         ·subst c21
          have H1 : (if (!(((rd_T54 l1 x23_2).f0.f0) == 0) || (!(((rd_T54 l1 x23_2).f0.f1) == 0) || (!(((rd_T54 l1 x23_2).f0.f2) == 0) || (!(((rd_T54 l1 x23_2).f0.f3) == 0) || (!(((rd_T54 l1 x23_2).f0.f4) == 0) || (!(((rd_T54 l1 x23_2).f0.f5) == 0) || (!(((rd_T54 l1 x23_2).f0.f6) == 0) || (!(((rd_T54 l1 x23_2).f0.f7) == 0) || (!(((rd_T54 l1 x23_2).f0.f8) == 0) || (!(((rd_T54 l1 x23_2).f0.f9) == 0) || (!(((rd_T54 l1 x23_2).f0.f10) == 0) || (!(((rd_T54 l1 x23_2).f0.f11) == 0) || (!(((rd_T54 l1 x23_2).f0.f12) == 0) || (!(((rd_T54 l1 x23_2).f0.f13) == 0))))))))))))))) = true then (some false) else (if (!(((rd_T54 l1 x23_2).f1.f0) == 0) || (!(((rd_T54 l1 x23_2).f1.f1) == 0) || (!(((rd_T54 l1 x23_2).f1.f2) == 0)))) = true then (some false) else ((impl_Case_47.f k2 t286 ((rd_T54 l1 x23_2).f2.f0) ((rd_T54 l1 x23_2).f2.f1)).bind fun t291 => (if t291 = true then (impl_ValidPlan.l0 k2 l1 t286 l1 (l1.length : Int) (wrap64 (x23_2 + 1)) a0_0 a0_1 a0_2 a0_3) else (some false))))) = some r := by rw [if_pos rfl] at H; exact H
          clear H
          have H := H1
          clear H1
          by_cases c22 : (!(((rd_T54 l1 x23_2).f0.f0) == 0) || (!(((rd_T54 l1 x23_2).f0.f1) == 0) || (!(((rd_T54 l1 x23_2).f0.f2) == 0) || (!(((rd_T54 l1 x23_2).f0.f3) == 0) || (!(((rd_T54 l1 x23_2).f0.f4) == 0) || (!(((rd_T54 l1 x23_2).f0.f5) == 0) || (!(((rd_T54 l1 x23_2).f0.f6) == 0) || (!(((rd_T54 l1 x23_2).f0.f7) == 0) || (!(((rd_T54 l1 x23_2).f0.f8) == 0) || (!(((rd_T54 l1 x23_2).f0.f9) == 0) || (!(((rd_T54 l1 x23_2).f0.f10) == 0) || (!(((rd_T54 l1 x23_2).f0.f11) == 0) || (!(((rd_T54 l1 x23_2).f0.f12) == 0) || (!(((rd_T54 l1 x23_2).f0.f13) == 0))))))))))))))) = true
          ·rw [if_pos c22] at H
           have c22b0 : (!(((rd_T54 l1 x23_2).f0.f0) == 0) || (!(((rd_T54 l1 x23_2).f0.f1) == 0) || (!(((rd_T54 l1 x23_2).f0.f2) == 0) || (!(((rd_T54 l1 x23_2).f0.f3) == 0) || (!(((rd_T54 l1 x23_2).f0.f4) == 0) || (!(((rd_T54 l1 x23_2).f0.f5) == 0) || (!(((rd_T54 l1 x23_2).f0.f6) == 0) || (!(((rd_T54 l1 x23_2).f0.f7) == 0) || (!(((rd_T54 l1 x23_2).f0.f8) == 0) || (!(((rd_T54 l1 x23_2).f0.f9) == 0) || (!(((rd_T54 l1 x23_2).f0.f10) == 0) || (!(((rd_T54 l1 x23_2).f0.f11) == 0) || (!(((rd_T54 l1 x23_2).f0.f12) == 0) || (!(((rd_T54 l1 x23_2).f0.f13) == 0))))))))))))))) = true := c22
           clear c22
           obtain rfl := Option.some.inj H
           have p289 : 0 ≤ (x23_2 : Int) := of_decide_eq_true (by first | (with_reducible assumption) | assumption)
           have q289 : x23_2 < (l1.length : Int) := of_decide_eq_true (by first | (with_reducible assumption) | assumption)
           obtain ⟨ad289, e289, hx289_0, hx289_1, hx289_2, hx289_3, hx289_4, hx289_5, hx289_6, hx289_7, hx289_8, hx289_9, hx289_10, hx289_11, hx289_12, hx289_13, hx289_14, hx289_15, hx289_16, hx289_17, hx289_18, hx289_19⟩ := at_T54 HR1.out x23_2 p289 q289
           (try rw [← Nbq20.out] at hx289_18)
           (try rw [← Nbq20.out] at hx289_19)
           cases e289
           replace hx289_0 := bc HB.out hx289_0
           replace hx289_1 := bc HB.out hx289_1
           replace hx289_2 := bc HB.out hx289_2
           replace hx289_3 := bc HB.out hx289_3
           replace hx289_4 := bc HB.out hx289_4
           replace hx289_5 := bc HB.out hx289_5
           replace hx289_6 := bc HB.out hx289_6
           replace hx289_7 := bc HB.out hx289_7
           replace hx289_8 := bc HB.out hx289_8
           replace hx289_9 := bc HB.out hx289_9
           replace hx289_10 := bc HB.out hx289_10
           replace hx289_11 := bc HB.out hx289_11
           replace hx289_12 := bc HB.out hx289_12
           replace hx289_13 := bc HB.out hx289_13
           replace hx289_14 := bc HB.out hx289_14
           replace hx289_15 := bc HB.out hx289_15
           replace hx289_16 := bc HB.out hx289_16
           replace hx289_17 := bc HB.out hx289_17
           replace hx289_18 := bc HB.out hx289_18
           replace hx289_19 := bc HB.out hx289_19
           replace p289 := eq_true p289
           replace q289 := eq_true q289
           go_wp2_with (first | ((with_reducible refine zn (N := 27) rfl ?_); refine load20_event (T := 54) (p := ad289.add ((x23_2).toNat * 20)) (x := ?lx0) ?la0 ?lb0 ?lc0 hu54 ?ld0 ?le0 hx289_0 hx289_1 hx289_2 hx289_3 hx289_4 hx289_5 hx289_6 hx289_7 hx289_8 hx289_9 hx289_10 hx289_11 hx289_12 hx289_13 hx289_14 hx289_15 hx289_16 hx289_17 hx289_18 hx289_19 ?_; (case la0 => rfl); (case lb0 => rfl); (case lc0 => rfl); (case ld0 => rfl); (case le0 => kernel_rfl)) | ((with_reducible refine zga (t := 54) (p := 7) rfl ?_); refine store20_event (g := gb290) (T := 54) (t := 54) (cur := #[.int .i8 0, .int .i8 0, .int .i8 0, .int .i8 0, .int .i8 0, .int .i8 0, .int .i8 0, .int .i8 0, .int .i8 0, .int .i8 0, .int .i8 0, .int .i8 0, .int .i8 0, .int .i8 0, .int .i16 0, .int .i16 0, .int .i16 0, .int .i8 0, .bool false, .bool false]) (x := ?sx0) (y := ?sy0) (c0 := .int .i8 ((rd_T54 l1 x23_2).f0.f0)) (c1 := .int .i8 ((rd_T54 l1 x23_2).f0.f1)) (c2 := .int .i8 ((rd_T54 l1 x23_2).f0.f2)) (c3 := .int .i8 ((rd_T54 l1 x23_2).f0.f3)) (c4 := .int .i8 ((rd_T54 l1 x23_2).f0.f4)) (c5 := .int .i8 ((rd_T54 l1 x23_2).f0.f5)) (c6 := .int .i8 ((rd_T54 l1 x23_2).f0.f6)) (c7 := .int .i8 ((rd_T54 l1 x23_2).f0.f7)) (c8 := .int .i8 ((rd_T54 l1 x23_2).f0.f8)) (c9 := .int .i8 ((rd_T54 l1 x23_2).f0.f9)) (c10 := .int .i8 ((rd_T54 l1 x23_2).f0.f10)) (c11 := .int .i8 ((rd_T54 l1 x23_2).f0.f11)) (c12 := .int .i8 ((rd_T54 l1 x23_2).f0.f12)) (c13 := .int .i8 ((rd_T54 l1 x23_2).f0.f13)) (c14 := .int .i16 ((rd_T54 l1 x23_2).f1.f0)) (c15 := .int .i16 ((rd_T54 l1 x23_2).f1.f1)) (c16 := .int .i16 ((rd_T54 l1 x23_2).f1.f2)) (c17 := .int .i8 ((rd_T54 l1 x23_2).f2.f0)) (c18 := .bool ((rd_T54 l1 x23_2).f2.f1)) (c19 := .bool true) ?sa0 ?sb0 ?sc0 ?sd0 ?se0 ?sf0 BK290.out rfl ?sg0 ?_; (case sa0 => rfl); (case sb0 => rfl); (case sc0 => rfl); (case sd0 => rfl); (case se0 => rfl); (case sf0 => kernel_rfl); (case sg0 => rfl)) | ((with_reducible refine zn (N := 7) rfl ?_); refine zm ?hg (N := 7) ?hd (cs := #[.int .i8 0, .int .i8 0, .int .i8 0, .int .i8 0, .int .i8 0, .int .i8 0, .int .i8 0, .int .i8 0, .int .i8 0, .int .i8 0, .int .i8 0, .int .i8 0, .int .i8 0, .int .i8 0, .int .i16 0, .int .i16 0, .int .i16 0, .int .i8 0, .bool false, .bool false]) (t := 54) ?hr ?_; (case hd => rfl); (case hg => rfl); (case hr => first | (go_simp; done) | (go_simp; rfl)); intro gb290 hg w23 hbox hb; have n0_ := ze.mk (Kd.R_below (by (with_reducible repeat (first | apply Kd.R_alloc | apply Kd.R_drewN | apply Kd.R_drew)); exact HO_5.out) hb); have n1_ := ze.mk (zl (g := gb282) (o := .cells #[.int .i8 a0_0, .int .i8 a0_1, .bool a0_2, .bool a0_3] 29 (0, 0)) (by (with_reducible repeat (first | refine zh ?_ _ | refine zi ?_ | refine zg ?_ _)); exact BK282.out) hb); have n2_ := ze.mk (zk (by repeat (first | (with_reducible first | exact HB.out | apply zc | apply za | apply zb | refine zf ?_ GE282.out) | exact HB.out)) hb); have n3_ := ze.mk (hbox); have n4_ := ze.mk ((by rw [hg]; exact (zj (by repeat (first | (with_reducible first | exact HB.out | apply zc | apply za | apply zb | refine zf ?_ GE282.out) | exact HB.out))) : w.heap.size ≤ gb290)); have n5_ := ze.mk ((by rw [hg]; exact (zj (by repeat (first | (with_reducible first | exact HB.out | apply zc | apply za | apply zb | refine zf ?_ GE282.out) | exact HB.out))) : w.heap.size ≤ gb290)); have n6_ := ze.mk ((by rw [hg]; exact Nat.ne_of_lt (zu (g := gb282) (o := .cells #[.int .i8 a0_0, .int .i8 a0_1, .bool a0_2, .bool a0_3] 29 (0, 0)) (by (with_reducible repeat (first | refine zh ?_ _ | refine zi ?_ | refine zg ?_ _)); exact BK282.out)) : gb282 ≠ gb290)); have n7_ := ze.mk ((by rw [hg]; exact Nat.ne_of_gt (zu (g := gb282) (o := .cells #[.int .i8 a0_0, .int .i8 a0_1, .bool a0_2, .bool a0_3] 29 (0, 0)) (by (with_reducible repeat (first | refine zh ?_ _ | refine zi ?_ | refine zg ?_ _)); exact BK282.out)) : gb290 ≠ gb282)); clear HO_5; clear BK282; clear HB; have HO_5 := n0_; have BK282 := n1_; have HB := n2_; have BK290 := n3_; have GW290 := n4_; have GE290 := n5_; have NB282_290 := n6_; have NB290_282 := n7_; clear n0_ n1_ n2_ n3_ n4_ n5_ n6_ n7_; clear hb hbox hg; have hnb24 := NB290_282.out; have hnc24 := NB282_290.out; have hcz25_0 := cz BK290.out 0 rfl; have hcz25_1 := cz BK290.out 1 rfl; have hcz25_2 := cz BK290.out 2 rfl; have hcz25_3 := cz BK290.out 3 rfl; have hcz25_4 := cz BK290.out 4 rfl; have hcz25_5 := cz BK290.out 5 rfl; have hcz25_6 := cz BK290.out 6 rfl; have hcz25_7 := cz BK290.out 7 rfl; have hcz25_8 := cz BK290.out 8 rfl; have hcz25_9 := cz BK290.out 9 rfl; have hcz25_10 := cz BK290.out 10 rfl; have hcz25_11 := cz BK290.out 11 rfl; have hcz25_12 := cz BK290.out 12 rfl; have hcz25_13 := cz BK290.out 13 rfl; have hcz25_14 := cz BK290.out 14 rfl; have hcz25_15 := cz BK290.out 15 rfl; have hcz25_16 := cz BK290.out 16 rfl; have hcz25_17 := cz BK290.out 17 rfl; have hcz25_18 := cz BK290.out 18 rfl; have hcz25_19 := cz BK290.out 19 rfl; have hfz25_0 := zd BK290.out 0; have hfz25_1 := zd BK290.out 1; have hfz25_2 := zd BK290.out 2; have hfz25_3 := zd BK290.out 3; have hfz25_4 := zd BK290.out 4; have hfz25_5 := zd BK290.out 5; have hfz25_6 := zd BK290.out 6; have hfz25_7 := zd BK290.out 7; have hfz25_8 := zd BK290.out 8; have hfz25_9 := zd BK290.out 9; have hfz25_10 := zd BK290.out 10; have hfz25_11 := zd BK290.out 11; have hfz25_12 := zd BK290.out 12; have hfz25_13 := zd BK290.out 13; have hfz25_14 := zd BK290.out 14; have hfz25_15 := zd BK290.out 15; have hfz25_16 := zd BK290.out 16; have hfz25_17 := zd BK290.out 17; have hfz25_18 := zd BK290.out 18; have hfz25_19 := zd BK290.out 19))
           go_ret
           exact ⟨by first | rfl | (simp [errW_none, errW_some] <;> rfl) | (simp [*, errW_none, errW_some] <;> rfl), by repeat (first | (with_reducible first | exact HB.out | apply zc | apply za | apply zb | refine zf ?_ GE282.out | refine zf ?_ GE290.out) | exact HB.out)⟩
          ·rw [if_neg c22] at H
           have c22b0 : (!(((rd_T54 l1 x23_2).f0.f0) == 0) || (!(((rd_T54 l1 x23_2).f0.f1) == 0) || (!(((rd_T54 l1 x23_2).f0.f2) == 0) || (!(((rd_T54 l1 x23_2).f0.f3) == 0) || (!(((rd_T54 l1 x23_2).f0.f4) == 0) || (!(((rd_T54 l1 x23_2).f0.f5) == 0) || (!(((rd_T54 l1 x23_2).f0.f6) == 0) || (!(((rd_T54 l1 x23_2).f0.f7) == 0) || (!(((rd_T54 l1 x23_2).f0.f8) == 0) || (!(((rd_T54 l1 x23_2).f0.f9) == 0) || (!(((rd_T54 l1 x23_2).f0.f10) == 0) || (!(((rd_T54 l1 x23_2).f0.f11) == 0) || (!(((rd_T54 l1 x23_2).f0.f12) == 0) || (!(((rd_T54 l1 x23_2).f0.f13) == 0))))))))))))))) = false := by simpa using c22
           clear c22
           by_cases c26 : (!(((rd_T54 l1 x23_2).f1.f0) == 0) || (!(((rd_T54 l1 x23_2).f1.f1) == 0) || (!(((rd_T54 l1 x23_2).f1.f2) == 0)))) = true
           ·rw [if_pos c26] at H
            have c26b0 : (!(((rd_T54 l1 x23_2).f1.f0) == 0) || (!(((rd_T54 l1 x23_2).f1.f1) == 0) || (!(((rd_T54 l1 x23_2).f1.f2) == 0)))) = true := c26
            clear c26
            obtain rfl := Option.some.inj H
            have p289 : 0 ≤ (x23_2 : Int) := of_decide_eq_true (by first | (with_reducible assumption) | assumption)
            have q289 : x23_2 < (l1.length : Int) := of_decide_eq_true (by first | (with_reducible assumption) | assumption)
            obtain ⟨ad289, e289, hx289_0, hx289_1, hx289_2, hx289_3, hx289_4, hx289_5, hx289_6, hx289_7, hx289_8, hx289_9, hx289_10, hx289_11, hx289_12, hx289_13, hx289_14, hx289_15, hx289_16, hx289_17, hx289_18, hx289_19⟩ := at_T54 HR1.out x23_2 p289 q289
            (try rw [← Nbq20.out] at hx289_18)
            (try rw [← Nbq20.out] at hx289_19)
            cases e289
            replace hx289_0 := bc HB.out hx289_0
            replace hx289_1 := bc HB.out hx289_1
            replace hx289_2 := bc HB.out hx289_2
            replace hx289_3 := bc HB.out hx289_3
            replace hx289_4 := bc HB.out hx289_4
            replace hx289_5 := bc HB.out hx289_5
            replace hx289_6 := bc HB.out hx289_6
            replace hx289_7 := bc HB.out hx289_7
            replace hx289_8 := bc HB.out hx289_8
            replace hx289_9 := bc HB.out hx289_9
            replace hx289_10 := bc HB.out hx289_10
            replace hx289_11 := bc HB.out hx289_11
            replace hx289_12 := bc HB.out hx289_12
            replace hx289_13 := bc HB.out hx289_13
            replace hx289_14 := bc HB.out hx289_14
            replace hx289_15 := bc HB.out hx289_15
            replace hx289_16 := bc HB.out hx289_16
            replace hx289_17 := bc HB.out hx289_17
            replace hx289_18 := bc HB.out hx289_18
            replace hx289_19 := bc HB.out hx289_19
            replace p289 := eq_true p289
            replace q289 := eq_true q289
            go_wp2_with (first | ((with_reducible refine zn (N := 27) rfl ?_); refine load20_event (T := 54) (p := ad289.add ((x23_2).toNat * 20)) (x := ?lx1) ?la1 ?lb1 ?lc1 hu54 ?ld1 ?le1 hx289_0 hx289_1 hx289_2 hx289_3 hx289_4 hx289_5 hx289_6 hx289_7 hx289_8 hx289_9 hx289_10 hx289_11 hx289_12 hx289_13 hx289_14 hx289_15 hx289_16 hx289_17 hx289_18 hx289_19 ?_; (case la1 => rfl); (case lb1 => rfl); (case lc1 => rfl); (case ld1 => rfl); (case le1 => kernel_rfl)) | ((with_reducible refine zga (t := 54) (p := 7) rfl ?_); refine store20_event (g := gb290) (T := 54) (t := 54) (cur := #[.int .i8 0, .int .i8 0, .int .i8 0, .int .i8 0, .int .i8 0, .int .i8 0, .int .i8 0, .int .i8 0, .int .i8 0, .int .i8 0, .int .i8 0, .int .i8 0, .int .i8 0, .int .i8 0, .int .i16 0, .int .i16 0, .int .i16 0, .int .i8 0, .bool false, .bool false]) (x := ?sx1) (y := ?sy1) (c0 := .int .i8 ((rd_T54 l1 x23_2).f0.f0)) (c1 := .int .i8 ((rd_T54 l1 x23_2).f0.f1)) (c2 := .int .i8 ((rd_T54 l1 x23_2).f0.f2)) (c3 := .int .i8 ((rd_T54 l1 x23_2).f0.f3)) (c4 := .int .i8 ((rd_T54 l1 x23_2).f0.f4)) (c5 := .int .i8 ((rd_T54 l1 x23_2).f0.f5)) (c6 := .int .i8 ((rd_T54 l1 x23_2).f0.f6)) (c7 := .int .i8 ((rd_T54 l1 x23_2).f0.f7)) (c8 := .int .i8 ((rd_T54 l1 x23_2).f0.f8)) (c9 := .int .i8 ((rd_T54 l1 x23_2).f0.f9)) (c10 := .int .i8 ((rd_T54 l1 x23_2).f0.f10)) (c11 := .int .i8 ((rd_T54 l1 x23_2).f0.f11)) (c12 := .int .i8 ((rd_T54 l1 x23_2).f0.f12)) (c13 := .int .i8 ((rd_T54 l1 x23_2).f0.f13)) (c14 := .int .i16 ((rd_T54 l1 x23_2).f1.f0)) (c15 := .int .i16 ((rd_T54 l1 x23_2).f1.f1)) (c16 := .int .i16 ((rd_T54 l1 x23_2).f1.f2)) (c17 := .int .i8 ((rd_T54 l1 x23_2).f2.f0)) (c18 := .bool ((rd_T54 l1 x23_2).f2.f1)) (c19 := .bool true) ?sa1 ?sb1 ?sc1 ?sd1 ?se1 ?sf1 BK290.out rfl ?sg1 ?_; (case sa1 => rfl); (case sb1 => rfl); (case sc1 => rfl); (case sd1 => rfl); (case se1 => rfl); (case sf1 => kernel_rfl); (case sg1 => rfl)) | ((with_reducible refine zn (N := 7) rfl ?_); refine zm ?hg (N := 7) ?hd (cs := #[.int .i8 0, .int .i8 0, .int .i8 0, .int .i8 0, .int .i8 0, .int .i8 0, .int .i8 0, .int .i8 0, .int .i8 0, .int .i8 0, .int .i8 0, .int .i8 0, .int .i8 0, .int .i8 0, .int .i16 0, .int .i16 0, .int .i16 0, .int .i8 0, .bool false, .bool false]) (t := 54) ?hr ?_; (case hd => rfl); (case hg => rfl); (case hr => first | (go_simp; done) | (go_simp; rfl)); intro gb290 hg w27 hbox hb; have n0_ := ze.mk (Kd.R_below (by (with_reducible repeat (first | apply Kd.R_alloc | apply Kd.R_drewN | apply Kd.R_drew)); exact HO_5.out) hb); have n1_ := ze.mk (zl (g := gb282) (o := .cells #[.int .i8 a0_0, .int .i8 a0_1, .bool a0_2, .bool a0_3] 29 (0, 0)) (by (with_reducible repeat (first | refine zh ?_ _ | refine zi ?_ | refine zg ?_ _)); exact BK282.out) hb); have n2_ := ze.mk (zk (by repeat (first | (with_reducible first | exact HB.out | apply zc | apply za | apply zb | refine zf ?_ GE282.out) | exact HB.out)) hb); have n3_ := ze.mk (hbox); have n4_ := ze.mk ((by rw [hg]; exact (zj (by repeat (first | (with_reducible first | exact HB.out | apply zc | apply za | apply zb | refine zf ?_ GE282.out) | exact HB.out))) : w.heap.size ≤ gb290)); have n5_ := ze.mk ((by rw [hg]; exact (zj (by repeat (first | (with_reducible first | exact HB.out | apply zc | apply za | apply zb | refine zf ?_ GE282.out) | exact HB.out))) : w.heap.size ≤ gb290)); have n6_ := ze.mk ((by rw [hg]; exact Nat.ne_of_lt (zu (g := gb282) (o := .cells #[.int .i8 a0_0, .int .i8 a0_1, .bool a0_2, .bool a0_3] 29 (0, 0)) (by (with_reducible repeat (first | refine zh ?_ _ | refine zi ?_ | refine zg ?_ _)); exact BK282.out)) : gb282 ≠ gb290)); have n7_ := ze.mk ((by rw [hg]; exact Nat.ne_of_gt (zu (g := gb282) (o := .cells #[.int .i8 a0_0, .int .i8 a0_1, .bool a0_2, .bool a0_3] 29 (0, 0)) (by (with_reducible repeat (first | refine zh ?_ _ | refine zi ?_ | refine zg ?_ _)); exact BK282.out)) : gb290 ≠ gb282)); clear HO_5; clear BK282; clear HB; have HO_5 := n0_; have BK282 := n1_; have HB := n2_; have BK290 := n3_; have GW290 := n4_; have GE290 := n5_; have NB282_290 := n6_; have NB290_282 := n7_; clear n0_ n1_ n2_ n3_ n4_ n5_ n6_ n7_; clear hb hbox hg; have hnb28 := NB290_282.out; have hnc28 := NB282_290.out; have hcz29_0 := cz BK290.out 0 rfl; have hcz29_1 := cz BK290.out 1 rfl; have hcz29_2 := cz BK290.out 2 rfl; have hcz29_3 := cz BK290.out 3 rfl; have hcz29_4 := cz BK290.out 4 rfl; have hcz29_5 := cz BK290.out 5 rfl; have hcz29_6 := cz BK290.out 6 rfl; have hcz29_7 := cz BK290.out 7 rfl; have hcz29_8 := cz BK290.out 8 rfl; have hcz29_9 := cz BK290.out 9 rfl; have hcz29_10 := cz BK290.out 10 rfl; have hcz29_11 := cz BK290.out 11 rfl; have hcz29_12 := cz BK290.out 12 rfl; have hcz29_13 := cz BK290.out 13 rfl; have hcz29_14 := cz BK290.out 14 rfl; have hcz29_15 := cz BK290.out 15 rfl; have hcz29_16 := cz BK290.out 16 rfl; have hcz29_17 := cz BK290.out 17 rfl; have hcz29_18 := cz BK290.out 18 rfl; have hcz29_19 := cz BK290.out 19 rfl; have hfz29_0 := zd BK290.out 0; have hfz29_1 := zd BK290.out 1; have hfz29_2 := zd BK290.out 2; have hfz29_3 := zd BK290.out 3; have hfz29_4 := zd BK290.out 4; have hfz29_5 := zd BK290.out 5; have hfz29_6 := zd BK290.out 6; have hfz29_7 := zd BK290.out 7; have hfz29_8 := zd BK290.out 8; have hfz29_9 := zd BK290.out 9; have hfz29_10 := zd BK290.out 10; have hfz29_11 := zd BK290.out 11; have hfz29_12 := zd BK290.out 12; have hfz29_13 := zd BK290.out 13; have hfz29_14 := zd BK290.out 14; have hfz29_15 := zd BK290.out 15; have hfz29_16 := zd BK290.out 16; have hfz29_17 := zd BK290.out 17; have hfz29_18 := zd BK290.out 18; have hfz29_19 := zd BK290.out 19))
            go_ret
            exact ⟨by first | rfl | (simp [errW_none, errW_some] <;> rfl) | (simp [*, errW_none, errW_some] <;> rfl), by repeat (first | (with_reducible first | exact HB.out | apply zc | apply za | apply zb | refine zf ?_ GE282.out | refine zf ?_ GE290.out) | exact HB.out)⟩
           ·rw [if_neg c26] at H
            have c26b0 : (!(((rd_T54 l1 x23_2).f1.f0) == 0) || (!(((rd_T54 l1 x23_2).f1.f1) == 0) || (!(((rd_T54 l1 x23_2).f1.f2) == 0)))) = false := by simpa using c26
            clear c26
            replace H := Option.bind_eq_some_iff.mp H
            obtain ⟨t291, A300, H⟩ := H
            replace H : (if t291 = true then (impl_ValidPlan.l0 k2 l1 t286 l1 (l1.length : Int) (wrap64 (x23_2 + 1)) a0_0 a0_1 a0_2 a0_3) else (some false)) = some r := H
            have A30 := ze.mk A300
            clear A300
            by_cases c31 : t291 = true
            ·subst c31
             have H1 : (impl_ValidPlan.l0 k2 l1 t286 l1 (l1.length : Int) (wrap64 (x23_2 + 1)) a0_0 a0_1 a0_2 a0_3) = some r := by rw [if_pos rfl] at H; exact H
             clear H
             have H := H1
             clear H1
             have H' := ze.mk H
             clear H
             have p289 : 0 ≤ (x23_2 : Int) := of_decide_eq_true (by first | (with_reducible assumption) | assumption)
             have q289 : x23_2 < (l1.length : Int) := of_decide_eq_true (by first | (with_reducible assumption) | assumption)
             obtain ⟨ad289, e289, hx289_0, hx289_1, hx289_2, hx289_3, hx289_4, hx289_5, hx289_6, hx289_7, hx289_8, hx289_9, hx289_10, hx289_11, hx289_12, hx289_13, hx289_14, hx289_15, hx289_16, hx289_17, hx289_18, hx289_19⟩ := at_T54 HR1.out x23_2 p289 q289
             (try rw [← Nbq20.out] at hx289_18)
             (try rw [← Nbq20.out] at hx289_19)
             cases e289
             replace hx289_0 := bc HB.out hx289_0
             replace hx289_1 := bc HB.out hx289_1
             replace hx289_2 := bc HB.out hx289_2
             replace hx289_3 := bc HB.out hx289_3
             replace hx289_4 := bc HB.out hx289_4
             replace hx289_5 := bc HB.out hx289_5
             replace hx289_6 := bc HB.out hx289_6
             replace hx289_7 := bc HB.out hx289_7
             replace hx289_8 := bc HB.out hx289_8
             replace hx289_9 := bc HB.out hx289_9
             replace hx289_10 := bc HB.out hx289_10
             replace hx289_11 := bc HB.out hx289_11
             replace hx289_12 := bc HB.out hx289_12
             replace hx289_13 := bc HB.out hx289_13
             replace hx289_14 := bc HB.out hx289_14
             replace hx289_15 := bc HB.out hx289_15
             replace hx289_16 := bc HB.out hx289_16
             replace hx289_17 := bc HB.out hx289_17
             replace hx289_18 := bc HB.out hx289_18
             replace hx289_19 := bc HB.out hx289_19
             replace p289 := eq_true p289
             replace q289 := eq_true q289
             go_wp2_with (first | ((with_reducible refine zn (N := 27) rfl ?_); refine load20_event (T := 54) (p := ad289.add ((x23_2).toNat * 20)) (x := ?lx2) ?la2 ?lb2 ?lc2 hu54 ?ld2 ?le2 hx289_0 hx289_1 hx289_2 hx289_3 hx289_4 hx289_5 hx289_6 hx289_7 hx289_8 hx289_9 hx289_10 hx289_11 hx289_12 hx289_13 hx289_14 hx289_15 hx289_16 hx289_17 hx289_18 hx289_19 ?_; (case la2 => rfl); (case lb2 => rfl); (case lc2 => rfl); (case ld2 => rfl); (case le2 => kernel_rfl)) | ((with_reducible refine zga (t := 54) (p := 7) rfl ?_); refine store20_event (g := gb290) (T := 54) (t := 54) (cur := #[.int .i8 0, .int .i8 0, .int .i8 0, .int .i8 0, .int .i8 0, .int .i8 0, .int .i8 0, .int .i8 0, .int .i8 0, .int .i8 0, .int .i8 0, .int .i8 0, .int .i8 0, .int .i8 0, .int .i16 0, .int .i16 0, .int .i16 0, .int .i8 0, .bool false, .bool false]) (x := ?sx2) (y := ?sy2) (c0 := .int .i8 ((rd_T54 l1 x23_2).f0.f0)) (c1 := .int .i8 ((rd_T54 l1 x23_2).f0.f1)) (c2 := .int .i8 ((rd_T54 l1 x23_2).f0.f2)) (c3 := .int .i8 ((rd_T54 l1 x23_2).f0.f3)) (c4 := .int .i8 ((rd_T54 l1 x23_2).f0.f4)) (c5 := .int .i8 ((rd_T54 l1 x23_2).f0.f5)) (c6 := .int .i8 ((rd_T54 l1 x23_2).f0.f6)) (c7 := .int .i8 ((rd_T54 l1 x23_2).f0.f7)) (c8 := .int .i8 ((rd_T54 l1 x23_2).f0.f8)) (c9 := .int .i8 ((rd_T54 l1 x23_2).f0.f9)) (c10 := .int .i8 ((rd_T54 l1 x23_2).f0.f10)) (c11 := .int .i8 ((rd_T54 l1 x23_2).f0.f11)) (c12 := .int .i8 ((rd_T54 l1 x23_2).f0.f12)) (c13 := .int .i8 ((rd_T54 l1 x23_2).f0.f13)) (c14 := .int .i16 ((rd_T54 l1 x23_2).f1.f0)) (c15 := .int .i16 ((rd_T54 l1 x23_2).f1.f1)) (c16 := .int .i16 ((rd_T54 l1 x23_2).f1.f2)) (c17 := .int .i8 ((rd_T54 l1 x23_2).f2.f0)) (c18 := .bool ((rd_T54 l1 x23_2).f2.f1)) (c19 := .bool true) ?sa2 ?sb2 ?sc2 ?sd2 ?se2 ?sf2 BK290.out rfl ?sg2 ?_; (case sa2 => rfl); (case sb2 => rfl); (case sc2 => rfl); (case sd2 => rfl); (case se2 => rfl); (case sf2 => kernel_rfl); (case sg2 => rfl)) | ((with_reducible refine zn (N := 7) rfl ?_); refine zm ?hg (N := 7) ?hd (cs := #[.int .i8 0, .int .i8 0, .int .i8 0, .int .i8 0, .int .i8 0, .int .i8 0, .int .i8 0, .int .i8 0, .int .i8 0, .int .i8 0, .int .i8 0, .int .i8 0, .int .i8 0, .int .i8 0, .int .i16 0, .int .i16 0, .int .i16 0, .int .i8 0, .bool false, .bool false]) (t := 54) ?hr ?_; (case hd => rfl); (case hg => rfl); (case hr => first | (go_simp; done) | (go_simp; rfl)); intro gb290 hg w32 hbox hb; have n0_ := ze.mk (Kd.R_below (by (with_reducible repeat (first | apply Kd.R_alloc | apply Kd.R_drewN | apply Kd.R_drew)); exact HO_5.out) hb); have n1_ := ze.mk (zl (g := gb282) (o := .cells #[.int .i8 a0_0, .int .i8 a0_1, .bool a0_2, .bool a0_3] 29 (0, 0)) (by (with_reducible repeat (first | refine zh ?_ _ | refine zi ?_ | refine zg ?_ _)); exact BK282.out) hb); have n2_ := ze.mk (zk (by repeat (first | (with_reducible first | exact HB.out | apply zc | apply za | apply zb | refine zf ?_ GE282.out) | exact HB.out)) hb); have n3_ := ze.mk (hbox); have n4_ := ze.mk ((by rw [hg]; exact (zj (by repeat (first | (with_reducible first | exact HB.out | apply zc | apply za | apply zb | refine zf ?_ GE282.out) | exact HB.out))) : w.heap.size ≤ gb290)); have n5_ := ze.mk ((by rw [hg]; exact (zj (by repeat (first | (with_reducible first | exact HB.out | apply zc | apply za | apply zb | refine zf ?_ GE282.out) | exact HB.out))) : w.heap.size ≤ gb290)); have n6_ := ze.mk ((by rw [hg]; exact Nat.ne_of_lt (zu (g := gb282) (o := .cells #[.int .i8 a0_0, .int .i8 a0_1, .bool a0_2, .bool a0_3] 29 (0, 0)) (by (with_reducible repeat (first | refine zh ?_ _ | refine zi ?_ | refine zg ?_ _)); exact BK282.out)) : gb282 ≠ gb290)); have n7_ := ze.mk ((by rw [hg]; exact Nat.ne_of_gt (zu (g := gb282) (o := .cells #[.int .i8 a0_0, .int .i8 a0_1, .bool a0_2, .bool a0_3] 29 (0, 0)) (by (with_reducible repeat (first | refine zh ?_ _ | refine zi ?_ | refine zg ?_ _)); exact BK282.out)) : gb290 ≠ gb282)); clear HO_5; clear BK282; clear HB; have HO_5 := n0_; have BK282 := n1_; have HB := n2_; have BK290 := n3_; have GW290 := n4_; have GE290 := n5_; have NB282_290 := n6_; have NB290_282 := n7_; clear n0_ n1_ n2_ n3_ n4_ n5_ n6_ n7_; clear hb hbox hg; have hnb33 := NB290_282.out; have hnc33 := NB282_290.out; have hcz34_0 := cz BK290.out 0 rfl; have hcz34_1 := cz BK290.out 1 rfl; have hcz34_2 := cz BK290.out 2 rfl; have hcz34_3 := cz BK290.out 3 rfl; have hcz34_4 := cz BK290.out 4 rfl; have hcz34_5 := cz BK290.out 5 rfl; have hcz34_6 := cz BK290.out 6 rfl; have hcz34_7 := cz BK290.out 7 rfl; have hcz34_8 := cz BK290.out 8 rfl; have hcz34_9 := cz BK290.out 9 rfl; have hcz34_10 := cz BK290.out 10 rfl; have hcz34_11 := cz BK290.out 11 rfl; have hcz34_12 := cz BK290.out 12 rfl; have hcz34_13 := cz BK290.out 13 rfl; have hcz34_14 := cz BK290.out 14 rfl; have hcz34_15 := cz BK290.out 15 rfl; have hcz34_16 := cz BK290.out 16 rfl; have hcz34_17 := cz BK290.out 17 rfl; have hcz34_18 := cz BK290.out 18 rfl; have hcz34_19 := cz BK290.out 19 rfl; have hfz34_0 := zd BK290.out 0; have hfz34_1 := zd BK290.out 1; have hfz34_2 := zd BK290.out 2; have hfz34_3 := zd BK290.out 3; have hfz34_4 := zd BK290.out 4; have hfz34_5 := zd BK290.out 5; have hfz34_6 := zd BK290.out 6; have hfz34_7 := zd BK290.out 7; have hfz34_8 := zd BK290.out 8; have hfz34_9 := zd BK290.out 9; have hfz34_10 := zd BK290.out 10; have hfz34_11 := zd BK290.out 11; have hfz34_12 := zd BK290.out 12; have hfz34_13 := zd BK290.out 13; have hfz34_14 := zd BK290.out 14; have hfz34_15 := zd BK290.out 15; have hfz34_16 := zd BK290.out 16; have hfz34_17 := zd BK290.out 17; have hfz34_18 := zd BK290.out 18; have hfz34_19 := zd BK290.out 19; obtain ⟨Ao35, co35, eo35⟩ := Kd.R_slice HO_5.out; subst eo35) | (go_at_call 47; (with_reducible refine (impl_Case_47.calls k2 _ _ t286 ((rd_T54 l1 x23_2).f2.f0) ((rd_T54 l1 x23_2).f2.f1) true _ ?side1 ?side2 A30.out).mono ?_); (case side1 => refine (Kd.R_reads' (e := 46) (base := w.heap.size) (ok := fun k_ => True) (n := t286.length) (c := co35) ?_).2.2; exact (by (with_reducible repeat (first | apply Kd.R_alloc | apply Kd.R_drewN | apply Kd.R_drew)); exact (Kd.R_mono (Kd.R_far (p := ⟨gb290, 19, none⟩) (Kd.R_far (p := ⟨gb290, 18, none⟩) (Kd.R_far (p := ⟨gb290, 17, none⟩) (Kd.R_far (p := ⟨gb290, 16, none⟩) (Kd.R_far (p := ⟨gb290, 15, none⟩) (Kd.R_far (p := ⟨gb290, 14, none⟩) (Kd.R_far (p := ⟨gb290, 13, none⟩) (Kd.R_far (p := ⟨gb290, 12, none⟩) (Kd.R_far (p := ⟨gb290, 11, none⟩) (Kd.R_far (p := ⟨gb290, 10, none⟩) (Kd.R_far (p := ⟨gb290, 9, none⟩) (Kd.R_far (p := ⟨gb290, 8, none⟩) (Kd.R_far (p := ⟨gb290, 7, none⟩) (Kd.R_far (p := ⟨gb290, 6, none⟩) (Kd.R_far (p := ⟨gb290, 5, none⟩) (Kd.R_far (p := ⟨gb290, 4, none⟩) (Kd.R_far (p := ⟨gb290, 3, none⟩) (Kd.R_far (p := ⟨gb290, 2, none⟩) (Kd.R_far (p := ⟨gb290, 1, none⟩) (Kd.R_far (p := ⟨gb290, 0, none⟩) (Kd.R_types HO_5.out BK290.out (by decide)) (fun _ hk => hk.2) (.int .i8 ((rd_T54 l1 x23_2).f0.f0))) (fun _ hk => hk.2) (.int .i8 ((rd_T54 l1 x23_2).f0.f1))) (fun _ hk => hk.2) (.int .i8 ((rd_T54 l1 x23_2).f0.f2))) (fun _ hk => hk.2) (.int .i8 ((rd_T54 l1 x23_2).f0.f3))) (fun _ hk => hk.2) (.int .i8 ((rd_T54 l1 x23_2).f0.f4))) (fun _ hk => hk.2) (.int .i8 ((rd_T54 l1 x23_2).f0.f5))) (fun _ hk => hk.2) (.int .i8 ((rd_T54 l1 x23_2).f0.f6))) (fun _ hk => hk.2) (.int .i8 ((rd_T54 l1 x23_2).f0.f7))) (fun _ hk => hk.2) (.int .i8 ((rd_T54 l1 x23_2).f0.f8))) (fun _ hk => hk.2) (.int .i8 ((rd_T54 l1 x23_2).f0.f9))) (fun _ hk => hk.2) (.int .i8 ((rd_T54 l1 x23_2).f0.f10))) (fun _ hk => hk.2) (.int .i8 ((rd_T54 l1 x23_2).f0.f11))) (fun _ hk => hk.2) (.int .i8 ((rd_T54 l1 x23_2).f0.f12))) (fun _ hk => hk.2) (.int .i8 ((rd_T54 l1 x23_2).f0.f13))) (fun _ hk => hk.2) (.int .i16 ((rd_T54 l1 x23_2).f1.f0))) (fun _ hk => hk.2) (.int .i16 ((rd_T54 l1 x23_2).f1.f1))) (fun _ hk => hk.2) (.int .i16 ((rd_T54 l1 x23_2).f1.f2))) (fun _ hk => hk.2) (.int .i8 ((rd_T54 l1 x23_2).f2.f0))) (fun _ hk => hk.2) (.bool ((rd_T54 l1 x23_2).f2.f1))) (fun _ hk => hk.2) (.bool true)) (fun _ h_ => h_.1)))); (case side2 => exact (Kd.R_reads' HO_5.out).2.1); rintro e w36 ⟨rfl, hb⟩; have n0_ := ze.mk (Kd.R_below (by (with_reducible repeat (first | apply Kd.R_alloc | apply Kd.R_drewN | apply Kd.R_drew)); exact (Kd.R_mono (Kd.R_far (p := ⟨gb290, 19, none⟩) (Kd.R_far (p := ⟨gb290, 18, none⟩) (Kd.R_far (p := ⟨gb290, 17, none⟩) (Kd.R_far (p := ⟨gb290, 16, none⟩) (Kd.R_far (p := ⟨gb290, 15, none⟩) (Kd.R_far (p := ⟨gb290, 14, none⟩) (Kd.R_far (p := ⟨gb290, 13, none⟩) (Kd.R_far (p := ⟨gb290, 12, none⟩) (Kd.R_far (p := ⟨gb290, 11, none⟩) (Kd.R_far (p := ⟨gb290, 10, none⟩) (Kd.R_far (p := ⟨gb290, 9, none⟩) (Kd.R_far (p := ⟨gb290, 8, none⟩) (Kd.R_far (p := ⟨gb290, 7, none⟩) (Kd.R_far (p := ⟨gb290, 6, none⟩) (Kd.R_far (p := ⟨gb290, 5, none⟩) (Kd.R_far (p := ⟨gb290, 4, none⟩) (Kd.R_far (p := ⟨gb290, 3, none⟩) (Kd.R_far (p := ⟨gb290, 2, none⟩) (Kd.R_far (p := ⟨gb290, 1, none⟩) (Kd.R_far (p := ⟨gb290, 0, none⟩) (Kd.R_types HO_5.out BK290.out (by decide)) (fun _ hk => hk.2) (.int .i8 ((rd_T54 l1 x23_2).f0.f0))) (fun _ hk => hk.2) (.int .i8 ((rd_T54 l1 x23_2).f0.f1))) (fun _ hk => hk.2) (.int .i8 ((rd_T54 l1 x23_2).f0.f2))) (fun _ hk => hk.2) (.int .i8 ((rd_T54 l1 x23_2).f0.f3))) (fun _ hk => hk.2) (.int .i8 ((rd_T54 l1 x23_2).f0.f4))) (fun _ hk => hk.2) (.int .i8 ((rd_T54 l1 x23_2).f0.f5))) (fun _ hk => hk.2) (.int .i8 ((rd_T54 l1 x23_2).f0.f6))) (fun _ hk => hk.2) (.int .i8 ((rd_T54 l1 x23_2).f0.f7))) (fun _ hk => hk.2) (.int .i8 ((rd_T54 l1 x23_2).f0.f8))) (fun _ hk => hk.2) (.int .i8 ((rd_T54 l1 x23_2).f0.f9))) (fun _ hk => hk.2) (.int .i8 ((rd_T54 l1 x23_2).f0.f10))) (fun _ hk => hk.2) (.int .i8 ((rd_T54 l1 x23_2).f0.f11))) (fun _ hk => hk.2) (.int .i8 ((rd_T54 l1 x23_2).f0.f12))) (fun _ hk => hk.2) (.int .i8 ((rd_T54 l1 x23_2).f0.f13))) (fun _ hk => hk.2) (.int .i16 ((rd_T54 l1 x23_2).f1.f0))) (fun _ hk => hk.2) (.int .i16 ((rd_T54 l1 x23_2).f1.f1))) (fun _ hk => hk.2) (.int .i16 ((rd_T54 l1 x23_2).f1.f2))) (fun _ hk => hk.2) (.int .i8 ((rd_T54 l1 x23_2).f2.f0))) (fun _ hk => hk.2) (.bool ((rd_T54 l1 x23_2).f2.f1))) (fun _ hk => hk.2) (.bool true)) (fun _ h_ => h_.1))) hb); have n1_ := ze.mk (zl (g := gb282) (o := .cells #[.int .i8 a0_0, .int .i8 a0_1, .bool a0_2, .bool a0_3] 29 (0, 0)) (by (with_reducible repeat (first | refine zh ?_ _ | refine zi ?_ | refine zg ?_ _)); (repeat (with_reducible refine zha ?_ NB282_290.out _)); (with_reducible repeat (first | refine zh ?_ _ | refine zi ?_ | refine zg ?_ _)); exact BK282.out) hb); have n2_ := ze.mk (zl (g := gb290) (o := .cells #[.int .i8 ((rd_T54 l1 x23_2).f0.f0), .int .i8 ((rd_T54 l1 x23_2).f0.f1), .int .i8 ((rd_T54 l1 x23_2).f0.f2), .int .i8 ((rd_T54 l1 x23_2).f0.f3), .int .i8 ((rd_T54 l1 x23_2).f0.f4), .int .i8 ((rd_T54 l1 x23_2).f0.f5), .int .i8 ((rd_T54 l1 x23_2).f0.f6), .int .i8 ((rd_T54 l1 x23_2).f0.f7), .int .i8 ((rd_T54 l1 x23_2).f0.f8), .int .i8 ((rd_T54 l1 x23_2).f0.f9), .int .i8 ((rd_T54 l1 x23_2).f0.f10), .int .i8 ((rd_T54 l1 x23_2).f0.f11), .int .i8 ((rd_T54 l1 x23_2).f0.f12), .int .i8 ((rd_T54 l1 x23_2).f0.f13), .int .i16 ((rd_T54 l1 x23_2).f1.f0), .int .i16 ((rd_T54 l1 x23_2).f1.f1), .int .i16 ((rd_T54 l1 x23_2).f1.f2), .int .i8 ((rd_T54 l1 x23_2).f2.f0), .bool ((rd_T54 l1 x23_2).f2.f1), .bool true] 54 (0, 0)) (by (with_reducible repeat (first | refine zh ?_ _ | refine zi ?_ | refine zg ?_ _)); refine putsz ?_; (with_reducible repeat (first | refine zh ?_ _ | refine zi ?_ | refine zg ?_ _)); exact BK290.out) hb); have n3_ := ze.mk (zk (by repeat (first | (with_reducible first | exact HB.out | apply zc | apply za | apply zb | refine zf ?_ GE282.out | refine zf ?_ GE290.out) | exact HB.out)) hb); clear HO_5; clear BK282; clear BK290; clear HB; have HO_5 := n0_; have BK282 := n1_; have BK290 := n2_; have HB := n3_; clear n0_ n1_ n2_ n3_; (try clear hb); (try clear hb2); (try clear hk); (try clear hi)))
             go_roundg k2
             case measure => have := HJ2.out; have := HK2.out; omega
             case rel => exact ⟨(wrap64 (x23_2 + 1)), (by first | rfl | (simp; done) | (simp [*]; done)), H', ⟨by have := HJ2.out; have := HK2.out; omega⟩, ⟨by (with_reducible repeat (first | apply Kd.R_alloc | apply Kd.R_drewN | apply Kd.R_drew)); exact HO_5.out⟩, ⟨by (with_reducible repeat (first | refine zh ?_ _ | refine zi ?_ | refine zg ?_ _)); exact BK282.out⟩, ⟨by repeat (first | (with_reducible first | exact HB.out | apply zc | apply za | apply zb | refine zf ?_ GE282.out | refine zf ?_ GE290.out) | exact HB.out)⟩⟩
            ·replace c31 := Bool.eq_false_iff.mpr c31
             subst c31
             have H1 : (some false) = some r := by rw [if_neg (show ¬ (false = true) by decide)] at H; exact H
             clear H
             have H := H1
             clear H1
             obtain rfl := Option.some.inj H
             have p289 : 0 ≤ (x23_2 : Int) := of_decide_eq_true (by first | (with_reducible assumption) | assumption)
             have q289 : x23_2 < (l1.length : Int) := of_decide_eq_true (by first | (with_reducible assumption) | assumption)
             obtain ⟨ad289, e289, hx289_0, hx289_1, hx289_2, hx289_3, hx289_4, hx289_5, hx289_6, hx289_7, hx289_8, hx289_9, hx289_10, hx289_11, hx289_12, hx289_13, hx289_14, hx289_15, hx289_16, hx289_17, hx289_18, hx289_19⟩ := at_T54 HR1.out x23_2 p289 q289
             (try rw [← Nbq20.out] at hx289_18)
             (try rw [← Nbq20.out] at hx289_19)
             cases e289
             replace hx289_0 := bc HB.out hx289_0
             replace hx289_1 := bc HB.out hx289_1
             replace hx289_2 := bc HB.out hx289_2
             replace hx289_3 := bc HB.out hx289_3
             replace hx289_4 := bc HB.out hx289_4
             replace hx289_5 := bc HB.out hx289_5
             replace hx289_6 := bc HB.out hx289_6
             replace hx289_7 := bc HB.out hx289_7
             replace hx289_8 := bc HB.out hx289_8
             replace hx289_9 := bc HB.out hx289_9
             replace hx289_10 := bc HB.out hx289_10
             replace hx289_11 := bc HB.out hx289_11
             replace hx289_12 := bc HB.out hx289_12
             replace hx289_13 := bc HB.out hx289_13
             replace hx289_14 := bc HB.out hx289_14
             replace hx289_15 := bc HB.out hx289_15
             replace hx289_16 := bc HB.out hx289_16
             replace hx289_17 := bc HB.out hx289_17
             replace hx289_18 := bc HB.out hx289_18
             replace hx289_19 := bc HB.out hx289_19
             replace p289 := eq_true p289
             replace q289 := eq_true q289
             go_wp2_with (first | ((with_reducible refine zn (N := 27) rfl ?_); refine load20_event (T := 54) (p := ad289.add ((x23_2).toNat * 20)) (x := ?lx3) ?la3 ?lb3 ?lc3 hu54 ?ld3 ?le3 hx289_0 hx289_1 hx289_2 hx289_3 hx289_4 hx289_5 hx289_6 hx289_7 hx289_8 hx289_9 hx289_10 hx289_11 hx289_12 hx289_13 hx289_14 hx289_15 hx289_16 hx289_17 hx289_18 hx289_19 ?_; (case la3 => rfl); (case lb3 => rfl); (case lc3 => rfl); (case ld3 => rfl); (case le3 => kernel_rfl)) | ((with_reducible refine zga (t := 54) (p := 7) rfl ?_); refine store20_event (g := gb290) (T := 54) (t := 54) (cur := #[.int .i8 0, .int .i8 0, .int .i8 0, .int .i8 0, .int .i8 0, .int .i8 0, .int .i8 0, .int .i8 0, .int .i8 0, .int .i8 0, .int .i8 0, .int .i8 0, .int .i8 0, .int .i8 0, .int .i16 0, .int .i16 0, .int .i16 0, .int .i8 0, .bool false, .bool false]) (x := ?sx3) (y := ?sy3) (c0 := .int .i8 ((rd_T54 l1 x23_2).f0.f0)) (c1 := .int .i8 ((rd_T54 l1 x23_2).f0.f1)) (c2 := .int .i8 ((rd_T54 l1 x23_2).f0.f2)) (c3 := .int .i8 ((rd_T54 l1 x23_2).f0.f3)) (c4 := .int .i8 ((rd_T54 l1 x23_2).f0.f4)) (c5 := .int .i8 ((rd_T54 l1 x23_2).f0.f5)) (c6 := .int .i8 ((rd_T54 l1 x23_2).f0.f6)) (c7 := .int .i8 ((rd_T54 l1 x23_2).f0.f7)) (c8 := .int .i8 ((rd_T54 l1 x23_2).f0.f8)) (c9 := .int .i8 ((rd_T54 l1 x23_2).f0.f9)) (c10 := .int .i8 ((rd_T54 l1 x23_2).f0.f10)) (c11 := .int .i8 ((rd_T54 l1 x23_2).f0.f11)) (c12 := .int .i8 ((rd_T54 l1 x23_2).f0.f12)) (c13 := .int .i8 ((rd_T54 l1 x23_2).f0.f13)) (c14 := .int .i16 ((rd_T54 l1 x23_2).f1.f0)) (c15 := .int .i16 ((rd_T54 l1 x23_2).f1.f1)) (c16 := .int .i16 ((rd_T54 l1 x23_2).f1.f2)) (c17 := .int .i8 ((rd_T54 l1 x23_2).f2.f0)) (c18 := .bool ((rd_T54 l1 x23_2).f2.f1)) (c19 := .bool true) ?sa3 ?sb3 ?sc3 ?sd3 ?se3 ?sf3 BK290.out rfl ?sg3 ?_; (case sa3 => rfl); (case sb3 => rfl); (case sc3 => rfl); (case sd3 => rfl); (case se3 => rfl); (case sf3 => kernel_rfl); (case sg3 => rfl)) | ((with_reducible refine zn (N := 7) rfl ?_); refine zm ?hg (N := 7) ?hd (cs := #[.int .i8 0, .int .i8 0, .int .i8 0, .int .i8 0, .int .i8 0, .int .i8 0, .int .i8 0, .int .i8 0, .int .i8 0, .int .i8 0, .int .i8 0, .int .i8 0, .int .i8 0, .int .i8 0, .int .i16 0, .int .i16 0, .int .i16 0, .int .i8 0, .bool false, .bool false]) (t := 54) ?hr ?_; (case hd => rfl); (case hg => rfl); (case hr => first | (go_simp; done) | (go_simp; rfl)); intro gb290 hg w37 hbox hb; have n0_ := ze.mk (Kd.R_below (by (with_reducible repeat (first | apply Kd.R_alloc | apply Kd.R_drewN | apply Kd.R_drew)); exact HO_5.out) hb); have n1_ := ze.mk (zl (g := gb282) (o := .cells #[.int .i8 a0_0, .int .i8 a0_1, .bool a0_2, .bool a0_3] 29 (0, 0)) (by (with_reducible repeat (first | refine zh ?_ _ | refine zi ?_ | refine zg ?_ _)); exact BK282.out) hb); have n2_ := ze.mk (zk (by repeat (first | (with_reducible first | exact HB.out | apply zc | apply za | apply zb | refine zf ?_ GE282.out) | exact HB.out)) hb); have n3_ := ze.mk (hbox); have n4_ := ze.mk ((by rw [hg]; exact (zj (by repeat (first | (with_reducible first | exact HB.out | apply zc | apply za | apply zb | refine zf ?_ GE282.out) | exact HB.out))) : w.heap.size ≤ gb290)); have n5_ := ze.mk ((by rw [hg]; exact (zj (by repeat (first | (with_reducible first | exact HB.out | apply zc | apply za | apply zb | refine zf ?_ GE282.out) | exact HB.out))) : w.heap.size ≤ gb290)); have n6_ := ze.mk ((by rw [hg]; exact Nat.ne_of_lt (zu (g := gb282) (o := .cells #[.int .i8 a0_0, .int .i8 a0_1, .bool a0_2, .bool a0_3] 29 (0, 0)) (by (with_reducible repeat (first | refine zh ?_ _ | refine zi ?_ | refine zg ?_ _)); exact BK282.out)) : gb282 ≠ gb290)); have n7_ := ze.mk ((by rw [hg]; exact Nat.ne_of_gt (zu (g := gb282) (o := .cells #[.int .i8 a0_0, .int .i8 a0_1, .bool a0_2, .bool a0_3] 29 (0, 0)) (by (with_reducible repeat (first | refine zh ?_ _ | refine zi ?_ | refine zg ?_ _)); exact BK282.out)) : gb290 ≠ gb282)); clear HO_5; clear BK282; clear HB; have HO_5 := n0_; have BK282 := n1_; have HB := n2_; have BK290 := n3_; have GW290 := n4_; have GE290 := n5_; have NB282_290 := n6_; have NB290_282 := n7_; clear n0_ n1_ n2_ n3_ n4_ n5_ n6_ n7_; clear hb hbox hg; have hnb38 := NB290_282.out; have hnc38 := NB282_290.out; have hcz39_0 := cz BK290.out 0 rfl; have hcz39_1 := cz BK290.out 1 rfl; have hcz39_2 := cz BK290.out 2 rfl; have hcz39_3 := cz BK290.out 3 rfl; have hcz39_4 := cz BK290.out 4 rfl; have hcz39_5 := cz BK290.out 5 rfl; have hcz39_6 := cz BK290.out 6 rfl; have hcz39_7 := cz BK290.out 7 rfl; have hcz39_8 := cz BK290.out 8 rfl; have hcz39_9 := cz BK290.out 9 rfl; have hcz39_10 := cz BK290.out 10 rfl; have hcz39_11 := cz BK290.out 11 rfl; have hcz39_12 := cz BK290.out 12 rfl; have hcz39_13 := cz BK290.out 13 rfl; have hcz39_14 := cz BK290.out 14 rfl; have hcz39_15 := cz BK290.out 15 rfl; have hcz39_16 := cz BK290.out 16 rfl; have hcz39_17 := cz BK290.out 17 rfl; have hcz39_18 := cz BK290.out 18 rfl; have hcz39_19 := cz BK290.out 19 rfl; have hfz39_0 := zd BK290.out 0; have hfz39_1 := zd BK290.out 1; have hfz39_2 := zd BK290.out 2; have hfz39_3 := zd BK290.out 3; have hfz39_4 := zd BK290.out 4; have hfz39_5 := zd BK290.out 5; have hfz39_6 := zd BK290.out 6; have hfz39_7 := zd BK290.out 7; have hfz39_8 := zd BK290.out 8; have hfz39_9 := zd BK290.out 9; have hfz39_10 := zd BK290.out 10; have hfz39_11 := zd BK290.out 11; have hfz39_12 := zd BK290.out 12; have hfz39_13 := zd BK290.out 13; have hfz39_14 := zd BK290.out 14; have hfz39_15 := zd BK290.out 15; have hfz39_16 := zd BK290.out 16; have hfz39_17 := zd BK290.out 17; have hfz39_18 := zd BK290.out 18; have hfz39_19 := zd BK290.out 19; obtain ⟨Ao40, co40, eo40⟩ := Kd.R_slice HO_5.out; subst eo40) | (go_at_call 47; (with_reducible refine (impl_Case_47.calls k2 _ _ t286 ((rd_T54 l1 x23_2).f2.f0) ((rd_T54 l1 x23_2).f2.f1) false _ ?side1 ?side2 A30.out).mono ?_); (case side1 => refine (Kd.R_reads' (e := 46) (base := w.heap.size) (ok := fun k_ => True) (n := t286.length) (c := co40) ?_).2.2; exact (by (with_reducible repeat (first | apply Kd.R_alloc | apply Kd.R_drewN | apply Kd.R_drew)); exact (Kd.R_mono (Kd.R_far (p := ⟨gb290, 19, none⟩) (Kd.R_far (p := ⟨gb290, 18, none⟩) (Kd.R_far (p := ⟨gb290, 17, none⟩) (Kd.R_far (p := ⟨gb290, 16, none⟩) (Kd.R_far (p := ⟨gb290, 15, none⟩) (Kd.R_far (p := ⟨gb290, 14, none⟩) (Kd.R_far (p := ⟨gb290, 13, none⟩) (Kd.R_far (p := ⟨gb290, 12, none⟩) (Kd.R_far (p := ⟨gb290, 11, none⟩) (Kd.R_far (p := ⟨gb290, 10, none⟩) (Kd.R_far (p := ⟨gb290, 9, none⟩) (Kd.R_far (p := ⟨gb290, 8, none⟩) (Kd.R_far (p := ⟨gb290, 7, none⟩) (Kd.R_far (p := ⟨gb290, 6, none⟩) (Kd.R_far (p := ⟨gb290, 5, none⟩) (Kd.R_far (p := ⟨gb290, 4, none⟩) (Kd.R_far (p := ⟨gb290, 3, none⟩) (Kd.R_far (p := ⟨gb290, 2, none⟩) (Kd.R_far (p := ⟨gb290, 1, none⟩) (Kd.R_far (p := ⟨gb290, 0, none⟩) (Kd.R_types HO_5.out BK290.out (by decide)) (fun _ hk => hk.2) (.int .i8 ((rd_T54 l1 x23_2).f0.f0))) (fun _ hk => hk.2) (.int .i8 ((rd_T54 l1 x23_2).f0.f1))) (fun _ hk => hk.2) (.int .i8 ((rd_T54 l1 x23_2).f0.f2))) (fun _ hk => hk.2) (.int .i8 ((rd_T54 l1 x23_2).f0.f3))) (fun _ hk => hk.2) (.int .i8 ((rd_T54 l1 x23_2).f0.f4))) (fun _ hk => hk.2) (.int .i8 ((rd_T54 l1 x23_2).f0.f5))) (fun _ hk => hk.2) (.int .i8 ((rd_T54 l1 x23_2).f0.f6))) (fun _ hk => hk.2) (.int .i8 ((rd_T54 l1 x23_2).f0.f7))) (fun _ hk => hk.2) (.int .i8 ((rd_T54 l1 x23_2).f0.f8))) (fun _ hk => hk.2) (.int .i8 ((rd_T54 l1 x23_2).f0.f9))) (fun _ hk => hk.2) (.int .i8 ((rd_T54 l1 x23_2).f0.f10))) (fun _ hk => hk.2) (.int .i8 ((rd_T54 l1 x23_2).f0.f11))) (fun _ hk => hk.2) (.int .i8 ((rd_T54 l1 x23_2).f0.f12))) (fun _ hk => hk.2) (.int .i8 ((rd_T54 l1 x23_2).f0.f13))) (fun _ hk => hk.2) (.int .i16 ((rd_T54 l1 x23_2).f1.f0))) (fun _ hk => hk.2) (.int .i16 ((rd_T54 l1 x23_2).f1.f1))) (fun _ hk => hk.2) (.int .i16 ((rd_T54 l1 x23_2).f1.f2))) (fun _ hk => hk.2) (.int .i8 ((rd_T54 l1 x23_2).f2.f0))) (fun _ hk => hk.2) (.bool ((rd_T54 l1 x23_2).f2.f1))) (fun _ hk => hk.2) (.bool true)) (fun _ h_ => h_.1)))); (case side2 => exact (Kd.R_reads' HO_5.out).2.1); rintro e w41 ⟨rfl, hb⟩; have n0_ := ze.mk (Kd.R_below (by (with_reducible repeat (first | apply Kd.R_alloc | apply Kd.R_drewN | apply Kd.R_drew)); exact (Kd.R_mono (Kd.R_far (p := ⟨gb290, 19, none⟩) (Kd.R_far (p := ⟨gb290, 18, none⟩) (Kd.R_far (p := ⟨gb290, 17, none⟩) (Kd.R_far (p := ⟨gb290, 16, none⟩) (Kd.R_far (p := ⟨gb290, 15, none⟩) (Kd.R_far (p := ⟨gb290, 14, none⟩) (Kd.R_far (p := ⟨gb290, 13, none⟩) (Kd.R_far (p := ⟨gb290, 12, none⟩) (Kd.R_far (p := ⟨gb290, 11, none⟩) (Kd.R_far (p := ⟨gb290, 10, none⟩) (Kd.R_far (p := ⟨gb290, 9, none⟩) (Kd.R_far (p := ⟨gb290, 8, none⟩) (Kd.R_far (p := ⟨gb290, 7, none⟩) (Kd.R_far (p := ⟨gb290, 6, none⟩) (Kd.R_far (p := ⟨gb290, 5, none⟩) (Kd.R_far (p := ⟨gb290, 4, none⟩) (Kd.R_far (p := ⟨gb290, 3, none⟩) (Kd.R_far (p := ⟨gb290, 2, none⟩) (Kd.R_far (p := ⟨gb290, 1, none⟩) (Kd.R_far (p := ⟨gb290, 0, none⟩) (Kd.R_types HO_5.out BK290.out (by decide)) (fun _ hk => hk.2) (.int .i8 ((rd_T54 l1 x23_2).f0.f0))) (fun _ hk => hk.2) (.int .i8 ((rd_T54 l1 x23_2).f0.f1))) (fun _ hk => hk.2) (.int .i8 ((rd_T54 l1 x23_2).f0.f2))) (fun _ hk => hk.2) (.int .i8 ((rd_T54 l1 x23_2).f0.f3))) (fun _ hk => hk.2) (.int .i8 ((rd_T54 l1 x23_2).f0.f4))) (fun _ hk => hk.2) (.int .i8 ((rd_T54 l1 x23_2).f0.f5))) (fun _ hk => hk.2) (.int .i8 ((rd_T54 l1 x23_2).f0.f6))) (fun _ hk => hk.2) (.int .i8 ((rd_T54 l1 x23_2).f0.f7))) (fun _ hk => hk.2) (.int .i8 ((rd_T54 l1 x23_2).f0.f8))) (fun _ hk => hk.2) (.int .i8 ((rd_T54 l1 x23_2).f0.f9))) (fun _ hk => hk.2) (.int .i8 ((rd_T54 l1 x23_2).f0.f10))) (fun _ hk => hk.2) (.int .i8 ((rd_T54 l1 x23_2).f0.f11))) (fun _ hk => hk.2) (.int .i8 ((rd_T54 l1 x23_2).f0.f12))) (fun _ hk => hk.2) (.int .i8 ((rd_T54 l1 x23_2).f0.f13))) (fun _ hk => hk.2) (.int .i16 ((rd_T54 l1 x23_2).f1.f0))) (fun _ hk => hk.2) (.int .i16 ((rd_T54 l1 x23_2).f1.f1))) (fun _ hk => hk.2) (.int .i16 ((rd_T54 l1 x23_2).f1.f2))) (fun _ hk => hk.2) (.int .i8 ((rd_T54 l1 x23_2).f2.f0))) (fun _ hk => hk.2) (.bool ((rd_T54 l1 x23_2).f2.f1))) (fun _ hk => hk.2) (.bool true)) (fun _ h_ => h_.1))) hb); have n1_ := ze.mk (zl (g := gb282) (o := .cells #[.int .i8 a0_0, .int .i8 a0_1, .bool a0_2, .bool a0_3] 29 (0, 0)) (by (with_reducible repeat (first | refine zh ?_ _ | refine zi ?_ | refine zg ?_ _)); (repeat (with_reducible refine zha ?_ NB282_290.out _)); (with_reducible repeat (first | refine zh ?_ _ | refine zi ?_ | refine zg ?_ _)); exact BK282.out) hb); have n2_ := ze.mk (zl (g := gb290) (o := .cells #[.int .i8 ((rd_T54 l1 x23_2).f0.f0), .int .i8 ((rd_T54 l1 x23_2).f0.f1), .int .i8 ((rd_T54 l1 x23_2).f0.f2), .int .i8 ((rd_T54 l1 x23_2).f0.f3), .int .i8 ((rd_T54 l1 x23_2).f0.f4), .int .i8 ((rd_T54 l1 x23_2).f0.f5), .int .i8 ((rd_T54 l1 x23_2).f0.f6), .int .i8 ((rd_T54 l1 x23_2).f0.f7), .int .i8 ((rd_T54 l1 x23_2).f0.f8), .int .i8 ((rd_T54 l1 x23_2).f0.f9), .int .i8 ((rd_T54 l1 x23_2).f0.f10), .int .i8 ((rd_T54 l1 x23_2).f0.f11), .int .i8 ((rd_T54 l1 x23_2).f0.f12), .int .i8 ((rd_T54 l1 x23_2).f0.f13), .int .i16 ((rd_T54 l1 x23_2).f1.f0), .int .i16 ((rd_T54 l1 x23_2).f1.f1), .int .i16 ((rd_T54 l1 x23_2).f1.f2), .int .i8 ((rd_T54 l1 x23_2).f2.f0), .bool ((rd_T54 l1 x23_2).f2.f1), .bool true] 54 (0, 0)) (by (with_reducible repeat (first | refine zh ?_ _ | refine zi ?_ | refine zg ?_ _)); refine putsz ?_; (with_reducible repeat (first | refine zh ?_ _ | refine zi ?_ | refine zg ?_ _)); exact BK290.out) hb); have n3_ := ze.mk (zk (by repeat (first | (with_reducible first | exact HB.out | apply zc | apply za | apply zb | refine zf ?_ GE282.out | refine zf ?_ GE290.out) | exact HB.out)) hb); clear HO_5; clear BK282; clear BK290; clear HB; have HO_5 := n0_; have BK282 := n1_; have BK290 := n2_; have HB := n3_; clear n0_ n1_ n2_ n3_; (try clear hb); (try clear hb2); (try clear hk); (try clear hi)))
             go_ret
             exact ⟨by first | rfl | (simp [errW_none, errW_some] <;> rfl) | (simp [*, errW_none, errW_some] <;> rfl), by repeat (first | (with_reducible first | exact HB.out | apply zc | apply za | apply zb | refine zf ?_ GE282.out | refine zf ?_ GE290.out) | exact HB.out)⟩
         ·replace c21 := Bool.eq_false_iff.mpr c21
          subst c21
          have H1 : (if (!(((rd_T54 l1 x23_2).f2.f0) == 0) || (((rd_T54 l1 x23_2).f2.f1))) = true then (impl_ValidPlan.j2 k2 l1 t286 x23_2 l1 (l1.length : Int) x23_2 true a0_0 a0_1 a0_2 a0_3 ((rd_T54 l1 x23_2).f0.f0) ((rd_T54 l1 x23_2).f0.f1) ((rd_T54 l1 x23_2).f0.f2) ((rd_T54 l1 x23_2).f0.f3) ((rd_T54 l1 x23_2).f0.f4) ((rd_T54 l1 x23_2).f0.f5) ((rd_T54 l1 x23_2).f0.f6) ((rd_T54 l1 x23_2).f0.f7) ((rd_T54 l1 x23_2).f0.f8) ((rd_T54 l1 x23_2).f0.f9) ((rd_T54 l1 x23_2).f0.f10) ((rd_T54 l1 x23_2).f0.f11) ((rd_T54 l1 x23_2).f0.f12) ((rd_T54 l1 x23_2).f0.f13) ((rd_T54 l1 x23_2).f1.f0) ((rd_T54 l1 x23_2).f1.f1) ((rd_T54 l1 x23_2).f1.f2) ((rd_T54 l1 x23_2).f2.f0) ((rd_T54 l1 x23_2).f2.f1) false) else (if (((rd_T54 l1 x23_2).f0.f0) == 0 && (((rd_T54 l1 x23_2).f0.f1) == 0 && (((rd_T54 l1 x23_2).f0.f2) == 0 && (((rd_T54 l1 x23_2).f0.f3) == 0 && (((rd_T54 l1 x23_2).f0.f4) == 0 && (((rd_T54 l1 x23_2).f0.f5) == 0 && (((rd_T54 l1 x23_2).f0.f6) == 0 && (((rd_T54 l1 x23_2).f0.f7) == 0 && (((rd_T54 l1 x23_2).f0.f8) == 0 && (((rd_T54 l1 x23_2).f0.f9) == 0 && (((rd_T54 l1 x23_2).f0.f10) == 0 && (((rd_T54 l1 x23_2).f0.f11) == 0 && (((rd_T54 l1 x23_2).f0.f12) == 0 && (((rd_T54 l1 x23_2).f0.f13) == 0)))))))))))))) = true then (impl_ValidPlan.j2 k2 l1 t286 x23_2 l1 (l1.length : Int) x23_2 true a0_0 a0_1 a0_2 a0_3 ((rd_T54 l1 x23_2).f0.f0) ((rd_T54 l1 x23_2).f0.f1) ((rd_T54 l1 x23_2).f0.f2) ((rd_T54 l1 x23_2).f0.f3) ((rd_T54 l1 x23_2).f0.f4) ((rd_T54 l1 x23_2).f0.f5) ((rd_T54 l1 x23_2).f0.f6) ((rd_T54 l1 x23_2).f0.f7) ((rd_T54 l1 x23_2).f0.f8) ((rd_T54 l1 x23_2).f0.f9) ((rd_T54 l1 x23_2).f0.f10) ((rd_T54 l1 x23_2).f0.f11) ((rd_T54 l1 x23_2).f0.f12) ((rd_T54 l1 x23_2).f0.f13) ((rd_T54 l1 x23_2).f1.f0) ((rd_T54 l1 x23_2).f1.f1) ((rd_T54 l1 x23_2).f1.f2) ((rd_T54 l1 x23_2).f2.f0) ((rd_T54 l1 x23_2).f2.f1) false) else ((impl_ValidWeighing.f k2 a0_0 a0_1 a0_2 a0_3 ((rd_T54 l1 x23_2).f0.f0) ((rd_T54 l1 x23_2).f0.f1) ((rd_T54 l1 x23_2).f0.f2) ((rd_T54 l1 x23_2).f0.f3) ((rd_T54 l1 x23_2).f0.f4) ((rd_T54 l1 x23_2).f0.f5) ((rd_T54 l1 x23_2).f0.f6) ((rd_T54 l1 x23_2).f0.f7) ((rd_T54 l1 x23_2).f0.f8) ((rd_T54 l1 x23_2).f0.f9) ((rd_T54 l1 x23_2).f0.f10) ((rd_T54 l1 x23_2).f0.f11) ((rd_T54 l1 x23_2).f0.f12) ((rd_T54 l1 x23_2).f0.f13)).bind fun t292 => (impl_ValidPlan.j2 k2 l1 t286 x23_2 l1 (l1.length : Int) x23_2 (!t292) a0_0 a0_1 a0_2 a0_3 ((rd_T54 l1 x23_2).f0.f0) ((rd_T54 l1 x23_2).f0.f1) ((rd_T54 l1 x23_2).f0.f2) ((rd_T54 l1 x23_2).f0.f3) ((rd_T54 l1 x23_2).f0.f4) ((rd_T54 l1 x23_2).f0.f5) ((rd_T54 l1 x23_2).f0.f6) ((rd_T54 l1 x23_2).f0.f7) ((rd_T54 l1 x23_2).f0.f8) ((rd_T54 l1 x23_2).f0.f9) ((rd_T54 l1 x23_2).f0.f10) ((rd_T54 l1 x23_2).f0.f11) ((rd_T54 l1 x23_2).f0.f12) ((rd_T54 l1 x23_2).f0.f13) ((rd_T54 l1 x23_2).f1.f0) ((rd_T54 l1 x23_2).f1.f1) ((rd_T54 l1 x23_2).f1.f2) ((rd_T54 l1 x23_2).f2.f0) ((rd_T54 l1 x23_2).f2.f1) false)))) = some r := by rw [if_neg (show ¬ (false = true) by decide)] at H; exact H
          clear H
          have H := H1
          clear H1
          have HC42 := ze.mk H
          clear H
          have p289 : 0 ≤ (x23_2 : Int) := of_decide_eq_true (by first | (with_reducible assumption) | assumption)
          have q289 : x23_2 < (l1.length : Int) := of_decide_eq_true (by first | (with_reducible assumption) | assumption)
          obtain ⟨ad289, e289, hx289_0, hx289_1, hx289_2, hx289_3, hx289_4, hx289_5, hx289_6, hx289_7, hx289_8, hx289_9, hx289_10, hx289_11, hx289_12, hx289_13, hx289_14, hx289_15, hx289_16, hx289_17, hx289_18, hx289_19⟩ := at_T54 HR1.out x23_2 p289 q289
          (try rw [← Nbq20.out] at hx289_18)
          (try rw [← Nbq20.out] at hx289_19)
          cases e289
          replace hx289_0 := bc HB.out hx289_0
          replace hx289_1 := bc HB.out hx289_1
          replace hx289_2 := bc HB.out hx289_2
          replace hx289_3 := bc HB.out hx289_3
          replace hx289_4 := bc HB.out hx289_4
          replace hx289_5 := bc HB.out hx289_5
          replace hx289_6 := bc HB.out hx289_6
          replace hx289_7 := bc HB.out hx289_7
          replace hx289_8 := bc HB.out hx289_8
          replace hx289_9 := bc HB.out hx289_9
          replace hx289_10 := bc HB.out hx289_10
          replace hx289_11 := bc HB.out hx289_11
          replace hx289_12 := bc HB.out hx289_12
          replace hx289_13 := bc HB.out hx289_13
          replace hx289_14 := bc HB.out hx289_14
          replace hx289_15 := bc HB.out hx289_15
          replace hx289_16 := bc HB.out hx289_16
          replace hx289_17 := bc HB.out hx289_17
          replace hx289_18 := bc HB.out hx289_18
          replace hx289_19 := bc HB.out hx289_19
          replace p289 := eq_true p289
          replace q289 := eq_true q289
          go_upto_region 10 with (first | ((with_reducible refine zn (N := 27) rfl ?_); refine load20_event (T := 54) (p := ad289.add ((x23_2).toNat * 20)) (x := ?lx4) ?la4 ?lb4 ?lc4 hu54 ?ld4 ?le4 hx289_0 hx289_1 hx289_2 hx289_3 hx289_4 hx289_5 hx289_6 hx289_7 hx289_8 hx289_9 hx289_10 hx289_11 hx289_12 hx289_13 hx289_14 hx289_15 hx289_16 hx289_17 hx289_18 hx289_19 ?_; (case la4 => rfl); (case lb4 => rfl); (case lc4 => rfl); (case ld4 => rfl); (case le4 => kernel_rfl)) | ((with_reducible refine zga (t := 54) (p := 7) rfl ?_); refine store20_event (g := gb290) (T := 54) (t := 54) (cur := #[.int .i8 0, .int .i8 0, .int .i8 0, .int .i8 0, .int .i8 0, .int .i8 0, .int .i8 0, .int .i8 0, .int .i8 0, .int .i8 0, .int .i8 0, .int .i8 0, .int .i8 0, .int .i8 0, .int .i16 0, .int .i16 0, .int .i16 0, .int .i8 0, .bool false, .bool false]) (x := ?sx4) (y := ?sy4) (c0 := .int .i8 ((rd_T54 l1 x23_2).f0.f0)) (c1 := .int .i8 ((rd_T54 l1 x23_2).f0.f1)) (c2 := .int .i8 ((rd_T54 l1 x23_2).f0.f2)) (c3 := .int .i8 ((rd_T54 l1 x23_2).f0.f3)) (c4 := .int .i8 ((rd_T54 l1 x23_2).f0.f4)) (c5 := .int .i8 ((rd_T54 l1 x23_2).f0.f5)) (c6 := .int .i8 ((rd_T54 l1 x23_2).f0.f6)) (c7 := .int .i8 ((rd_T54 l1 x23_2).f0.f7)) (c8 := .int .i8 ((rd_T54 l1 x23_2).f0.f8)) (c9 := .int .i8 ((rd_T54 l1 x23_2).f0.f9)) (c10 := .int .i8 ((rd_T54 l1 x23_2).f0.f10)) (c11 := .int .i8 ((rd_T54 l1 x23_2).f0.f11)) (c12 := .int .i8 ((rd_T54 l1 x23_2).f0.f12)) (c13 := .int .i8 ((rd_T54 l1 x23_2).f0.f13)) (c14 := .int .i16 ((rd_T54 l1 x23_2).f1.f0)) (c15 := .int .i16 ((rd_T54 l1 x23_2).f1.f1)) (c16 := .int .i16 ((rd_T54 l1 x23_2).f1.f2)) (c17 := .int .i8 ((rd_T54 l1 x23_2).f2.f0)) (c18 := .bool ((rd_T54 l1 x23_2).f2.f1)) (c19 := .bool false) ?sa4 ?sb4 ?sc4 ?sd4 ?se4 ?sf4 BK290.out rfl ?sg4 ?_; (case sa4 => rfl); (case sb4 => rfl); (case sc4 => rfl); (case sd4 => rfl); (case se4 => rfl); (case sf4 => kernel_rfl); (case sg4 => rfl)) | ((with_reducible refine zn (N := 7) rfl ?_); refine zm ?hg (N := 7) ?hd (cs := #[.int .i8 0, .int .i8 0, .int .i8 0, .int .i8 0, .int .i8 0, .int .i8 0, .int .i8 0, .int .i8 0, .int .i8 0, .int .i8 0, .int .i8 0, .int .i8 0, .int .i8 0, .int .i8 0, .int .i16 0, .int .i16 0, .int .i16 0, .int .i8 0, .bool false, .bool false]) (t := 54) ?hr ?_; (case hd => rfl); (case hg => rfl); (case hr => first | (go_simp; done) | (go_simp; rfl)); intro gb290 hg w43 hbox hb; have n0_ := ze.mk (Kd.R_below (by (with_reducible repeat (first | apply Kd.R_alloc | apply Kd.R_drewN | apply Kd.R_drew)); exact HO_5.out) hb); have n1_ := ze.mk (zl (g := gb282) (o := .cells #[.int .i8 a0_0, .int .i8 a0_1, .bool a0_2, .bool a0_3] 29 (0, 0)) (by (with_reducible repeat (first | refine zh ?_ _ | refine zi ?_ | refine zg ?_ _)); exact BK282.out) hb); have n2_ := ze.mk (zk (by repeat (first | (with_reducible first | exact HB.out | apply zc | apply za | apply zb | refine zf ?_ GE282.out) | exact HB.out)) hb); have n3_ := ze.mk (hbox); have n4_ := ze.mk ((by rw [hg]; exact (zj (by repeat (first | (with_reducible first | exact HB.out | apply zc | apply za | apply zb | refine zf ?_ GE282.out) | exact HB.out))) : w.heap.size ≤ gb290)); have n5_ := ze.mk ((by rw [hg]; exact (zj (by repeat (first | (with_reducible first | exact HB.out | apply zc | apply za | apply zb | refine zf ?_ GE282.out) | exact HB.out))) : w.heap.size ≤ gb290)); have n6_ := ze.mk ((by rw [hg]; exact Nat.ne_of_lt (zu (g := gb282) (o := .cells #[.int .i8 a0_0, .int .i8 a0_1, .bool a0_2, .bool a0_3] 29 (0, 0)) (by (with_reducible repeat (first | refine zh ?_ _ | refine zi ?_ | refine zg ?_ _)); exact BK282.out)) : gb282 ≠ gb290)); have n7_ := ze.mk ((by rw [hg]; exact Nat.ne_of_gt (zu (g := gb282) (o := .cells #[.int .i8 a0_0, .int .i8 a0_1, .bool a0_2, .bool a0_3] 29 (0, 0)) (by (with_reducible repeat (first | refine zh ?_ _ | refine zi ?_ | refine zg ?_ _)); exact BK282.out)) : gb290 ≠ gb282)); clear HO_5; clear BK282; clear HB; have HO_5 := n0_; have BK282 := n1_; have HB := n2_; have BK290 := n3_; have GW290 := n4_; have GE290 := n5_; have NB282_290 := n6_; have NB290_282 := n7_; clear n0_ n1_ n2_ n3_ n4_ n5_ n6_ n7_; clear hb hbox hg; have hnb44 := NB290_282.out; have hnc44 := NB282_290.out; have hcz45_0 := cz BK290.out 0 rfl; have hcz45_1 := cz BK290.out 1 rfl; have hcz45_2 := cz BK290.out 2 rfl; have hcz45_3 := cz BK290.out 3 rfl; have hcz45_4 := cz BK290.out 4 rfl; have hcz45_5 := cz BK290.out 5 rfl; have hcz45_6 := cz BK290.out 6 rfl; have hcz45_7 := cz BK290.out 7 rfl; have hcz45_8 := cz BK290.out 8 rfl; have hcz45_9 := cz BK290.out 9 rfl; have hcz45_10 := cz BK290.out 10 rfl; have hcz45_11 := cz BK290.out 11 rfl; have hcz45_12 := cz BK290.out 12 rfl; have hcz45_13 := cz BK290.out 13 rfl; have hcz45_14 := cz BK290.out 14 rfl; have hcz45_15 := cz BK290.out 15 rfl; have hcz45_16 := cz BK290.out 16 rfl; have hcz45_17 := cz BK290.out 17 rfl; have hcz45_18 := cz BK290.out 18 rfl; have hcz45_19 := cz BK290.out 19 rfl; have hfz45_0 := zd BK290.out 0; have hfz45_1 := zd BK290.out 1; have hfz45_2 := zd BK290.out 2; have hfz45_3 := zd BK290.out 3; have hfz45_4 := zd BK290.out 4; have hfz45_5 := zd BK290.out 5; have hfz45_6 := zd BK290.out 6; have hfz45_7 := zd BK290.out 7; have hfz45_8 := zd BK290.out 8; have hfz45_9 := zd BK290.out 9; have hfz45_10 := zd BK290.out 10; have hfz45_11 := zd BK290.out 11; have hfz45_12 := zd BK290.out 12; have hfz45_13 := zd BK290.out 13; have hfz45_14 := zd BK290.out 14; have hfz45_15 := zd BK290.out 15; have hfz45_16 := zd BK290.out 16; have hfz45_17 := zd BK290.out 17; have hfz45_18 := zd BK290.out 18; have hfz45_19 := zd BK290.out 19))
          (try simp only [Act.put, List.setIfInBounds_toArray, List.set_cons_zero, List.set_cons_succ])
          go_cut [63] (fun v63 wc => ∃ (kq : Nat) (x63_41 : Bool), v63 = .bool x63_41 ∧ ze (impl_ValidPlan.j2 kq l1 t286 x23_2 l1 (l1.length : Int) x23_2 x63_41 a0_0 a0_1 a0_2 a0_3 ((rd_T54 l1 x23_2).f0.f0) ((rd_T54 l1 x23_2).f0.f1) ((rd_T54 l1 x23_2).f0.f2) ((rd_T54 l1 x23_2).f0.f3) ((rd_T54 l1 x23_2).f0.f4) ((rd_T54 l1 x23_2).f0.f5) ((rd_T54 l1 x23_2).f0.f6) ((rd_T54 l1 x23_2).f0.f7) ((rd_T54 l1 x23_2).f0.f8) ((rd_T54 l1 x23_2).f0.f9) ((rd_T54 l1 x23_2).f0.f10) ((rd_T54 l1 x23_2).f0.f11) ((rd_T54 l1 x23_2).f0.f12) ((rd_T54 l1 x23_2).f0.f13) ((rd_T54 l1 x23_2).f1.f0) ((rd_T54 l1 x23_2).f1.f1) ((rd_T54 l1 x23_2).f1.f2) ((rd_T54 l1 x23_2).f2.f0) ((rd_T54 l1 x23_2).f2.f1) false = some r) ∧ ze (kq ≤ k2) ∧ ze (Kd.R k46 46 wc w.heap.size (fun _ => True) v287 t286) ∧ ze (wc.heap[gb282]? = some (.cells #[.int .i8 a0_0, .int .i8 a0_1, .bool a0_2, .bool a0_3] 29 (0, 0))) ∧ ze (wc.heap[gb290]? = some (.cells #[.int .i8 ((rd_T54 l1 x23_2).f0.f0), .int .i8 ((rd_T54 l1 x23_2).f0.f1), .int .i8 ((rd_T54 l1 x23_2).f0.f2), .int .i8 ((rd_T54 l1 x23_2).f0.f3), .int .i8 ((rd_T54 l1 x23_2).f0.f4), .int .i8 ((rd_T54 l1 x23_2).f0.f5), .int .i8 ((rd_T54 l1 x23_2).f0.f6), .int .i8 ((rd_T54 l1 x23_2).f0.f7), .int .i8 ((rd_T54 l1 x23_2).f0.f8), .int .i8 ((rd_T54 l1 x23_2).f0.f9), .int .i8 ((rd_T54 l1 x23_2).f0.f10), .int .i8 ((rd_T54 l1 x23_2).f0.f11), .int .i8 ((rd_T54 l1 x23_2).f0.f12), .int .i8 ((rd_T54 l1 x23_2).f0.f13), .int .i16 ((rd_T54 l1 x23_2).f1.f0), .int .i16 ((rd_T54 l1 x23_2).f1.f1), .int .i16 ((rd_T54 l1 x23_2).f1.f2), .int .i8 ((rd_T54 l1 x23_2).f2.f0), .bool ((rd_T54 l1 x23_2).f2.f1), .bool false] 54 (0, 0))) ∧ ze (Below w.heap.size w wc))
          case first =>
           have H := HC42.out
           clear HC42
           by_cases c46 : (!(((rd_T54 l1 x23_2).f2.f0) == 0) || (((rd_T54 l1 x23_2).f2.f1))) = true
           ·rw [if_pos c46] at H
            have c46b0 : (!(((rd_T54 l1 x23_2).f2.f0) == 0) || (((rd_T54 l1 x23_2).f2.f1))) = true := c46
            clear c46
            (first | rw [c46b0] | (simp only [zq, zr]; rw [c46b0]) | skip)
            have H' := ze.mk H
            clear H
            have hnb47 := NB290_282.out
            have hnc47 := NB282_290.out
            have hcz48_0 := cz BK290.out 0 rfl
            have hcz48_1 := cz BK290.out 1 rfl
            have hcz48_2 := cz BK290.out 2 rfl
            have hcz48_3 := cz BK290.out 3 rfl
            have hcz48_4 := cz BK290.out 4 rfl
            have hcz48_5 := cz BK290.out 5 rfl
            have hcz48_6 := cz BK290.out 6 rfl
            have hcz48_7 := cz BK290.out 7 rfl
            have hcz48_8 := cz BK290.out 8 rfl
            have hcz48_9 := cz BK290.out 9 rfl
            have hcz48_10 := cz BK290.out 10 rfl
            have hcz48_11 := cz BK290.out 11 rfl
            have hcz48_12 := cz BK290.out 12 rfl
            have hcz48_13 := cz BK290.out 13 rfl
            have hcz48_14 := cz BK290.out 14 rfl
            have hcz48_15 := cz BK290.out 15 rfl
            have hcz48_16 := cz BK290.out 16 rfl
            have hcz48_17 := cz BK290.out 17 rfl
            have hcz48_18 := cz BK290.out 18 rfl
            have hcz48_19 := cz BK290.out 19 rfl
            have hfz48_0 := zd BK290.out 0
            have hfz48_1 := zd BK290.out 1
            have hfz48_2 := zd BK290.out 2
            have hfz48_3 := zd BK290.out 3
            have hfz48_4 := zd BK290.out 4
            have hfz48_5 := zd BK290.out 5
            have hfz48_6 := zd BK290.out 6
            have hfz48_7 := zd BK290.out 7
            have hfz48_8 := zd BK290.out 8
            have hfz48_9 := zd BK290.out 9
            have hfz48_10 := zd BK290.out 10
            have hfz48_11 := zd BK290.out 11
            have hfz48_12 := zd BK290.out 12
            have hfz48_13 := zd BK290.out 13
            have hfz48_14 := zd BK290.out 14
            have hfz48_15 := zd BK290.out 15
            have hfz48_16 := zd BK290.out 16
            have hfz48_17 := zd BK290.out 17
            have hfz48_18 := zd BK290.out 18
            have hfz48_19 := zd BK290.out 19
            go_wp2_with (first | ((with_reducible refine zn (N := 27) rfl ?_); refine load20_event (T := 54) (p := ad289.add ((x23_2).toNat * 20)) (x := ?lx5) ?la5 ?lb5 ?lc5 hu54 ?ld5 ?le5 hx289_0 hx289_1 hx289_2 hx289_3 hx289_4 hx289_5 hx289_6 hx289_7 hx289_8 hx289_9 hx289_10 hx289_11 hx289_12 hx289_13 hx289_14 hx289_15 hx289_16 hx289_17 hx289_18 hx289_19 ?_; (case la5 => rfl); (case lb5 => rfl); (case lc5 => rfl); (case ld5 => rfl); (case le5 => kernel_rfl)) | ((with_reducible refine zga (t := 54) (p := 7) rfl ?_); refine store20_event (g := gb290) (T := 54) (t := 54) (cur := #[.int .i8 0, .int .i8 0, .int .i8 0, .int .i8 0, .int .i8 0, .int .i8 0, .int .i8 0, .int .i8 0, .int .i8 0, .int .i8 0, .int .i8 0, .int .i8 0, .int .i8 0, .int .i8 0, .int .i16 0, .int .i16 0, .int .i16 0, .int .i8 0, .bool false, .bool false]) (x := ?sx5) (y := ?sy5) (c0 := .int .i8 ((rd_T54 l1 x23_2).f0.f0)) (c1 := .int .i8 ((rd_T54 l1 x23_2).f0.f1)) (c2 := .int .i8 ((rd_T54 l1 x23_2).f0.f2)) (c3 := .int .i8 ((rd_T54 l1 x23_2).f0.f3)) (c4 := .int .i8 ((rd_T54 l1 x23_2).f0.f4)) (c5 := .int .i8 ((rd_T54 l1 x23_2).f0.f5)) (c6 := .int .i8 ((rd_T54 l1 x23_2).f0.f6)) (c7 := .int .i8 ((rd_T54 l1 x23_2).f0.f7)) (c8 := .int .i8 ((rd_T54 l1 x23_2).f0.f8)) (c9 := .int .i8 ((rd_T54 l1 x23_2).f0.f9)) (c10 := .int .i8 ((rd_T54 l1 x23_2).f0.f10)) (c11 := .int .i8 ((rd_T54 l1 x23_2).f0.f11)) (c12 := .int .i8 ((rd_T54 l1 x23_2).f0.f12)) (c13 := .int .i8 ((rd_T54 l1 x23_2).f0.f13)) (c14 := .int .i16 ((rd_T54 l1 x23_2).f1.f0)) (c15 := .int .i16 ((rd_T54 l1 x23_2).f1.f1)) (c16 := .int .i16 ((rd_T54 l1 x23_2).f1.f2)) (c17 := .int .i8 ((rd_T54 l1 x23_2).f2.f0)) (c18 := .bool ((rd_T54 l1 x23_2).f2.f1)) (c19 := .bool false) ?sa5 ?sb5 ?sc5 ?sd5 ?se5 ?sf5 BK290.out rfl ?sg5 ?_; (case sa5 => rfl); (case sb5 => rfl); (case sc5 => rfl); (case sd5 => rfl); (case se5 => rfl); (case sf5 => kernel_rfl); (case sg5 => rfl)))
            go_meet
            case rel => exact ⟨_, (true), (by first | rfl | (simp; done) | (simp [*]; done)), H', ⟨by have := HJ2.out; have := HK2.out; first | omega | exact Nat.le_refl _⟩, ⟨by (with_reducible repeat (first | apply Kd.R_alloc | apply Kd.R_drewN | apply Kd.R_drew)); exact Kd.R_mono (Kd.R_far (p := ⟨gb290, 19, none⟩) (Kd.R_far (p := ⟨gb290, 18, none⟩) (Kd.R_far (p := ⟨gb290, 17, none⟩) (Kd.R_far (p := ⟨gb290, 16, none⟩) (Kd.R_far (p := ⟨gb290, 15, none⟩) (Kd.R_far (p := ⟨gb290, 14, none⟩) (Kd.R_far (p := ⟨gb290, 13, none⟩) (Kd.R_far (p := ⟨gb290, 12, none⟩) (Kd.R_far (p := ⟨gb290, 11, none⟩) (Kd.R_far (p := ⟨gb290, 10, none⟩) (Kd.R_far (p := ⟨gb290, 9, none⟩) (Kd.R_far (p := ⟨gb290, 8, none⟩) (Kd.R_far (p := ⟨gb290, 7, none⟩) (Kd.R_far (p := ⟨gb290, 6, none⟩) (Kd.R_far (p := ⟨gb290, 5, none⟩) (Kd.R_far (p := ⟨gb290, 4, none⟩) (Kd.R_far (p := ⟨gb290, 3, none⟩) (Kd.R_far (p := ⟨gb290, 2, none⟩) (Kd.R_far (p := ⟨gb290, 1, none⟩) (Kd.R_far (p := ⟨gb290, 0, none⟩) (Kd.R_types HO_5.out BK290.out (by decide)) (fun _ hk => hk.2) (.int .i8 ((rd_T54 l1 x23_2).f0.f0))) (fun _ hk => hk.2) (.int .i8 ((rd_T54 l1 x23_2).f0.f1))) (fun _ hk => hk.2) (.int .i8 ((rd_T54 l1 x23_2).f0.f2))) (fun _ hk => hk.2) (.int .i8 ((rd_T54 l1 x23_2).f0.f3))) (fun _ hk => hk.2) (.int .i8 ((rd_T54 l1 x23_2).f0.f4))) (fun _ hk => hk.2) (.int .i8 ((rd_T54 l1 x23_2).f0.f5))) (fun _ hk => hk.2) (.int .i8 ((rd_T54 l1 x23_2).f0.f6))) (fun _ hk => hk.2) (.int .i8 ((rd_T54 l1 x23_2).f0.f7))) (fun _ hk => hk.2) (.int .i8 ((rd_T54 l1 x23_2).f0.f8))) (fun _ hk => hk.2) (.int .i8 ((rd_T54 l1 x23_2).f0.f9))) (fun _ hk => hk.2) (.int .i8 ((rd_T54 l1 x23_2).f0.f10))) (fun _ hk => hk.2) (.int .i8 ((rd_T54 l1 x23_2).f0.f11))) (fun _ hk => hk.2) (.int .i8 ((rd_T54 l1 x23_2).f0.f12))) (fun _ hk => hk.2) (.int .i8 ((rd_T54 l1 x23_2).f0.f13))) (fun _ hk => hk.2) (.int .i16 ((rd_T54 l1 x23_2).f1.f0))) (fun _ hk => hk.2) (.int .i16 ((rd_T54 l1 x23_2).f1.f1))) (fun _ hk => hk.2) (.int .i16 ((rd_T54 l1 x23_2).f1.f2))) (fun _ hk => hk.2) (.int .i8 ((rd_T54 l1 x23_2).f2.f0))) (fun _ hk => hk.2) (.bool ((rd_T54 l1 x23_2).f2.f1))) (fun _ hk => hk.2) (.bool false)) (fun _ hk => trivial)⟩, ⟨by (with_reducible repeat (first | refine zh ?_ _ | refine zi ?_ | refine zg ?_ _)); (repeat (with_reducible refine zha ?_ NB282_290.out _)); (with_reducible repeat (first | refine zh ?_ _ | refine zi ?_ | refine zg ?_ _)); exact BK282.out⟩, ⟨by (with_reducible repeat (first | refine zh ?_ _ | refine zi ?_ | refine zg ?_ _)); refine putsz ?_; (with_reducible repeat (first | refine zh ?_ _ | refine zi ?_ | refine zg ?_ _)); exact BK290.out⟩, ⟨by repeat (first | (with_reducible first | exact HB.out | apply zc | apply za | apply zb | refine zf ?_ GE282.out | refine zf ?_ GE290.out) | exact HB.out)⟩⟩
           ·rw [if_neg c46] at H
            have c46b0 : (!(((rd_T54 l1 x23_2).f2.f0) == 0) || (((rd_T54 l1 x23_2).f2.f1))) = false := by simpa using c46
            clear c46
            (first | rw [c46b0] | (simp only [zq, zr]; rw [c46b0]) | skip)
            by_cases c49 : (((rd_T54 l1 x23_2).f0.f0) == 0 && (((rd_T54 l1 x23_2).f0.f1) == 0 && (((rd_T54 l1 x23_2).f0.f2) == 0 && (((rd_T54 l1 x23_2).f0.f3) == 0 && (((rd_T54 l1 x23_2).f0.f4) == 0 && (((rd_T54 l1 x23_2).f0.f5) == 0 && (((rd_T54 l1 x23_2).f0.f6) == 0 && (((rd_T54 l1 x23_2).f0.f7) == 0 && (((rd_T54 l1 x23_2).f0.f8) == 0 && (((rd_T54 l1 x23_2).f0.f9) == 0 && (((rd_T54 l1 x23_2).f0.f10) == 0 && (((rd_T54 l1 x23_2).f0.f11) == 0 && (((rd_T54 l1 x23_2).f0.f12) == 0 && (((rd_T54 l1 x23_2).f0.f13) == 0)))))))))))))) = true
            ·rw [if_pos c49] at H
             have c49b0 : (((rd_T54 l1 x23_2).f0.f0) == 0 && (((rd_T54 l1 x23_2).f0.f1) == 0 && (((rd_T54 l1 x23_2).f0.f2) == 0 && (((rd_T54 l1 x23_2).f0.f3) == 0 && (((rd_T54 l1 x23_2).f0.f4) == 0 && (((rd_T54 l1 x23_2).f0.f5) == 0 && (((rd_T54 l1 x23_2).f0.f6) == 0 && (((rd_T54 l1 x23_2).f0.f7) == 0 && (((rd_T54 l1 x23_2).f0.f8) == 0 && (((rd_T54 l1 x23_2).f0.f9) == 0 && (((rd_T54 l1 x23_2).f0.f10) == 0 && (((rd_T54 l1 x23_2).f0.f11) == 0 && (((rd_T54 l1 x23_2).f0.f12) == 0 && (((rd_T54 l1 x23_2).f0.f13) == 0)))))))))))))) = true := c49
             (try (have c49b1 : decide (((rd_T54 l1 x23_2).f0.f0) = 0 && (((rd_T54 l1 x23_2).f0.f1) == 0 && (((rd_T54 l1 x23_2).f0.f2) == 0 && (((rd_T54 l1 x23_2).f0.f3) == 0 && (((rd_T54 l1 x23_2).f0.f4) == 0 && (((rd_T54 l1 x23_2).f0.f5) == 0 && (((rd_T54 l1 x23_2).f0.f6) == 0 && (((rd_T54 l1 x23_2).f0.f7) == 0 && (((rd_T54 l1 x23_2).f0.f8) == 0 && (((rd_T54 l1 x23_2).f0.f9) == 0 && (((rd_T54 l1 x23_2).f0.f10) == 0 && (((rd_T54 l1 x23_2).f0.f11) == 0 && (((rd_T54 l1 x23_2).f0.f12) == 0 && (((rd_T54 l1 x23_2).f0.f13) == 0)))))))))))))) = true := by simpa using c49))
             (try (have c49b2 : (((rd_T54 l1 x23_2).f0.f0) == 0 && (((rd_T54 l1 x23_2).f0.f1) == 0 && (((rd_T54 l1 x23_2).f0.f2) == 0 && (((rd_T54 l1 x23_2).f0.f3) == 0 && (((rd_T54 l1 x23_2).f0.f4) == 0 && (((rd_T54 l1 x23_2).f0.f5) == 0 && (((rd_T54 l1 x23_2).f0.f6) == 0 && (((rd_T54 l1 x23_2).f0.f7) == 0 && (((rd_T54 l1 x23_2).f0.f8) == 0 && (((rd_T54 l1 x23_2).f0.f9) == 0 && (((rd_T54 l1 x23_2).f0.f10) == 0 && (((rd_T54 l1 x23_2).f0.f11) == 0 && (((rd_T54 l1 x23_2).f0.f12) == 0 && (((rd_T54 l1 x23_2).f0.f13) == 0)))))))))))))) = true := by simpa using c49))
             clear c49
             have H' := ze.mk H
             clear H
             have hnb50 := NB290_282.out
             have hnc50 := NB282_290.out
             have hcz51_0 := cz BK290.out 0 rfl
             have hcz51_1 := cz BK290.out 1 rfl
             have hcz51_2 := cz BK290.out 2 rfl
             have hcz51_3 := cz BK290.out 3 rfl
             have hcz51_4 := cz BK290.out 4 rfl
             have hcz51_5 := cz BK290.out 5 rfl
             have hcz51_6 := cz BK290.out 6 rfl
             have hcz51_7 := cz BK290.out 7 rfl
             have hcz51_8 := cz BK290.out 8 rfl
             have hcz51_9 := cz BK290.out 9 rfl
             have hcz51_10 := cz BK290.out 10 rfl
             have hcz51_11 := cz BK290.out 11 rfl
             have hcz51_12 := cz BK290.out 12 rfl
             have hcz51_13 := cz BK290.out 13 rfl
             have hcz51_14 := cz BK290.out 14 rfl
             have hcz51_15 := cz BK290.out 15 rfl
             have hcz51_16 := cz BK290.out 16 rfl
             have hcz51_17 := cz BK290.out 17 rfl
             have hcz51_18 := cz BK290.out 18 rfl
             have hcz51_19 := cz BK290.out 19 rfl
             have hfz51_0 := zd BK290.out 0
             have hfz51_1 := zd BK290.out 1
             have hfz51_2 := zd BK290.out 2
             have hfz51_3 := zd BK290.out 3
             have hfz51_4 := zd BK290.out 4
             have hfz51_5 := zd BK290.out 5
             have hfz51_6 := zd BK290.out 6
             have hfz51_7 := zd BK290.out 7
             have hfz51_8 := zd BK290.out 8
             have hfz51_9 := zd BK290.out 9
             have hfz51_10 := zd BK290.out 10
             have hfz51_11 := zd BK290.out 11
             have hfz51_12 := zd BK290.out 12
             have hfz51_13 := zd BK290.out 13
             have hfz51_14 := zd BK290.out 14
             have hfz51_15 := zd BK290.out 15
             have hfz51_16 := zd BK290.out 16
             have hfz51_17 := zd BK290.out 17
             have hfz51_18 := zd BK290.out 18
             have hfz51_19 := zd BK290.out 19
             go_wp2_with (first | ((with_reducible refine zn (N := 27) rfl ?_); refine load20_event (T := 54) (p := ad289.add ((x23_2).toNat * 20)) (x := ?lx6) ?la6 ?lb6 ?lc6 hu54 ?ld6 ?le6 hx289_0 hx289_1 hx289_2 hx289_3 hx289_4 hx289_5 hx289_6 hx289_7 hx289_8 hx289_9 hx289_10 hx289_11 hx289_12 hx289_13 hx289_14 hx289_15 hx289_16 hx289_17 hx289_18 hx289_19 ?_; (case la6 => rfl); (case lb6 => rfl); (case lc6 => rfl); (case ld6 => rfl); (case le6 => kernel_rfl)) | ((with_reducible refine zga (t := 54) (p := 7) rfl ?_); refine store20_event (g := gb290) (T := 54) (t := 54) (cur := #[.int .i8 0, .int .i8 0, .int .i8 0, .int .i8 0, .int .i8 0, .int .i8 0, .int .i8 0, .int .i8 0, .int .i8 0, .int .i8 0, .int .i8 0, .int .i8 0, .int .i8 0, .int .i8 0, .int .i16 0, .int .i16 0, .int .i16 0, .int .i8 0, .bool false, .bool false]) (x := ?sx6) (y := ?sy6) (c0 := .int .i8 ((rd_T54 l1 x23_2).f0.f0)) (c1 := .int .i8 ((rd_T54 l1 x23_2).f0.f1)) (c2 := .int .i8 ((rd_T54 l1 x23_2).f0.f2)) (c3 := .int .i8 ((rd_T54 l1 x23_2).f0.f3)) (c4 := .int .i8 ((rd_T54 l1 x23_2).f0.f4)) (c5 := .int .i8 ((rd_T54 l1 x23_2).f0.f5)) (c6 := .int .i8 ((rd_T54 l1 x23_2).f0.f6)) (c7 := .int .i8 ((rd_T54 l1 x23_2).f0.f7)) (c8 := .int .i8 ((rd_T54 l1 x23_2).f0.f8)) (c9 := .int .i8 ((rd_T54 l1 x23_2).f0.f9)) (c10 := .int .i8 ((rd_T54 l1 x23_2).f0.f10)) (c11 := .int .i8 ((rd_T54 l1 x23_2).f0.f11)) (c12 := .int .i8 ((rd_T54 l1 x23_2).f0.f12)) (c13 := .int .i8 ((rd_T54 l1 x23_2).f0.f13)) (c14 := .int .i16 ((rd_T54 l1 x23_2).f1.f0)) (c15 := .int .i16 ((rd_T54 l1 x23_2).f1.f1)) (c16 := .int .i16 ((rd_T54 l1 x23_2).f1.f2)) (c17 := .int .i8 ((rd_T54 l1 x23_2).f2.f0)) (c18 := .bool ((rd_T54 l1 x23_2).f2.f1)) (c19 := .bool false) ?sa6 ?sb6 ?sc6 ?sd6 ?se6 ?sf6 BK290.out rfl ?sg6 ?_; (case sa6 => rfl); (case sb6 => rfl); (case sc6 => rfl); (case sd6 => rfl); (case se6 => rfl); (case sf6 => kernel_rfl); (case sg6 => rfl)))
             go_meet
             case rel => exact ⟨_, (true), (by first | rfl | (simp; done) | (simp [*]; done)), H', ⟨by have := HJ2.out; have := HK2.out; first | omega | exact Nat.le_refl _⟩, ⟨by (with_reducible repeat (first | apply Kd.R_alloc | apply Kd.R_drewN | apply Kd.R_drew)); exact Kd.R_mono (Kd.R_far (p := ⟨gb290, 19, none⟩) (Kd.R_far (p := ⟨gb290, 18, none⟩) (Kd.R_far (p := ⟨gb290, 17, none⟩) (Kd.R_far (p := ⟨gb290, 16, none⟩) (Kd.R_far (p := ⟨gb290, 15, none⟩) (Kd.R_far (p := ⟨gb290, 14, none⟩) (Kd.R_far (p := ⟨gb290, 13, none⟩) (Kd.R_far (p := ⟨gb290, 12, none⟩) (Kd.R_far (p := ⟨gb290, 11, none⟩) (Kd.R_far (p := ⟨gb290, 10, none⟩) (Kd.R_far (p := ⟨gb290, 9, none⟩) (Kd.R_far (p := ⟨gb290, 8, none⟩) (Kd.R_far (p := ⟨gb290, 7, none⟩) (Kd.R_far (p := ⟨gb290, 6, none⟩) (Kd.R_far (p := ⟨gb290, 5, none⟩) (Kd.R_far (p := ⟨gb290, 4, none⟩) (Kd.R_far (p := ⟨gb290, 3, none⟩) (Kd.R_far (p := ⟨gb290, 2, none⟩) (Kd.R_far (p := ⟨gb290, 1, none⟩) (Kd.R_far (p := ⟨gb290, 0, none⟩) (Kd.R_types HO_5.out BK290.out (by decide)) (fun _ hk => hk.2) (.int .i8 ((rd_T54 l1 x23_2).f0.f0))) (fun _ hk => hk.2) (.int .i8 ((rd_T54 l1 x23_2).f0.f1))) (fun _ hk => hk.2) (.int .i8 ((rd_T54 l1 x23_2).f0.f2))) (fun _ hk => hk.2) (.int .i8 ((rd_T54 l1 x23_2).f0.f3))) (fun _ hk => hk.2) (.int .i8 ((rd_T54 l1 x23_2).f0.f4))) (fun _ hk => hk.2) (.int .i8 ((rd_T54 l1 x23_2).f0.f5))) (fun _ hk => hk.2) (.int .i8 ((rd_T54 l1 x23_2).f0.f6))) (fun _ hk => hk.2) (.int .i8 ((rd_T54 l1 x23_2).f0.f7))) (fun _ hk => hk.2) (.int .i8 ((rd_T54 l1 x23_2).f0.f8))) (fun _ hk => hk.2) (.int .i8 ((rd_T54 l1 x23_2).f0.f9))) (fun _ hk => hk.2) (.int .i8 ((rd_T54 l1 x23_2).f0.f10))) (fun _ hk => hk.2) (.int .i8 ((rd_T54 l1 x23_2).f0.f11))) (fun _ hk => hk.2) (.int .i8 ((rd_T54 l1 x23_2).f0.f12))) (fun _ hk => hk.2) (.int .i8 ((rd_T54 l1 x23_2).f0.f13))) (fun _ hk => hk.2) (.int .i16 ((rd_T54 l1 x23_2).f1.f0))) (fun _ hk => hk.2) (.int .i16 ((rd_T54 l1 x23_2).f1.f1))) (fun _ hk => hk.2) (.int .i16 ((rd_T54 l1 x23_2).f1.f2))) (fun _ hk => hk.2) (.int .i8 ((rd_T54 l1 x23_2).f2.f0))) (fun _ hk => hk.2) (.bool ((rd_T54 l1 x23_2).f2.f1))) (fun _ hk => hk.2) (.bool false)) (fun _ hk => trivial)⟩, ⟨by (with_reducible repeat (first | refine zh ?_ _ | refine zi ?_ | refine zg ?_ _)); (repeat (with_reducible refine zha ?_ NB282_290.out _)); (with_reducible repeat (first | refine zh ?_ _ | refine zi ?_ | refine zg ?_ _)); exact BK282.out⟩, ⟨by (with_reducible repeat (first | refine zh ?_ _ | refine zi ?_ | refine zg ?_ _)); refine putsz ?_; (with_reducible repeat (first | refine zh ?_ _ | refine zi ?_ | refine zg ?_ _)); exact BK290.out⟩, ⟨by repeat (first | (with_reducible first | exact HB.out | apply zc | apply za | apply zb | refine zf ?_ GE282.out | refine zf ?_ GE290.out) | exact HB.out)⟩⟩
            ·rw [if_neg c49] at H
             have c49b0 : (((rd_T54 l1 x23_2).f0.f0) == 0 && (((rd_T54 l1 x23_2).f0.f1) == 0 && (((rd_T54 l1 x23_2).f0.f2) == 0 && (((rd_T54 l1 x23_2).f0.f3) == 0 && (((rd_T54 l1 x23_2).f0.f4) == 0 && (((rd_T54 l1 x23_2).f0.f5) == 0 && (((rd_T54 l1 x23_2).f0.f6) == 0 && (((rd_T54 l1 x23_2).f0.f7) == 0 && (((rd_T54 l1 x23_2).f0.f8) == 0 && (((rd_T54 l1 x23_2).f0.f9) == 0 && (((rd_T54 l1 x23_2).f0.f10) == 0 && (((rd_T54 l1 x23_2).f0.f11) == 0 && (((rd_T54 l1 x23_2).f0.f12) == 0 && (((rd_T54 l1 x23_2).f0.f13) == 0)))))))))))))) = false := by simpa using c49
             (try (have c49b1 : decide (((rd_T54 l1 x23_2).f0.f0) = 0 && (((rd_T54 l1 x23_2).f0.f1) == 0 && (((rd_T54 l1 x23_2).f0.f2) == 0 && (((rd_T54 l1 x23_2).f0.f3) == 0 && (((rd_T54 l1 x23_2).f0.f4) == 0 && (((rd_T54 l1 x23_2).f0.f5) == 0 && (((rd_T54 l1 x23_2).f0.f6) == 0 && (((rd_T54 l1 x23_2).f0.f7) == 0 && (((rd_T54 l1 x23_2).f0.f8) == 0 && (((rd_T54 l1 x23_2).f0.f9) == 0 && (((rd_T54 l1 x23_2).f0.f10) == 0 && (((rd_T54 l1 x23_2).f0.f11) == 0 && (((rd_T54 l1 x23_2).f0.f12) == 0 && (((rd_T54 l1 x23_2).f0.f13) == 0)))))))))))))) = false := by simpa using c49))
             (try (have c49b2 : (((rd_T54 l1 x23_2).f0.f0) == 0 && (((rd_T54 l1 x23_2).f0.f1) == 0 && (((rd_T54 l1 x23_2).f0.f2) == 0 && (((rd_T54 l1 x23_2).f0.f3) == 0 && (((rd_T54 l1 x23_2).f0.f4) == 0 && (((rd_T54 l1 x23_2).f0.f5) == 0 && (((rd_T54 l1 x23_2).f0.f6) == 0 && (((rd_T54 l1 x23_2).f0.f7) == 0 && (((rd_T54 l1 x23_2).f0.f8) == 0 && (((rd_T54 l1 x23_2).f0.f9) == 0 && (((rd_T54 l1 x23_2).f0.f10) == 0 && (((rd_T54 l1 x23_2).f0.f11) == 0 && (((rd_T54 l1 x23_2).f0.f12) == 0 && (((rd_T54 l1 x23_2).f0.f13) == 0)))))))))))))) = false := by simpa using c49))
             (try (have c49b3 : ¬ (((rd_T54 l1 x23_2).f0.f0) = 0 && (((rd_T54 l1 x23_2).f0.f1) == 0 && (((rd_T54 l1 x23_2).f0.f2) == 0 && (((rd_T54 l1 x23_2).f0.f3) == 0 && (((rd_T54 l1 x23_2).f0.f4) == 0 && (((rd_T54 l1 x23_2).f0.f5) == 0 && (((rd_T54 l1 x23_2).f0.f6) == 0 && (((rd_T54 l1 x23_2).f0.f7) == 0 && (((rd_T54 l1 x23_2).f0.f8) == 0 && (((rd_T54 l1 x23_2).f0.f9) == 0 && (((rd_T54 l1 x23_2).f0.f10) == 0 && (((rd_T54 l1 x23_2).f0.f11) == 0 && (((rd_T54 l1 x23_2).f0.f12) == 0 && (((rd_T54 l1 x23_2).f0.f13) == 0)))))))))))))) := by simpa using c49))
             clear c49
             replace H := Option.bind_eq_some_iff.mp H
             obtain ⟨t292, A520, H⟩ := H
             replace H : (impl_ValidPlan.j2 k2 l1 t286 x23_2 l1 (l1.length : Int) x23_2 (!t292) a0_0 a0_1 a0_2 a0_3 ((rd_T54 l1 x23_2).f0.f0) ((rd_T54 l1 x23_2).f0.f1) ((rd_T54 l1 x23_2).f0.f2) ((rd_T54 l1 x23_2).f0.f3) ((rd_T54 l1 x23_2).f0.f4) ((rd_T54 l1 x23_2).f0.f5) ((rd_T54 l1 x23_2).f0.f6) ((rd_T54 l1 x23_2).f0.f7) ((rd_T54 l1 x23_2).f0.f8) ((rd_T54 l1 x23_2).f0.f9) ((rd_T54 l1 x23_2).f0.f10) ((rd_T54 l1 x23_2).f0.f11) ((rd_T54 l1 x23_2).f0.f12) ((rd_T54 l1 x23_2).f0.f13) ((rd_T54 l1 x23_2).f1.f0) ((rd_T54 l1 x23_2).f1.f1) ((rd_T54 l1 x23_2).f1.f2) ((rd_T54 l1 x23_2).f2.f0) ((rd_T54 l1 x23_2).f2.f1) false) = some r := H
             have A52 := ze.mk A520
             clear A520
             have H' := ze.mk H
             clear H
             have hnb53 := NB290_282.out
             have hnc53 := NB282_290.out
             have hcz54_0 := cz BK290.out 0 rfl
             have hcz54_1 := cz BK290.out 1 rfl
             have hcz54_2 := cz BK290.out 2 rfl
             have hcz54_3 := cz BK290.out 3 rfl
             have hcz54_4 := cz BK290.out 4 rfl
             have hcz54_5 := cz BK290.out 5 rfl
             have hcz54_6 := cz BK290.out 6 rfl
             have hcz54_7 := cz BK290.out 7 rfl
             have hcz54_8 := cz BK290.out 8 rfl
             have hcz54_9 := cz BK290.out 9 rfl
             have hcz54_10 := cz BK290.out 10 rfl
             have hcz54_11 := cz BK290.out 11 rfl
             have hcz54_12 := cz BK290.out 12 rfl
             have hcz54_13 := cz BK290.out 13 rfl
             have hcz54_14 := cz BK290.out 14 rfl
             have hcz54_15 := cz BK290.out 15 rfl
             have hcz54_16 := cz BK290.out 16 rfl
             have hcz54_17 := cz BK290.out 17 rfl
             have hcz54_18 := cz BK290.out 18 rfl
             have hcz54_19 := cz BK290.out 19 rfl
             have hfz54_0 := zd BK290.out 0
             have hfz54_1 := zd BK290.out 1
             have hfz54_2 := zd BK290.out 2
             have hfz54_3 := zd BK290.out 3
             have hfz54_4 := zd BK290.out 4
             have hfz54_5 := zd BK290.out 5
             have hfz54_6 := zd BK290.out 6
             have hfz54_7 := zd BK290.out 7
             have hfz54_8 := zd BK290.out 8
             have hfz54_9 := zd BK290.out 9
             have hfz54_10 := zd BK290.out 10
             have hfz54_11 := zd BK290.out 11
             have hfz54_12 := zd BK290.out 12
             have hfz54_13 := zd BK290.out 13
             have hfz54_14 := zd BK290.out 14
             have hfz54_15 := zd BK290.out 15
             have hfz54_16 := zd BK290.out 16
             have hfz54_17 := zd BK290.out 17
             have hfz54_18 := zd BK290.out 18
             have hfz54_19 := zd BK290.out 19
             have hcz55_0 := cz BK282.out 0 rfl
             have hcz55_1 := cz BK282.out 1 rfl
             have hcz55_2 := cz BK282.out 2 rfl
             have hcz55_3 := cz BK282.out 3 rfl
             have hfz55_0 := zd BK282.out 0
             have hfz55_1 := zd BK282.out 1
             have hfz55_2 := zd BK282.out 2
             have hfz55_3 := zd BK282.out 3
             go_wp2_with (first | ((with_reducible refine zn (N := 27) rfl ?_); refine load20_event (T := 54) (p := ad289.add ((x23_2).toNat * 20)) (x := ?lx7) ?la7 ?lb7 ?lc7 hu54 ?ld7 ?le7 hx289_0 hx289_1 hx289_2 hx289_3 hx289_4 hx289_5 hx289_6 hx289_7 hx289_8 hx289_9 hx289_10 hx289_11 hx289_12 hx289_13 hx289_14 hx289_15 hx289_16 hx289_17 hx289_18 hx289_19 ?_; (case la7 => rfl); (case lb7 => rfl); (case lc7 => rfl); (case ld7 => rfl); (case le7 => kernel_rfl)) | ((with_reducible refine zga (t := 54) (p := 7) rfl ?_); refine store20_event (g := gb290) (T := 54) (t := 54) (cur := #[.int .i8 0, .int .i8 0, .int .i8 0, .int .i8 0, .int .i8 0, .int .i8 0, .int .i8 0, .int .i8 0, .int .i8 0, .int .i8 0, .int .i8 0, .int .i8 0, .int .i8 0, .int .i8 0, .int .i16 0, .int .i16 0, .int .i16 0, .int .i8 0, .bool false, .bool false]) (x := ?sx7) (y := ?sy7) (c0 := .int .i8 ((rd_T54 l1 x23_2).f0.f0)) (c1 := .int .i8 ((rd_T54 l1 x23_2).f0.f1)) (c2 := .int .i8 ((rd_T54 l1 x23_2).f0.f2)) (c3 := .int .i8 ((rd_T54 l1 x23_2).f0.f3)) (c4 := .int .i8 ((rd_T54 l1 x23_2).f0.f4)) (c5 := .int .i8 ((rd_T54 l1 x23_2).f0.f5)) (c6 := .int .i8 ((rd_T54 l1 x23_2).f0.f6)) (c7 := .int .i8 ((rd_T54 l1 x23_2).f0.f7)) (c8 := .int .i8 ((rd_T54 l1 x23_2).f0.f8)) (c9 := .int .i8 ((rd_T54 l1 x23_2).f0.f9)) (c10 := .int .i8 ((rd_T54 l1 x23_2).f0.f10)) (c11 := .int .i8 ((rd_T54 l1 x23_2).f0.f11)) (c12 := .int .i8 ((rd_T54 l1 x23_2).f0.f12)) (c13 := .int .i8 ((rd_T54 l1 x23_2).f0.f13)) (c14 := .int .i16 ((rd_T54 l1 x23_2).f1.f0)) (c15 := .int .i16 ((rd_T54 l1 x23_2).f1.f1)) (c16 := .int .i16 ((rd_T54 l1 x23_2).f1.f2)) (c17 := .int .i8 ((rd_T54 l1 x23_2).f2.f0)) (c18 := .bool ((rd_T54 l1 x23_2).f2.f1)) (c19 := .bool false) ?sa7 ?sb7 ?sc7 ?sd7 ?se7 ?sf7 BK290.out rfl ?sg7 ?_; (case sa7 => rfl); (case sb7 => rfl); (case sc7 => rfl); (case sd7 => rfl); (case se7 => rfl); (case sf7 => kernel_rfl); (case sg7 => rfl)) | (go_at_call 48; (with_reducible refine (impl_ValidWeighing.calls k2 a0_0 a0_1 a0_2 a0_3 ((rd_T54 l1 x23_2).f0.f0) ((rd_T54 l1 x23_2).f0.f1) ((rd_T54 l1 x23_2).f0.f2) ((rd_T54 l1 x23_2).f0.f3) ((rd_T54 l1 x23_2).f0.f4) ((rd_T54 l1 x23_2).f0.f5) ((rd_T54 l1 x23_2).f0.f6) ((rd_T54 l1 x23_2).f0.f7) ((rd_T54 l1 x23_2).f0.f8) ((rd_T54 l1 x23_2).f0.f9) ((rd_T54 l1 x23_2).f0.f10) ((rd_T54 l1 x23_2).f0.f11) ((rd_T54 l1 x23_2).f0.f12) ((rd_T54 l1 x23_2).f0.f13) t292 _ A52.out).mono ?_); rintro e w56 ⟨rfl, hb⟩; have n0_ := ze.mk (Kd.R_below (by (with_reducible repeat (first | apply Kd.R_alloc | apply Kd.R_drewN | apply Kd.R_drew)); exact (Kd.R_mono (Kd.R_far (p := ⟨gb290, 19, none⟩) (Kd.R_far (p := ⟨gb290, 18, none⟩) (Kd.R_far (p := ⟨gb290, 17, none⟩) (Kd.R_far (p := ⟨gb290, 16, none⟩) (Kd.R_far (p := ⟨gb290, 15, none⟩) (Kd.R_far (p := ⟨gb290, 14, none⟩) (Kd.R_far (p := ⟨gb290, 13, none⟩) (Kd.R_far (p := ⟨gb290, 12, none⟩) (Kd.R_far (p := ⟨gb290, 11, none⟩) (Kd.R_far (p := ⟨gb290, 10, none⟩) (Kd.R_far (p := ⟨gb290, 9, none⟩) (Kd.R_far (p := ⟨gb290, 8, none⟩) (Kd.R_far (p := ⟨gb290, 7, none⟩) (Kd.R_far (p := ⟨gb290, 6, none⟩) (Kd.R_far (p := ⟨gb290, 5, none⟩) (Kd.R_far (p := ⟨gb290, 4, none⟩) (Kd.R_far (p := ⟨gb290, 3, none⟩) (Kd.R_far (p := ⟨gb290, 2, none⟩) (Kd.R_far (p := ⟨gb290, 1, none⟩) (Kd.R_far (p := ⟨gb290, 0, none⟩) (Kd.R_types HO_5.out BK290.out (by decide)) (fun _ hk => hk.2) (.int .i8 ((rd_T54 l1 x23_2).f0.f0))) (fun _ hk => hk.2) (.int .i8 ((rd_T54 l1 x23_2).f0.f1))) (fun _ hk => hk.2) (.int .i8 ((rd_T54 l1 x23_2).f0.f2))) (fun _ hk => hk.2) (.int .i8 ((rd_T54 l1 x23_2).f0.f3))) (fun _ hk => hk.2) (.int .i8 ((rd_T54 l1 x23_2).f0.f4))) (fun _ hk => hk.2) (.int .i8 ((rd_T54 l1 x23_2).f0.f5))) (fun _ hk => hk.2) (.int .i8 ((rd_T54 l1 x23_2).f0.f6))) (fun _ hk => hk.2) (.int .i8 ((rd_T54 l1 x23_2).f0.f7))) (fun _ hk => hk.2) (.int .i8 ((rd_T54 l1 x23_2).f0.f8))) (fun _ hk => hk.2) (.int .i8 ((rd_T54 l1 x23_2).f0.f9))) (fun _ hk => hk.2) (.int .i8 ((rd_T54 l1 x23_2).f0.f10))) (fun _ hk => hk.2) (.int .i8 ((rd_T54 l1 x23_2).f0.f11))) (fun _ hk => hk.2) (.int .i8 ((rd_T54 l1 x23_2).f0.f12))) (fun _ hk => hk.2) (.int .i8 ((rd_T54 l1 x23_2).f0.f13))) (fun _ hk => hk.2) (.int .i16 ((rd_T54 l1 x23_2).f1.f0))) (fun _ hk => hk.2) (.int .i16 ((rd_T54 l1 x23_2).f1.f1))) (fun _ hk => hk.2) (.int .i16 ((rd_T54 l1 x23_2).f1.f2))) (fun _ hk => hk.2) (.int .i8 ((rd_T54 l1 x23_2).f2.f0))) (fun _ hk => hk.2) (.bool ((rd_T54 l1 x23_2).f2.f1))) (fun _ hk => hk.2) (.bool false)) (fun _ h_ => h_.1))) hb); have n1_ := ze.mk (zl (g := gb282) (o := .cells #[.int .i8 a0_0, .int .i8 a0_1, .bool a0_2, .bool a0_3] 29 (0, 0)) (by (with_reducible repeat (first | refine zh ?_ _ | refine zi ?_ | refine zg ?_ _)); (repeat (with_reducible refine zha ?_ NB282_290.out _)); (with_reducible repeat (first | refine zh ?_ _ | refine zi ?_ | refine zg ?_ _)); exact BK282.out) hb); have n2_ := ze.mk (zl (g := gb290) (o := .cells #[.int .i8 ((rd_T54 l1 x23_2).f0.f0), .int .i8 ((rd_T54 l1 x23_2).f0.f1), .int .i8 ((rd_T54 l1 x23_2).f0.f2), .int .i8 ((rd_T54 l1 x23_2).f0.f3), .int .i8 ((rd_T54 l1 x23_2).f0.f4), .int .i8 ((rd_T54 l1 x23_2).f0.f5), .int .i8 ((rd_T54 l1 x23_2).f0.f6), .int .i8 ((rd_T54 l1 x23_2).f0.f7), .int .i8 ((rd_T54 l1 x23_2).f0.f8), .int .i8 ((rd_T54 l1 x23_2).f0.f9), .int .i8 ((rd_T54 l1 x23_2).f0.f10), .int .i8 ((rd_T54 l1 x23_2).f0.f11), .int .i8 ((rd_T54 l1 x23_2).f0.f12), .int .i8 ((rd_T54 l1 x23_2).f0.f13), .int .i16 ((rd_T54 l1 x23_2).f1.f0), .int .i16 ((rd_T54 l1 x23_2).f1.f1), .int .i16 ((rd_T54 l1 x23_2).f1.f2), .int .i8 ((rd_T54 l1 x23_2).f2.f0), .bool ((rd_T54 l1 x23_2).f2.f1), .bool false] 54 (0, 0)) (by (with_reducible repeat (first | refine zh ?_ _ | refine zi ?_ | refine zg ?_ _)); refine putsz ?_; (with_reducible repeat (first | refine zh ?_ _ | refine zi ?_ | refine zg ?_ _)); exact BK290.out) hb); have n3_ := ze.mk (zk (by repeat (first | (with_reducible first | exact HB.out | apply zc | apply za | apply zb | refine zf ?_ GE282.out | refine zf ?_ GE290.out) | exact HB.out)) hb); clear HO_5; clear BK282; clear BK290; clear HB; have HO_5 := n0_; have BK282 := n1_; have BK290 := n2_; have HB := n3_; clear n0_ n1_ n2_ n3_; (try clear hb); (try clear hb2); (try clear hk); (try clear hi)))
             go_meet
             case rel => exact ⟨_, (!t292), (by first | rfl | (simp; done) | (simp [*]; done)), H', ⟨by have := HJ2.out; have := HK2.out; first | omega | exact Nat.le_refl _⟩, ⟨by (with_reducible repeat (first | apply Kd.R_alloc | apply Kd.R_drewN | apply Kd.R_drew)); exact HO_5.out⟩, ⟨by (with_reducible repeat (first | refine zh ?_ _ | refine zi ?_ | refine zg ?_ _)); exact BK282.out⟩, ⟨by (with_reducible repeat (first | refine zh ?_ _ | refine zi ?_ | refine zg ?_ _)); exact BK290.out⟩, ⟨by repeat (first | (with_reducible first | exact HB.out | apply zc | apply za | apply zb | refine zf ?_ GE282.out | refine zf ?_ GE290.out) | exact HB.out)⟩⟩
          case rest =>
           clear HC42
           try clear c1
           try clear c2
           try clear p2
           try clear q2
           try clear hx2
           try clear c3
           try clear c4
           try clear c5
           try clear c6
           try clear p6
           try clear c13
           try clear c17
           try clear c17b0
           try clear c18
           try clear c18b0
           try clear c19
           try clear c19b0
           try clear q20
           try clear c21
           try clear c22
           try clear c22b0
           try clear c24
           try clear c26
           try clear c26b0
           try clear c28
           try clear p28
           try clear q28
           try clear hx28
           try clear c29
           try clear c31
           try clear c33
           try clear c38
           try clear c44
           try clear c45
           try clear c46
           try clear c46b0
           try clear c47
           try clear c49
           try clear c49b0
           try clear c49b1
           try clear c49b2
           try clear c50
           try clear c53
           try clear hcz11_0
           try clear hcz11_1
           try clear hcz11_2
           try clear hcz11_3
           try clear hcz15_0
           try clear hcz15_1
           try clear hcz15_2
           try clear hcz15_3
           try clear hcz25_0
           try clear hcz25_1
           try clear hcz25_10
           try clear hcz25_11
           try clear hcz25_12
           try clear hcz25_13
           try clear hcz25_14
           try clear hcz25_15
           try clear hcz25_16
           try clear hcz25_17
           try clear hcz25_18
           try clear hcz25_19
           try clear hcz25_2
           try clear hcz25_3
           try clear hcz25_4
           try clear hcz25_5
           try clear hcz25_6
           try clear hcz25_7
           try clear hcz25_8
           try clear hcz25_9
           try clear hcz29_0
           try clear hcz29_1
           try clear hcz29_10
           try clear hcz29_11
           try clear hcz29_12
           try clear hcz29_13
           try clear hcz29_14
           try clear hcz29_15
           try clear hcz29_16
           try clear hcz29_17
           try clear hcz29_18
           try clear hcz29_19
           try clear hcz29_2
           try clear hcz29_3
           try clear hcz29_4
           try clear hcz29_5
           try clear hcz29_6
           try clear hcz29_7
           try clear hcz29_8
           try clear hcz29_9
           try clear hcz34_0
           try clear hcz34_1
           try clear hcz34_10
           try clear hcz34_11
           try clear hcz34_12
           try clear hcz34_13
           try clear hcz34_14
           try clear hcz34_15
           try clear hcz34_16
           try clear hcz34_17
           try clear hcz34_18
           try clear hcz34_19
           try clear hcz34_2
           try clear hcz34_3
           try clear hcz34_4
           try clear hcz34_5
           try clear hcz34_6
           try clear hcz34_7
           try clear hcz34_8
           try clear hcz34_9
           try clear hcz39_0
           try clear hcz39_1
           try clear hcz39_10
           try clear hcz39_11
           try clear hcz39_12
           try clear hcz39_13
           try clear hcz39_14
           try clear hcz39_15
           try clear hcz39_16
           try clear hcz39_17
           try clear hcz39_18
           try clear hcz39_19
           try clear hcz39_2
           try clear hcz39_3
           try clear hcz39_4
           try clear hcz39_5
           try clear hcz39_6
           try clear hcz39_7
           try clear hcz39_8
           try clear hcz39_9
           try clear hcz45_0
           try clear hcz45_1
           try clear hcz45_10
           try clear hcz45_11
           try clear hcz45_12
           try clear hcz45_13
           try clear hcz45_14
           try clear hcz45_15
           try clear hcz45_16
           try clear hcz45_17
           try clear hcz45_18
           try clear hcz45_19
           try clear hcz45_2
           try clear hcz45_3
           try clear hcz45_4
           try clear hcz45_5
           try clear hcz45_6
           try clear hcz45_7
           try clear hcz45_8
           try clear hcz45_9
           try clear hcz48_0
           try clear hcz48_1
           try clear hcz48_10
           try clear hcz48_11
           try clear hcz48_12
           try clear hcz48_13
           try clear hcz48_14
           try clear hcz48_15
           try clear hcz48_16
           try clear hcz48_17
           try clear hcz48_18
           try clear hcz48_19
           try clear hcz48_2
           try clear hcz48_3
           try clear hcz48_4
           try clear hcz48_5
           try clear hcz48_6
           try clear hcz48_7
           try clear hcz48_8
           try clear hcz48_9
           try clear hcz51_0
           try clear hcz51_1
           try clear hcz51_10
           try clear hcz51_11
           try clear hcz51_12
           try clear hcz51_13
           try clear hcz51_14
           try clear hcz51_15
           try clear hcz51_16
           try clear hcz51_17
           try clear hcz51_18
           try clear hcz51_19
           try clear hcz51_2
           try clear hcz51_3
           try clear hcz51_4
           try clear hcz51_5
           try clear hcz51_6
           try clear hcz51_7
           try clear hcz51_8
           try clear hcz51_9
           try clear hcz54_0
           try clear hcz54_1
           try clear hcz54_10
           try clear hcz54_11
           try clear hcz54_12
           try clear hcz54_13
           try clear hcz54_14
           try clear hcz54_15
           try clear hcz54_16
           try clear hcz54_17
           try clear hcz54_18
           try clear hcz54_19
           try clear hcz54_2
           try clear hcz54_3
           try clear hcz54_4
           try clear hcz54_5
           try clear hcz54_6
           try clear hcz54_7
           try clear hcz54_8
           try clear hcz54_9
           try clear hcz55_0
           try clear hcz55_1
           try clear hcz55_2
           try clear hcz55_3
           try clear hcz9_0
           try clear hcz9_1
           try clear hcz9_2
           try clear hcz9_3
           try clear hfz11_0
           try clear hfz11_1
           try clear hfz11_2
           try clear hfz11_3
           try clear hfz15_0
           try clear hfz15_1
           try clear hfz15_2
           try clear hfz15_3
           try clear hfz25_0
           try clear hfz25_1
           try clear hfz25_10
           try clear hfz25_11
           try clear hfz25_12
           try clear hfz25_13
           try clear hfz25_14
           try clear hfz25_15
           try clear hfz25_16
           try clear hfz25_17
           try clear hfz25_18
           try clear hfz25_19
           try clear hfz25_2
           try clear hfz25_3
           try clear hfz25_4
           try clear hfz25_5
           try clear hfz25_6
           try clear hfz25_7
           try clear hfz25_8
           try clear hfz25_9
           try clear hfz29_0
           try clear hfz29_1
           try clear hfz29_10
           try clear hfz29_11
           try clear hfz29_12
           try clear hfz29_13
           try clear hfz29_14
           try clear hfz29_15
           try clear hfz29_16
           try clear hfz29_17
           try clear hfz29_18
           try clear hfz29_19
           try clear hfz29_2
           try clear hfz29_3
           try clear hfz29_4
           try clear hfz29_5
           try clear hfz29_6
           try clear hfz29_7
           try clear hfz29_8
           try clear hfz29_9
           try clear hfz34_0
           try clear hfz34_1
           try clear hfz34_10
           try clear hfz34_11
           try clear hfz34_12
           try clear hfz34_13
           try clear hfz34_14
           try clear hfz34_15
           try clear hfz34_16
           try clear hfz34_17
           try clear hfz34_18
           try clear hfz34_19
           try clear hfz34_2
           try clear hfz34_3
           try clear hfz34_4
           try clear hfz34_5
           try clear hfz34_6
           try clear hfz34_7
           try clear hfz34_8
           try clear hfz34_9
           try clear hfz39_0
           try clear hfz39_1
           try clear hfz39_10
           try clear hfz39_11
           try clear hfz39_12
           try clear hfz39_13
           try clear hfz39_14
           try clear hfz39_15
           try clear hfz39_16
           try clear hfz39_17
           try clear hfz39_18
           try clear hfz39_19
           try clear hfz39_2
           try clear hfz39_3
           try clear hfz39_4
           try clear hfz39_5
           try clear hfz39_6
           try clear hfz39_7
           try clear hfz39_8
           try clear hfz39_9
           try clear hfz45_0
           try clear hfz45_1
           try clear hfz45_10
           try clear hfz45_11
           try clear hfz45_12
           try clear hfz45_13
           try clear hfz45_14
           try clear hfz45_15
           try clear hfz45_16
           try clear hfz45_17
           try clear hfz45_18
           try clear hfz45_19
           try clear hfz45_2
           try clear hfz45_3
           try clear hfz45_4
           try clear hfz45_5
           try clear hfz45_6
           try clear hfz45_7
           try clear hfz45_8
           try clear hfz45_9
           try clear hfz48_0
           try clear hfz48_1
           try clear hfz48_10
           try clear hfz48_11
           try clear hfz48_12
           try clear hfz48_13
           try clear hfz48_14
           try clear hfz48_15
           try clear hfz48_16
           try clear hfz48_17
           try clear hfz48_18
           try clear hfz48_19
           try clear hfz48_2
           try clear hfz48_3
           try clear hfz48_4
           try clear hfz48_5
           try clear hfz48_6
           try clear hfz48_7
           try clear hfz48_8
           try clear hfz48_9
           try clear hfz51_0
           try clear hfz51_1
           try clear hfz51_10
           try clear hfz51_11
           try clear hfz51_12
           try clear hfz51_13
           try clear hfz51_14
           try clear hfz51_15
           try clear hfz51_16
           try clear hfz51_17
           try clear hfz51_18
           try clear hfz51_19
           try clear hfz51_2
           try clear hfz51_3
           try clear hfz51_4
           try clear hfz51_5
           try clear hfz51_6
           try clear hfz51_7
           try clear hfz51_8
           try clear hfz51_9
           try clear hfz54_0
           try clear hfz54_1
           try clear hfz54_10
           try clear hfz54_11
           try clear hfz54_12
           try clear hfz54_13
           try clear hfz54_14
           try clear hfz54_15
           try clear hfz54_16
           try clear hfz54_17
           try clear hfz54_18
           try clear hfz54_19
           try clear hfz54_2
           try clear hfz54_3
           try clear hfz54_4
           try clear hfz54_5
           try clear hfz54_6
           try clear hfz54_7
           try clear hfz54_8
           try clear hfz54_9
           try clear hfz55_0
           try clear hfz55_1
           try clear hfz55_2
           try clear hfz55_3
           try clear hfz9_0
           try clear hfz9_1
           try clear hfz9_2
           try clear hfz9_3
           try clear hx289_0
           try clear hx289_1
           try clear hx289_10
           try clear hx289_11
           try clear hx289_12
           try clear hx289_13
           try clear hx289_14
           try clear hx289_15
           try clear hx289_16
           try clear hx289_17
           try clear hx289_18
           try clear hx289_19
           try clear hx289_2
           try clear hx289_3
           try clear hx289_4
           try clear hx289_5
           try clear hx289_6
           try clear hx289_7
           try clear hx289_8
           try clear hx289_9
           try clear p2
           try clear p289
           try clear q289
           obtain ⟨kq, x63_41, rfl, HA, HJ41, HO_5, BK282, BK290, HB⟩ := hcut
           cases kq with
           | zero => exact absurd HA.out (by simp [impl_ValidPlan.j2])
           | succ kj41 =>
            have H := HA.out
            clear HA
            simp only [impl_ValidPlan.j2] at H
            by_cases c57 : x63_41 = true
            ·subst c57
             have H1 : (some false) = some r := by rw [if_pos rfl] at H; exact H
             clear H
             have H := H1
             clear H1
             obtain rfl := Option.some.inj H
             go_wp2_with (first | ((with_reducible refine zn (N := 27) rfl ?_); refine load20_event (T := 54) (p := ad289.add ((x23_2).toNat * 20)) (x := ?lx8) ?la8 ?lb8 ?lc8 hu54 ?ld8 ?le8 hx289_0 hx289_1 hx289_2 hx289_3 hx289_4 hx289_5 hx289_6 hx289_7 hx289_8 hx289_9 hx289_10 hx289_11 hx289_12 hx289_13 hx289_14 hx289_15 hx289_16 hx289_17 hx289_18 hx289_19 ?_; (case la8 => rfl); (case lb8 => rfl); (case lc8 => rfl); (case ld8 => rfl); (case le8 => kernel_rfl)) | ((with_reducible refine zga (t := 54) (p := 7) rfl ?_); refine store20_event (g := gb290) (T := 54) (t := 54) (cur := #[.int .i8 0, .int .i8 0, .int .i8 0, .int .i8 0, .int .i8 0, .int .i8 0, .int .i8 0, .int .i8 0, .int .i8 0, .int .i8 0, .int .i8 0, .int .i8 0, .int .i8 0, .int .i8 0, .int .i16 0, .int .i16 0, .int .i16 0, .int .i8 0, .bool false, .bool false]) (x := ?sx8) (y := ?sy8) (c0 := .int .i8 ((rd_T54 l1 x23_2).f0.f0)) (c1 := .int .i8 ((rd_T54 l1 x23_2).f0.f1)) (c2 := .int .i8 ((rd_T54 l1 x23_2).f0.f2)) (c3 := .int .i8 ((rd_T54 l1 x23_2).f0.f3)) (c4 := .int .i8 ((rd_T54 l1 x23_2).f0.f4)) (c5 := .int .i8 ((rd_T54 l1 x23_2).f0.f5)) (c6 := .int .i8 ((rd_T54 l1 x23_2).f0.f6)) (c7 := .int .i8 ((rd_T54 l1 x23_2).f0.f7)) (c8 := .int .i8 ((rd_T54 l1 x23_2).f0.f8)) (c9 := .int .i8 ((rd_T54 l1 x23_2).f0.f9)) (c10 := .int .i8 ((rd_T54 l1 x23_2).f0.f10)) (c11 := .int .i8 ((rd_T54 l1 x23_2).f0.f11)) (c12 := .int .i8 ((rd_T54 l1 x23_2).f0.f12)) (c13 := .int .i8 ((rd_T54 l1 x23_2).f0.f13)) (c14 := .int .i16 ((rd_T54 l1 x23_2).f1.f0)) (c15 := .int .i16 ((rd_T54 l1 x23_2).f1.f1)) (c16 := .int .i16 ((rd_T54 l1 x23_2).f1.f2)) (c17 := .int .i8 ((rd_T54 l1 x23_2).f2.f0)) (c18 := .bool ((rd_T54 l1 x23_2).f2.f1)) (c19 := .bool false) ?sa8 ?sb8 ?sc8 ?sd8 ?se8 ?sf8 BK290.out rfl ?sg8 ?_; (case sa8 => rfl); (case sb8 => rfl); (case sc8 => rfl); (case sd8 => rfl); (case se8 => rfl); (case sf8 => kernel_rfl); (case sg8 => rfl)))
             go_ret
             exact ⟨by first | rfl | (simp [errW_none, errW_some] <;> rfl) | (simp [*, errW_none, errW_some] <;> rfl), by repeat (first | (with_reducible first | exact HB.out | apply zc | apply za | apply zb | refine zf ?_ GE282.out | refine zf ?_ GE290.out) | exact HB.out)⟩
            ·replace c57 := Bool.eq_false_iff.mpr c57
             subst c57
             have H1 : (impl_ValidPlan.l1 kj41 l1 t286 x23_2 l1 (l1.length : Int) x23_2 0 a0_0 a0_1 a0_2 a0_3 ((rd_T54 l1 x23_2).f1.f0) ((rd_T54 l1 x23_2).f1.f1) ((rd_T54 l1 x23_2).f1.f2)) = some r := by rw [if_neg (show ¬ (false = true) by decide)] at H; exact H
             clear H
             have H := H1
             clear H1
             have H' := ze.mk H
             clear H
             have hnb58 := NB290_282.out
             have hnc58 := NB282_290.out
             have hcz59_0 := cz BK290.out 0 rfl
             have hcz59_1 := cz BK290.out 1 rfl
             have hcz59_2 := cz BK290.out 2 rfl
             have hcz59_3 := cz BK290.out 3 rfl
             have hcz59_4 := cz BK290.out 4 rfl
             have hcz59_5 := cz BK290.out 5 rfl
             have hcz59_6 := cz BK290.out 6 rfl
             have hcz59_7 := cz BK290.out 7 rfl
             have hcz59_8 := cz BK290.out 8 rfl
             have hcz59_9 := cz BK290.out 9 rfl
             have hcz59_10 := cz BK290.out 10 rfl
             have hcz59_11 := cz BK290.out 11 rfl
             have hcz59_12 := cz BK290.out 12 rfl
             have hcz59_13 := cz BK290.out 13 rfl
             have hcz59_14 := cz BK290.out 14 rfl
             have hcz59_15 := cz BK290.out 15 rfl
             have hcz59_16 := cz BK290.out 16 rfl
             have hcz59_17 := cz BK290.out 17 rfl
             have hcz59_18 := cz BK290.out 18 rfl
             have hcz59_19 := cz BK290.out 19 rfl
             have hfz59_0 := zd BK290.out 0
             have hfz59_1 := zd BK290.out 1
             have hfz59_2 := zd BK290.out 2
             have hfz59_3 := zd BK290.out 3
             have hfz59_4 := zd BK290.out 4
             have hfz59_5 := zd BK290.out 5
             have hfz59_6 := zd BK290.out 6
             have hfz59_7 := zd BK290.out 7
             have hfz59_8 := zd BK290.out 8
             have hfz59_9 := zd BK290.out 9
             have hfz59_10 := zd BK290.out 10
             have hfz59_11 := zd BK290.out 11
             have hfz59_12 := zd BK290.out 12
             have hfz59_13 := zd BK290.out 13
             have hfz59_14 := zd BK290.out 14
             have hfz59_15 := zd BK290.out 15
             have hfz59_16 := zd BK290.out 16
             have hfz59_17 := zd BK290.out 17
             have hfz59_18 := zd BK290.out 18
             have hfz59_19 := zd BK290.out 19
             go_wp2_with (first | ((with_reducible refine zn (N := 27) rfl ?_); refine load20_event (T := 54) (p := ad289.add ((x23_2).toNat * 20)) (x := ?lx9) ?la9 ?lb9 ?lc9 hu54 ?ld9 ?le9 hx289_0 hx289_1 hx289_2 hx289_3 hx289_4 hx289_5 hx289_6 hx289_7 hx289_8 hx289_9 hx289_10 hx289_11 hx289_12 hx289_13 hx289_14 hx289_15 hx289_16 hx289_17 hx289_18 hx289_19 ?_; (case la9 => rfl); (case lb9 => rfl); (case lc9 => rfl); (case ld9 => rfl); (case le9 => kernel_rfl)) | ((with_reducible refine zga (t := 54) (p := 7) rfl ?_); refine store20_event (g := gb290) (T := 54) (t := 54) (cur := #[.int .i8 0, .int .i8 0, .int .i8 0, .int .i8 0, .int .i8 0, .int .i8 0, .int .i8 0, .int .i8 0, .int .i8 0, .int .i8 0, .int .i8 0, .int .i8 0, .int .i8 0, .int .i8 0, .int .i16 0, .int .i16 0, .int .i16 0, .int .i8 0, .bool false, .bool false]) (x := ?sx9) (y := ?sy9) (c0 := .int .i8 ((rd_T54 l1 x23_2).f0.f0)) (c1 := .int .i8 ((rd_T54 l1 x23_2).f0.f1)) (c2 := .int .i8 ((rd_T54 l1 x23_2).f0.f2)) (c3 := .int .i8 ((rd_T54 l1 x23_2).f0.f3)) (c4 := .int .i8 ((rd_T54 l1 x23_2).f0.f4)) (c5 := .int .i8 ((rd_T54 l1 x23_2).f0.f5)) (c6 := .int .i8 ((rd_T54 l1 x23_2).f0.f6)) (c7 := .int .i8 ((rd_T54 l1 x23_2).f0.f7)) (c8 := .int .i8 ((rd_T54 l1 x23_2).f0.f8)) (c9 := .int .i8 ((rd_T54 l1 x23_2).f0.f9)) (c10 := .int .i8 ((rd_T54 l1 x23_2).f0.f10)) (c11 := .int .i8 ((rd_T54 l1 x23_2).f0.f11)) (c12 := .int .i8 ((rd_T54 l1 x23_2).f0.f12)) (c13 := .int .i8 ((rd_T54 l1 x23_2).f0.f13)) (c14 := .int .i16 ((rd_T54 l1 x23_2).f1.f0)) (c15 := .int .i16 ((rd_T54 l1 x23_2).f1.f1)) (c16 := .int .i16 ((rd_T54 l1 x23_2).f1.f2)) (c17 := .int .i8 ((rd_T54 l1 x23_2).f2.f0)) (c18 := .bool ((rd_T54 l1 x23_2).f2.f1)) (c19 := .bool false) ?sa9 ?sb9 ?sc9 ?sd9 ?se9 ?sf9 BK290.out rfl ?sg9 ?_; (case sa9 => rfl); (case sb9 => rfl); (case sc9 => rfl); (case sd9 => rfl); (case se9 => rfl); (case sf9 => kernel_rfl); (case sg9 => rfl)))
             go_loopg [66] kj41 (fun kq v66 w' => ∃ (x66_4 : Int), v66 = .int .i64 x66_4 ∧ ze (impl_ValidPlan.l1 kq l1 t286 x23_2 l1 (l1.length : Int) x23_2 x66_4 a0_0 a0_1 a0_2 a0_3 ((rd_T54 l1 x23_2).f1.f0) ((rd_T54 l1 x23_2).f1.f1) ((rd_T54 l1 x23_2).f1.f2) = some r) ∧ ze (kq ≤ kj41) ∧ ze (Kd.R k46 46 w' w.heap.size (fun _ => True) v287 t286) ∧ ze (w'.heap[gb282]? = some (.cells #[.int .i8 a0_0, .int .i8 a0_1, .bool a0_2, .bool a0_3] 29 (0, 0))) ∧ ze (w'.heap[gb290]? = some (.cells #[.int .i8 ((rd_T54 l1 x23_2).f0.f0), .int .i8 ((rd_T54 l1 x23_2).f0.f1), .int .i8 ((rd_T54 l1 x23_2).f0.f2), .int .i8 ((rd_T54 l1 x23_2).f0.f3), .int .i8 ((rd_T54 l1 x23_2).f0.f4), .int .i8 ((rd_T54 l1 x23_2).f0.f5), .int .i8 ((rd_T54 l1 x23_2).f0.f6), .int .i8 ((rd_T54 l1 x23_2).f0.f7), .int .i8 ((rd_T54 l1 x23_2).f0.f8), .int .i8 ((rd_T54 l1 x23_2).f0.f9), .int .i8 ((rd_T54 l1 x23_2).f0.f10), .int .i8 ((rd_T54 l1 x23_2).f0.f11), .int .i8 ((rd_T54 l1 x23_2).f0.f12), .int .i8 ((rd_T54 l1 x23_2).f0.f13), .int .i16 ((rd_T54 l1 x23_2).f1.f0), .int .i16 ((rd_T54 l1 x23_2).f1.f1), .int .i16 ((rd_T54 l1 x23_2).f1.f2), .int .i8 ((rd_T54 l1 x23_2).f2.f0), .bool ((rd_T54 l1 x23_2).f2.f1), .bool false] 54 (0, 0))) ∧ ze (Below w.heap.size w w'))
             case atStart => exact ⟨(0), (by first | rfl | (simp; done) | (simp [*]; done)), H', ⟨Nat.le_refl _⟩, ⟨by (with_reducible repeat (first | apply Kd.R_alloc | apply Kd.R_drewN | apply Kd.R_drew)); exact HO_5.out⟩, ⟨by (with_reducible repeat (first | refine zh ?_ _ | refine zi ?_ | refine zg ?_ _)); exact BK282.out⟩, ⟨by (with_reducible repeat (first | refine zh ?_ _ | refine zi ?_ | refine zg ?_ _)); exact BK290.out⟩, ⟨by repeat (first | (with_reducible first | exact HB.out | apply zc | apply za | apply zb | refine zf ?_ GE282.out | refine zf ?_ GE290.out) | exact HB.out)⟩⟩
             case round =>
              clear H'
              try clear c1
              try clear c2
              try clear p2
              try clear q2
              try clear hx2
              try clear c3
              try clear c4
              try clear c5
              try clear c6
              try clear p6
              try clear c13
              try clear c17
              try clear c17b0
              try clear c18
              try clear c18b0
              try clear c19
              try clear c19b0
              try clear q20
              try clear c21
              try clear c22
              try clear c22b0
              try clear c24
              try clear c26
              try clear c26b0
              try clear c28
              try clear p28
              try clear q28
              try clear hx28
              try clear c29
              try clear c31
              try clear c33
              try clear c38
              try clear c44
              try clear c45
              try clear c46
              try clear c46b0
              try clear c47
              try clear c49
              try clear c49b0
              try clear c49b1
              try clear c49b2
              try clear c50
              try clear c53
              try clear c57
              try clear c58
              try clear hcz11_0
              try clear hcz11_1
              try clear hcz11_2
              try clear hcz11_3
              try clear hcz15_0
              try clear hcz15_1
              try clear hcz15_2
              try clear hcz15_3
              try clear hcz25_0
              try clear hcz25_1
              try clear hcz25_10
              try clear hcz25_11
              try clear hcz25_12
              try clear hcz25_13
              try clear hcz25_14
              try clear hcz25_15
              try clear hcz25_16
              try clear hcz25_17
              try clear hcz25_18
              try clear hcz25_19
              try clear hcz25_2
              try clear hcz25_3
              try clear hcz25_4
              try clear hcz25_5
              try clear hcz25_6
              try clear hcz25_7
              try clear hcz25_8
              try clear hcz25_9
              try clear hcz29_0
              try clear hcz29_1
              try clear hcz29_10
              try clear hcz29_11
              try clear hcz29_12
              try clear hcz29_13
              try clear hcz29_14
              try clear hcz29_15
              try clear hcz29_16
              try clear hcz29_17
              try clear hcz29_18
              try clear hcz29_19
              try clear hcz29_2
              try clear hcz29_3
              try clear hcz29_4
              try clear hcz29_5
              try clear hcz29_6
              try clear hcz29_7
              try clear hcz29_8
              try clear hcz29_9
              try clear hcz34_0
              try clear hcz34_1
              try clear hcz34_10
              try clear hcz34_11
              try clear hcz34_12
              try clear hcz34_13
              try clear hcz34_14
              try clear hcz34_15
              try clear hcz34_16
              try clear hcz34_17
              try clear hcz34_18
              try clear hcz34_19
              try clear hcz34_2
              try clear hcz34_3
              try clear hcz34_4
              try clear hcz34_5
              try clear hcz34_6
              try clear hcz34_7
              try clear hcz34_8
              try clear hcz34_9
              try clear hcz39_0
              try clear hcz39_1
              try clear hcz39_10
              try clear hcz39_11
              try clear hcz39_12
              try clear hcz39_13
              try clear hcz39_14
              try clear hcz39_15
              try clear hcz39_16
              try clear hcz39_17
              try clear hcz39_18
              try clear hcz39_19
              try clear hcz39_2
              try clear hcz39_3
              try clear hcz39_4
              try clear hcz39_5
              try clear hcz39_6
              try clear hcz39_7
              try clear hcz39_8
              try clear hcz39_9
              try clear hcz45_0
              try clear hcz45_1
              try clear hcz45_10
              try clear hcz45_11
              try clear hcz45_12
              try clear hcz45_13
              try clear hcz45_14
              try clear hcz45_15
              try clear hcz45_16
              try clear hcz45_17
              try clear hcz45_18
              try clear hcz45_19
              try clear hcz45_2
              try clear hcz45_3
              try clear hcz45_4
              try clear hcz45_5
              try clear hcz45_6
              try clear hcz45_7
              try clear hcz45_8
              try clear hcz45_9
              try clear hcz48_0
              try clear hcz48_1
              try clear hcz48_10
              try clear hcz48_11
              try clear hcz48_12
              try clear hcz48_13
              try clear hcz48_14
              try clear hcz48_15
              try clear hcz48_16
              try clear hcz48_17
              try clear hcz48_18
              try clear hcz48_19
              try clear hcz48_2
              try clear hcz48_3
              try clear hcz48_4
              try clear hcz48_5
              try clear hcz48_6
              try clear hcz48_7
              try clear hcz48_8
              try clear hcz48_9
              try clear hcz51_0
              try clear hcz51_1
              try clear hcz51_10
              try clear hcz51_11
              try clear hcz51_12
              try clear hcz51_13
              try clear hcz51_14
              try clear hcz51_15
              try clear hcz51_16
              try clear hcz51_17
              try clear hcz51_18
              try clear hcz51_19
              try clear hcz51_2
              try clear hcz51_3
              try clear hcz51_4
              try clear hcz51_5
              try clear hcz51_6
              try clear hcz51_7
              try clear hcz51_8
              try clear hcz51_9
              try clear hcz54_0
              try clear hcz54_1
              try clear hcz54_10
              try clear hcz54_11
              try clear hcz54_12
              try clear hcz54_13
              try clear hcz54_14
              try clear hcz54_15
              try clear hcz54_16
              try clear hcz54_17
              try clear hcz54_18
              try clear hcz54_19
              try clear hcz54_2
              try clear hcz54_3
              try clear hcz54_4
              try clear hcz54_5
              try clear hcz54_6
              try clear hcz54_7
              try clear hcz54_8
              try clear hcz54_9
              try clear hcz55_0
              try clear hcz55_1
              try clear hcz55_2
              try clear hcz55_3
              try clear hcz59_0
              try clear hcz59_1
              try clear hcz59_10
              try clear hcz59_11
              try clear hcz59_12
              try clear hcz59_13
              try clear hcz59_14
              try clear hcz59_15
              try clear hcz59_16
              try clear hcz59_17
              try clear hcz59_18
              try clear hcz59_19
              try clear hcz59_2
              try clear hcz59_3
              try clear hcz59_4
              try clear hcz59_5
              try clear hcz59_6
              try clear hcz59_7
              try clear hcz59_8
              try clear hcz59_9
              try clear hcz9_0
              try clear hcz9_1
              try clear hcz9_2
              try clear hcz9_3
              try clear hfz11_0
              try clear hfz11_1
              try clear hfz11_2
              try clear hfz11_3
              try clear hfz15_0
              try clear hfz15_1
              try clear hfz15_2
              try clear hfz15_3
              try clear hfz25_0
              try clear hfz25_1
              try clear hfz25_10
              try clear hfz25_11
              try clear hfz25_12
              try clear hfz25_13
              try clear hfz25_14
              try clear hfz25_15
              try clear hfz25_16
              try clear hfz25_17
              try clear hfz25_18
              try clear hfz25_19
              try clear hfz25_2
              try clear hfz25_3
              try clear hfz25_4
              try clear hfz25_5
              try clear hfz25_6
              try clear hfz25_7
              try clear hfz25_8
              try clear hfz25_9
              try clear hfz29_0
              try clear hfz29_1
              try clear hfz29_10
              try clear hfz29_11
              try clear hfz29_12
              try clear hfz29_13
              try clear hfz29_14
              try clear hfz29_15
              try clear hfz29_16
              try clear hfz29_17
              try clear hfz29_18
              try clear hfz29_19
              try clear hfz29_2
              try clear hfz29_3
              try clear hfz29_4
              try clear hfz29_5
              try clear hfz29_6
              try clear hfz29_7
              try clear hfz29_8
              try clear hfz29_9
              try clear hfz34_0
              try clear hfz34_1
              try clear hfz34_10
              try clear hfz34_11
              try clear hfz34_12
              try clear hfz34_13
              try clear hfz34_14
              try clear hfz34_15
              try clear hfz34_16
              try clear hfz34_17
              try clear hfz34_18
              try clear hfz34_19
              try clear hfz34_2
              try clear hfz34_3
              try clear hfz34_4
              try clear hfz34_5
              try clear hfz34_6
              try clear hfz34_7
              try clear hfz34_8
              try clear hfz34_9
              try clear hfz39_0
              try clear hfz39_1
              try clear hfz39_10
              try clear hfz39_11
              try clear hfz39_12
              try clear hfz39_13
              try clear hfz39_14
              try clear hfz39_15
              try clear hfz39_16
              try clear hfz39_17
              try clear hfz39_18
              try clear hfz39_19
              try clear hfz39_2
              try clear hfz39_3
              try clear hfz39_4
              try clear hfz39_5
              try clear hfz39_6
              try clear hfz39_7
              try clear hfz39_8
              try clear hfz39_9
              try clear hfz45_0
              try clear hfz45_1
              try clear hfz45_10
              try clear hfz45_11
              try clear hfz45_12
              try clear hfz45_13
              try clear hfz45_14
              try clear hfz45_15
              try clear hfz45_16
              try clear hfz45_17
              try clear hfz45_18
              try clear hfz45_19
              try clear hfz45_2
              try clear hfz45_3
              try clear hfz45_4
              try clear hfz45_5
              try clear hfz45_6
              try clear hfz45_7
              try clear hfz45_8
              try clear hfz45_9
              try clear hfz48_0
              try clear hfz48_1
              try clear hfz48_10
              try clear hfz48_11
              try clear hfz48_12
              try clear hfz48_13
              try clear hfz48_14
              try clear hfz48_15
              try clear hfz48_16
              try clear hfz48_17
              try clear hfz48_18
              try clear hfz48_19
              try clear hfz48_2
              try clear hfz48_3
              try clear hfz48_4
              try clear hfz48_5
              try clear hfz48_6
              try clear hfz48_7
              try clear hfz48_8
              try clear hfz48_9
              try clear hfz51_0
              try clear hfz51_1
              try clear hfz51_10
              try clear hfz51_11
              try clear hfz51_12
              try clear hfz51_13
              try clear hfz51_14
              try clear hfz51_15
              try clear hfz51_16
              try clear hfz51_17
              try clear hfz51_18
              try clear hfz51_19
              try clear hfz51_2
              try clear hfz51_3
              try clear hfz51_4
              try clear hfz51_5
              try clear hfz51_6
              try clear hfz51_7
              try clear hfz51_8
              try clear hfz51_9
              try clear hfz54_0
              try clear hfz54_1
              try clear hfz54_10
              try clear hfz54_11
              try clear hfz54_12
              try clear hfz54_13
              try clear hfz54_14
              try clear hfz54_15
              try clear hfz54_16
              try clear hfz54_17
              try clear hfz54_18
              try clear hfz54_19
              try clear hfz54_2
              try clear hfz54_3
              try clear hfz54_4
              try clear hfz54_5
              try clear hfz54_6
              try clear hfz54_7
              try clear hfz54_8
              try clear hfz54_9
              try clear hfz55_0
              try clear hfz55_1
              try clear hfz55_2
              try clear hfz55_3
              try clear hfz59_0
              try clear hfz59_1
              try clear hfz59_10
              try clear hfz59_11
              try clear hfz59_12
              try clear hfz59_13
              try clear hfz59_14
              try clear hfz59_15
              try clear hfz59_16
              try clear hfz59_17
              try clear hfz59_18
              try clear hfz59_19
              try clear hfz59_2
              try clear hfz59_3
              try clear hfz59_4
              try clear hfz59_5
              try clear hfz59_6
              try clear hfz59_7
              try clear hfz59_8
              try clear hfz59_9
              try clear hfz9_0
              try clear hfz9_1
              try clear hfz9_2
              try clear hfz9_3
              try clear hx289_0
              try clear hx289_1
              try clear hx289_10
              try clear hx289_11
              try clear hx289_12
              try clear hx289_13
              try clear hx289_14
              try clear hx289_15
              try clear hx289_16
              try clear hx289_17
              try clear hx289_18
              try clear hx289_19
              try clear hx289_2
              try clear hx289_3
              try clear hx289_4
              try clear hx289_5
              try clear hx289_6
              try clear hx289_7
              try clear hx289_8
              try clear hx289_9
              try clear p2
              try clear p28
              try clear p289
              try clear p6
              try clear q2
              try clear q20
              try clear q28
              try clear q289
              obtain ⟨x66_4, rfl, HA, HK4, HO_5, BK282, BK290, HB⟩ := hrel
              cases gk with
              | zero => exact absurd HA.out (by simp [impl_ValidPlan.l1])
              | succ k4 =>
               have H := HA.out
               clear HA
               simp only [impl_ValidPlan.l1] at H
               by_cases c60 : x66_4 < 3
               ·rw [if_pos c60] at H
                have c60b0 : decide (x66_4 < 3) = true := decide_eq_true c60
                clear c60
                by_cases c61 : 0 ≤ x66_4
                ·rw [if_pos c61] at H
                 have c61b0 : decide (0 ≤ x66_4) = true := decide_eq_true c61
                 clear c61
                 replace H := Option.bind_eq_some_iff.mp H
                 obtain ⟨t294, A620, H⟩ := H
                 replace H : ((impl_within.f (wrap64 (rd [((rd_T54 l1 x23_2).f1.f0), ((rd_T54 l1 x23_2).f1.f1), ((rd_T54 l1 x23_2).f1.f2)] x66_4)) (wrap64 (x23_2 + 1)) (wrap64 (t294 - 1))).bind fun t295 => (if t295 = true then (impl_ValidPlan.l1 k4 l1 t286 x23_2 l1 (l1.length : Int) x23_2 (wrap64 (x66_4 + 1)) a0_0 a0_1 a0_2 a0_3 ((rd_T54 l1 x23_2).f1.f0) ((rd_T54 l1 x23_2).f1.f1) ((rd_T54 l1 x23_2).f1.f2)) else (some false))) = some r := H
                 have A62 := ze.mk A620
                 clear A620
                 replace H := Option.bind_eq_some_iff.mp H
                 obtain ⟨t295, A630, H⟩ := H
                 replace H : (if t295 = true then (impl_ValidPlan.l1 k4 l1 t286 x23_2 l1 (l1.length : Int) x23_2 (wrap64 (x66_4 + 1)) a0_0 a0_1 a0_2 a0_3 ((rd_T54 l1 x23_2).f1.f0) ((rd_T54 l1 x23_2).f1.f1) ((rd_T54 l1 x23_2).f1.f2)) else (some false)) = some r := H
                 have A63 := ze.mk A630
                 clear A630
                 by_cases c64 : t295 = true
                 ·subst c64
                  have H1 : (impl_ValidPlan.l1 k4 l1 t286 x23_2 l1 (l1.length : Int) x23_2 (wrap64 (x66_4 + 1)) a0_0 a0_1 a0_2 a0_3 ((rd_T54 l1 x23_2).f1.f0) ((rd_T54 l1 x23_2).f1.f1) ((rd_T54 l1 x23_2).f1.f2)) = some r := by rw [if_pos rfl] at H; exact H
                  clear H
                  have H := H1
                  clear H1
                  have H' := ze.mk H
                  clear H
                  have hx65_0 : ∀ W_ : World, (Instr.index 52 (.agg #[.int .i16 ((rd_T54 l1 x23_2).f1.f0), .int .i16 ((rd_T54 l1 x23_2).f1.f1), .int .i16 ((rd_T54 l1 x23_2).f1.f2)]) (.int .i64 x66_4)).run Try.prog W_ = .ok (.int .i16 (rd [((rd_T54 l1 x23_2).f1.f0), ((rd_T54 l1 x23_2).f1.f1), ((rd_T54 l1 x23_2).f1.f2)] x66_4)) W_ := by intro W_; rcases (show (x66_4 : Int) = 0 ∨ (x66_4 : Int) = 1 ∨ (x66_4 : Int) = 2 by have hp_ : 0 ≤ (x66_4 : Int) := of_decide_eq_true (by first | (with_reducible assumption) | assumption); have hq_ : x66_4 < (3 : Int) := of_decide_eq_true (by first | (with_reducible assumption) | assumption); omega) with h_ | h_ | h_ <;> rw [h_] <;> kernel_rfl
                  go_wp2_with (first | ((with_reducible refine zn (N := 27) rfl ?_); refine load20_event (T := 54) (p := ad289.add ((x23_2).toNat * 20)) (x := ?lx10) ?la10 ?lb10 ?lc10 hu54 ?ld10 ?le10 hx289_0 hx289_1 hx289_2 hx289_3 hx289_4 hx289_5 hx289_6 hx289_7 hx289_8 hx289_9 hx289_10 hx289_11 hx289_12 hx289_13 hx289_14 hx289_15 hx289_16 hx289_17 hx289_18 hx289_19 ?_; (case la10 => rfl); (case lb10 => rfl); (case lc10 => rfl); (case ld10 => rfl); (case le10 => kernel_rfl)) | ((with_reducible refine zga (t := 54) (p := 7) rfl ?_); refine store20_event (g := gb290) (T := 54) (t := 54) (cur := #[.int .i8 0, .int .i8 0, .int .i8 0, .int .i8 0, .int .i8 0, .int .i8 0, .int .i8 0, .int .i8 0, .int .i8 0, .int .i8 0, .int .i8 0, .int .i8 0, .int .i8 0, .int .i8 0, .int .i16 0, .int .i16 0, .int .i16 0, .int .i8 0, .bool false, .bool false]) (x := ?sx10) (y := ?sy10) (c0 := .int .i8 ((rd_T54 l1 x23_2).f0.f0)) (c1 := .int .i8 ((rd_T54 l1 x23_2).f0.f1)) (c2 := .int .i8 ((rd_T54 l1 x23_2).f0.f2)) (c3 := .int .i8 ((rd_T54 l1 x23_2).f0.f3)) (c4 := .int .i8 ((rd_T54 l1 x23_2).f0.f4)) (c5 := .int .i8 ((rd_T54 l1 x23_2).f0.f5)) (c6 := .int .i8 ((rd_T54 l1 x23_2).f0.f6)) (c7 := .int .i8 ((rd_T54 l1 x23_2).f0.f7)) (c8 := .int .i8 ((rd_T54 l1 x23_2).f0.f8)) (c9 := .int .i8 ((rd_T54 l1 x23_2).f0.f9)) (c10 := .int .i8 ((rd_T54 l1 x23_2).f0.f10)) (c11 := .int .i8 ((rd_T54 l1 x23_2).f0.f11)) (c12 := .int .i8 ((rd_T54 l1 x23_2).f0.f12)) (c13 := .int .i8 ((rd_T54 l1 x23_2).f0.f13)) (c14 := .int .i16 ((rd_T54 l1 x23_2).f1.f0)) (c15 := .int .i16 ((rd_T54 l1 x23_2).f1.f1)) (c16 := .int .i16 ((rd_T54 l1 x23_2).f1.f2)) (c17 := .int .i8 ((rd_T54 l1 x23_2).f2.f0)) (c18 := .bool ((rd_T54 l1 x23_2).f2.f1)) (c19 := .bool false) ?sa10 ?sb10 ?sc10 ?sd10 ?se10 ?sf10 BK290.out rfl ?sg10 ?_; (case sa10 => rfl); (case sb10 => rfl); (case sc10 => rfl); (case sd10 => rfl); (case se10 => rfl); (case sf10 => kernel_rfl); (case sg10 => rfl)) | ((with_reducible refine zo (f := 46) rfl ?_); refine zx (some 74) rfl rfl Try.func46 (by kernel_rfl) rfl #[.slice (some ad289) l1.length c1] rfl (by (try simp only [List.map_toArray, List.map_cons, List.map_nil]); first | done | rfl | (simp only [List.length_drop, List.length_take]; rfl)) ?_; (with_reducible refine (impl_Node.calls _ _ l1 t294 _ ?side1 ?side2 A62.out).mono ?_); (case side1 => repeat (first | exact (Kd.C_below HR1.out HB.out) | (with_reducible refine Kd.C_alloc ?_ _) | (with_reducible refine Kd.C_drewN ?_ _) | (with_reducible refine Kd.C_drew ?_))); (case side2 => exact HC1.out); rintro e w' ⟨rfl, ⟨nd, rfl⟩⟩; refine ⟨_, rfl, ?_⟩) | ((with_reducible refine zo (f := 38) rfl ?_); refine zx (some 76) rfl rfl Try.func38 (by kernel_rfl) rfl #[.int .i64 (wrap64 (rd [((rd_T54 l1 x23_2).f1.f0), ((rd_T54 l1 x23_2).f1.f1), ((rd_T54 l1 x23_2).f1.f2)] x66_4)), .int .i64 (wrap64 (x23_2 + 1)), .int .i64 (wrap64 (t294 - 1))] rfl (by (try simp only [List.map_toArray, List.map_cons, List.map_nil]); first | done | rfl | (simp only [List.length_drop, List.length_take]; rfl)) ?_; (with_reducible refine (impl_within.calls (wrap64 (rd [((rd_T54 l1 x23_2).f1.f0), ((rd_T54 l1 x23_2).f1.f1), ((rd_T54 l1 x23_2).f1.f2)] x66_4)) (wrap64 (x23_2 + 1)) (wrap64 (t294 - 1)) true _ A63.out).mono ?_); rintro e w' ⟨rfl, ⟨nd, rfl⟩⟩; refine ⟨_, rfl, ?_⟩))
                  go_roundg k4
                  case measure => have := HJ2.out; have := HK2.out; have := HJ41.out; have := HK4.out; omega
                  case rel => exact ⟨(wrap64 (x66_4 + 1)), (by first | rfl | (simp; done) | (simp [*]; done)), H', ⟨by have := HJ2.out; have := HK2.out; have := HJ41.out; have := HK4.out; omega⟩, ⟨by (with_reducible repeat (first | apply Kd.R_alloc | apply Kd.R_drewN | apply Kd.R_drew)); exact HO_5.out⟩, ⟨by (with_reducible repeat (first | refine zh ?_ _ | refine zi ?_ | refine zg ?_ _)); exact BK282.out⟩, ⟨by (with_reducible repeat (first | refine zh ?_ _ | refine zi ?_ | refine zg ?_ _)); exact BK290.out⟩, ⟨by repeat (first | (with_reducible first | exact HB.out | apply zc | apply za | apply zb | refine zf ?_ GE282.out | refine zf ?_ GE290.out) | exact HB.out)⟩⟩
                 ·replace c64 := Bool.eq_false_iff.mpr c64
                  subst c64
                  have H1 : (some false) = some r := by rw [if_neg (show ¬ (false = true) by decide)] at H; exact H
                  clear H
                  have H := H1
                  clear H1
                  obtain rfl := Option.some.inj H
                  have hx66_0 : ∀ W_ : World, (Instr.index 52 (.agg #[.int .i16 ((rd_T54 l1 x23_2).f1.f0), .int .i16 ((rd_T54 l1 x23_2).f1.f1), .int .i16 ((rd_T54 l1 x23_2).f1.f2)]) (.int .i64 x66_4)).run Try.prog W_ = .ok (.int .i16 (rd [((rd_T54 l1 x23_2).f1.f0), ((rd_T54 l1 x23_2).f1.f1), ((rd_T54 l1 x23_2).f1.f2)] x66_4)) W_ := by intro W_; rcases (show (x66_4 : Int) = 0 ∨ (x66_4 : Int) = 1 ∨ (x66_4 : Int) = 2 by have hp_ : 0 ≤ (x66_4 : Int) := of_decide_eq_true (by first | (with_reducible assumption) | assumption); have hq_ : x66_4 < (3 : Int) := of_decide_eq_true (by first | (with_reducible assumption) | assumption); omega) with h_ | h_ | h_ <;> rw [h_] <;> kernel_rfl
                  go_wp2_with (first | ((with_reducible refine zn (N := 27) rfl ?_); refine load20_event (T := 54) (p := ad289.add ((x23_2).toNat * 20)) (x := ?lx11) ?la11 ?lb11 ?lc11 hu54 ?ld11 ?le11 hx289_0 hx289_1 hx289_2 hx289_3 hx289_4 hx289_5 hx289_6 hx289_7 hx289_8 hx289_9 hx289_10 hx289_11 hx289_12 hx289_13 hx289_14 hx289_15 hx289_16 hx289_17 hx289_18 hx289_19 ?_; (case la11 => rfl); (case lb11 => rfl); (case lc11 => rfl); (case ld11 => rfl); (case le11 => kernel_rfl)) | ((with_reducible refine zga (t := 54) (p := 7) rfl ?_); refine store20_event (g := gb290) (T := 54) (t := 54) (cur := #[.int .i8 0, .int .i8 0, .int .i8 0, .int .i8 0, .int .i8 0, .int .i8 0, .int .i8 0, .int .i8 0, .int .i8 0, .int .i8 0, .int .i8 0, .int .i8 0, .int .i8 0, .int .i8 0, .int .i16 0, .int .i16 0, .int .i16 0, .int .i8 0, .bool false, .bool false]) (x := ?sx11) (y := ?sy11) (c0 := .int .i8 ((rd_T54 l1 x23_2).f0.f0)) (c1 := .int .i8 ((rd_T54 l1 x23_2).f0.f1)) (c2 := .int .i8 ((rd_T54 l1 x23_2).f0.f2)) (c3 := .int .i8 ((rd_T54 l1 x23_2).f0.f3)) (c4 := .int .i8 ((rd_T54 l1 x23_2).f0.f4)) (c5 := .int .i8 ((rd_T54 l1 x23_2).f0.f5)) (c6 := .int .i8 ((rd_T54 l1 x23_2).f0.f6)) (c7 := .int .i8 ((rd_T54 l1 x23_2).f0.f7)) (c8 := .int .i8 ((rd_T54 l1 x23_2).f0.f8)) (c9 := .int .i8 ((rd_T54 l1 x23_2).f0.f9)) (c10 := .int .i8 ((rd_T54 l1 x23_2).f0.f10)) (c11 := .int .i8 ((rd_T54 l1 x23_2).f0.f11)) (c12 := .int .i8 ((rd_T54 l1 x23_2).f0.f12)) (c13 := .int .i8 ((rd_T54 l1 x23_2).f0.f13)) (c14 := .int .i16 ((rd_T54 l1 x23_2).f1.f0)) (c15 := .int .i16 ((rd_T54 l1 x23_2).f1.f1)) (c16 := .int .i16 ((rd_T54 l1 x23_2).f1.f2)) (c17 := .int .i8 ((rd_T54 l1 x23_2).f2.f0)) (c18 := .bool ((rd_T54 l1 x23_2).f2.f1)) (c19 := .bool false) ?sa11 ?sb11 ?sc11 ?sd11 ?se11 ?sf11 BK290.out rfl ?sg11 ?_; (case sa11 => rfl); (case sb11 => rfl); (case sc11 => rfl); (case sd11 => rfl); (case se11 => rfl); (case sf11 => kernel_rfl); (case sg11 => rfl)) | ((with_reducible refine zo (f := 46) rfl ?_); refine zx (some 74) rfl rfl Try.func46 (by kernel_rfl) rfl #[.slice (some ad289) l1.length c1] rfl (by (try simp only [List.map_toArray, List.map_cons, List.map_nil]); first | done | rfl | (simp only [List.length_drop, List.length_take]; rfl)) ?_; (with_reducible refine (impl_Node.calls _ _ l1 t294 _ ?side1 ?side2 A62.out).mono ?_); (case side1 => repeat (first | exact (Kd.C_below HR1.out HB.out) | (with_reducible refine Kd.C_alloc ?_ _) | (with_reducible refine Kd.C_drewN ?_ _) | (with_reducible refine Kd.C_drew ?_))); (case side2 => exact HC1.out); rintro e w' ⟨rfl, ⟨nd, rfl⟩⟩; refine ⟨_, rfl, ?_⟩) | ((with_reducible refine zo (f := 38) rfl ?_); refine zx (some 76) rfl rfl Try.func38 (by kernel_rfl) rfl #[.int .i64 (wrap64 (rd [((rd_T54 l1 x23_2).f1.f0), ((rd_T54 l1 x23_2).f1.f1), ((rd_T54 l1 x23_2).f1.f2)] x66_4)), .int .i64 (wrap64 (x23_2 + 1)), .int .i64 (wrap64 (t294 - 1))] rfl (by (try simp only [List.map_toArray, List.map_cons, List.map_nil]); first | done | rfl | (simp only [List.length_drop, List.length_take]; rfl)) ?_; (with_reducible refine (impl_within.calls (wrap64 (rd [((rd_T54 l1 x23_2).f1.f0), ((rd_T54 l1 x23_2).f1.f1), ((rd_T54 l1 x23_2).f1.f2)] x66_4)) (wrap64 (x23_2 + 1)) (wrap64 (t294 - 1)) false _ A63.out).mono ?_); rintro e w' ⟨rfl, ⟨nd, rfl⟩⟩; refine ⟨_, rfl, ?_⟩))
                  go_ret
                  exact ⟨by first | rfl | (simp [errW_none, errW_some] <;> rfl) | (simp [*, errW_none, errW_some] <;> rfl), by repeat (first | (with_reducible first | exact HB.out | apply zc | apply za | apply zb | refine zf ?_ GE282.out | refine zf ?_ GE290.out) | exact HB.out)⟩
                ·rw [if_neg c61] at H
                 exact absurd H (by simp)
               ·rw [if_neg c60] at H
                have c60b0 : decide (x66_4 < 3) = false := decide_eq_false c60
                clear c60
                have H' := ze.mk H
                clear H
                go_wp2_with (first | ((with_reducible refine zn (N := 27) rfl ?_); refine load20_event (T := 54) (p := ad289.add ((x23_2).toNat * 20)) (x := ?lx12) ?la12 ?lb12 ?lc12 hu54 ?ld12 ?le12 hx289_0 hx289_1 hx289_2 hx289_3 hx289_4 hx289_5 hx289_6 hx289_7 hx289_8 hx289_9 hx289_10 hx289_11 hx289_12 hx289_13 hx289_14 hx289_15 hx289_16 hx289_17 hx289_18 hx289_19 ?_; (case la12 => rfl); (case lb12 => rfl); (case lc12 => rfl); (case ld12 => rfl); (case le12 => kernel_rfl)) | ((with_reducible refine zga (t := 54) (p := 7) rfl ?_); refine store20_event (g := gb290) (T := 54) (t := 54) (cur := #[.int .i8 0, .int .i8 0, .int .i8 0, .int .i8 0, .int .i8 0, .int .i8 0, .int .i8 0, .int .i8 0, .int .i8 0, .int .i8 0, .int .i8 0, .int .i8 0, .int .i8 0, .int .i8 0, .int .i16 0, .int .i16 0, .int .i16 0, .int .i8 0, .bool false, .bool false]) (x := ?sx12) (y := ?sy12) (c0 := .int .i8 ((rd_T54 l1 x23_2).f0.f0)) (c1 := .int .i8 ((rd_T54 l1 x23_2).f0.f1)) (c2 := .int .i8 ((rd_T54 l1 x23_2).f0.f2)) (c3 := .int .i8 ((rd_T54 l1 x23_2).f0.f3)) (c4 := .int .i8 ((rd_T54 l1 x23_2).f0.f4)) (c5 := .int .i8 ((rd_T54 l1 x23_2).f0.f5)) (c6 := .int .i8 ((rd_T54 l1 x23_2).f0.f6)) (c7 := .int .i8 ((rd_T54 l1 x23_2).f0.f7)) (c8 := .int .i8 ((rd_T54 l1 x23_2).f0.f8)) (c9 := .int .i8 ((rd_T54 l1 x23_2).f0.f9)) (c10 := .int .i8 ((rd_T54 l1 x23_2).f0.f10)) (c11 := .int .i8 ((rd_T54 l1 x23_2).f0.f11)) (c12 := .int .i8 ((rd_T54 l1 x23_2).f0.f12)) (c13 := .int .i8 ((rd_T54 l1 x23_2).f0.f13)) (c14 := .int .i16 ((rd_T54 l1 x23_2).f1.f0)) (c15 := .int .i16 ((rd_T54 l1 x23_2).f1.f1)) (c16 := .int .i16 ((rd_T54 l1 x23_2).f1.f2)) (c17 := .int .i8 ((rd_T54 l1 x23_2).f2.f0)) (c18 := .bool ((rd_T54 l1 x23_2).f2.f1)) (c19 := .bool false) ?sa12 ?sb12 ?sc12 ?sd12 ?se12 ?sf12 BK290.out rfl ?sg12 ?_; (case sa12 => rfl); (case sb12 => rfl); (case sc12 => rfl); (case sd12 => rfl); (case se12 => rfl); (case sf12 => kernel_rfl); (case sg12 => rfl)))
                go_roundg k4
                case measure => have := HJ2.out; have := HK2.out; have := HJ41.out; have := HK4.out; omega
                case rel => exact ⟨(wrap64 (x23_2 + 1)), (by first | rfl | (simp; done) | (simp [*]; done)), H', ⟨by have := HJ2.out; have := HK2.out; have := HJ41.out; have := HK4.out; omega⟩, ⟨by (with_reducible repeat (first | apply Kd.R_alloc | apply Kd.R_drewN | apply Kd.R_drew)); exact HO_5.out⟩, ⟨by (with_reducible repeat (first | refine zh ?_ _ | refine zi ?_ | refine zg ?_ _)); exact BK282.out⟩, ⟨by repeat (first | (with_reducible first | exact HB.out | apply zc | apply za | apply zb | refine zf ?_ GE282.out | refine zf ?_ GE290.out) | exact HB.out)⟩⟩
        ·rw [if_neg c19] at H
         exact absurd H (by simp)
       ·rw [if_neg c18] at H
        exact absurd H (by simp)
      ·rw [if_neg c17] at H
       have c17b0 : decide (x23_2 < (l1.length : Int)) = false := decide_eq_false c17
       clear c17
       obtain rfl := Option.some.inj H
       go_wp2_with (first | ((with_reducible refine zn (N := 27) rfl ?_); refine load20_event (T := 54) (p := ad289.add ((x23_2).toNat * 20)) (x := ?lx13) ?la13 ?lb13 ?lc13 hu54 ?ld13 ?le13 hx289_0 hx289_1 hx289_2 hx289_3 hx289_4 hx289_5 hx289_6 hx289_7 hx289_8 hx289_9 hx289_10 hx289_11 hx289_12 hx289_13 hx289_14 hx289_15 hx289_16 hx289_17 hx289_18 hx289_19 ?_; (case la13 => rfl); (case lb13 => rfl); (case lc13 => rfl); (case ld13 => rfl); (case le13 => kernel_rfl)) | ((with_reducible refine zga (t := 54) (p := 7) rfl ?_); refine store20_event (g := gb290) (T := 54) (t := 54) (cur := #[.int .i8 0, .int .i8 0, .int .i8 0, .int .i8 0, .int .i8 0, .int .i8 0, .int .i8 0, .int .i8 0, .int .i8 0, .int .i8 0, .int .i8 0, .int .i8 0, .int .i8 0, .int .i8 0, .int .i16 0, .int .i16 0, .int .i16 0, .int .i8 0, .bool false, .bool false]) (x := ?sx13) (y := ?sy13) (c0 := .int .i8 ((rd_T54 l1 x23_2).f0.f0)) (c1 := .int .i8 ((rd_T54 l1 x23_2).f0.f1)) (c2 := .int .i8 ((rd_T54 l1 x23_2).f0.f2)) (c3 := .int .i8 ((rd_T54 l1 x23_2).f0.f3)) (c4 := .int .i8 ((rd_T54 l1 x23_2).f0.f4)) (c5 := .int .i8 ((rd_T54 l1 x23_2).f0.f5)) (c6 := .int .i8 ((rd_T54 l1 x23_2).f0.f6)) (c7 := .int .i8 ((rd_T54 l1 x23_2).f0.f7)) (c8 := .int .i8 ((rd_T54 l1 x23_2).f0.f8)) (c9 := .int .i8 ((rd_T54 l1 x23_2).f0.f9)) (c10 := .int .i8 ((rd_T54 l1 x23_2).f0.f10)) (c11 := .int .i8 ((rd_T54 l1 x23_2).f0.f11)) (c12 := .int .i8 ((rd_T54 l1 x23_2).f0.f12)) (c13 := .int .i8 ((rd_T54 l1 x23_2).f0.f13)) (c14 := .int .i16 ((rd_T54 l1 x23_2).f1.f0)) (c15 := .int .i16 ((rd_T54 l1 x23_2).f1.f1)) (c16 := .int .i16 ((rd_T54 l1 x23_2).f1.f2)) (c17 := .int .i8 ((rd_T54 l1 x23_2).f2.f0)) (c18 := .bool ((rd_T54 l1 x23_2).f2.f1)) (c19 := .bool false) ?sa13 ?sb13 ?sc13 ?sd13 ?se13 ?sf13 BK290.out rfl ?sg13 ?_; (case sa13 => rfl); (case sb13 => rfl); (case sc13 => rfl); (case sd13 => rfl); (case se13 => rfl); (case sf13 => kernel_rfl); (case sg13 => rfl)))
       go_ret
       exact ⟨by first | rfl | (simp [errW_none, errW_some] <;> rfl) | (simp [*, errW_none, errW_some] <;> rfl), by repeat (first | (with_reducible first | exact HB.out | apply zc | apply za | apply zb | refine zf ?_ GE282.out) | exact HB.out)⟩

end Go.Proofs.Ytmmonhpjjjdnjaa.M
