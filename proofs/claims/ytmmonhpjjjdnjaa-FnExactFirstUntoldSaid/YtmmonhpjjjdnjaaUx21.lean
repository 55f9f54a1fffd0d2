-- Written by wip/tools/myprint.py, a program of this session, by way of the kit's print.
import Derived.Test.YtmmonhpjjjdnjaaUx0
import Derived.Test.YtmmonhpjjjdnjaaLLoadU
import Derived.Test.YtmmonhpjjjdnjaaUx1
import Derived.Test.YtmmonhpjjjdnjaaUx18
import Derived.Test.YtmmonhpjjjdnjaaUx20
namespace Go.Proofs.Ytmmonhpjjjdnjaa.U
open Go.RowKit Go.Proofs.YtmmonhpjjjdnjaaW.PrintWords Go.Proofs.YtmmonhpjjjdnjaaW.PrintLast Go.Proofs.YtmmonhpjjjdnjaaW.PrintMore
attribute [local go_sem] zba zea zha zia zy zz zda zca   -- for this text's walks alone
set_option linter.unusedVariables false
set_option linter.unusedSimpArgs false

attribute [local go_sem high] eqA46 eqA50 eqA52
/-! ### impl_ValidPlan: function 28 -/
mutual
def impl_ValidPlan.j0 : Nat → List (S54) → Bool → Int → Int → Bool → Bool → Option (Bool)
 | 0, _, _, _, _, _, _ => none
 | k + 1, x1, x18, x283000, x283001, x283002, x283003 => if x18 = true then (some false) else ((impl_Task_cases.f k x283000 x283001 x283002 x283003).bind fun t286 => (impl_ValidPlan.l0 k x1 t286 x1 (x1.length : Int) 0 x283000 x283001 x283002 x283003))
def impl_ValidPlan.l0 : Nat → List (S54) → List (S46) → List (S54) → Int → Int → Int → Int → Bool → Bool → Option (Bool)
 | 0, _, _, _, _, _, _, _, _, _ => none
 | k + 1, x1, x5, x21, x22, x23, x283000, x283001, x283002, x283003 => if x23 < x22 then (if 0 ≤ x23 then (if x23 < (x21.length : Int) then (if (rd_T54 x21 x23).f3 = true then (if (!(((rd_T54 x21 x23).f0.f0) == 0) || (!(((rd_T54 x21 x23).f0.f1) == 0) || (!(((rd_T54 x21 x23).f0.f2) == 0) || (!(((rd_T54 x21 x23).f0.f3) == 0) || (!(((rd_T54 x21 x23).f0.f4) == 0) || (!(((rd_T54 x21 x23).f0.f5) == 0) || (!(((rd_T54 x21 x23).f0.f6) == 0) || (!(((rd_T54 x21 x23).f0.f7) == 0) || (!(((rd_T54 x21 x23).f0.f8) == 0) || (!(((rd_T54 x21 x23).f0.f9) == 0) || (!(((rd_T54 x21 x23).f0.f10) == 0) || (!(((rd_T54 x21 x23).f0.f11) == 0) || (!(((rd_T54 x21 x23).f0.f12) == 0) || (!(((rd_T54 x21 x23).f0.f13) == 0))))))))))))))) = true then (some false) else (if (!(((rd_T54 x21 x23).f1.f0) == 0) || (!(((rd_T54 x21 x23).f1.f1) == 0) || (!(((rd_T54 x21 x23).f1.f2) == 0)))) = true then (some false) else ((impl_Case_47.f k x5 ((rd_T54 x21 x23).f2.f0) ((rd_T54 x21 x23).f2.f1)).bind fun t291 => (if t291 = true then (impl_ValidPlan.l0 k x1 x5 x21 x22 (wrap64 (x23 + 1)) x283000 x283001 x283002 x283003) else (some false))))) else (if (!(((rd_T54 x21 x23).f2.f0) == 0) || (((rd_T54 x21 x23).f2.f1))) = true then (impl_ValidPlan.j2 k x1 x5 x23 x21 x22 x23 true x283000 x283001 x283002 x283003 ((rd_T54 x21 x23).f0.f0) ((rd_T54 x21 x23).f0.f1) ((rd_T54 x21 x23).f0.f2) ((rd_T54 x21 x23).f0.f3) ((rd_T54 x21 x23).f0.f4) ((rd_T54 x21 x23).f0.f5) ((rd_T54 x21 x23).f0.f6) ((rd_T54 x21 x23).f0.f7) ((rd_T54 x21 x23).f0.f8) ((rd_T54 x21 x23).f0.f9) ((rd_T54 x21 x23).f0.f10) ((rd_T54 x21 x23).f0.f11) ((rd_T54 x21 x23).f0.f12) ((rd_T54 x21 x23).f0.f13) ((rd_T54 x21 x23).f1.f0) ((rd_T54 x21 x23).f1.f1) ((rd_T54 x21 x23).f1.f2) ((rd_T54 x21 x23).f2.f0) ((rd_T54 x21 x23).f2.f1) ((rd_T54 x21 x23).f3)) else (if (((rd_T54 x21 x23).f0.f0) == 0 && (((rd_T54 x21 x23).f0.f1) == 0 && (((rd_T54 x21 x23).f0.f2) == 0 && (((rd_T54 x21 x23).f0.f3) == 0 && (((rd_T54 x21 x23).f0.f4) == 0 && (((rd_T54 x21 x23).f0.f5) == 0 && (((rd_T54 x21 x23).f0.f6) == 0 && (((rd_T54 x21 x23).f0.f7) == 0 && (((rd_T54 x21 x23).f0.f8) == 0 && (((rd_T54 x21 x23).f0.f9) == 0 && (((rd_T54 x21 x23).f0.f10) == 0 && (((rd_T54 x21 x23).f0.f11) == 0 && (((rd_T54 x21 x23).f0.f12) == 0 && (((rd_T54 x21 x23).f0.f13) == 0)))))))))))))) = true then (impl_ValidPlan.j2 k x1 x5 x23 x21 x22 x23 true x283000 x283001 x283002 x283003 ((rd_T54 x21 x23).f0.f0) ((rd_T54 x21 x23).f0.f1) ((rd_T54 x21 x23).f0.f2) ((rd_T54 x21 x23).f0.f3) ((rd_T54 x21 x23).f0.f4) ((rd_T54 x21 x23).f0.f5) ((rd_T54 x21 x23).f0.f6) ((rd_T54 x21 x23).f0.f7) ((rd_T54 x21 x23).f0.f8) ((rd_T54 x21 x23).f0.f9) ((rd_T54 x21 x23).f0.f10) ((rd_T54 x21 x23).f0.f11) ((rd_T54 x21 x23).f0.f12) ((rd_T54 x21 x23).f0.f13) ((rd_T54 x21 x23).f1.f0) ((rd_T54 x21 x23).f1.f1) ((rd_T54 x21 x23).f1.f2) ((rd_T54 x21 x23).f2.f0) ((rd_T54 x21 x23).f2.f1) ((rd_T54 x21 x23).f3)) else ((impl_ValidWeighing.f k x283000 x283001 x283002 x283003 ((rd_T54 x21 x23).f0.f0) ((rd_T54 x21 x23).f0.f1) ((rd_T54 x21 x23).f0.f2) ((rd_T54 x21 x23).f0.f3) ((rd_T54 x21 x23).f0.f4) ((rd_T54 x21 x23).f0.f5) ((rd_T54 x21 x23).f0.f6) ((rd_T54 x21 x23).f0.f7) ((rd_T54 x21 x23).f0.f8) ((rd_T54 x21 x23).f0.f9) ((rd_T54 x21 x23).f0.f10) ((rd_T54 x21 x23).f0.f11) ((rd_T54 x21 x23).f0.f12) ((rd_T54 x21 x23).f0.f13)).bind fun t292 => (impl_ValidPlan.j2 k x1 x5 x23 x21 x22 x23 (!t292) x283000 x283001 x283002 x283003 ((rd_T54 x21 x23).f0.f0) ((rd_T54 x21 x23).f0.f1) ((rd_T54 x21 x23).f0.f2) ((rd_T54 x21 x23).f0.f3) ((rd_T54 x21 x23).f0.f4) ((rd_T54 x21 x23).f0.f5) ((rd_T54 x21 x23).f0.f6) ((rd_T54 x21 x23).f0.f7) ((rd_T54 x21 x23).f0.f8) ((rd_T54 x21 x23).f0.f9) ((rd_T54 x21 x23).f0.f10) ((rd_T54 x21 x23).f0.f11) ((rd_T54 x21 x23).f0.f12) ((rd_T54 x21 x23).f0.f13) ((rd_T54 x21 x23).f1.f0) ((rd_T54 x21 x23).f1.f1) ((rd_T54 x21 x23).f1.f2) ((rd_T54 x21 x23).f2.f0) ((rd_T54 x21 x23).f2.f1) ((rd_T54 x21 x23).f3)))))) else (none)) else (none)) else (some true)
def impl_ValidPlan.j2 : Nat → List (S54) → List (S46) → Int → List (S54) → Int → Int → Bool → Int → Int → Bool → Bool → Int → Int → Int → Int → Int → Int → Int → Int → Int → Int → Int → Int → Int → Int → Int → Int → Int → Int → Bool → Bool → Option (Bool)
 | 0, _, _, _, _, _, _, _, _, _, _, _, _, _, _, _, _, _, _, _, _, _, _, _, _, _, _, _, _, _, _, _ => none
 | k + 1, x1, x5, x6, x21, x22, x23, x63, x283000, x283001, x283002, x283003, x291000, x291001, x291002, x291003, x291004, x291005, x291006, x291007, x291008, x291009, x291010, x291011, x291012, x291013, x291014, x291015, x291016, x291017, x291018, x291019 => if x63 = true then (some false) else (impl_ValidPlan.l1 k x1 x5 x6 x21 x22 x23 0 x283000 x283001 x283002 x283003 x291014 x291015 x291016)
def impl_ValidPlan.l1 : Nat → List (S54) → List (S46) → Int → List (S54) → Int → Int → Int → Int → Int → Bool → Bool → Int → Int → Int → Option (Bool)
 | 0, _, _, _, _, _, _, _, _, _, _, _, _, _, _ => none
 | k + 1, x1, x5, x6, x21, x22, x23, x66, x283000, x283001, x283002, x283003, x90066000, x90066001, x90066002 => if x66 < 3 then (if 0 ≤ x66 then ((impl_Node.f x1).bind fun t294 => ((impl_within.f (wrap64 (rd [x90066000, x90066001, x90066002] x66)) (wrap64 (x6 + 1)) (wrap64 (t294 - 1))).bind fun t295 => (if t295 = true then (impl_ValidPlan.l1 k x1 x5 x6 x21 x22 x23 (wrap64 (x66 + 1)) x283000 x283001 x283002 x283003 x90066000 x90066001 x90066002) else (some false)))) else (none)) else (impl_ValidPlan.l0 k x1 x5 x21 x22 (wrap64 (x23 + 1)) x283000 x283001 x283002 x283003)
end
def impl_ValidPlan.f (k : Nat) (a0_0 : Int) (a0_1 : Int) (a0_2 : Bool) (a0_3 : Bool) (l1 : List (S54)) : Option (Bool) := (impl_ValidTask.f a0_0 a0_1 a0_2 a0_3).bind fun t283 => (if t283 = true then ((impl_Node.f l1).bind fun t284 => ((impl_within.f t284 1 400).bind fun t285 => (impl_ValidPlan.j0 k l1 (!t285) a0_0 a0_1 a0_2 a0_3))) else (impl_ValidPlan.j0 k l1 true a0_0 a0_1 a0_2 a0_3))
set_option maxHeartbeats 8000000 in
set_option maxRecDepth 100000 in
theorem impl_ValidPlan.calls (k : Nat) (a0_0 : Int) (a0_1 : Int) (a0_2 : Bool) (a0_3 : Bool) (A1 : Option Addr) (c1 : Nat) (l1 : List (S54)) (r : Bool) (w : World) (hr1 : Kd.C k54 w A1 l1.length l1) (hc1 : l1.length ≤ c1) (h : impl_ValidPlan.f k a0_0 a0_1 a0_2 a0_3 l1 = some r) :
  Calls Try.prog 28 #[.agg #[.int .i8 a0_0, .int .i8 a0_1, .bool a0_2, .bool a0_3], .slice A1 l1.length c1] w fun e w' => e = .returned (.bool r) ∧ Below w.heap.size w w' := by
 have hu29 := Try.underlying29
 have hu54 := Try.underlying54
 have hu50 := Try.underlying50
 have hu52 := Try.underlying52
 have hu46 := Try.underlying46
 have HR1 := zd.mk hr1
 have HC1 := zd.mk hc1
 clear hr1 hc1
 have HB := zd.mk (Below.refl w.heap.size w)
 have H : ((impl_ValidTask.f a0_0 a0_1 a0_2 a0_3).bind fun t283 => (if t283 = true then ((impl_Node.f l1).bind fun t284 => ((impl_within.f t284 1 400).bind fun t285 => (impl_ValidPlan.j0 k l1 (!t285) a0_0 a0_1 a0_2 a0_3))) else (impl_ValidPlan.j0 k l1 true a0_0 a0_1 a0_2 a0_3))) = some r := h
 clear h
 have HC3 := zd.mk H
 clear H
 go_enter Try.func28, Try.ntmps28
 go_upto_region 1 with (first | ((with_reducible refine zo (N := 2) rfl ?_); refine zn ?hg (N := 2) ?hd (cs := #[.int .i8 a0_0, .int .i8 a0_1, .bool a0_2, .bool a0_3]) (t := 29) ?hr ?_; (case hd => rfl); (case hg => rfl); (case hr => first | (go_simp; done) | (go_simp; rfl)); intro gb282 hg w4 hbox hb; obtain ⟨n0_, n2_⟩ := bx (by repeat (first | (with_reducible first | exact HB.out | apply zc | apply za | apply zb) | exact HB.out)) hb hg; have n1_ := zd.mk (hbox); have n3_ := n2_; clear HB; have HB := n0_; have BK282 := n1_; have GW282 := n2_; have GE282 := n3_; clear n0_ n1_ n2_ n3_; clear hb hbox hg))
 (try simp only [Act.put, List.setIfInBounds_toArray, List.set_cons_zero, List.set_cons_succ])
 go_cut [18] (fun v18 wc => ∃ (kq : Nat) (x18_2 : Bool), v18 = .bool x18_2 ∧ zd (impl_ValidPlan.j0 kq l1 x18_2 a0_0 a0_1 a0_2 a0_3 = some r) ∧ zd (kq ≤ k) ∧ zd (wc.heap[gb282]? = some (.cells #[.int .i8 a0_0, .int .i8 a0_1, .bool a0_2, .bool a0_3] 29 (0, 0))) ∧ zd (Below w.heap.size w wc))
 case first =>
  have H := HC3.out
  clear HC3
  replace H := Option.bind_eq_some_iff.mp H
  obtain ⟨t283, A50, H⟩ := H
  replace H : (if t283 = true then ((impl_Node.f l1).bind fun t284 => ((impl_within.f t284 1 400).bind fun t285 => (impl_ValidPlan.j0 k l1 (!t285) a0_0 a0_1 a0_2 a0_3))) else (impl_ValidPlan.j0 k l1 true a0_0 a0_1 a0_2 a0_3)) = some r := H
  have A5 := zd.mk A50
  clear A50
  by_cases c6 : t283 = true
  ·subst c6
   have H1 : ((impl_Node.f l1).bind fun t284 => ((impl_within.f t284 1 400).bind fun t285 => (impl_ValidPlan.j0 k l1 (!t285) a0_0 a0_1 a0_2 a0_3))) = some r := by rw [if_pos rfl] at H; exact H
   clear H
   have H := H1
   clear H1
   replace H := Option.bind_eq_some_iff.mp H
   obtain ⟨t284, A70, H⟩ := H
   replace H : ((impl_within.f t284 1 400).bind fun t285 => (impl_ValidPlan.j0 k l1 (!t285) a0_0 a0_1 a0_2 a0_3)) = some r := H
   have A7 := zd.mk A70
   clear A70
   replace H := Option.bind_eq_some_iff.mp H
   obtain ⟨t285, A80, H⟩ := H
   replace H : (impl_ValidPlan.j0 k l1 (!t285) a0_0 a0_1 a0_2 a0_3) = some r := H
   have A8 := zd.mk A80
   clear A80
   have H' := zd.mk H
   clear H
   obtain ⟨y1_0, y1_1, y1_2, y1_3, z1_0, z1_1, z1_2, z1_3⟩ := cf4 BK282.out
   go_wp2_with (first | ((with_reducible refine zr (f := 45) rfl ?_); refine zx (some 11) rfl rfl Try.func45 (by kernel_rfl) rfl #[.agg #[.int .i8 a0_0, .int .i8 a0_1, .bool a0_2, .bool a0_3]] rfl (by (try simp only [List.map_toArray, List.map_cons, List.map_nil]); first | done | rfl | (simp only [List.length_drop, List.length_take]; rfl)) ?_; (with_reducible refine (impl_ValidTask.calls a0_0 a0_1 a0_2 a0_3 true _ A5.out).mono ?_); rintro e w10 ⟨rfl, hb⟩; refine ⟨_, rfl, ?_⟩; have n0_ := zd.mk (zj (by (with_reducible repeat (first | refine zf ?_ _ | refine zh ?_ | refine zg ?_ _)); exact BK282.out) hb); have n1_ := zd.mk (zk (by repeat (first | (with_reducible first | exact HB.out | apply zc | apply za | apply zb | refine ze ?_ GE282.out) | exact HB.out)) hb); clear BK282; clear HB; have BK282 := n0_; have HB := n1_; clear n0_ n1_; (try clear hb); (try clear hb2); (try clear hk); (try clear hi)) | (go_at_call 46; (with_reducible refine (impl_Node.calls _ _ l1 t284 _ ?side1 ?side2 A7.out).mono ?_); (case side1 => repeat (first | exact (Kd.C_below HR1.out HB.out) | (with_reducible refine Kd.C_alloc ?_ _) | (with_reducible refine Kd.C_drewN ?_ _) | (with_reducible refine Kd.C_drew ?_))); (case side2 => exact HC1.out); rintro e w' ⟨rfl, ⟨nd, rfl⟩⟩) | (go_at_call 38; (with_reducible refine (impl_within.calls t284 1 400 t285 _ A8.out).mono ?_); rintro e w' ⟨rfl, ⟨nd, rfl⟩⟩))
   go_meet
   case rel => exact ⟨_, (!t285), (by first | rfl | (simp; done) | (simp [*]; done)), H', ⟨by first | omega | exact Nat.le_refl _⟩, ⟨by (with_reducible repeat (first | refine zf ?_ _ | refine zh ?_ | refine zg ?_ _)); exact BK282.out⟩, ⟨by repeat (first | (with_reducible first | exact HB.out | apply zc | apply za | apply zb | refine ze ?_ GE282.out) | exact HB.out)⟩⟩
  replace c6 := Bool.eq_false_iff.mpr c6
  subst c6
  have H1 : (impl_ValidPlan.j0 k l1 true a0_0 a0_1 a0_2 a0_3) = some r := by rw [if_neg (show ¬ (false = true) by decide)] at H; exact H
  clear H
  have H := H1
  clear H1
  have H' := zd.mk H
  clear H
  obtain ⟨y2_0, y2_1, y2_2, y2_3, z2_0, z2_1, z2_2, z2_3⟩ := cf4 BK282.out
  go_wp2_with (first | ((with_reducible refine zr (f := 45) rfl ?_); refine zx (some 11) rfl rfl Try.func45 (by kernel_rfl) rfl #[.agg #[.int .i8 a0_0, .int .i8 a0_1, .bool a0_2, .bool a0_3]] rfl (by (try simp only [List.map_toArray, List.map_cons, List.map_nil]); first | done | rfl | (simp only [List.length_drop, List.length_take]; rfl)) ?_; (with_reducible refine (impl_ValidTask.calls a0_0 a0_1 a0_2 a0_3 false _ A5.out).mono ?_); rintro e w12 ⟨rfl, hb⟩; refine ⟨_, rfl, ?_⟩; have n0_ := zd.mk (zj (by (with_reducible repeat (first | refine zf ?_ _ | refine zh ?_ | refine zg ?_ _)); exact BK282.out) hb); have n1_ := zd.mk (zk (by repeat (first | (with_reducible first | exact HB.out | apply zc | apply za | apply zb | refine ze ?_ GE282.out) | exact HB.out)) hb); clear BK282; clear HB; have BK282 := n0_; have HB := n1_; clear n0_ n1_; (try clear hb); (try clear hb2); (try clear hk); (try clear hi)))
  go_meet
  case rel => exact ⟨_, (true), (by first | rfl | (simp; done) | (simp [*]; done)), H', ⟨by first | omega | exact Nat.le_refl _⟩, ⟨by (with_reducible repeat (first | refine zf ?_ _ | refine zh ?_ | refine zg ?_ _)); exact BK282.out⟩, ⟨by repeat (first | (with_reducible first | exact HB.out | apply zc | apply za | apply zb | refine ze ?_ GE282.out) | exact HB.out)⟩⟩
 case rest =>
  clear HC3
  try clear c1
  try clear c2
  try clear p2
  try clear c4
  try clear c6
  try clear y2_0 y2_1 y2_2 y2_3
  try clear y1_0 y1_1 y1_2 y1_3
  try clear z2_0 z2_1 z2_2 z2_3
  try clear z1_0 z1_1 z1_2 z1_3
  obtain ⟨kq, x18_2, rfl, HA, HJ2, BK282, HB⟩ := hcut
  cases kq with
  | zero => exact absurd HA.out (by simp [impl_ValidPlan.j0])
  | succ kj2 =>
   have H := HA.out
   clear HA
   simp only [impl_ValidPlan.j0] at H
   by_cases c13 : x18_2 = true
   ·subst c13
    have H1 : (some false) = some r := by rw [if_pos rfl] at H; exact H
    clear H
    have H := H1
    clear H1
    obtain rfl := Option.some.inj H
    go_wp2
    go_ret
    exact ⟨by first | rfl | (simp [errW_none, errW_some] <;> rfl) | (simp [*, errW_none, errW_some] <;> rfl), by repeat (first | (with_reducible first | exact HB.out | apply zc | apply za | apply zb | refine ze ?_ GE282.out) | exact HB.out)⟩
   replace c13 := Bool.eq_false_iff.mpr c13
   subst c13
   have H1 : ((impl_Task_cases.f kj2 a0_0 a0_1 a0_2 a0_3).bind fun t286 => (impl_ValidPlan.l0 kj2 l1 t286 l1 (l1.length : Int) 0 a0_0 a0_1 a0_2 a0_3)) = some r := by rw [if_neg (show ¬ (false = true) by decide)] at H; exact H
   clear H
   have H := H1
   clear H1
   replace H := Option.bind_eq_some_iff.mp H
   obtain ⟨t286, A140, H⟩ := H
   replace H : (impl_ValidPlan.l0 kj2 l1 t286 l1 (l1.length : Int) 0 a0_0 a0_1 a0_2 a0_3) = some r := H
   have A14 := zd.mk A140
   clear A140
   have H' := zd.mk H
   clear H
   obtain ⟨y3_0, y3_1, y3_2, y3_3, z3_0, z3_1, z3_2, z3_3⟩ := cf4 BK282.out
   go_wp2_with (first | ((with_reducible refine zr (f := 29) rfl ?_); refine zx (some 20) rfl rfl Try.func29 (by kernel_rfl) rfl #[.agg #[.int .i8 a0_0, .int .i8 a0_1, .bool a0_2, .bool a0_3]] rfl (by (try simp only [List.map_toArray, List.map_cons, List.map_nil]); first | done | rfl | (simp only [List.length_drop, List.length_take]; rfl)) ?_; (with_reducible refine (impl_Task_cases.calls kj2 a0_0 a0_1 a0_2 a0_3 t286 _ A14.out).mono ?_); rintro e w16 ⟨v287, rfl, ho0, hb⟩; refine ⟨_, rfl, ?_⟩; have n0_ := zd.mk (Kd.R_lower ho0 (zm (by repeat (first | (with_reducible first | exact HB.out | apply zc | apply za | apply zb | refine ze ?_ GE282.out) | exact HB.out)))); have n1_ := zd.mk (zj (by (with_reducible repeat (first | refine zf ?_ _ | refine zh ?_ | refine zg ?_ _)); exact BK282.out) hb); have n2_ := zd.mk (zk (by repeat (first | (with_reducible first | exact HB.out | apply zc | apply za | apply zb | refine ze ?_ GE282.out) | exact HB.out)) hb); clear BK282; clear HB; have HO288 := n0_; have BK282 := n1_; have HB := n2_; clear n0_ n1_ n2_; (try clear hb); (try clear hb2); (try clear hk); (try clear hi); (try clear ho0)))
   go_loopg [23] kj2 (fun kq v23 w' => ∃ (x23_2 : Int), v23 = .int .i64 x23_2 ∧ zd (impl_ValidPlan.l0 kq l1 t286 l1 (l1.length : Int) x23_2 a0_0 a0_1 a0_2 a0_3 = some r) ∧ zd (kq ≤ kj2) ∧ zd (Kd.R k46 46 w' w.heap.size (fun _ => True) v287 t286) ∧ zd (w'.heap[gb282]? = some (.cells #[.int .i8 a0_0, .int .i8 a0_1, .bool a0_2, .bool a0_3] 29 (0, 0))) ∧ zd (Below w.heap.size w w'))
   case atStart => exact ⟨(0), (by first | rfl | (simp; done) | (simp [*]; done)), H', ⟨Nat.le_refl _⟩, ⟨by (with_reducible repeat (first | apply Kd.R_alloc | apply Kd.R_drewN | apply Kd.R_drew)); exact HO288.out⟩, ⟨by (with_reducible repeat (first | refine zf ?_ _ | refine zh ?_ | refine zg ?_ _)); exact BK282.out⟩, ⟨by repeat (first | (with_reducible first | exact HB.out | apply zc | apply za | apply zb | refine ze ?_ GE282.out) | exact HB.out)⟩⟩
   case round =>
    clear H'
    try clear c1
    try clear c2
    try clear p2
    try clear c4
    try clear c6
    try clear c13
    try clear y2_0 y2_1 y2_2 y2_3
    try clear y3_0 y3_1 y3_2 y3_3
    try clear y1_0 y1_1 y1_2 y1_3
    try clear z2_0 z2_1 z2_2 z2_3
    try clear z3_0 z3_1 z3_2 z3_3
    try clear z1_0 z1_1 z1_2 z1_3
    try clear p2
    obtain ⟨x23_2, rfl, HA, HK2, HO_5, BK282, HB⟩ := hrel
    cases gk with
    | zero => exact absurd HA.out (by simp [impl_ValidPlan.l0])
    | succ k2 =>
     have H := HA.out
     clear HA
     simp only [impl_ValidPlan.l0] at H
     by_cases c17 : x23_2 < (l1.length : Int)
     ·rw [if_pos c17] at H
      have c17b0 : decide (x23_2 < (l1.length : Int)) = true := decide_eq_true c17
      clear c17
      by_cases c18 : 0 ≤ x23_2
      ·rw [if_pos c18] at H
       have c18b0 : decide (0 ≤ x23_2) = true := decide_eq_true c18
       clear c18
       by_cases c19 : x23_2 < (l1.length : Int)
       ·rw [if_pos c19] at H
        have c19b0 : decide (x23_2 < (l1.length : Int)) = true := decide_eq_true c19
        clear c19
        obtain ⟨bq20, hbq20⟩ : ∃ b_ : Bool, b_ = ((rd_T54 l1 x23_2).f3) := ⟨_, rfl⟩
        replace H : (if bq20 = true then (if (!(((rd_T54 l1 x23_2).f0.f0) == 0) || (!(((rd_T54 l1 x23_2).f0.f1) == 0) || (!(((rd_T54 l1 x23_2).f0.f2) == 0) || (!(((rd_T54 l1 x23_2).f0.f3) == 0) || (!(((rd_T54 l1 x23_2).f0.f4) == 0) || (!(((rd_T54 l1 x23_2).f0.f5) == 0) || (!(((rd_T54 l1 x23_2).f0.f6) == 0) || (!(((rd_T54 l1 x23_2).f0.f7) == 0) || (!(((rd_T54 l1 x23_2).f0.f8) == 0) || (!(((rd_T54 l1 x23_2).f0.f9) == 0) || (!(((rd_T54 l1 x23_2).f0.f10) == 0) || (!(((rd_T54 l1 x23_2).f0.f11) == 0) || (!(((rd_T54 l1 x23_2).f0.f12) == 0) || (!(((rd_T54 l1 x23_2).f0.f13) == 0))))))))))))))) = true then (some false) else (if (!(((rd_T54 l1 x23_2).f1.f0) == 0) || (!(((rd_T54 l1 x23_2).f1.f1) == 0) || (!(((rd_T54 l1 x23_2).f1.f2) == 0)))) = true then (some false) else ((impl_Case_47.f k2 t286 ((rd_T54 l1 x23_2).f2.f0) ((rd_T54 l1 x23_2).f2.f1)).bind fun t291 => (if t291 = true then (impl_ValidPlan.l0 k2 l1 t286 l1 (l1.length : Int) (wrap64 (x23_2 + 1)) a0_0 a0_1 a0_2 a0_3) else (some false))))) else (if (!(((rd_T54 l1 x23_2).f2.f0) == 0) || (((rd_T54 l1 x23_2).f2.f1))) = true then (impl_ValidPlan.j2 k2 l1 t286 x23_2 l1 (l1.length : Int) x23_2 true a0_0 a0_1 a0_2 a0_3 ((rd_T54 l1 x23_2).f0.f0) ((rd_T54 l1 x23_2).f0.f1) ((rd_T54 l1 x23_2).f0.f2) ((rd_T54 l1 x23_2).f0.f3) ((rd_T54 l1 x23_2).f0.f4) ((rd_T54 l1 x23_2).f0.f5) ((rd_T54 l1 x23_2).f0.f6) ((rd_T54 l1 x23_2).f0.f7) ((rd_T54 l1 x23_2).f0.f8) ((rd_T54 l1 x23_2).f0.f9) ((rd_T54 l1 x23_2).f0.f10) ((rd_T54 l1 x23_2).f0.f11) ((rd_T54 l1 x23_2).f0.f12) ((rd_T54 l1 x23_2).f0.f13) ((rd_T54 l1 x23_2).f1.f0) ((rd_T54 l1 x23_2).f1.f1) ((rd_T54 l1 x23_2).f1.f2) ((rd_T54 l1 x23_2).f2.f0) ((rd_T54 l1 x23_2).f2.f1) bq20) else (if (((rd_T54 l1 x23_2).f0.f0) == 0 && (((rd_T54 l1 x23_2).f0.f1) == 0 && (((rd_T54 l1 x23_2).f0.f2) == 0 && (((rd_T54 l1 x23_2).f0.f3) == 0 && (((rd_T54 l1 x23_2).f0.f4) == 0 && (((rd_T54 l1 x23_2).f0.f5) == 0 && (((rd_T54 l1 x23_2).f0.f6) == 0 && (((rd_T54 l1 x23_2).f0.f7) == 0 && (((rd_T54 l1 x23_2).f0.f8) == 0 && (((rd_T54 l1 x23_2).f0.f9) == 0 && (((rd_T54 l1 x23_2).f0.f10) == 0 && (((rd_T54 l1 x23_2).f0.f11) == 0 && (((rd_T54 l1 x23_2).f0.f12) == 0 && (((rd_T54 l1 x23_2).f0.f13) == 0)))))))))))))) = true then (impl_ValidPlan.j2 k2 l1 t286 x23_2 l1 (l1.length : Int) x23_2 true a0_0 a0_1 a0_2 a0_3 ((rd_T54 l1 x23_2).f0.f0) ((rd_T54 l1 x23_2).f0.f1) ((rd_T54 l1 x23_2).f0.f2) ((rd_T54 l1 x23_2).f0.f3) ((rd_T54 l1 x23_2).f0.f4) ((rd_T54 l1 x23_2).f0.f5) ((rd_T54 l1 x23_2).f0.f6) ((rd_T54 l1 x23_2).f0.f7) ((rd_T54 l1 x23_2).f0.f8) ((rd_T54 l1 x23_2).f0.f9) ((rd_T54 l1 x23_2).f0.f10) ((rd_T54 l1 x23_2).f0.f11) ((rd_T54 l1 x23_2).f0.f12) ((rd_T54 l1 x23_2).f0.f13) ((rd_T54 l1 x23_2).f1.f0) ((rd_T54 l1 x23_2).f1.f1) ((rd_T54 l1 x23_2).f1.f2) ((rd_T54 l1 x23_2).f2.f0) ((rd_T54 l1 x23_2).f2.f1) bq20) else ((impl_ValidWeighing.f k2 a0_0 a0_1 a0_2 a0_3 ((rd_T54 l1 x23_2).f0.f0) ((rd_T54 l1 x23_2).f0.f1) ((rd_T54 l1 x23_2).f0.f2) ((rd_T54 l1 x23_2).f0.f3) ((rd_T54 l1 x23_2).f0.f4) ((rd_T54 l1 x23_2).f0.f5) ((rd_T54 l1 x23_2).f0.f6) ((rd_T54 l1 x23_2).f0.f7) ((rd_T54 l1 x23_2).f0.f8) ((rd_T54 l1 x23_2).f0.f9) ((rd_T54 l1 x23_2).f0.f10) ((rd_T54 l1 x23_2).f0.f11) ((rd_T54 l1 x23_2).f0.f12) ((rd_T54 l1 x23_2).f0.f13)).bind fun t292 => (impl_ValidPlan.j2 k2 l1 t286 x23_2 l1 (l1.length : Int) x23_2 (!t292) a0_0 a0_1 a0_2 a0_3 ((rd_T54 l1 x23_2).f0.f0) ((rd_T54 l1 x23_2).f0.f1) ((rd_T54 l1 x23_2).f0.f2) ((rd_T54 l1 x23_2).f0.f3) ((rd_T54 l1 x23_2).f0.f4) ((rd_T54 l1 x23_2).f0.f5) ((rd_T54 l1 x23_2).f0.f6) ((rd_T54 l1 x23_2).f0.f7) ((rd_T54 l1 x23_2).f0.f8) ((rd_T54 l1 x23_2).f0.f9) ((rd_T54 l1 x23_2).f0.f10) ((rd_T54 l1 x23_2).f0.f11) ((rd_T54 l1 x23_2).f0.f12) ((rd_T54 l1 x23_2).f0.f13) ((rd_T54 l1 x23_2).f1.f0) ((rd_T54 l1 x23_2).f1.f1) ((rd_T54 l1 x23_2).f1.f2) ((rd_T54 l1 x23_2).f2.f0) ((rd_T54 l1 x23_2).f2.f1) bq20))))) = some r := by rw [← hbq20] at H; exact H
        have Nbq20 := zd.mk hbq20
        clear hbq20
        by_cases c21 : bq20 = true
        ·subst c21
         have H1 : (if (!(((rd_T54 l1 x23_2).f0.f0) == 0) || (!(((rd_T54 l1 x23_2).f0.f1) == 0) || (!(((rd_T54 l1 x23_2).f0.f2) == 0) || (!(((rd_T54 l1 x23_2).f0.f3) == 0) || (!(((rd_T54 l1 x23_2).f0.f4) == 0) || (!(((rd_T54 l1 x23_2).f0.f5) == 0) || (!(((rd_T54 l1 x23_2).f0.f6) == 0) || (!(((rd_T54 l1 x23_2).f0.f7) == 0) || (!(((rd_T54 l1 x23_2).f0.f8) == 0) || (!(((rd_T54 l1 x23_2).f0.f9) == 0) || (!(((rd_T54 l1 x23_2).f0.f10) == 0) || (!(((rd_T54 l1 x23_2).f0.f11) == 0) || (!(((rd_T54 l1 x23_2).f0.f12) == 0) || (!(((rd_T54 l1 x23_2).f0.f13) == 0))))))))))))))) = true then (some false) else (if (!(((rd_T54 l1 x23_2).f1.f0) == 0) || (!(((rd_T54 l1 x23_2).f1.f1) == 0) || (!(((rd_T54 l1 x23_2).f1.f2) == 0)))) = true then (some false) else ((impl_Case_47.f k2 t286 ((rd_T54 l1 x23_2).f2.f0) ((rd_T54 l1 x23_2).f2.f1)).bind fun t291 => (if t291 = true then (impl_ValidPlan.l0 k2 l1 t286 l1 (l1.length : Int) (wrap64 (x23_2 + 1)) a0_0 a0_1 a0_2 a0_3) else (some false))))) = some r := by rw [if_pos rfl] at H; exact H
         clear H
         have H := H1
         clear H1
         by_cases c22 : (!(((rd_T54 l1 x23_2).f0.f0) == 0) || (!(((rd_T54 l1 x23_2).f0.f1) == 0) || (!(((rd_T54 l1 x23_2).f0.f2) == 0) || (!(((rd_T54 l1 x23_2).f0.f3) == 0) || (!(((rd_T54 l1 x23_2).f0.f4) == 0) || (!(((rd_T54 l1 x23_2).f0.f5) == 0) || (!(((rd_T54 l1 x23_2).f0.f6) == 0) || (!(((rd_T54 l1 x23_2).f0.f7) == 0) || (!(((rd_T54 l1 x23_2).f0.f8) == 0) || (!(((rd_T54 l1 x23_2).f0.f9) == 0) || (!(((rd_T54 l1 x23_2).f0.f10) == 0) || (!(((rd_T54 l1 x23_2).f0.f11) == 0) || (!(((rd_T54 l1 x23_2).f0.f12) == 0) || (!(((rd_T54 l1 x23_2).f0.f13) == 0))))))))))))))) = true
         ·rw [if_pos c22] at H
          have c22b0 : (!(((rd_T54 l1 x23_2).f0.f0) == 0) || (!(((rd_T54 l1 x23_2).f0.f1) == 0) || (!(((rd_T54 l1 x23_2).f0.f2) == 0) || (!(((rd_T54 l1 x23_2).f0.f3) == 0) || (!(((rd_T54 l1 x23_2).f0.f4) == 0) || (!(((rd_T54 l1 x23_2).f0.f5) == 0) || (!(((rd_T54 l1 x23_2).f0.f6) == 0) || (!(((rd_T54 l1 x23_2).f0.f7) == 0) || (!(((rd_T54 l1 x23_2).f0.f8) == 0) || (!(((rd_T54 l1 x23_2).f0.f9) == 0) || (!(((rd_T54 l1 x23_2).f0.f10) == 0) || (!(((rd_T54 l1 x23_2).f0.f11) == 0) || (!(((rd_T54 l1 x23_2).f0.f12) == 0) || (!(((rd_T54 l1 x23_2).f0.f13) == 0))))))))))))))) = true := c22
          clear c22
          obtain rfl := Option.some.inj H
          have p289 : 0 ≤ (x23_2 : Int) := od (by first | (with_reducible assumption) | assumption)
          have q289 : x23_2 < (l1.length : Int) := od (by first | (with_reducible assumption) | assumption)
          obtain ⟨ad289, e289, u1_0, u1_1, u1_2, u1_3, u1_4, u1_5, u1_6, u1_7, u1_8, u1_9, u1_10, u1_11, u1_12, u1_13, u1_14, u1_15, u1_16, u1_17, u1_18, u1_19⟩ := ac_T54 HB.out HR1.out x23_2 p289 q289
          (try rw [← Nbq20.out] at u1_18)
          (try rw [← Nbq20.out] at u1_19)
          cases e289
          replace p289 := eq_true p289
          replace q289 := eq_true q289
          go_wp2_with (first | ((with_reducible refine zo (N := 27) rfl ?_); refine load20_event (T := 54) (p := ad289.add ((x23_2).toNat * 20)) (x := ?lx0) ?la0 ?lb0 ?lc0 hu54 ?ld0 ?le0 u1_0 u1_1 u1_2 u1_3 u1_4 u1_5 u1_6 u1_7 u1_8 u1_9 u1_10 u1_11 u1_12 u1_13 u1_14 u1_15 u1_16 u1_17 u1_18 u1_19 ?_; (case la0 => rfl); (case lb0 => rfl); (case lc0 => rfl); (case ld0 => rfl); (case le0 => kernel_rfl)) | ((with_reducible refine zfa (t := 54) (p := 7) rfl ?_); refine store20_event (g := gb290) (T := 54) (t := 54) (cur := #[.int .i8 0, .int .i8 0, .int .i8 0, .int .i8 0, .int .i8 0, .int .i8 0, .int .i8 0, .int .i8 0, .int .i8 0, .int .i8 0, .int .i8 0, .int .i8 0, .int .i8 0, .int .i8 0, .int .i16 0, .int .i16 0, .int .i16 0, .int .i8 0, .bool false, .bool false]) (x := ?sx0) (y := ?sy0) (c0 := .int .i8 ((rd_T54 l1 x23_2).f0.f0)) (c1 := .int .i8 ((rd_T54 l1 x23_2).f0.f1)) (c2 := .int .i8 ((rd_T54 l1 x23_2).f0.f2)) (c3 := .int .i8 ((rd_T54 l1 x23_2).f0.f3)) (c4 := .int .i8 ((rd_T54 l1 x23_2).f0.f4)) (c5 := .int .i8 ((rd_T54 l1 x23_2).f0.f5)) (c6 := .int .i8 ((rd_T54 l1 x23_2).f0.f6)) (c7 := .int .i8 ((rd_T54 l1 x23_2).f0.f7)) (c8 := .int .i8 ((rd_T54 l1 x23_2).f0.f8)) (c9 := .int .i8 ((rd_T54 l1 x23_2).f0.f9)) (c10 := .int .i8 ((rd_T54 l1 x23_2).f0.f10)) (c11 := .int .i8 ((rd_T54 l1 x23_2).f0.f11)) (c12 := .int .i8 ((rd_T54 l1 x23_2).f0.f12)) (c13 := .int .i8 ((rd_T54 l1 x23_2).f0.f13)) (c14 := .int .i16 ((rd_T54 l1 x23_2).f1.f0)) (c15 := .int .i16 ((rd_T54 l1 x23_2).f1.f1)) (c16 := .int .i16 ((rd_T54 l1 x23_2).f1.f2)) (c17 := .int .i8 ((rd_T54 l1 x23_2).f2.f0)) (c18 := .bool ((rd_T54 l1 x23_2).f2.f1)) (c19 := .bool true) ?sa0 ?sb0 ?sc0 ?sd0 ?se0 ?sf0 BK290.out rfl ?sg0 ?_; (case sa0 => rfl); (case sb0 => rfl); (case sc0 => rfl); (case sd0 => rfl); (case se0 => rfl); (case sf0 => kernel_rfl); (case sg0 => rfl)) | ((with_reducible refine zo (N := 7) rfl ?_); refine zn ?hg (N := 7) ?hd (cs := #[.int .i8 0, .int .i8 0, .int .i8 0, .int .i8 0, .int .i8 0, .int .i8 0, .int .i8 0, .int .i8 0, .int .i8 0, .int .i8 0, .int .i8 0, .int .i8 0, .int .i8 0, .int .i8 0, .int .i16 0, .int .i16 0, .int .i16 0, .int .i8 0, .bool false, .bool false]) (t := 54) ?hr ?_; (case hd => rfl); (case hg => rfl); (case hr => first | (go_simp; done) | (go_simp; rfl)); intro gb290 hg w23 hbox hb; have n0_ := zd.mk (Kd.R_below (by (with_reducible repeat (first | apply Kd.R_alloc | apply Kd.R_drewN | apply Kd.R_drew)); exact HO_5.out) hb); have n1_ := zd.mk (zj (by (with_reducible repeat (first | refine zf ?_ _ | refine zh ?_ | refine zg ?_ _)); exact BK282.out) hb); obtain ⟨n2_, n4_⟩ := bx (by repeat (first | (with_reducible first | exact HB.out | apply zc | apply za | apply zb | refine ze ?_ GE282.out) | exact HB.out)) hb hg; have n3_ := zd.mk (hbox); have n5_ := n4_; have n6_ := zd.mk ((by rw [hg]; exact Nat.ne_of_lt (zv (by (with_reducible repeat (first | refine zf ?_ _ | refine zh ?_ | refine zg ?_ _)); exact BK282.out)) : gb282 ≠ gb290)); have n7_ := zd.mk n6_.out.symm; clear HO_5; clear BK282; clear HB; have HO_5 := n0_; have BK282 := n1_; have HB := n2_; have BK290 := n3_; have GW290 := n4_; have GE290 := n5_; have NB282_290 := n6_; have NB290_282 := n7_; clear n0_ n1_ n2_ n3_ n4_ n5_ n6_ n7_; clear hb hbox hg; have hnb24 := NB290_282.out; have hnc24 := NB282_290.out; obtain ⟨y4_0, y4_1, y4_2, y4_3, y4_4, y4_5, y4_6, y4_7, y4_8, y4_9, y4_10, y4_11, y4_12, y4_13, y4_14, y4_15, y4_16, y4_17, y4_18, y4_19, z4_0, z4_1, z4_2, z4_3, z4_4, z4_5, z4_6, z4_7, z4_8, z4_9, z4_10, z4_11, z4_12, z4_13, z4_14, z4_15, z4_16, z4_17, z4_18, z4_19⟩ := cf20 BK290.out))
          go_ret
          exact ⟨by first | rfl | (simp [errW_none, errW_some] <;> rfl) | (simp [*, errW_none, errW_some] <;> rfl), by repeat (first | (with_reducible first | exact HB.out | apply zc | apply za | apply zb | refine ze ?_ GE282.out | refine ze ?_ GE290.out) | exact HB.out)⟩
         rw [if_neg c22] at H
         have c22b0 : (!(((rd_T54 l1 x23_2).f0.f0) == 0) || (!(((rd_T54 l1 x23_2).f0.f1) == 0) || (!(((rd_T54 l1 x23_2).f0.f2) == 0) || (!(((rd_T54 l1 x23_2).f0.f3) == 0) || (!(((rd_T54 l1 x23_2).f0.f4) == 0) || (!(((rd_T54 l1 x23_2).f0.f5) == 0) || (!(((rd_T54 l1 x23_2).f0.f6) == 0) || (!(((rd_T54 l1 x23_2).f0.f7) == 0) || (!(((rd_T54 l1 x23_2).f0.f8) == 0) || (!(((rd_T54 l1 x23_2).f0.f9) == 0) || (!(((rd_T54 l1 x23_2).f0.f10) == 0) || (!(((rd_T54 l1 x23_2).f0.f11) == 0) || (!(((rd_T54 l1 x23_2).f0.f12) == 0) || (!(((rd_T54 l1 x23_2).f0.f13) == 0))))))))))))))) = false := by simpa using c22
         clear c22
         by_cases c26 : (!(((rd_T54 l1 x23_2).f1.f0) == 0) || (!(((rd_T54 l1 x23_2).f1.f1) == 0) || (!(((rd_T54 l1 x23_2).f1.f2) == 0)))) = true
         ·rw [if_pos c26] at H
          have c26b0 : (!(((rd_T54 l1 x23_2).f1.f0) == 0) || (!(((rd_T54 l1 x23_2).f1.f1) == 0) || (!(((rd_T54 l1 x23_2).f1.f2) == 0)))) = true := c26
          clear c26
          obtain rfl := Option.some.inj H
          have p289 : 0 ≤ (x23_2 : Int) := od (by first | (with_reducible assumption) | assumption)
          have q289 : x23_2 < (l1.length : Int) := od (by first | (with_reducible assumption) | assumption)
          obtain ⟨ad289, e289, u1_0, u1_1, u1_2, u1_3, u1_4, u1_5, u1_6, u1_7, u1_8, u1_9, u1_10, u1_11, u1_12, u1_13, u1_14, u1_15, u1_16, u1_17, u1_18, u1_19⟩ := ac_T54 HB.out HR1.out x23_2 p289 q289
          (try rw [← Nbq20.out] at u1_18)
          (try rw [← Nbq20.out] at u1_19)
          cases e289
          replace p289 := eq_true p289
          replace q289 := eq_true q289
          go_wp2_with (first | ((with_reducible refine zo (N := 27) rfl ?_); refine load20_event (T := 54) (p := ad289.add ((x23_2).toNat * 20)) (x := ?lx1) ?la1 ?lb1 ?lc1 hu54 ?ld1 ?le1 u1_0 u1_1 u1_2 u1_3 u1_4 u1_5 u1_6 u1_7 u1_8 u1_9 u1_10 u1_11 u1_12 u1_13 u1_14 u1_15 u1_16 u1_17 u1_18 u1_19 ?_; (case la1 => rfl); (case lb1 => rfl); (case lc1 => rfl); (case ld1 => rfl); (case le1 => kernel_rfl)) | ((with_reducible refine zfa (t := 54) (p := 7) rfl ?_); refine store20_event (g := gb290) (T := 54) (t := 54) (cur := #[.int .i8 0, .int .i8 0, .int .i8 0, .int .i8 0, .int .i8 0, .int .i8 0, .int .i8 0, .int .i8 0, .int .i8 0, .int .i8 0, .int .i8 0, .int .i8 0, .int .i8 0, .int .i8 0, .int .i16 0, .int .i16 0, .int .i16 0, .int .i8 0, .bool false, .bool false]) (x := ?sx1) (y := ?sy1) (c0 := .int .i8 ((rd_T54 l1 x23_2).f0.f0)) (c1 := .int .i8 ((rd_T54 l1 x23_2).f0.f1)) (c2 := .int .i8 ((rd_T54 l1 x23_2).f0.f2)) (c3 := .int .i8 ((rd_T54 l1 x23_2).f0.f3)) (c4 := .int .i8 ((rd_T54 l1 x23_2).f0.f4)) (c5 := .int .i8 ((rd_T54 l1 x23_2).f0.f5)) (c6 := .int .i8 ((rd_T54 l1 x23_2).f0.f6)) (c7 := .int .i8 ((rd_T54 l1 x23_2).f0.f7)) (c8 := .int .i8 ((rd_T54 l1 x23_2).f0.f8)) (c9 := .int .i8 ((rd_T54 l1 x23_2).f0.f9)) (c10 := .int .i8 ((rd_T54 l1 x23_2).f0.f10)) (c11 := .int .i8 ((rd_T54 l1 x23_2).f0.f11)) (c12 := .int .i8 ((rd_T54 l1 x23_2).f0.f12)) (c13 := .int .i8 ((rd_T54 l1 x23_2).f0.f13)) (c14 := .int .i16 ((rd_T54 l1 x23_2).f1.f0)) (c15 := .int .i16 ((rd_T54 l1 x23_2).f1.f1)) (c16 := .int .i16 ((rd_T54 l1 x23_2).f1.f2)) (c17 := .int .i8 ((rd_T54 l1 x23_2).f2.f0)) (c18 := .bool ((rd_T54 l1 x23_2).f2.f1)) (c19 := .bool true) ?sa1 ?sb1 ?sc1 ?sd1 ?se1 ?sf1 BK290.out rfl ?sg1 ?_; (case sa1 => rfl); (case sb1 => rfl); (case sc1 => rfl); (case sd1 => rfl); (case se1 => rfl); (case sf1 => kernel_rfl); (case sg1 => rfl)) | ((with_reducible refine zo (N := 7) rfl ?_); refine zn ?hg (N := 7) ?hd (cs := #[.int .i8 0, .int .i8 0, .int .i8 0, .int .i8 0, .int .i8 0, .int .i8 0, .int .i8 0, .int .i8 0, .int .i8 0, .int .i8 0, .int .i8 0, .int .i8 0, .int .i8 0, .int .i8 0, .int .i16 0, .int .i16 0, .int .i16 0, .int .i8 0, .bool false, .bool false]) (t := 54) ?hr ?_; (case hd => rfl); (case hg => rfl); (case hr => first | (go_simp; done) | (go_simp; rfl)); intro gb290 hg w27 hbox hb; have n0_ := zd.mk (Kd.R_below (by (with_reducible repeat (first | apply Kd.R_alloc | apply Kd.R_drewN | apply Kd.R_drew)); exact HO_5.out) hb); have n1_ := zd.mk (zj (by (with_reducible repeat (first | refine zf ?_ _ | refine zh ?_ | refine zg ?_ _)); exact BK282.out) hb); obtain ⟨n2_, n4_⟩ := bx (by repeat (first | (with_reducible first | exact HB.out | apply zc | apply za | apply zb | refine ze ?_ GE282.out) | exact HB.out)) hb hg; have n3_ := zd.mk (hbox); have n5_ := n4_; have n6_ := zd.mk ((by rw [hg]; exact Nat.ne_of_lt (zv (by (with_reducible repeat (first | refine zf ?_ _ | refine zh ?_ | refine zg ?_ _)); exact BK282.out)) : gb282 ≠ gb290)); have n7_ := zd.mk n6_.out.symm; clear HO_5; clear BK282; clear HB; have HO_5 := n0_; have BK282 := n1_; have HB := n2_; have BK290 := n3_; have GW290 := n4_; have GE290 := n5_; have NB282_290 := n6_; have NB290_282 := n7_; clear n0_ n1_ n2_ n3_ n4_ n5_ n6_ n7_; clear hb hbox hg; have hnb28 := NB290_282.out; have hnc28 := NB282_290.out; obtain ⟨y5_0, y5_1, y5_2, y5_3, y5_4, y5_5, y5_6, y5_7, y5_8, y5_9, y5_10, y5_11, y5_12, y5_13, y5_14, y5_15, y5_16, y5_17, y5_18, y5_19, z5_0, z5_1, z5_2, z5_3, z5_4, z5_5, z5_6, z5_7, z5_8, z5_9, z5_10, z5_11, z5_12, z5_13, z5_14, z5_15, z5_16, z5_17, z5_18, z5_19⟩ := cf20 BK290.out))
          go_ret
          exact ⟨by first | rfl | (simp [errW_none, errW_some] <;> rfl) | (simp [*, errW_none, errW_some] <;> rfl), by repeat (first | (with_reducible first | exact HB.out | apply zc | apply za | apply zb | refine ze ?_ GE282.out | refine ze ?_ GE290.out) | exact HB.out)⟩
         rw [if_neg c26] at H
         have c26b0 : (!(((rd_T54 l1 x23_2).f1.f0) == 0) || (!(((rd_T54 l1 x23_2).f1.f1) == 0) || (!(((rd_T54 l1 x23_2).f1.f2) == 0)))) = false := by simpa using c26
         clear c26
         replace H := Option.bind_eq_some_iff.mp H
         obtain ⟨t291, A300, H⟩ := H
         replace H : (if t291 = true then (impl_ValidPlan.l0 k2 l1 t286 l1 (l1.length : Int) (wrap64 (x23_2 + 1)) a0_0 a0_1 a0_2 a0_3) else (some false)) = some r := H
         have A30 := zd.mk A300
         clear A300
         by_cases c31 : t291 = true
         ·subst c31
          have H1 : (impl_ValidPlan.l0 k2 l1 t286 l1 (l1.length : Int) (wrap64 (x23_2 + 1)) a0_0 a0_1 a0_2 a0_3) = some r := by rw [if_pos rfl] at H; exact H
          clear H
          have H := H1
          clear H1
          have H' := zd.mk H
          clear H
          have p289 : 0 ≤ (x23_2 : Int) := od (by first | (with_reducible assumption) | assumption)
          have q289 : x23_2 < (l1.length : Int) := od (by first | (with_reducible assumption) | assumption)
          obtain ⟨ad289, e289, u1_0, u1_1, u1_2, u1_3, u1_4, u1_5, u1_6, u1_7, u1_8, u1_9, u1_10, u1_11, u1_12, u1_13, u1_14, u1_15, u1_16, u1_17, u1_18, u1_19⟩ := ac_T54 HB.out HR1.out x23_2 p289 q289
          (try rw [← Nbq20.out] at u1_18)
          (try rw [← Nbq20.out] at u1_19)
          cases e289
          replace p289 := eq_true p289
          replace q289 := eq_true q289
          go_wp2_with (first | ((with_reducible refine zo (N := 27) rfl ?_); refine load20_event (T := 54) (p := ad289.add ((x23_2).toNat * 20)) (x := ?lx2) ?la2 ?lb2 ?lc2 hu54 ?ld2 ?le2 u1_0 u1_1 u1_2 u1_3 u1_4 u1_5 u1_6 u1_7 u1_8 u1_9 u1_10 u1_11 u1_12 u1_13 u1_14 u1_15 u1_16 u1_17 u1_18 u1_19 ?_; (case la2 => rfl); (case lb2 => rfl); (case lc2 => rfl); (case ld2 => rfl); (case le2 => kernel_rfl)) | ((with_reducible refine zfa (t := 54) (p := 7) rfl ?_); refine store20_event (g := gb290) (T := 54) (t := 54) (cur := #[.int .i8 0, .int .i8 0, .int .i8 0, .int .i8 0, .int .i8 0, .int .i8 0, .int .i8 0, .int .i8 0, .int .i8 0, .int .i8 0, .int .i8 0, .int .i8 0, .int .i8 0, .int .i8 0, .int .i16 0, .int .i16 0, .int .i16 0, .int .i8 0, .bool false, .bool false]) (x := ?sx2) (y := ?sy2) (c0 := .int .i8 ((rd_T54 l1 x23_2).f0.f0)) (c1 := .int .i8 ((rd_T54 l1 x23_2).f0.f1)) (c2 := .int .i8 ((rd_T54 l1 x23_2).f0.f2)) (c3 := .int .i8 ((rd_T54 l1 x23_2).f0.f3)) (c4 := .int .i8 ((rd_T54 l1 x23_2).f0.f4)) (c5 := .int .i8 ((rd_T54 l1 x23_2).f0.f5)) (c6 := .int .i8 ((rd_T54 l1 x23_2).f0.f6)) (c7 := .int .i8 ((rd_T54 l1 x23_2).f0.f7)) (c8 := .int .i8 ((rd_T54 l1 x23_2).f0.f8)) (c9 := .int .i8 ((rd_T54 l1 x23_2).f0.f9)) (c10 := .int .i8 ((rd_T54 l1 x23_2).f0.f10)) (c11 := .int .i8 ((rd_T54 l1 x23_2).f0.f11)) (c12 := .int .i8 ((rd_T54 l1 x23_2).f0.f12)) (c13 := .int .i8 ((rd_T54 l1 x23_2).f0.f13)) (c14 := .int .i16 ((rd_T54 l1 x23_2).f1.f0)) (c15 := .int .i16 ((rd_T54 l1 x23_2).f1.f1)) (c16 := .int .i16 ((rd_T54 l1 x23_2).f1.f2)) (c17 := .int .i8 ((rd_T54 l1 x23_2).f2.f0)) (c18 := .bool ((rd_T54 l1 x23_2).f2.f1)) (c19 := .bool true) ?sa2 ?sb2 ?sc2 ?sd2 ?se2 ?sf2 BK290.out rfl ?sg2 ?_; (case sa2 => rfl); (case sb2 => rfl); (case sc2 => rfl); (case sd2 => rfl); (case se2 => rfl); (case sf2 => kernel_rfl); (case sg2 => rfl)) | ((with_reducible refine zo (N := 7) rfl ?_); refine zn ?hg (N := 7) ?hd (cs := #[.int .i8 0, .int .i8 0, .int .i8 0, .int .i8 0, .int .i8 0, .int .i8 0, .int .i8 0, .int .i8 0, .int .i8 0, .int .i8 0, .int .i8 0, .int .i8 0, .int .i8 0, .int .i8 0, .int .i16 0, .int .i16 0, .int .i16 0, .int .i8 0, .bool false, .bool false]) (t := 54) ?hr ?_; (case hd => rfl); (case hg => rfl); (case hr => first | (go_simp; done) | (go_simp; rfl)); intro gb290 hg w32 hbox hb; have n0_ := zd.mk (Kd.R_below (by (with_reducible repeat (first | apply Kd.R_alloc | apply Kd.R_drewN | apply Kd.R_drew)); exact HO_5.out) hb); have n1_ := zd.mk (zj (by (with_reducible repeat (first | refine zf ?_ _ | refine zh ?_ | refine zg ?_ _)); exact BK282.out) hb); obtain ⟨n2_, n4_⟩ := bx (by repeat (first | (with_reducible first | exact HB.out | apply zc | apply za | apply zb | refine ze ?_ GE282.out) | exact HB.out)) hb hg; have n3_ := zd.mk (hbox); have n5_ := n4_; have n6_ := zd.mk ((by rw [hg]; exact Nat.ne_of_lt (zv (by (with_reducible repeat (first | refine zf ?_ _ | refine zh ?_ | refine zg ?_ _)); exact BK282.out)) : gb282 ≠ gb290)); have n7_ := zd.mk n6_.out.symm; clear HO_5; clear BK282; clear HB; have HO_5 := n0_; have BK282 := n1_; have HB := n2_; have BK290 := n3_; have GW290 := n4_; have GE290 := n5_; have NB282_290 := n6_; have NB290_282 := n7_; clear n0_ n1_ n2_ n3_ n4_ n5_ n6_ n7_; clear hb hbox hg; have hnb33 := NB290_282.out; have hnc33 := NB282_290.out; obtain ⟨y6_0, y6_1, y6_2, y6_3, y6_4, y6_5, y6_6, y6_7, y6_8, y6_9, y6_10, y6_11, y6_12, y6_13, y6_14, y6_15, y6_16, y6_17, y6_18, y6_19, z6_0, z6_1, z6_2, z6_3, z6_4, z6_5, z6_6, z6_7, z6_8, z6_9, z6_10, z6_11, z6_12, z6_13, z6_14, z6_15, z6_16, z6_17, z6_18, z6_19⟩ := cf20 BK290.out; obtain ⟨Ao35, co35, eo35⟩ := Kd.R_slice HO_5.out; subst eo35) | (go_at_call 47; (with_reducible refine (impl_Case_47.calls k2 _ _ t286 ((rd_T54 l1 x23_2).f2.f0) ((rd_T54 l1 x23_2).f2.f1) true _ ?side1 ?side2 A30.out).mono ?_); (case side1 => refine (Kd.R_reads' (e := 46) (base := w.heap.size) (ok := fun k_ => True) (n := t286.length) (c := co35) ?_).2.2; exact (by (with_reducible repeat (first | apply Kd.R_alloc | apply Kd.R_drewN | apply Kd.R_drew)); exact (Kd.R_mono (Kd.R_far (p := ⟨gb290, 19, none⟩) (Kd.R_far (p := ⟨gb290, 18, none⟩) (Kd.R_far (p := ⟨gb290, 17, none⟩) (Kd.R_far (p := ⟨gb290, 16, none⟩) (Kd.R_far (p := ⟨gb290, 15, none⟩) (Kd.R_far (p := ⟨gb290, 14, none⟩) (Kd.R_far (p := ⟨gb290, 13, none⟩) (Kd.R_far (p := ⟨gb290, 12, none⟩) (Kd.R_far (p := ⟨gb290, 11, none⟩) (Kd.R_far (p := ⟨gb290, 10, none⟩) (Kd.R_far (p := ⟨gb290, 9, none⟩) (Kd.R_far (p := ⟨gb290, 8, none⟩) (Kd.R_far (p := ⟨gb290, 7, none⟩) (Kd.R_far (p := ⟨gb290, 6, none⟩) (Kd.R_far (p := ⟨gb290, 5, none⟩) (Kd.R_far (p := ⟨gb290, 4, none⟩) (Kd.R_far (p := ⟨gb290, 3, none⟩) (Kd.R_far (p := ⟨gb290, 2, none⟩) (Kd.R_far (p := ⟨gb290, 1, none⟩) (Kd.R_far (p := ⟨gb290, 0, none⟩) (Kd.R_types HO_5.out BK290.out (by decide)) (fun _ hk => hk.2) (.int .i8 ((rd_T54 l1 x23_2).f0.f0))) (fun _ hk => hk.2) (.int .i8 ((rd_T54 l1 x23_2).f0.f1))) (fun _ hk => hk.2) (.int .i8 ((rd_T54 l1 x23_2).f0.f2))) (fun _ hk => hk.2) (.int .i8 ((rd_T54 l1 x23_2).f0.f3))) (fun _ hk => hk.2) (.int .i8 ((rd_T54 l1 x23_2).f0.f4))) (fun _ hk => hk.2) (.int .i8 ((rd_T54 l1 x23_2).f0.f5))) (fun _ hk => hk.2) (.int .i8 ((rd_T54 l1 x23_2).f0.f6))) (fun _ hk => hk.2) (.int .i8 ((rd_T54 l1 x23_2).f0.f7))) (fun _ hk => hk.2) (.int .i8 ((rd_T54 l1 x23_2).f0.f8))) (fun _ hk => hk.2) (.int .i8 ((rd_T54 l1 x23_2).f0.f9))) (fun _ hk => hk.2) (.int .i8 ((rd_T54 l1 x23_2).f0.f10))) (fun _ hk => hk.2) (.int .i8 ((rd_T54 l1 x23_2).f0.f11))) (fun _ hk => hk.2) (.int .i8 ((rd_T54 l1 x23_2).f0.f12))) (fun _ hk => hk.2) (.int .i8 ((rd_T54 l1 x23_2).f0.f13))) (fun _ hk => hk.2) (.int .i16 ((rd_T54 l1 x23_2).f1.f0))) (fun _ hk => hk.2) (.int .i16 ((rd_T54 l1 x23_2).f1.f1))) (fun _ hk => hk.2) (.int .i16 ((rd_T54 l1 x23_2).f1.f2))) (fun _ hk => hk.2) (.int .i8 ((rd_T54 l1 x23_2).f2.f0))) (fun _ hk => hk.2) (.bool ((rd_T54 l1 x23_2).f2.f1))) (fun _ hk => hk.2) (.bool true)) (fun _ h_ => h_.1)))); (case side2 => exact (Kd.R_reads' HO_5.out).2.1); rintro e w36 ⟨rfl, hb⟩; have n0_ := zd.mk (Kd.R_below (by (with_reducible repeat (first | apply Kd.R_alloc | apply Kd.R_drewN | apply Kd.R_drew)); exact (Kd.R_mono (Kd.R_far (p := ⟨gb290, 19, none⟩) (Kd.R_far (p := ⟨gb290, 18, none⟩) (Kd.R_far (p := ⟨gb290, 17, none⟩) (Kd.R_far (p := ⟨gb290, 16, none⟩) (Kd.R_far (p := ⟨gb290, 15, none⟩) (Kd.R_far (p := ⟨gb290, 14, none⟩) (Kd.R_far (p := ⟨gb290, 13, none⟩) (Kd.R_far (p := ⟨gb290, 12, none⟩) (Kd.R_far (p := ⟨gb290, 11, none⟩) (Kd.R_far (p := ⟨gb290, 10, none⟩) (Kd.R_far (p := ⟨gb290, 9, none⟩) (Kd.R_far (p := ⟨gb290, 8, none⟩) (Kd.R_far (p := ⟨gb290, 7, none⟩) (Kd.R_far (p := ⟨gb290, 6, none⟩) (Kd.R_far (p := ⟨gb290, 5, none⟩) (Kd.R_far (p := ⟨gb290, 4, none⟩) (Kd.R_far (p := ⟨gb290, 3, none⟩) (Kd.R_far (p := ⟨gb290, 2, none⟩) (Kd.R_far (p := ⟨gb290, 1, none⟩) (Kd.R_far (p := ⟨gb290, 0, none⟩) (Kd.R_types HO_5.out BK290.out (by decide)) (fun _ hk => hk.2) (.int .i8 ((rd_T54 l1 x23_2).f0.f0))) (fun _ hk => hk.2) (.int .i8 ((rd_T54 l1 x23_2).f0.f1))) (fun _ hk => hk.2) (.int .i8 ((rd_T54 l1 x23_2).f0.f2))) (fun _ hk => hk.2) (.int .i8 ((rd_T54 l1 x23_2).f0.f3))) (fun _ hk => hk.2) (.int .i8 ((rd_T54 l1 x23_2).f0.f4))) (fun _ hk => hk.2) (.int .i8 ((rd_T54 l1 x23_2).f0.f5))) (fun _ hk => hk.2) (.int .i8 ((rd_T54 l1 x23_2).f0.f6))) (fun _ hk => hk.2) (.int .i8 ((rd_T54 l1 x23_2).f0.f7))) (fun _ hk => hk.2) (.int .i8 ((rd_T54 l1 x23_2).f0.f8))) (fun _ hk => hk.2) (.int .i8 ((rd_T54 l1 x23_2).f0.f9))) (fun _ hk => hk.2) (.int .i8 ((rd_T54 l1 x23_2).f0.f10))) (fun _ hk => hk.2) (.int .i8 ((rd_T54 l1 x23_2).f0.f11))) (fun _ hk => hk.2) (.int .i8 ((rd_T54 l1 x23_2).f0.f12))) (fun _ hk => hk.2) (.int .i8 ((rd_T54 l1 x23_2).f0.f13))) (fun _ hk => hk.2) (.int .i16 ((rd_T54 l1 x23_2).f1.f0))) (fun _ hk => hk.2) (.int .i16 ((rd_T54 l1 x23_2).f1.f1))) (fun _ hk => hk.2) (.int .i16 ((rd_T54 l1 x23_2).f1.f2))) (fun _ hk => hk.2) (.int .i8 ((rd_T54 l1 x23_2).f2.f0))) (fun _ hk => hk.2) (.bool ((rd_T54 l1 x23_2).f2.f1))) (fun _ hk => hk.2) (.bool true)) (fun _ h_ => h_.1))) hb); have n1_ := zd.mk (zj (g := gb282) (o := .cells #[.int .i8 a0_0, .int .i8 a0_1, .bool a0_2, .bool a0_3] 29 (0, 0)) (by (with_reducible repeat (first | refine zf ?_ _ | refine zh ?_ | refine zg ?_ _)); (repeat (with_reducible refine zla ?_ NB282_290.out _)); (with_reducible repeat (first | refine zf ?_ _ | refine zh ?_ | refine zg ?_ _)); exact BK282.out) hb); have n2_ := zd.mk (zj (g := gb290) (o := .cells #[.int .i8 ((rd_T54 l1 x23_2).f0.f0), .int .i8 ((rd_T54 l1 x23_2).f0.f1), .int .i8 ((rd_T54 l1 x23_2).f0.f2), .int .i8 ((rd_T54 l1 x23_2).f0.f3), .int .i8 ((rd_T54 l1 x23_2).f0.f4), .int .i8 ((rd_T54 l1 x23_2).f0.f5), .int .i8 ((rd_T54 l1 x23_2).f0.f6), .int .i8 ((rd_T54 l1 x23_2).f0.f7), .int .i8 ((rd_T54 l1 x23_2).f0.f8), .int .i8 ((rd_T54 l1 x23_2).f0.f9), .int .i8 ((rd_T54 l1 x23_2).f0.f10), .int .i8 ((rd_T54 l1 x23_2).f0.f11), .int .i8 ((rd_T54 l1 x23_2).f0.f12), .int .i8 ((rd_T54 l1 x23_2).f0.f13), .int .i16 ((rd_T54 l1 x23_2).f1.f0), .int .i16 ((rd_T54 l1 x23_2).f1.f1), .int .i16 ((rd_T54 l1 x23_2).f1.f2), .int .i8 ((rd_T54 l1 x23_2).f2.f0), .bool ((rd_T54 l1 x23_2).f2.f1), .bool true] 54 (0, 0)) (by (with_reducible repeat (first | refine zf ?_ _ | refine zh ?_ | refine zg ?_ _)); refine putsz ?_; (with_reducible repeat (first | refine zf ?_ _ | refine zh ?_ | refine zg ?_ _)); exact BK290.out) hb); have n3_ := zd.mk (zk (by repeat (first | (with_reducible first | exact HB.out | apply zc | apply za | apply zb | refine ze ?_ GE282.out | refine ze ?_ GE290.out) | exact HB.out)) hb); clear HO_5; clear BK282; clear BK290; clear HB; have HO_5 := n0_; have BK282 := n1_; have BK290 := n2_; have HB := n3_; clear n0_ n1_ n2_ n3_; (try clear hb); (try clear hb2); (try clear hk); (try clear hi)))
          go_roundg k2
          case measure => have := HJ2.out; have := HK2.out; omega
          case rel => exact ⟨(wrap64 (x23_2 + 1)), (by first | rfl | (simp; done) | (simp [*]; done)), H', ⟨by have := HJ2.out; have := HK2.out; omega⟩, ⟨by (with_reducible repeat (first | apply Kd.R_alloc | apply Kd.R_drewN | apply Kd.R_drew)); exact HO_5.out⟩, ⟨by (with_reducible repeat (first | refine zf ?_ _ | refine zh ?_ | refine zg ?_ _)); exact BK282.out⟩, ⟨by repeat (first | (with_reducible first | exact HB.out | apply zc | apply za | apply zb | refine ze ?_ GE282.out | refine ze ?_ GE290.out) | exact HB.out)⟩⟩
         replace c31 := Bool.eq_false_iff.mpr c31
         subst c31
         have H1 : (some false) = some r := by rw [if_neg (show ¬ (false = true) by decide)] at H; exact H
         clear H
         have H := H1
         clear H1
         obtain rfl := Option.some.inj H
         have p289 : 0 ≤ (x23_2 : Int) := od (by first | (with_reducible assumption) | assumption)
         have q289 : x23_2 < (l1.length : Int) := od (by first | (with_reducible assumption) | assumption)
         obtain ⟨ad289, e289, u1_0, u1_1, u1_2, u1_3, u1_4, u1_5, u1_6, u1_7, u1_8, u1_9, u1_10, u1_11, u1_12, u1_13, u1_14, u1_15, u1_16, u1_17, u1_18, u1_19⟩ := ac_T54 HB.out HR1.out x23_2 p289 q289
         (try rw [← Nbq20.out] at u1_18)
         (try rw [← Nbq20.out] at u1_19)
         cases e289
         replace p289 := eq_true p289
         replace q289 := eq_true q289
         go_wp2_with (first | ((with_reducible refine zo (N := 27) rfl ?_); refine load20_event (T := 54) (p := ad289.add ((x23_2).toNat * 20)) (x := ?lx3) ?la3 ?lb3 ?lc3 hu54 ?ld3 ?le3 u1_0 u1_1 u1_2 u1_3 u1_4 u1_5 u1_6 u1_7 u1_8 u1_9 u1_10 u1_11 u1_12 u1_13 u1_14 u1_15 u1_16 u1_17 u1_18 u1_19 ?_; (case la3 => rfl); (case lb3 => rfl); (case lc3 => rfl); (case ld3 => rfl); (case le3 => kernel_rfl)) | ((with_reducible refine zfa (t := 54) (p := 7) rfl ?_); refine store20_event (g := gb290) (T := 54) (t := 54) (cur := #[.int .i8 0, .int .i8 0, .int .i8 0, .int .i8 0, .int .i8 0, .int .i8 0, .int .i8 0, .int .i8 0, .int .i8 0, .int .i8 0, .int .i8 0, .int .i8 0, .int .i8 0, .int .i8 0, .int .i16 0, .int .i16 0, .int .i16 0, .int .i8 0, .bool false, .bool false]) (x := ?sx3) (y := ?sy3) (c0 := .int .i8 ((rd_T54 l1 x23_2).f0.f0)) (c1 := .int .i8 ((rd_T54 l1 x23_2).f0.f1)) (c2 := .int .i8 ((rd_T54 l1 x23_2).f0.f2)) (c3 := .int .i8 ((rd_T54 l1 x23_2).f0.f3)) (c4 := .int .i8 ((rd_T54 l1 x23_2).f0.f4)) (c5 := .int .i8 ((rd_T54 l1 x23_2).f0.f5)) (c6 := .int .i8 ((rd_T54 l1 x23_2).f0.f6)) (c7 := .int .i8 ((rd_T54 l1 x23_2).f0.f7)) (c8 := .int .i8 ((rd_T54 l1 x23_2).f0.f8)) (c9 := .int .i8 ((rd_T54 l1 x23_2).f0.f9)) (c10 := .int .i8 ((rd_T54 l1 x23_2).f0.f10)) (c11 := .int .i8 ((rd_T54 l1 x23_2).f0.f11)) (c12 := .int .i8 ((rd_T54 l1 x23_2).f0.f12)) (c13 := .int .i8 ((rd_T54 l1 x23_2).f0.f13)) (c14 := .int .i16 ((rd_T54 l1 x23_2).f1.f0)) (c15 := .int .i16 ((rd_T54 l1 x23_2).f1.f1)) (c16 := .int .i16 ((rd_T54 l1 x23_2).f1.f2)) (c17 := .int .i8 ((rd_T54 l1 x23_2).f2.f0)) (c18 := .bool ((rd_T54 l1 x23_2).f2.f1)) (c19 := .bool true) ?sa3 ?sb3 ?sc3 ?sd3 ?se3 ?sf3 BK290.out rfl ?sg3 ?_; (case sa3 => rfl); (case sb3 => rfl); (case sc3 => rfl); (case sd3 => rfl); (case se3 => rfl); (case sf3 => kernel_rfl); (case sg3 => rfl)) | ((with_reducible refine zo (N := 7) rfl ?_); refine zn ?hg (N := 7) ?hd (cs := #[.int .i8 0, .int .i8 0, .int .i8 0, .int .i8 0, .int .i8 0, .int .i8 0, .int .i8 0, .int .i8 0, .int .i8 0, .int .i8 0, .int .i8 0, .int .i8 0, .int .i8 0, .int .i8 0, .int .i16 0, .int .i16 0, .int .i16 0, .int .i8 0, .bool false, .bool false]) (t := 54) ?hr ?_; (case hd => rfl); (case hg => rfl); (case hr => first | (go_simp; done) | (go_simp; rfl)); intro gb290 hg w37 hbox hb; have n0_ := zd.mk (Kd.R_below (by (with_reducible repeat (first | apply Kd.R_alloc | apply Kd.R_drewN | apply Kd.R_drew)); exact HO_5.out) hb); have n1_ := zd.mk (zj (by (with_reducible repeat (first | refine zf ?_ _ | refine zh ?_ | refine zg ?_ _)); exact BK282.out) hb); obtain ⟨n2_, n4_⟩ := bx (by repeat (first | (with_reducible first | exact HB.out | apply zc | apply za | apply zb | refine ze ?_ GE282.out) | exact HB.out)) hb hg; have n3_ := zd.mk (hbox); have n5_ := n4_; have n6_ := zd.mk ((by rw [hg]; exact Nat.ne_of_lt (zv (by (with_reducible repeat (first | refine zf ?_ _ | refine zh ?_ | refine zg ?_ _)); exact BK282.out)) : gb282 ≠ gb290)); have n7_ := zd.mk n6_.out.symm; clear HO_5; clear BK282; clear HB; have HO_5 := n0_; have BK282 := n1_; have HB := n2_; have BK290 := n3_; have GW290 := n4_; have GE290 := n5_; have NB282_290 := n6_; have NB290_282 := n7_; clear n0_ n1_ n2_ n3_ n4_ n5_ n6_ n7_; clear hb hbox hg; have hnb38 := NB290_282.out; have hnc38 := NB282_290.out; obtain ⟨y7_0, y7_1, y7_2, y7_3, y7_4, y7_5, y7_6, y7_7, y7_8, y7_9, y7_10, y7_11, y7_12, y7_13, y7_14, y7_15, y7_16, y7_17, y7_18, y7_19, z7_0, z7_1, z7_2, z7_3, z7_4, z7_5, z7_6, z7_7, z7_8, z7_9, z7_10, z7_11, z7_12, z7_13, z7_14, z7_15, z7_16, z7_17, z7_18, z7_19⟩ := cf20 BK290.out; obtain ⟨Ao40, co40, eo40⟩ := Kd.R_slice HO_5.out; subst eo40) | (go_at_call 47; (with_reducible refine (impl_Case_47.calls k2 _ _ t286 ((rd_T54 l1 x23_2).f2.f0) ((rd_T54 l1 x23_2).f2.f1) false _ ?side1 ?side2 A30.out).mono ?_); (case side1 => refine (Kd.R_reads' (e := 46) (base := w.heap.size) (ok := fun k_ => True) (n := t286.length) (c := co40) ?_).2.2; exact (by (with_reducible repeat (first | apply Kd.R_alloc | apply Kd.R_drewN | apply Kd.R_drew)); exact (Kd.R_mono (Kd.R_far (p := ⟨gb290, 19, none⟩) (Kd.R_far (p := ⟨gb290, 18, none⟩) (Kd.R_far (p := ⟨gb290, 17, none⟩) (Kd.R_far (p := ⟨gb290, 16, none⟩) (Kd.R_far (p := ⟨gb290, 15, none⟩) (Kd.R_far (p := ⟨gb290, 14, none⟩) (Kd.R_far (p := ⟨gb290, 13, none⟩) (Kd.R_far (p := ⟨gb290, 12, none⟩) (Kd.R_far (p := ⟨gb290, 11, none⟩) (Kd.R_far (p := ⟨gb290, 10, none⟩) (Kd.R_far (p := ⟨gb290, 9, none⟩) (Kd.R_far (p := ⟨gb290, 8, none⟩) (Kd.R_far (p := ⟨gb290, 7, none⟩) (Kd.R_far (p := ⟨gb290, 6, none⟩) (Kd.R_far (p := ⟨gb290, 5, none⟩) (Kd.R_far (p := ⟨gb290, 4, none⟩) (Kd.R_far (p := ⟨gb290, 3, none⟩) (Kd.R_far (p := ⟨gb290, 2, none⟩) (Kd.R_far (p := ⟨gb290, 1, none⟩) (Kd.R_far (p := ⟨gb290, 0, none⟩) (Kd.R_types HO_5.out BK290.out (by decide)) (fun _ hk => hk.2) (.int .i8 ((rd_T54 l1 x23_2).f0.f0))) (fun _ hk => hk.2) (.int .i8 ((rd_T54 l1 x23_2).f0.f1))) (fun _ hk => hk.2) (.int .i8 ((rd_T54 l1 x23_2).f0.f2))) (fun _ hk => hk.2) (.int .i8 ((rd_T54 l1 x23_2).f0.f3))) (fun _ hk => hk.2) (.int .i8 ((rd_T54 l1 x23_2).f0.f4))) (fun _ hk => hk.2) (.int .i8 ((rd_T54 l1 x23_2).f0.f5))) (fun _ hk => hk.2) (.int .i8 ((rd_T54 l1 x23_2).f0.f6))) (fun _ hk => hk.2) (.int .i8 ((rd_T54 l1 x23_2).f0.f7))) (fun _ hk => hk.2) (.int .i8 ((rd_T54 l1 x23_2).f0.f8))) (fun _ hk => hk.2) (.int .i8 ((rd_T54 l1 x23_2).f0.f9))) (fun _ hk => hk.2) (.int .i8 ((rd_T54 l1 x23_2).f0.f10))) (fun _ hk => hk.2) (.int .i8 ((rd_T54 l1 x23_2).f0.f11))) (fun _ hk => hk.2) (.int .i8 ((rd_T54 l1 x23_2).f0.f12))) (fun _ hk => hk.2) (.int .i8 ((rd_T54 l1 x23_2).f0.f13))) (fun _ hk => hk.2) (.int .i16 ((rd_T54 l1 x23_2).f1.f0))) (fun _ hk => hk.2) (.int .i16 ((rd_T54 l1 x23_2).f1.f1))) (fun _ hk => hk.2) (.int .i16 ((rd_T54 l1 x23_2).f1.f2))) (fun _ hk => hk.2) (.int .i8 ((rd_T54 l1 x23_2).f2.f0))) (fun _ hk => hk.2) (.bool ((rd_T54 l1 x23_2).f2.f1))) (fun _ hk => hk.2) (.bool true)) (fun _ h_ => h_.1)))); (case side2 => exact (Kd.R_reads' HO_5.out).2.1); rintro e w41 ⟨rfl, hb⟩; have n0_ := zd.mk (Kd.R_below (by (with_reducible repeat (first | apply Kd.R_alloc | apply Kd.R_drewN | apply Kd.R_drew)); exact (Kd.R_mono (Kd.R_far (p := ⟨gb290, 19, none⟩) (Kd.R_far (p := ⟨gb290, 18, none⟩) (Kd.R_far (p := ⟨gb290, 17, none⟩) (Kd.R_far (p := ⟨gb290, 16, none⟩) (Kd.R_far (p := ⟨gb290, 15, none⟩) (Kd.R_far (p := ⟨gb290, 14, none⟩) (Kd.R_far (p := ⟨gb290, 13, none⟩) (Kd.R_far (p := ⟨gb290, 12, none⟩) (Kd.R_far (p := ⟨gb290, 11, none⟩) (Kd.R_far (p := ⟨gb290, 10, none⟩) (Kd.R_far (p := ⟨gb290, 9, none⟩) (Kd.R_far (p := ⟨gb290, 8, none⟩) (Kd.R_far (p := ⟨gb290, 7, none⟩) (Kd.R_far (p := ⟨gb290, 6, none⟩) (Kd.R_far (p := ⟨gb290, 5, none⟩) (Kd.R_far (p := ⟨gb290, 4, none⟩) (Kd.R_far (p := ⟨gb290, 3, none⟩) (Kd.R_far (p := ⟨gb290, 2, none⟩) (Kd.R_far (p := ⟨gb290, 1, none⟩) (Kd.R_far (p := ⟨gb290, 0, none⟩) (Kd.R_types HO_5.out BK290.out (by decide)) (fun _ hk => hk.2) (.int .i8 ((rd_T54 l1 x23_2).f0.f0))) (fun _ hk => hk.2) (.int .i8 ((rd_T54 l1 x23_2).f0.f1))) (fun _ hk => hk.2) (.int .i8 ((rd_T54 l1 x23_2).f0.f2))) (fun _ hk => hk.2) (.int .i8 ((rd_T54 l1 x23_2).f0.f3))) (fun _ hk => hk.2) (.int .i8 ((rd_T54 l1 x23_2).f0.f4))) (fun _ hk => hk.2) (.int .i8 ((rd_T54 l1 x23_2).f0.f5))) (fun _ hk => hk.2) (.int .i8 ((rd_T54 l1 x23_2).f0.f6))) (fun _ hk => hk.2) (.int .i8 ((rd_T54 l1 x23_2).f0.f7))) (fun _ hk => hk.2) (.int .i8 ((rd_T54 l1 x23_2).f0.f8))) (fun _ hk => hk.2) (.int .i8 ((rd_T54 l1 x23_2).f0.f9))) (fun _ hk => hk.2) (.int .i8 ((rd_T54 l1 x23_2).f0.f10))) (fun _ hk => hk.2) (.int .i8 ((rd_T54 l1 x23_2).f0.f11))) (fun _ hk => hk.2) (.int .i8 ((rd_T54 l1 x23_2).f0.f12))) (fun _ hk => hk.2) (.int .i8 ((rd_T54 l1 x23_2).f0.f13))) (fun _ hk => hk.2) (.int .i16 ((rd_T54 l1 x23_2).f1.f0))) (fun _ hk => hk.2) (.int .i16 ((rd_T54 l1 x23_2).f1.f1))) (fun _ hk => hk.2) (.int .i16 ((rd_T54 l1 x23_2).f1.f2))) (fun _ hk => hk.2) (.int .i8 ((rd_T54 l1 x23_2).f2.f0))) (fun _ hk => hk.2) (.bool ((rd_T54 l1 x23_2).f2.f1))) (fun _ hk => hk.2) (.bool true)) (fun _ h_ => h_.1))) hb); have n1_ := zd.mk (zj (g := gb282) (o := .cells #[.int .i8 a0_0, .int .i8 a0_1, .bool a0_2, .bool a0_3] 29 (0, 0)) (by (with_reducible repeat (first | refine zf ?_ _ | refine zh ?_ | refine zg ?_ _)); (repeat (with_reducible refine zla ?_ NB282_290.out _)); (with_reducible repeat (first | refine zf ?_ _ | refine zh ?_ | refine zg ?_ _)); exact BK282.out) hb); have n2_ := zd.mk (zj (g := gb290) (o := .cells #[.int .i8 ((rd_T54 l1 x23_2).f0.f0), .int .i8 ((rd_T54 l1 x23_2).f0.f1), .int .i8 ((rd_T54 l1 x23_2).f0.f2), .int .i8 ((rd_T54 l1 x23_2).f0.f3), .int .i8 ((rd_T54 l1 x23_2).f0.f4), .int .i8 ((rd_T54 l1 x23_2).f0.f5), .int .i8 ((rd_T54 l1 x23_2).f0.f6), .int .i8 ((rd_T54 l1 x23_2).f0.f7), .int .i8 ((rd_T54 l1 x23_2).f0.f8), .int .i8 ((rd_T54 l1 x23_2).f0.f9), .int .i8 ((rd_T54 l1 x23_2).f0.f10), .int .i8 ((rd_T54 l1 x23_2).f0.f11), .int .i8 ((rd_T54 l1 x23_2).f0.f12), .int .i8 ((rd_T54 l1 x23_2).f0.f13), .int .i16 ((rd_T54 l1 x23_2).f1.f0), .int .i16 ((rd_T54 l1 x23_2).f1.f1), .int .i16 ((rd_T54 l1 x23_2).f1.f2), .int .i8 ((rd_T54 l1 x23_2).f2.f0), .bool ((rd_T54 l1 x23_2).f2.f1), .bool true] 54 (0, 0)) (by (with_reducible repeat (first | refine zf ?_ _ | refine zh ?_ | refine zg ?_ _)); refine putsz ?_; (with_reducible repeat (first | refine zf ?_ _ | refine zh ?_ | refine zg ?_ _)); exact BK290.out) hb); have n3_ := zd.mk (zk (by repeat (first | (with_reducible first | exact HB.out | apply zc | apply za | apply zb | refine ze ?_ GE282.out | refine ze ?_ GE290.out) | exact HB.out)) hb); clear HO_5; clear BK282; clear BK290; clear HB; have HO_5 := n0_; have BK282 := n1_; have BK290 := n2_; have HB := n3_; clear n0_ n1_ n2_ n3_; (try clear hb); (try clear hb2); (try clear hk); (try clear hi)))
         go_ret
         exact ⟨by first | rfl | (simp [errW_none, errW_some] <;> rfl) | (simp [*, errW_none, errW_some] <;> rfl), by repeat (first | (with_reducible first | exact HB.out | apply zc | apply za | apply zb | refine ze ?_ GE282.out | refine ze ?_ GE290.out) | exact HB.out)⟩
        replace c21 := Bool.eq_false_iff.mpr c21
        subst c21
        have H1 : (if (!(((rd_T54 l1 x23_2).f2.f0) == 0) || (((rd_T54 l1 x23_2).f2.f1))) = true then (impl_ValidPlan.j2 k2 l1 t286 x23_2 l1 (l1.length : Int) x23_2 true a0_0 a0_1 a0_2 a0_3 ((rd_T54 l1 x23_2).f0.f0) ((rd_T54 l1 x23_2).f0.f1) ((rd_T54 l1 x23_2).f0.f2) ((rd_T54 l1 x23_2).f0.f3) ((rd_T54 l1 x23_2).f0.f4) ((rd_T54 l1 x23_2).f0.f5) ((rd_T54 l1 x23_2).f0.f6) ((rd_T54 l1 x23_2).f0.f7) ((rd_T54 l1 x23_2).f0.f8) ((rd_T54 l1 x23_2).f0.f9) ((rd_T54 l1 x23_2).f0.f10) ((rd_T54 l1 x23_2).f0.f11) ((rd_T54 l1 x23_2).f0.f12) ((rd_T54 l1 x23_2).f0.f13) ((rd_T54 l1 x23_2).f1.f0) ((rd_T54 l1 x23_2).f1.f1) ((rd_T54 l1 x23_2).f1.f2) ((rd_T54 l1 x23_2).f2.f0) ((rd_T54 l1 x23_2).f2.f1) false) else (if (((rd_T54 l1 x23_2).f0.f0) == 0 && (((rd_T54 l1 x23_2).f0.f1) == 0 && (((rd_T54 l1 x23_2).f0.f2) == 0 && (((rd_T54 l1 x23_2).f0.f3) == 0 && (((rd_T54 l1 x23_2).f0.f4) == 0 && (((rd_T54 l1 x23_2).f0.f5) == 0 && (((rd_T54 l1 x23_2).f0.f6) == 0 && (((rd_T54 l1 x23_2).f0.f7) == 0 && (((rd_T54 l1 x23_2).f0.f8) == 0 && (((rd_T54 l1 x23_2).f0.f9) == 0 && (((rd_T54 l1 x23_2).f0.f10) == 0 && (((rd_T54 l1 x23_2).f0.f11) == 0 && (((rd_T54 l1 x23_2).f0.f12) == 0 && (((rd_T54 l1 x23_2).f0.f13) == 0)))))))))))))) = true then (impl_ValidPlan.j2 k2 l1 t286 x23_2 l1 (l1.length : Int) x23_2 true a0_0 a0_1 a0_2 a0_3 ((rd_T54 l1 x23_2).f0.f0) ((rd_T54 l1 x23_2).f0.f1) ((rd_T54 l1 x23_2).f0.f2) ((rd_T54 l1 x23_2).f0.f3) ((rd_T54 l1 x23_2).f0.f4) ((rd_T54 l1 x23_2).f0.f5) ((rd_T54 l1 x23_2).f0.f6) ((rd_T54 l1 x23_2).f0.f7) ((rd_T54 l1 x23_2).f0.f8) ((rd_T54 l1 x23_2).f0.f9) ((rd_T54 l1 x23_2).f0.f10) ((rd_T54 l1 x23_2).f0.f11) ((rd_T54 l1 x23_2).f0.f12) ((rd_T54 l1 x23_2).f0.f13) ((rd_T54 l1 x23_2).f1.f0) ((rd_T54 l1 x23_2).f1.f1) ((rd_T54 l1 x23_2).f1.f2) ((rd_T54 l1 x23_2).f2.f0) ((rd_T54 l1 x23_2).f2.f1) false) else ((impl_ValidWeighing.f k2 a0_0 a0_1 a0_2 a0_3 ((rd_T54 l1 x23_2).f0.f0) ((rd_T54 l1 x23_2).f0.f1) ((rd_T54 l1 x23_2).f0.f2) ((rd_T54 l1 x23_2).f0.f3) ((rd_T54 l1 x23_2).f0.f4) ((rd_T54 l1 x23_2).f0.f5) ((rd_T54 l1 x23_2).f0.f6) ((rd_T54 l1 x23_2).f0.f7) ((rd_T54 l1 x23_2).f0.f8) ((rd_T54 l1 x23_2).f0.f9) ((rd_T54 l1 x23_2).f0.f10) ((rd_T54 l1 x23_2).f0.f11) ((rd_T54 l1 x23_2).f0.f12) ((rd_T54 l1 x23_2).f0.f13)).bind fun t292 => (impl_ValidPlan.j2 k2 l1 t286 x23_2 l1 (l1.length : Int) x23_2 (!t292) a0_0 a0_1 a0_2 a0_3 ((rd_T54 l1 x23_2).f0.f0) ((rd_T54 l1 x23_2).f0.f1) ((rd_T54 l1 x23_2).f0.f2) ((rd_T54 l1 x23_2).f0.f3) ((rd_T54 l1 x23_2).f0.f4) ((rd_T54 l1 x23_2).f0.f5) ((rd_T54 l1 x23_2).f0.f6) ((rd_T54 l1 x23_2).f0.f7) ((rd_T54 l1 x23_2).f0.f8) ((rd_T54 l1 x23_2).f0.f9) ((rd_T54 l1 x23_2).f0.f10) ((rd_T54 l1 x23_2).f0.f11) ((rd_T54 l1 x23_2).f0.f12) ((rd_T54 l1 x23_2).f0.f13) ((rd_T54 l1 x23_2).f1.f0) ((rd_T54 l1 x23_2).f1.f1) ((rd_T54 l1 x23_2).f1.f2) ((rd_T54 l1 x23_2).f2.f0) ((rd_T54 l1 x23_2).f2.f1) false)))) = some r := by rw [if_neg (show ¬ (false = true) by decide)] at H; exact H
        clear H
        have H := H1
        clear H1
        have HC42 := zd.mk H
        clear H
        have p289 : 0 ≤ (x23_2 : Int) := od (by first | (with_reducible assumption) | assumption)
        have q289 : x23_2 < (l1.length : Int) := od (by first | (with_reducible assumption) | assumption)
        obtain ⟨ad289, e289, u1_0, u1_1, u1_2, u1_3, u1_4, u1_5, u1_6, u1_7, u1_8, u1_9, u1_10, u1_11, u1_12, u1_13, u1_14, u1_15, u1_16, u1_17, u1_18, u1_19⟩ := ac_T54 HB.out HR1.out x23_2 p289 q289
        (try rw [← Nbq20.out] at u1_18)
        (try rw [← Nbq20.out] at u1_19)
        cases e289
        replace p289 := eq_true p289
        replace q289 := eq_true q289
        go_upto_region 10 with (first | ((with_reducible refine zo (N := 27) rfl ?_); refine load20_event (T := 54) (p := ad289.add ((x23_2).toNat * 20)) (x := ?lx4) ?la4 ?lb4 ?lc4 hu54 ?ld4 ?le4 u1_0 u1_1 u1_2 u1_3 u1_4 u1_5 u1_6 u1_7 u1_8 u1_9 u1_10 u1_11 u1_12 u1_13 u1_14 u1_15 u1_16 u1_17 u1_18 u1_19 ?_; (case la4 => rfl); (case lb4 => rfl); (case lc4 => rfl); (case ld4 => rfl); (case le4 => kernel_rfl)) | ((with_reducible refine zfa (t := 54) (p := 7) rfl ?_); refine store20_event (g := gb290) (T := 54) (t := 54) (cur := #[.int .i8 0, .int .i8 0, .int .i8 0, .int .i8 0, .int .i8 0, .int .i8 0, .int .i8 0, .int .i8 0, .int .i8 0, .int .i8 0, .int .i8 0, .int .i8 0, .int .i8 0, .int .i8 0, .int .i16 0, .int .i16 0, .int .i16 0, .int .i8 0, .bool false, .bool false]) (x := ?sx4) (y := ?sy4) (c0 := .int .i8 ((rd_T54 l1 x23_2).f0.f0)) (c1 := .int .i8 ((rd_T54 l1 x23_2).f0.f1)) (c2 := .int .i8 ((rd_T54 l1 x23_2).f0.f2)) (c3 := .int .i8 ((rd_T54 l1 x23_2).f0.f3)) (c4 := .int .i8 ((rd_T54 l1 x23_2).f0.f4)) (c5 := .int .i8 ((rd_T54 l1 x23_2).f0.f5)) (c6 := .int .i8 ((rd_T54 l1 x23_2).f0.f6)) (c7 := .int .i8 ((rd_T54 l1 x23_2).f0.f7)) (c8 := .int .i8 ((rd_T54 l1 x23_2).f0.f8)) (c9 := .int .i8 ((rd_T54 l1 x23_2).f0.f9)) (c10 := .int .i8 ((rd_T54 l1 x23_2).f0.f10)) (c11 := .int .i8 ((rd_T54 l1 x23_2).f0.f11)) (c12 := .int .i8 ((rd_T54 l1 x23_2).f0.f12)) (c13 := .int .i8 ((rd_T54 l1 x23_2).f0.f13)) (c14 := .int .i16 ((rd_T54 l1 x23_2).f1.f0)) (c15 := .int .i16 ((rd_T54 l1 x23_2).f1.f1)) (c16 := .int .i16 ((rd_T54 l1 x23_2).f1.f2)) (c17 := .int .i8 ((rd_T54 l1 x23_2).f2.f0)) (c18 := .bool ((rd_T54 l1 x23_2).f2.f1)) (c19 := .bool false) ?sa4 ?sb4 ?sc4 ?sd4 ?se4 ?sf4 BK290.out rfl ?sg4 ?_; (case sa4 => rfl); (case sb4 => rfl); (case sc4 => rfl); (case sd4 => rfl); (case se4 => rfl); (case sf4 => kernel_rfl); (case sg4 => rfl)) | ((with_reducible refine zo (N := 7) rfl ?_); refine zn ?hg (N := 7) ?hd (cs := #[.int .i8 0, .int .i8 0, .int .i8 0, .int .i8 0, .int .i8 0, .int .i8 0, .int .i8 0, .int .i8 0, .int .i8 0, .int .i8 0, .int .i8 0, .int .i8 0, .int .i8 0, .int .i8 0, .int .i16 0, .int .i16 0, .int .i16 0, .int .i8 0, .bool false, .bool false]) (t := 54) ?hr ?_; (case hd => rfl); (case hg => rfl); (case hr => first | (go_simp; done) | (go_simp; rfl)); intro gb290 hg w43 hbox hb; have n0_ := zd.mk (Kd.R_below (by (with_reducible repeat (first | apply Kd.R_alloc | apply Kd.R_drewN | apply Kd.R_drew)); exact HO_5.out) hb); have n1_ := zd.mk (zj (by (with_reducible repeat (first | refine zf ?_ _ | refine zh ?_ | refine zg ?_ _)); exact BK282.out) hb); obtain ⟨n2_, n4_⟩ := bx (by repeat (first | (with_reducible first | exact HB.out | apply zc | apply za | apply zb | refine ze ?_ GE282.out) | exact HB.out)) hb hg; have n3_ := zd.mk (hbox); have n5_ := n4_; have n6_ := zd.mk ((by rw [hg]; exact Nat.ne_of_lt (zv (by (with_reducible repeat (first | refine zf ?_ _ | refine zh ?_ | refine zg ?_ _)); exact BK282.out)) : gb282 ≠ gb290)); have n7_ := zd.mk n6_.out.symm; clear HO_5; clear BK282; clear HB; have HO_5 := n0_; have BK282 := n1_; have HB := n2_; have BK290 := n3_; have GW290 := n4_; have GE290 := n5_; have NB282_290 := n6_; have NB290_282 := n7_; clear n0_ n1_ n2_ n3_ n4_ n5_ n6_ n7_; clear hb hbox hg; have hnb44 := NB290_282.out; have hnc44 := NB282_290.out; obtain ⟨y8_0, y8_1, y8_2, y8_3, y8_4, y8_5, y8_6, y8_7, y8_8, y8_9, y8_10, y8_11, y8_12, y8_13, y8_14, y8_15, y8_16, y8_17, y8_18, y8_19, z8_0, z8_1, z8_2, z8_3, z8_4, z8_5, z8_6, z8_7, z8_8, z8_9, z8_10, z8_11, z8_12, z8_13, z8_14, z8_15, z8_16, z8_17, z8_18, z8_19⟩ := cf20 BK290.out))
        (try simp only [Act.put, List.setIfInBounds_toArray, List.set_cons_zero, List.set_cons_succ])
        go_cut [63] (fun v63 wc => ∃ (kq : Nat) (x63_41 : Bool), v63 = .bool x63_41 ∧ zd (impl_ValidPlan.j2 kq l1 t286 x23_2 l1 (l1.length : Int) x23_2 x63_41 a0_0 a0_1 a0_2 a0_3 ((rd_T54 l1 x23_2).f0.f0) ((rd_T54 l1 x23_2).f0.f1) ((rd_T54 l1 x23_2).f0.f2) ((rd_T54 l1 x23_2).f0.f3) ((rd_T54 l1 x23_2).f0.f4) ((rd_T54 l1 x23_2).f0.f5) ((rd_T54 l1 x23_2).f0.f6) ((rd_T54 l1 x23_2).f0.f7) ((rd_T54 l1 x23_2).f0.f8) ((rd_T54 l1 x23_2).f0.f9) ((rd_T54 l1 x23_2).f0.f10) ((rd_T54 l1 x23_2).f0.f11) ((rd_T54 l1 x23_2).f0.f12) ((rd_T54 l1 x23_2).f0.f13) ((rd_T54 l1 x23_2).f1.f0) ((rd_T54 l1 x23_2).f1.f1) ((rd_T54 l1 x23_2).f1.f2) ((rd_T54 l1 x23_2).f2.f0) ((rd_T54 l1 x23_2).f2.f1) false = some r) ∧ zd (kq ≤ k2) ∧ zd (Kd.R k46 46 wc w.heap.size (fun _ => True) v287 t286) ∧ zd (wc.heap[gb282]? = some (.cells #[.int .i8 a0_0, .int .i8 a0_1, .bool a0_2, .bool a0_3] 29 (0, 0))) ∧ zd (wc.heap[gb290]? = some (.cells #[.int .i8 ((rd_T54 l1 x23_2).f0.f0), .int .i8 ((rd_T54 l1 x23_2).f0.f1), .int .i8 ((rd_T54 l1 x23_2).f0.f2), .int .i8 ((rd_T54 l1 x23_2).f0.f3), .int .i8 ((rd_T54 l1 x23_2).f0.f4), .int .i8 ((rd_T54 l1 x23_2).f0.f5), .int .i8 ((rd_T54 l1 x23_2).f0.f6), .int .i8 ((rd_T54 l1 x23_2).f0.f7), .int .i8 ((rd_T54 l1 x23_2).f0.f8), .int .i8 ((rd_T54 l1 x23_2).f0.f9), .int .i8 ((rd_T54 l1 x23_2).f0.f10), .int .i8 ((rd_T54 l1 x23_2).f0.f11), .int .i8 ((rd_T54 l1 x23_2).f0.f12), .int .i8 ((rd_T54 l1 x23_2).f0.f13), .int .i16 ((rd_T54 l1 x23_2).f1.f0), .int .i16 ((rd_T54 l1 x23_2).f1.f1), .int .i16 ((rd_T54 l1 x23_2).f1.f2), .int .i8 ((rd_T54 l1 x23_2).f2.f0), .bool ((rd_T54 l1 x23_2).f2.f1), .bool false] 54 (0, 0))) ∧ zd (Below w.heap.size w wc))
        case first =>
         have H := HC42.out
         clear HC42
         by_cases c46 : (!(((rd_T54 l1 x23_2).f2.f0) == 0) || (((rd_T54 l1 x23_2).f2.f1))) = true
         ·rw [if_pos c46] at H
          have c46b0 : (!(((rd_T54 l1 x23_2).f2.f0) == 0) || (((rd_T54 l1 x23_2).f2.f1))) = true := c46
          clear c46
          (first | rw [c46b0] | (simp only [zp, zq]; rw [c46b0]) | skip)
          have H' := zd.mk H
          clear H
          have hnb47 := NB290_282.out
          have hnc47 := NB282_290.out
          obtain ⟨y9_0, y9_1, y9_2, y9_3, y9_4, y9_5, y9_6, y9_7, y9_8, y9_9, y9_10, y9_11, y9_12, y9_13, y9_14, y9_15, y9_16, y9_17, y9_18, y9_19, z9_0, z9_1, z9_2, z9_3, z9_4, z9_5, z9_6, z9_7, z9_8, z9_9, z9_10, z9_11, z9_12, z9_13, z9_14, z9_15, z9_16, z9_17, z9_18, z9_19⟩ := cf20 BK290.out
          go_wp2_with (first | ((with_reducible refine zo (N := 27) rfl ?_); refine load20_event (T := 54) (p := ad289.add ((x23_2).toNat * 20)) (x := ?lx5) ?la5 ?lb5 ?lc5 hu54 ?ld5 ?le5 u1_0 u1_1 u1_2 u1_3 u1_4 u1_5 u1_6 u1_7 u1_8 u1_9 u1_10 u1_11 u1_12 u1_13 u1_14 u1_15 u1_16 u1_17 u1_18 u1_19 ?_; (case la5 => rfl); (case lb5 => rfl); (case lc5 => rfl); (case ld5 => rfl); (case le5 => kernel_rfl)) | ((with_reducible refine zfa (t := 54) (p := 7) rfl ?_); refine store20_event (g := gb290) (T := 54) (t := 54) (cur := #[.int .i8 0, .int .i8 0, .int .i8 0, .int .i8 0, .int .i8 0, .int .i8 0, .int .i8 0, .int .i8 0, .int .i8 0, .int .i8 0, .int .i8 0, .int .i8 0, .int .i8 0, .int .i8 0, .int .i16 0, .int .i16 0, .int .i16 0, .int .i8 0, .bool false, .bool false]) (x := ?sx5) (y := ?sy5) (c0 := .int .i8 ((rd_T54 l1 x23_2).f0.f0)) (c1 := .int .i8 ((rd_T54 l1 x23_2).f0.f1)) (c2 := .int .i8 ((rd_T54 l1 x23_2).f0.f2)) (c3 := .int .i8 ((rd_T54 l1 x23_2).f0.f3)) (c4 := .int .i8 ((rd_T54 l1 x23_2).f0.f4)) (c5 := .int .i8 ((rd_T54 l1 x23_2).f0.f5)) (c6 := .int .i8 ((rd_T54 l1 x23_2).f0.f6)) (c7 := .int .i8 ((rd_T54 l1 x23_2).f0.f7)) (c8 := .int .i8 ((rd_T54 l1 x23_2).f0.f8)) (c9 := .int .i8 ((rd_T54 l1 x23_2).f0.f9)) (c10 := .int .i8 ((rd_T54 l1 x23_2).f0.f10)) (c11 := .int .i8 ((rd_T54 l1 x23_2).f0.f11)) (c12 := .int .i8 ((rd_T54 l1 x23_2).f0.f12)) (c13 := .int .i8 ((rd_T54 l1 x23_2).f0.f13)) (c14 := .int .i16 ((rd_T54 l1 x23_2).f1.f0)) (c15 := .int .i16 ((rd_T54 l1 x23_2).f1.f1)) (c16 := .int .i16 ((rd_T54 l1 x23_2).f1.f2)) (c17 := .int .i8 ((rd_T54 l1 x23_2).f2.f0)) (c18 := .bool ((rd_T54 l1 x23_2).f2.f1)) (c19 := .bool false) ?sa5 ?sb5 ?sc5 ?sd5 ?se5 ?sf5 BK290.out rfl ?sg5 ?_; (case sa5 => rfl); (case sb5 => rfl); (case sc5 => rfl); (case sd5 => rfl); (case se5 => rfl); (case sf5 => kernel_rfl); (case sg5 => rfl)))
          go_meet
          case rel => exact ⟨_, (true), (by first | rfl | (simp; done) | (simp [*]; done)), H', ⟨by have := HJ2.out; have := HK2.out; first | omega | exact Nat.le_refl _⟩, ⟨by (with_reducible repeat (first | apply Kd.R_alloc | apply Kd.R_drewN | apply Kd.R_drew)); exact Kd.R_mono (Kd.R_far (p := ⟨gb290, 19, none⟩) (Kd.R_far (p := ⟨gb290, 18, none⟩) (Kd.R_far (p := ⟨gb290, 17, none⟩) (Kd.R_far (p := ⟨gb290, 16, none⟩) (Kd.R_far (p := ⟨gb290, 15, none⟩) (Kd.R_far (p := ⟨gb290, 14, none⟩) (Kd.R_far (p := ⟨gb290, 13, none⟩) (Kd.R_far (p := ⟨gb290, 12, none⟩) (Kd.R_far (p := ⟨gb290, 11, none⟩) (Kd.R_far (p := ⟨gb290, 10, none⟩) (Kd.R_far (p := ⟨gb290, 9, none⟩) (Kd.R_far (p := ⟨gb290, 8, none⟩) (Kd.R_far (p := ⟨gb290, 7, none⟩) (Kd.R_far (p := ⟨gb290, 6, none⟩) (Kd.R_far (p := ⟨gb290, 5, none⟩) (Kd.R_far (p := ⟨gb290, 4, none⟩) (Kd.R_far (p := ⟨gb290, 3, none⟩) (Kd.R_far (p := ⟨gb290, 2, none⟩) (Kd.R_far (p := ⟨gb290, 1, none⟩) (Kd.R_far (p := ⟨gb290, 0, none⟩) (Kd.R_types HO_5.out BK290.out (by decide)) (fun _ hk => hk.2) (.int .i8 ((rd_T54 l1 x23_2).f0.f0))) (fun _ hk => hk.2) (.int .i8 ((rd_T54 l1 x23_2).f0.f1))) (fun _ hk => hk.2) (.int .i8 ((rd_T54 l1 x23_2).f0.f2))) (fun _ hk => hk.2) (.int .i8 ((rd_T54 l1 x23_2).f0.f3))) (fun _ hk => hk.2) (.int .i8 ((rd_T54 l1 x23_2).f0.f4))) (fun _ hk => hk.2) (.int .i8 ((rd_T54 l1 x23_2).f0.f5))) (fun _ hk => hk.2) (.int .i8 ((rd_T54 l1 x23_2).f0.f6))) (fun _ hk => hk.2) (.int .i8 ((rd_T54 l1 x23_2).f0.f7))) (fun _ hk => hk.2) (.int .i8 ((rd_T54 l1 x23_2).f0.f8))) (fun _ hk => hk.2) (.int .i8 ((rd_T54 l1 x23_2).f0.f9))) (fun _ hk => hk.2) (.int .i8 ((rd_T54 l1 x23_2).f0.f10))) (fun _ hk => hk.2) (.int .i8 ((rd_T54 l1 x23_2).f0.f11))) (fun _ hk => hk.2) (.int .i8 ((rd_T54 l1 x23_2).f0.f12))) (fun _ hk => hk.2) (.int .i8 ((rd_T54 l1 x23_2).f0.f13))) (fun _ hk => hk.2) (.int .i16 ((rd_T54 l1 x23_2).f1.f0))) (fun _ hk => hk.2) (.int .i16 ((rd_T54 l1 x23_2).f1.f1))) (fun _ hk => hk.2) (.int .i16 ((rd_T54 l1 x23_2).f1.f2))) (fun _ hk => hk.2) (.int .i8 ((rd_T54 l1 x23_2).f2.f0))) (fun _ hk => hk.2) (.bool ((rd_T54 l1 x23_2).f2.f1))) (fun _ hk => hk.2) (.bool false)) (fun _ hk => trivial)⟩, ⟨by (with_reducible repeat (first | refine zf ?_ _ | refine zh ?_ | refine zg ?_ _)); (repeat (with_reducible refine zla ?_ NB282_290.out _)); (with_reducible repeat (first | refine zf ?_ _ | refine zh ?_ | refine zg ?_ _)); exact BK282.out⟩, ⟨by (with_reducible repeat (first | refine zf ?_ _ | refine zh ?_ | refine zg ?_ _)); refine putsz ?_; (with_reducible repeat (first | refine zf ?_ _ | refine zh ?_ | refine zg ?_ _)); exact BK290.out⟩, ⟨by repeat (first | (with_reducible first | exact HB.out | apply zc | apply za | apply zb | refine ze ?_ GE282.out | refine ze ?_ GE290.out) | exact HB.out)⟩⟩
         rw [if_neg c46] at H
         have c46b0 : (!(((rd_T54 l1 x23_2).f2.f0) == 0) || (((rd_T54 l1 x23_2).f2.f1))) = false := by simpa using c46
         clear c46
         (first | rw [c46b0] | (simp only [zp, zq]; rw [c46b0]) | skip)
         by_cases c49 : (((rd_T54 l1 x23_2).f0.f0) == 0 && (((rd_T54 l1 x23_2).f0.f1) == 0 && (((rd_T54 l1 x23_2).f0.f2) == 0 && (((rd_T54 l1 x23_2).f0.f3) == 0 && (((rd_T54 l1 x23_2).f0.f4) == 0 && (((rd_T54 l1 x23_2).f0.f5) == 0 && (((rd_T54 l1 x23_2).f0.f6) == 0 && (((rd_T54 l1 x23_2).f0.f7) == 0 && (((rd_T54 l1 x23_2).f0.f8) == 0 && (((rd_T54 l1 x23_2).f0.f9) == 0 && (((rd_T54 l1 x23_2).f0.f10) == 0 && (((rd_T54 l1 x23_2).f0.f11) == 0 && (((rd_T54 l1 x23_2).f0.f12) == 0 && (((rd_T54 l1 x23_2).f0.f13) == 0)))))))))))))) = true
         ·rw [if_pos c49] at H
          have c49b0 : (((rd_T54 l1 x23_2).f0.f0) == 0 && (((rd_T54 l1 x23_2).f0.f1) == 0 && (((rd_T54 l1 x23_2).f0.f2) == 0 && (((rd_T54 l1 x23_2).f0.f3) == 0 && (((rd_T54 l1 x23_2).f0.f4) == 0 && (((rd_T54 l1 x23_2).f0.f5) == 0 && (((rd_T54 l1 x23_2).f0.f6) == 0 && (((rd_T54 l1 x23_2).f0.f7) == 0 && (((rd_T54 l1 x23_2).f0.f8) == 0 && (((rd_T54 l1 x23_2).f0.f9) == 0 && (((rd_T54 l1 x23_2).f0.f10) == 0 && (((rd_T54 l1 x23_2).f0.f11) == 0 && (((rd_T54 l1 x23_2).f0.f12) == 0 && (((rd_T54 l1 x23_2).f0.f13) == 0)))))))))))))) = true := c49
          (try (have c49b1 : decide (((rd_T54 l1 x23_2).f0.f0) = 0 && (((rd_T54 l1 x23_2).f0.f1) == 0 && (((rd_T54 l1 x23_2).f0.f2) == 0 && (((rd_T54 l1 x23_2).f0.f3) == 0 && (((rd_T54 l1 x23_2).f0.f4) == 0 && (((rd_T54 l1 x23_2).f0.f5) == 0 && (((rd_T54 l1 x23_2).f0.f6) == 0 && (((rd_T54 l1 x23_2).f0.f7) == 0 && (((rd_T54 l1 x23_2).f0.f8) == 0 && (((rd_T54 l1 x23_2).f0.f9) == 0 && (((rd_T54 l1 x23_2).f0.f10) == 0 && (((rd_T54 l1 x23_2).f0.f11) == 0 && (((rd_T54 l1 x23_2).f0.f12) == 0 && (((rd_T54 l1 x23_2).f0.f13) == 0)))))))))))))) = true := by simpa using c49))
          (try (have c49b2 : (((rd_T54 l1 x23_2).f0.f0) == 0 && (((rd_T54 l1 x23_2).f0.f1) == 0 && (((rd_T54 l1 x23_2).f0.f2) == 0 && (((rd_T54 l1 x23_2).f0.f3) == 0 && (((rd_T54 l1 x23_2).f0.f4) == 0 && (((rd_T54 l1 x23_2).f0.f5) == 0 && (((rd_T54 l1 x23_2).f0.f6) == 0 && (((rd_T54 l1 x23_2).f0.f7) == 0 && (((rd_T54 l1 x23_2).f0.f8) == 0 && (((rd_T54 l1 x23_2).f0.f9) == 0 && (((rd_T54 l1 x23_2).f0.f10) == 0 && (((rd_T54 l1 x23_2).f0.f11) == 0 && (((rd_T54 l1 x23_2).f0.f12) == 0 && (((rd_T54 l1 x23_2).f0.f13) == 0)))))))))))))) = true := by simpa using c49))
          clear c49
          have H' := zd.mk H
          clear H
          have hnb50 := NB290_282.out
          have hnc50 := NB282_290.out
          obtain ⟨y10_0, y10_1, y10_2, y10_3, y10_4, y10_5, y10_6, y10_7, y10_8, y10_9, y10_10, y10_11, y10_12, y10_13, y10_14, y10_15, y10_16, y10_17, y10_18, y10_19, z10_0, z10_1, z10_2, z10_3, z10_4, z10_5, z10_6, z10_7, z10_8, z10_9, z10_10, z10_11, z10_12, z10_13, z10_14, z10_15, z10_16, z10_17, z10_18, z10_19⟩ := cf20 BK290.out
          go_wp2_with (first | ((with_reducible refine zo (N := 27) rfl ?_); refine load20_event (T := 54) (p := ad289.add ((x23_2).toNat * 20)) (x := ?lx6) ?la6 ?lb6 ?lc6 hu54 ?ld6 ?le6 u1_0 u1_1 u1_2 u1_3 u1_4 u1_5 u1_6 u1_7 u1_8 u1_9 u1_10 u1_11 u1_12 u1_13 u1_14 u1_15 u1_16 u1_17 u1_18 u1_19 ?_; (case la6 => rfl); (case lb6 => rfl); (case lc6 => rfl); (case ld6 => rfl); (case le6 => kernel_rfl)) | ((with_reducible refine zfa (t := 54) (p := 7) rfl ?_); refine store20_event (g := gb290) (T := 54) (t := 54) (cur := #[.int .i8 0, .int .i8 0, .int .i8 0, .int .i8 0, .int .i8 0, .int .i8 0, .int .i8 0, .int .i8 0, .int .i8 0, .int .i8 0, .int .i8 0, .int .i8 0, .int .i8 0, .int .i8 0, .int .i16 0, .int .i16 0, .int .i16 0, .int .i8 0, .bool false, .bool false]) (x := ?sx6) (y := ?sy6) (c0 := .int .i8 ((rd_T54 l1 x23_2).f0.f0)) (c1 := .int .i8 ((rd_T54 l1 x23_2).f0.f1)) (c2 := .int .i8 ((rd_T54 l1 x23_2).f0.f2)) (c3 := .int .i8 ((rd_T54 l1 x23_2).f0.f3)) (c4 := .int .i8 ((rd_T54 l1 x23_2).f0.f4)) (c5 := .int .i8 ((rd_T54 l1 x23_2).f0.f5)) (c6 := .int .i8 ((rd_T54 l1 x23_2).f0.f6)) (c7 := .int .i8 ((rd_T54 l1 x23_2).f0.f7)) (c8 := .int .i8 ((rd_T54 l1 x23_2).f0.f8)) (c9 := .int .i8 ((rd_T54 l1 x23_2).f0.f9)) (c10 := .int .i8 ((rd_T54 l1 x23_2).f0.f10)) (c11 := .int .i8 ((rd_T54 l1 x23_2).f0.f11)) (c12 := .int .i8 ((rd_T54 l1 x23_2).f0.f12)) (c13 := .int .i8 ((rd_T54 l1 x23_2).f0.f13)) (c14 := .int .i16 ((rd_T54 l1 x23_2).f1.f0)) (c15 := .int .i16 ((rd_T54 l1 x23_2).f1.f1)) (c16 := .int .i16 ((rd_T54 l1 x23_2).f1.f2)) (c17 := .int .i8 ((rd_T54 l1 x23_2).f2.f0)) (c18 := .bool ((rd_T54 l1 x23_2).f2.f1)) (c19 := .bool false) ?sa6 ?sb6 ?sc6 ?sd6 ?se6 ?sf6 BK290.out rfl ?sg6 ?_; (case sa6 => rfl); (case sb6 => rfl); (case sc6 => rfl); (case sd6 => rfl); (case se6 => rfl); (case sf6 => kernel_rfl); (case sg6 => rfl)))
          go_meet
          case rel => exact ⟨_, (true), (by first | rfl | (simp; done) | (simp [*]; done)), H', ⟨by have := HJ2.out; have := HK2.out; first | omega | exact Nat.le_refl _⟩, ⟨by (with_reducible repeat (first | apply Kd.R_alloc | apply Kd.R_drewN | apply Kd.R_drew)); exact Kd.R_mono (Kd.R_far (p := ⟨gb290, 19, none⟩) (Kd.R_far (p := ⟨gb290, 18, none⟩) (Kd.R_far (p := ⟨gb290, 17, none⟩) (Kd.R_far (p := ⟨gb290, 16, none⟩) (Kd.R_far (p := ⟨gb290, 15, none⟩) (Kd.R_far (p := ⟨gb290, 14, none⟩) (Kd.R_far (p := ⟨gb290, 13, none⟩) (Kd.R_far (p := ⟨gb290, 12, none⟩) (Kd.R_far (p := ⟨gb290, 11, none⟩) (Kd.R_far (p := ⟨gb290, 10, none⟩) (Kd.R_far (p := ⟨gb290, 9, none⟩) (Kd.R_far (p := ⟨gb290, 8, none⟩) (Kd.R_far (p := ⟨gb290, 7, none⟩) (Kd.R_far (p := ⟨gb290, 6, none⟩) (Kd.R_far (p := ⟨gb290, 5, none⟩) (Kd.R_far (p := ⟨gb290, 4, none⟩) (Kd.R_far (p := ⟨gb290, 3, none⟩) (Kd.R_far (p := ⟨gb290, 2, none⟩) (Kd.R_far (p := ⟨gb290, 1, none⟩) (Kd.R_far (p := ⟨gb290, 0, none⟩) (Kd.R_types HO_5.out BK290.out (by decide)) (fun _ hk => hk.2) (.int .i8 ((rd_T54 l1 x23_2).f0.f0))) (fun _ hk => hk.2) (.int .i8 ((rd_T54 l1 x23_2).f0.f1))) (fun _ hk => hk.2) (.int .i8 ((rd_T54 l1 x23_2).f0.f2))) (fun _ hk => hk.2) (.int .i8 ((rd_T54 l1 x23_2).f0.f3))) (fun _ hk => hk.2) (.int .i8 ((rd_T54 l1 x23_2).f0.f4))) (fun _ hk => hk.2) (.int .i8 ((rd_T54 l1 x23_2).f0.f5))) (fun _ hk => hk.2) (.int .i8 ((rd_T54 l1 x23_2).f0.f6))) (fun _ hk => hk.2) (.int .i8 ((rd_T54 l1 x23_2).f0.f7))) (fun _ hk => hk.2) (.int .i8 ((rd_T54 l1 x23_2).f0.f8))) (fun _ hk => hk.2) (.int .i8 ((rd_T54 l1 x23_2).f0.f9))) (fun _ hk => hk.2) (.int .i8 ((rd_T54 l1 x23_2).f0.f10))) (fun _ hk => hk.2) (.int .i8 ((rd_T54 l1 x23_2).f0.f11))) (fun _ hk => hk.2) (.int .i8 ((rd_T54 l1 x23_2).f0.f12))) (fun _ hk => hk.2) (.int .i8 ((rd_T54 l1 x23_2).f0.f13))) (fun _ hk => hk.2) (.int .i16 ((rd_T54 l1 x23_2).f1.f0))) (fun _ hk => hk.2) (.int .i16 ((rd_T54 l1 x23_2).f1.f1))) (fun _ hk => hk.2) (.int .i16 ((rd_T54 l1 x23_2).f1.f2))) (fun _ hk => hk.2) (.int .i8 ((rd_T54 l1 x23_2).f2.f0))) (fun _ hk => hk.2) (.bool ((rd_T54 l1 x23_2).f2.f1))) (fun _ hk => hk.2) (.bool false)) (fun _ hk => trivial)⟩, ⟨by (with_reducible repeat (first | refine zf ?_ _ | refine zh ?_ | refine zg ?_ _)); (repeat (with_reducible refine zla ?_ NB282_290.out _)); (with_reducible repeat (first | refine zf ?_ _ | refine zh ?_ | refine zg ?_ _)); exact BK282.out⟩, ⟨by (with_reducible repeat (first | refine zf ?_ _ | refine zh ?_ | refine zg ?_ _)); refine putsz ?_; (with_reducible repeat (first | refine zf ?_ _ | refine zh ?_ | refine zg ?_ _)); exact BK290.out⟩, ⟨by repeat (first | (with_reducible first | exact HB.out | apply zc | apply za | apply zb | refine ze ?_ GE282.out | refine ze ?_ GE290.out) | exact HB.out)⟩⟩
         rw [if_neg c49] at H
         have c49b0 : (((rd_T54 l1 x23_2).f0.f0) == 0 && (((rd_T54 l1 x23_2).f0.f1) == 0 && (((rd_T54 l1 x23_2).f0.f2) == 0 && (((rd_T54 l1 x23_2).f0.f3) == 0 && (((rd_T54 l1 x23_2).f0.f4) == 0 && (((rd_T54 l1 x23_2).f0.f5) == 0 && (((rd_T54 l1 x23_2).f0.f6) == 0 && (((rd_T54 l1 x23_2).f0.f7) == 0 && (((rd_T54 l1 x23_2).f0.f8) == 0 && (((rd_T54 l1 x23_2).f0.f9) == 0 && (((rd_T54 l1 x23_2).f0.f10) == 0 && (((rd_T54 l1 x23_2).f0.f11) == 0 && (((rd_T54 l1 x23_2).f0.f12) == 0 && (((rd_T54 l1 x23_2).f0.f13) == 0)))))))))))))) = false := by simpa using c49
         (try (have c49b1 : decide (((rd_T54 l1 x23_2).f0.f0) = 0 && (((rd_T54 l1 x23_2).f0.f1) == 0 && (((rd_T54 l1 x23_2).f0.f2) == 0 && (((rd_T54 l1 x23_2).f0.f3) == 0 && (((rd_T54 l1 x23_2).f0.f4) == 0 && (((rd_T54 l1 x23_2).f0.f5) == 0 && (((rd_T54 l1 x23_2).f0.f6) == 0 && (((rd_T54 l1 x23_2).f0.f7) == 0 && (((rd_T54 l1 x23_2).f0.f8) == 0 && (((rd_T54 l1 x23_2).f0.f9) == 0 && (((rd_T54 l1 x23_2).f0.f10) == 0 && (((rd_T54 l1 x23_2).f0.f11) == 0 && (((rd_T54 l1 x23_2).f0.f12) == 0 && (((rd_T54 l1 x23_2).f0.f13) == 0)))))))))))))) = false := by simpa using c49))
         (try (have c49b2 : (((rd_T54 l1 x23_2).f0.f0) == 0 && (((rd_T54 l1 x23_2).f0.f1) == 0 && (((rd_T54 l1 x23_2).f0.f2) == 0 && (((rd_T54 l1 x23_2).f0.f3) == 0 && (((rd_T54 l1 x23_2).f0.f4) == 0 && (((rd_T54 l1 x23_2).f0.f5) == 0 && (((rd_T54 l1 x23_2).f0.f6) == 0 && (((rd_T54 l1 x23_2).f0.f7) == 0 && (((rd_T54 l1 x23_2).f0.f8) == 0 && (((rd_T54 l1 x23_2).f0.f9) == 0 && (((rd_T54 l1 x23_2).f0.f10) == 0 && (((rd_T54 l1 x23_2).f0.f11) == 0 && (((rd_T54 l1 x23_2).f0.f12) == 0 && (((rd_T54 l1 x23_2).f0.f13) == 0)))))))))))))) = false := by simpa using c49))
         (try (have c49b3 : ¬ (((rd_T54 l1 x23_2).f0.f0) = 0 && (((rd_T54 l1 x23_2).f0.f1) == 0 && (((rd_T54 l1 x23_2).f0.f2) == 0 && (((rd_T54 l1 x23_2).f0.f3) == 0 && (((rd_T54 l1 x23_2).f0.f4) == 0 && (((rd_T54 l1 x23_2).f0.f5) == 0 && (((rd_T54 l1 x23_2).f0.f6) == 0 && (((rd_T54 l1 x23_2).f0.f7) == 0 && (((rd_T54 l1 x23_2).f0.f8) == 0 && (((rd_T54 l1 x23_2).f0.f9) == 0 && (((rd_T54 l1 x23_2).f0.f10) == 0 && (((rd_T54 l1 x23_2).f0.f11) == 0 && (((rd_T54 l1 x23_2).f0.f12) == 0 && (((rd_T54 l1 x23_2).f0.f13) == 0)))))))))))))) := by simpa using c49))
         clear c49
         replace H := Option.bind_eq_some_iff.mp H
         obtain ⟨t292, A520, H⟩ := H
         replace H : (impl_ValidPlan.j2 k2 l1 t286 x23_2 l1 (l1.length : Int) x23_2 (!t292) a0_0 a0_1 a0_2 a0_3 ((rd_T54 l1 x23_2).f0.f0) ((rd_T54 l1 x23_2).f0.f1) ((rd_T54 l1 x23_2).f0.f2) ((rd_T54 l1 x23_2).f0.f3) ((rd_T54 l1 x23_2).f0.f4) ((rd_T54 l1 x23_2).f0.f5) ((rd_T54 l1 x23_2).f0.f6) ((rd_T54 l1 x23_2).f0.f7) ((rd_T54 l1 x23_2).f0.f8) ((rd_T54 l1 x23_2).f0.f9) ((rd_T54 l1 x23_2).f0.f10) ((rd_T54 l1 x23_2).f0.f11) ((rd_T54 l1 x23_2).f0.f12) ((rd_T54 l1 x23_2).f0.f13) ((rd_T54 l1 x23_2).f1.f0) ((rd_T54 l1 x23_2).f1.f1) ((rd_T54 l1 x23_2).f1.f2) ((rd_T54 l1 x23_2).f2.f0) ((rd_T54 l1 x23_2).f2.f1) false) = some r := H
         have A52 := zd.mk A520
         clear A520
         have H' := zd.mk H
         clear H
         have hnb53 := NB290_282.out
         have hnc53 := NB282_290.out
         obtain ⟨y11_0, y11_1, y11_2, y11_3, y11_4, y11_5, y11_6, y11_7, y11_8, y11_9, y11_10, y11_11, y11_12, y11_13, y11_14, y11_15, y11_16, y11_17, y11_18, y11_19, z11_0, z11_1, z11_2, z11_3, z11_4, z11_5, z11_6, z11_7, z11_8, z11_9, z11_10, z11_11, z11_12, z11_13, z11_14, z11_15, z11_16, z11_17, z11_18, z11_19⟩ := cf20 BK290.out
         obtain ⟨y12_0, y12_1, y12_2, y12_3, z12_0, z12_1, z12_2, z12_3⟩ := cf4 BK282.out
         go_wp2_with (first | ((with_reducible refine zo (N := 27) rfl ?_); refine load20_event (T := 54) (p := ad289.add ((x23_2).toNat * 20)) (x := ?lx7) ?la7 ?lb7 ?lc7 hu54 ?ld7 ?le7 u1_0 u1_1 u1_2 u1_3 u1_4 u1_5 u1_6 u1_7 u1_8 u1_9 u1_10 u1_11 u1_12 u1_13 u1_14 u1_15 u1_16 u1_17 u1_18 u1_19 ?_; (case la7 => rfl); (case lb7 => rfl); (case lc7 => rfl); (case ld7 => rfl); (case le7 => kernel_rfl)) | ((with_reducible refine zfa (t := 54) (p := 7) rfl ?_); refine store20_event (g := gb290) (T := 54) (t := 54) (cur := #[.int .i8 0, .int .i8 0, .int .i8 0, .int .i8 0, .int .i8 0, .int .i8 0, .int .i8 0, .int .i8 0, .int .i8 0, .int .i8 0, .int .i8 0, .int .i8 0, .int .i8 0, .int .i8 0, .int .i16 0, .int .i16 0, .int .i16 0, .int .i8 0, .bool false, .bool false]) (x := ?sx7) (y := ?sy7) (c0 := .int .i8 ((rd_T54 l1 x23_2).f0.f0)) (c1 := .int .i8 ((rd_T54 l1 x23_2).f0.f1)) (c2 := .int .i8 ((rd_T54 l1 x23_2).f0.f2)) (c3 := .int .i8 ((rd_T54 l1 x23_2).f0.f3)) (c4 := .int .i8 ((rd_T54 l1 x23_2).f0.f4)) (c5 := .int .i8 ((rd_T54 l1 x23_2).f0.f5)) (c6 := .int .i8 ((rd_T54 l1 x23_2).f0.f6)) (c7 := .int .i8 ((rd_T54 l1 x23_2).f0.f7)) (c8 := .int .i8 ((rd_T54 l1 x23_2).f0.f8)) (c9 := .int .i8 ((rd_T54 l1 x23_2).f0.f9)) (c10 := .int .i8 ((rd_T54 l1 x23_2).f0.f10)) (c11 := .int .i8 ((rd_T54 l1 x23_2).f0.f11)) (c12 := .int .i8 ((rd_T54 l1 x23_2).f0.f12)) (c13 := .int .i8 ((rd_T54 l1 x23_2).f0.f13)) (c14 := .int .i16 ((rd_T54 l1 x23_2).f1.f0)) (c15 := .int .i16 ((rd_T54 l1 x23_2).f1.f1)) (c16 := .int .i16 ((rd_T54 l1 x23_2).f1.f2)) (c17 := .int .i8 ((rd_T54 l1 x23_2).f2.f0)) (c18 := .bool ((rd_T54 l1 x23_2).f2.f1)) (c19 := .bool false) ?sa7 ?sb7 ?sc7 ?sd7 ?se7 ?sf7 BK290.out rfl ?sg7 ?_; (case sa7 => rfl); (case sb7 => rfl); (case sc7 => rfl); (case sd7 => rfl); (case se7 => rfl); (case sf7 => kernel_rfl); (case sg7 => rfl)) | (go_at_call 48; (with_reducible refine (impl_ValidWeighing.calls k2 a0_0 a0_1 a0_2 a0_3 ((rd_T54 l1 x23_2).f0.f0) ((rd_T54 l1 x23_2).f0.f1) ((rd_T54 l1 x23_2).f0.f2) ((rd_T54 l1 x23_2).f0.f3) ((rd_T54 l1 x23_2).f0.f4) ((rd_T54 l1 x23_2).f0.f5) ((rd_T54 l1 x23_2).f0.f6) ((rd_T54 l1 x23_2).f0.f7) ((rd_T54 l1 x23_2).f0.f8) ((rd_T54 l1 x23_2).f0.f9) ((rd_T54 l1 x23_2).f0.f10) ((rd_T54 l1 x23_2).f0.f11) ((rd_T54 l1 x23_2).f0.f12) ((rd_T54 l1 x23_2).f0.f13) t292 _ A52.out).mono ?_); rintro e w56 ⟨rfl, hb⟩; have n0_ := zd.mk (Kd.R_below (by (with_reducible repeat (first | apply Kd.R_alloc | apply Kd.R_drewN | apply Kd.R_drew)); exact (Kd.R_mono (Kd.R_far (p := ⟨gb290, 19, none⟩) (Kd.R_far (p := ⟨gb290, 18, none⟩) (Kd.R_far (p := ⟨gb290, 17, none⟩) (Kd.R_far (p := ⟨gb290, 16, none⟩) (Kd.R_far (p := ⟨gb290, 15, none⟩) (Kd.R_far (p := ⟨gb290, 14, none⟩) (Kd.R_far (p := ⟨gb290, 13, none⟩) (Kd.R_far (p := ⟨gb290, 12, none⟩) (Kd.R_far (p := ⟨gb290, 11, none⟩) (Kd.R_far (p := ⟨gb290, 10, none⟩) (Kd.R_far (p := ⟨gb290, 9, none⟩) (Kd.R_far (p := ⟨gb290, 8, none⟩) (Kd.R_far (p := ⟨gb290, 7, none⟩) (Kd.R_far (p := ⟨gb290, 6, none⟩) (Kd.R_far (p := ⟨gb290, 5, none⟩) (Kd.R_far (p := ⟨gb290, 4, none⟩) (Kd.R_far (p := ⟨gb290, 3, none⟩) (Kd.R_far (p := ⟨gb290, 2, none⟩) (Kd.R_far (p := ⟨gb290, 1, none⟩) (Kd.R_far (p := ⟨gb290, 0, none⟩) (Kd.R_types HO_5.out BK290.out (by decide)) (fun _ hk => hk.2) (.int .i8 ((rd_T54 l1 x23_2).f0.f0))) (fun _ hk => hk.2) (.int .i8 ((rd_T54 l1 x23_2).f0.f1))) (fun _ hk => hk.2) (.int .i8 ((rd_T54 l1 x23_2).f0.f2))) (fun _ hk => hk.2) (.int .i8 ((rd_T54 l1 x23_2).f0.f3))) (fun _ hk => hk.2) (.int .i8 ((rd_T54 l1 x23_2).f0.f4))) (fun _ hk => hk.2) (.int .i8 ((rd_T54 l1 x23_2).f0.f5))) (fun _ hk => hk.2) (.int .i8 ((rd_T54 l1 x23_2).f0.f6))) (fun _ hk => hk.2) (.int .i8 ((rd_T54 l1 x23_2).f0.f7))) (fun _ hk => hk.2) (.int .i8 ((rd_T54 l1 x23_2).f0.f8))) (fun _ hk => hk.2) (.int .i8 ((rd_T54 l1 x23_2).f0.f9))) (fun _ hk => hk.2) (.int .i8 ((rd_T54 l1 x23_2).f0.f10))) (fun _ hk => hk.2) (.int .i8 ((rd_T54 l1 x23_2).f0.f11))) (fun _ hk => hk.2) (.int .i8 ((rd_T54 l1 x23_2).f0.f12))) (fun _ hk => hk.2) (.int .i8 ((rd_T54 l1 x23_2).f0.f13))) (fun _ hk => hk.2) (.int .i16 ((rd_T54 l1 x23_2).f1.f0))) (fun _ hk => hk.2) (.int .i16 ((rd_T54 l1 x23_2).f1.f1))) (fun _ hk => hk.2) (.int .i16 ((rd_T54 l1 x23_2).f1.f2))) (fun _ hk => hk.2) (.int .i8 ((rd_T54 l1 x23_2).f2.f0))) (fun _ hk => hk.2) (.bool ((rd_T54 l1 x23_2).f2.f1))) (fun _ hk => hk.2) (.bool false)) (fun _ h_ => h_.1))) hb); have n1_ := zd.mk (zj (g := gb282) (o := .cells #[.int .i8 a0_0, .int .i8 a0_1, .bool a0_2, .bool a0_3] 29 (0, 0)) (by (with_reducible repeat (first | refine zf ?_ _ | refine zh ?_ | refine zg ?_ _)); (repeat (with_reducible refine zla ?_ NB282_290.out _)); (with_reducible repeat (first | refine zf ?_ _ | refine zh ?_ | refine zg ?_ _)); exact BK282.out) hb); have n2_ := zd.mk (zj (g := gb290) (o := .cells #[.int .i8 ((rd_T54 l1 x23_2).f0.f0), .int .i8 ((rd_T54 l1 x23_2).f0.f1), .int .i8 ((rd_T54 l1 x23_2).f0.f2), .int .i8 ((rd_T54 l1 x23_2).f0.f3), .int .i8 ((rd_T54 l1 x23_2).f0.f4), .int .i8 ((rd_T54 l1 x23_2).f0.f5), .int .i8 ((rd_T54 l1 x23_2).f0.f6), .int .i8 ((rd_T54 l1 x23_2).f0.f7), .int .i8 ((rd_T54 l1 x23_2).f0.f8), .int .i8 ((rd_T54 l1 x23_2).f0.f9), .int .i8 ((rd_T54 l1 x23_2).f0.f10), .int .i8 ((rd_T54 l1 x23_2).f0.f11), .int .i8 ((rd_T54 l1 x23_2).f0.f12), .int .i8 ((rd_T54 l1 x23_2).f0.f13), .int .i16 ((rd_T54 l1 x23_2).f1.f0), .int .i16 ((rd_T54 l1 x23_2).f1.f1), .int .i16 ((rd_T54 l1 x23_2).f1.f2), .int .i8 ((rd_T54 l1 x23_2).f2.f0), .bool ((rd_T54 l1 x23_2).f2.f1), .bool false] 54 (0, 0)) (by (with_reducible repeat (first | refine zf ?_ _ | refine zh ?_ | refine zg ?_ _)); refine putsz ?_; (with_reducible repeat (first | refine zf ?_ _ | refine zh ?_ | refine zg ?_ _)); exact BK290.out) hb); have n3_ := zd.mk (zk (by repeat (first | (with_reducible first | exact HB.out | apply zc | apply za | apply zb | refine ze ?_ GE282.out | refine ze ?_ GE290.out) | exact HB.out)) hb); clear HO_5; clear BK282; clear BK290; clear HB; have HO_5 := n0_; have BK282 := n1_; have BK290 := n2_; have HB := n3_; clear n0_ n1_ n2_ n3_; (try clear hb); (try clear hb2); (try clear hk); (try clear hi)))
         go_meet
         case rel => exact ⟨_, (!t292), (by first | rfl | (simp; done) | (simp [*]; done)), H', ⟨by have := HJ2.out; have := HK2.out; first | omega | exact Nat.le_refl _⟩, ⟨by (with_reducible repeat (first | apply Kd.R_alloc | apply Kd.R_drewN | apply Kd.R_drew)); exact HO_5.out⟩, ⟨by (with_reducible repeat (first | refine zf ?_ _ | refine zh ?_ | refine zg ?_ _)); exact BK282.out⟩, ⟨by (with_reducible repeat (first | refine zf ?_ _ | refine zh ?_ | refine zg ?_ _)); exact BK290.out⟩, ⟨by repeat (first | (with_reducible first | exact HB.out | apply zc | apply za | apply zb | refine ze ?_ GE282.out | refine ze ?_ GE290.out) | exact HB.out)⟩⟩
        case rest =>
         clear HC42
         try clear c1
         try clear c2
         try clear p2
         try clear q2
         try clear hx2
         try clear c3
         try clear c4
         try clear c5
         try clear c6
         try clear p6
         try clear c13
         try clear c17
         try clear c17b0
         try clear c18
         try clear c18b0
         try clear c19
         try clear c19b0
         try clear q20
         try clear c21
         try clear c22
         try clear c22b0
         try clear c24
         try clear c26
         try clear c26b0
         try clear c28
         try clear p28
         try clear q28
         try clear hx28
         try clear c29
         try clear c31
         try clear c33
         try clear c38
         try clear c44
         try clear c45
         try clear c46
         try clear c46b0
         try clear c47
         try clear c49
         try clear c49b0
         try clear c49b1
         try clear c49b2
         try clear c50
         try clear c53
         try clear y2_0 y2_1 y2_2 y2_3
         try clear y3_0 y3_1 y3_2 y3_3
         try clear y4_0 y4_1 y4_10 y4_11 y4_12 y4_13 y4_14 y4_15 y4_16 y4_17 y4_18 y4_19 y4_2 y4_3 y4_4 y4_5 y4_6 y4_7 y4_8 y4_9
         try clear y5_0 y5_1 y5_10 y5_11 y5_12 y5_13 y5_14 y5_15 y5_16 y5_17 y5_18 y5_19 y5_2 y5_3 y5_4 y5_5 y5_6 y5_7 y5_8 y5_9
         try clear y6_0 y6_1 y6_10 y6_11 y6_12 y6_13 y6_14 y6_15 y6_16 y6_17 y6_18 y6_19 y6_2 y6_3 y6_4 y6_5 y6_6 y6_7 y6_8 y6_9
         try clear y7_0 y7_1 y7_10 y7_11 y7_12 y7_13 y7_14 y7_15 y7_16 y7_17 y7_18 y7_19 y7_2 y7_3 y7_4 y7_5 y7_6 y7_7 y7_8 y7_9
         try clear y8_0 y8_1 y8_10 y8_11 y8_12 y8_13 y8_14 y8_15 y8_16 y8_17 y8_18 y8_19 y8_2 y8_3 y8_4 y8_5 y8_6 y8_7 y8_8 y8_9
         try clear y9_0 y9_1 y9_10 y9_11 y9_12 y9_13 y9_14 y9_15 y9_16 y9_17 y9_18 y9_19 y9_2 y9_3 y9_4 y9_5 y9_6 y9_7 y9_8 y9_9
         try clear y10_0 y10_1 y10_10 y10_11 y10_12 y10_13 y10_14 y10_15 y10_16 y10_17 y10_18 y10_19 y10_2 y10_3 y10_4 y10_5 y10_6 y10_7 y10_8 y10_9
         try clear y11_0 y11_1 y11_10 y11_11 y11_12 y11_13 y11_14 y11_15 y11_16 y11_17 y11_18 y11_19 y11_2 y11_3 y11_4 y11_5 y11_6 y11_7 y11_8 y11_9
         try clear y12_0 y12_1 y12_2 y12_3
         try clear y1_0 y1_1 y1_2 y1_3
         try clear z2_0 z2_1 z2_2 z2_3
         try clear z3_0 z3_1 z3_2 z3_3
         try clear z4_0 z4_1 z4_10 z4_11 z4_12 z4_13 z4_14 z4_15 z4_16 z4_17 z4_18 z4_19 z4_2 z4_3 z4_4 z4_5 z4_6 z4_7 z4_8 z4_9
         try clear z5_0 z5_1 z5_10 z5_11 z5_12 z5_13 z5_14 z5_15 z5_16 z5_17 z5_18 z5_19 z5_2 z5_3 z5_4 z5_5 z5_6 z5_7 z5_8 z5_9
         try clear z6_0 z6_1 z6_10 z6_11 z6_12 z6_13 z6_14 z6_15 z6_16 z6_17 z6_18 z6_19 z6_2 z6_3 z6_4 z6_5 z6_6 z6_7 z6_8 z6_9
         try clear z7_0 z7_1 z7_10 z7_11 z7_12 z7_13 z7_14 z7_15 z7_16 z7_17 z7_18 z7_19 z7_2 z7_3 z7_4 z7_5 z7_6 z7_7 z7_8 z7_9
         try clear z8_0 z8_1 z8_10 z8_11 z8_12 z8_13 z8_14 z8_15 z8_16 z8_17 z8_18 z8_19 z8_2 z8_3 z8_4 z8_5 z8_6 z8_7 z8_8 z8_9
         try clear z9_0 z9_1 z9_10 z9_11 z9_12 z9_13 z9_14 z9_15 z9_16 z9_17 z9_18 z9_19 z9_2 z9_3 z9_4 z9_5 z9_6 z9_7 z9_8 z9_9
         try clear z10_0 z10_1 z10_10 z10_11 z10_12 z10_13 z10_14 z10_15 z10_16 z10_17 z10_18 z10_19 z10_2 z10_3 z10_4 z10_5 z10_6 z10_7 z10_8 z10_9
         try clear z11_0 z11_1 z11_10 z11_11 z11_12 z11_13 z11_14 z11_15 z11_16 z11_17 z11_18 z11_19 z11_2 z11_3 z11_4 z11_5 z11_6 z11_7 z11_8 z11_9
         try clear z12_0 z12_1 z12_2 z12_3
         try clear z1_0 z1_1 z1_2 z1_3
         try clear u1_0
         try clear u1_1
         try clear u1_10
         try clear u1_11
         try clear u1_12
         try clear u1_13
         try clear u1_14
         try clear u1_15
         try clear u1_16
         try clear u1_17
         try clear u1_18
         try clear u1_19
         try clear u1_2
         try clear u1_3
         try clear u1_4
         try clear u1_5
         try clear u1_6
         try clear u1_7
         try clear u1_8
         try clear u1_9
         try clear p2
         try clear p289
         try clear q289
         obtain ⟨kq, x63_41, rfl, HA, HJ41, HO_5, BK282, BK290, HB⟩ := hcut
         cases kq with
         | zero => exact absurd HA.out (by simp [impl_ValidPlan.j2])
         | succ kj41 =>
          have H := HA.out
          clear HA
          simp only [impl_ValidPlan.j2] at H
          by_cases c57 : x63_41 = true
          ·subst c57
           have H1 : (some false) = some r := by rw [if_pos rfl] at H; exact H
           clear H
           have H := H1
           clear H1
           obtain rfl := Option.some.inj H
           go_wp2_with (first | ((with_reducible refine zo (N := 27) rfl ?_); refine load20_event (T := 54) (p := ad289.add ((x23_2).toNat * 20)) (x := ?lx8) ?la8 ?lb8 ?lc8 hu54 ?ld8 ?le8 u1_0 u1_1 u1_2 u1_3 u1_4 u1_5 u1_6 u1_7 u1_8 u1_9 u1_10 u1_11 u1_12 u1_13 u1_14 u1_15 u1_16 u1_17 u1_18 u1_19 ?_; (case la8 => rfl); (case lb8 => rfl); (case lc8 => rfl); (case ld8 => rfl); (case le8 => kernel_rfl)) | ((with_reducible refine zfa (t := 54) (p := 7) rfl ?_); refine store20_event (g := gb290) (T := 54) (t := 54) (cur := #[.int .i8 0, .int .i8 0, .int .i8 0, .int .i8 0, .int .i8 0, .int .i8 0, .int .i8 0, .int .i8 0, .int .i8 0, .int .i8 0, .int .i8 0, .int .i8 0, .int .i8 0, .int .i8 0, .int .i16 0, .int .i16 0, .int .i16 0, .int .i8 0, .bool false, .bool false]) (x := ?sx8) (y := ?sy8) (c0 := .int .i8 ((rd_T54 l1 x23_2).f0.f0)) (c1 := .int .i8 ((rd_T54 l1 x23_2).f0.f1)) (c2 := .int .i8 ((rd_T54 l1 x23_2).f0.f2)) (c3 := .int .i8 ((rd_T54 l1 x23_2).f0.f3)) (c4 := .int .i8 ((rd_T54 l1 x23_2).f0.f4)) (c5 := .int .i8 ((rd_T54 l1 x23_2).f0.f5)) (c6 := .int .i8 ((rd_T54 l1 x23_2).f0.f6)) (c7 := .int .i8 ((rd_T54 l1 x23_2).f0.f7)) (c8 := .int .i8 ((rd_T54 l1 x23_2).f0.f8)) (c9 := .int .i8 ((rd_T54 l1 x23_2).f0.f9)) (c10 := .int .i8 ((rd_T54 l1 x23_2).f0.f10)) (c11 := .int .i8 ((rd_T54 l1 x23_2).f0.f11)) (c12 := .int .i8 ((rd_T54 l1 x23_2).f0.f12)) (c13 := .int .i8 ((rd_T54 l1 x23_2).f0.f13)) (c14 := .int .i16 ((rd_T54 l1 x23_2).f1.f0)) (c15 := .int .i16 ((rd_T54 l1 x23_2).f1.f1)) (c16 := .int .i16 ((rd_T54 l1 x23_2).f1.f2)) (c17 := .int .i8 ((rd_T54 l1 x23_2).f2.f0)) (c18 := .bool ((rd_T54 l1 x23_2).f2.f1)) (c19 := .bool false) ?sa8 ?sb8 ?sc8 ?sd8 ?se8 ?sf8 BK290.out rfl ?sg8 ?_; (case sa8 => rfl); (case sb8 => rfl); (case sc8 => rfl); (case sd8 => rfl); (case se8 => rfl); (case sf8 => kernel_rfl); (case sg8 => rfl)))
           go_ret
           exact ⟨by first | rfl | (simp [errW_none, errW_some] <;> rfl) | (simp [*, errW_none, errW_some] <;> rfl), by repeat (first | (with_reducible first | exact HB.out | apply zc | apply za | apply zb | refine ze ?_ GE282.out | refine ze ?_ GE290.out) | exact HB.out)⟩
          replace c57 := Bool.eq_false_iff.mpr c57
          subst c57
          have H1 : (impl_ValidPlan.l1 kj41 l1 t286 x23_2 l1 (l1.length : Int) x23_2 0 a0_0 a0_1 a0_2 a0_3 ((rd_T54 l1 x23_2).f1.f0) ((rd_T54 l1 x23_2).f1.f1) ((rd_T54 l1 x23_2).f1.f2)) = some r := by rw [if_neg (show ¬ (false = true) by decide)] at H; exact H
          clear H
          have H := H1
          clear H1
          have H' := zd.mk H
          clear H
          have hnb58 := NB290_282.out
          have hnc58 := NB282_290.out
          obtain ⟨y13_0, y13_1, y13_2, y13_3, y13_4, y13_5, y13_6, y13_7, y13_8, y13_9, y13_10, y13_11, y13_12, y13_13, y13_14, y13_15, y13_16, y13_17, y13_18, y13_19, z13_0, z13_1, z13_2, z13_3, z13_4, z13_5, z13_6, z13_7, z13_8, z13_9, z13_10, z13_11, z13_12, z13_13, z13_14, z13_15, z13_16, z13_17, z13_18, z13_19⟩ := cf20 BK290.out
          go_wp2_with (first | ((with_reducible refine zo (N := 27) rfl ?_); refine load20_event (T := 54) (p := ad289.add ((x23_2).toNat * 20)) (x := ?lx9) ?la9 ?lb9 ?lc9 hu54 ?ld9 ?le9 u1_0 u1_1 u1_2 u1_3 u1_4 u1_5 u1_6 u1_7 u1_8 u1_9 u1_10 u1_11 u1_12 u1_13 u1_14 u1_15 u1_16 u1_17 u1_18 u1_19 ?_; (case la9 => rfl); (case lb9 => rfl); (case lc9 => rfl); (case ld9 => rfl); (case le9 => kernel_rfl)) | ((with_reducible refine zfa (t := 54) (p := 7) rfl ?_); refine store20_event (g := gb290) (T := 54) (t := 54) (cur := #[.int .i8 0, .int .i8 0, .int .i8 0, .int .i8 0, .int .i8 0, .int .i8 0, .int .i8 0, .int .i8 0, .int .i8 0, .int .i8 0, .int .i8 0, .int .i8 0, .int .i8 0, .int .i8 0, .int .i16 0, .int .i16 0, .int .i16 0, .int .i8 0, .bool false, .bool false]) (x := ?sx9) (y := ?sy9) (c0 := .int .i8 ((rd_T54 l1 x23_2).f0.f0)) (c1 := .int .i8 ((rd_T54 l1 x23_2).f0.f1)) (c2 := .int .i8 ((rd_T54 l1 x23_2).f0.f2)) (c3 := .int .i8 ((rd_T54 l1 x23_2).f0.f3)) (c4 := .int .i8 ((rd_T54 l1 x23_2).f0.f4)) (c5 := .int .i8 ((rd_T54 l1 x23_2).f0.f5)) (c6 := .int .i8 ((rd_T54 l1 x23_2).f0.f6)) (c7 := .int .i8 ((rd_T54 l1 x23_2).f0.f7)) (c8 := .int .i8 ((rd_T54 l1 x23_2).f0.f8)) (c9 := .int .i8 ((rd_T54 l1 x23_2).f0.f9)) (c10 := .int .i8 ((rd_T54 l1 x23_2).f0.f10)) (c11 := .int .i8 ((rd_T54 l1 x23_2).f0.f11)) (c12 := .int .i8 ((rd_T54 l1 x23_2).f0.f12)) (c13 := .int .i8 ((rd_T54 l1 x23_2).f0.f13)) (c14 := .int .i16 ((rd_T54 l1 x23_2).f1.f0)) (c15 := .int .i16 ((rd_T54 l1 x23_2).f1.f1)) (c16 := .int .i16 ((rd_T54 l1 x23_2).f1.f2)) (c17 := .int .i8 ((rd_T54 l1 x23_2).f2.f0)) (c18 := .bool ((rd_T54 l1 x23_2).f2.f1)) (c19 := .bool false) ?sa9 ?sb9 ?sc9 ?sd9 ?se9 ?sf9 BK290.out rfl ?sg9 ?_; (case sa9 => rfl); (case sb9 => rfl); (case sc9 => rfl); (case sd9 => rfl); (case se9 => rfl); (case sf9 => kernel_rfl); (case sg9 => rfl)))
          go_loopg [66] kj41 (fun kq v66 w' => ∃ (x66_4 : Int), v66 = .int .i64 x66_4 ∧ zd (impl_ValidPlan.l1 kq l1 t286 x23_2 l1 (l1.length : Int) x23_2 x66_4 a0_0 a0_1 a0_2 a0_3 ((rd_T54 l1 x23_2).f1.f0) ((rd_T54 l1 x23_2).f1.f1) ((rd_T54 l1 x23_2).f1.f2) = some r) ∧ zd (kq ≤ kj41) ∧ zd (Kd.R k46 46 w' w.heap.size (fun _ => True) v287 t286) ∧ zd (w'.heap[gb282]? = some (.cells #[.int .i8 a0_0, .int .i8 a0_1, .bool a0_2, .bool a0_3] 29 (0, 0))) ∧ zd (w'.heap[gb290]? = some (.cells #[.int .i8 ((rd_T54 l1 x23_2).f0.f0), .int .i8 ((rd_T54 l1 x23_2).f0.f1), .int .i8 ((rd_T54 l1 x23_2).f0.f2), .int .i8 ((rd_T54 l1 x23_2).f0.f3), .int .i8 ((rd_T54 l1 x23_2).f0.f4), .int .i8 ((rd_T54 l1 x23_2).f0.f5), .int .i8 ((rd_T54 l1 x23_2).f0.f6), .int .i8 ((rd_T54 l1 x23_2).f0.f7), .int .i8 ((rd_T54 l1 x23_2).f0.f8), .int .i8 ((rd_T54 l1 x23_2).f0.f9), .int .i8 ((rd_T54 l1 x23_2).f0.f10), .int .i8 ((rd_T54 l1 x23_2).f0.f11), .int .i8 ((rd_T54 l1 x23_2).f0.f12), .int .i8 ((rd_T54 l1 x23_2).f0.f13), .int .i16 ((rd_T54 l1 x23_2).f1.f0), .int .i16 ((rd_T54 l1 x23_2).f1.f1), .int .i16 ((rd_T54 l1 x23_2).f1.f2), .int .i8 ((rd_T54 l1 x23_2).f2.f0), .bool ((rd_T54 l1 x23_2).f2.f1), .bool false] 54 (0, 0))) ∧ zd (Below w.heap.size w w'))
          case atStart => exact ⟨(0), (by first | rfl | (simp; done) | (simp [*]; done)), H', ⟨Nat.le_refl _⟩, ⟨by (with_reducible repeat (first | apply Kd.R_alloc | apply Kd.R_drewN | apply Kd.R_drew)); exact HO_5.out⟩, ⟨by (with_reducible repeat (first | refine zf ?_ _ | refine zh ?_ | refine zg ?_ _)); exact BK282.out⟩, ⟨by (with_reducible repeat (first | refine zf ?_ _ | refine zh ?_ | refine zg ?_ _)); exact BK290.out⟩, ⟨by repeat (first | (with_reducible first | exact HB.out | apply zc | apply za | apply zb | refine ze ?_ GE282.out | refine ze ?_ GE290.out) | exact HB.out)⟩⟩
          case round =>
           clear H'
           try clear c1
           try clear c2
           try clear p2
           try clear q2
           try clear hx2
           try clear c3
           try clear c4
           try clear c5
           try clear c6
           try clear p6
           try clear c13
           try clear c17
           try clear c17b0
           try clear c18
           try clear c18b0
           try clear c19
           try clear c19b0
           try clear q20
           try clear c21
           try clear c22
           try clear c22b0
           try clear c24
           try clear c26
           try clear c26b0
           try clear c28
           try clear p28
           try clear q28
           try clear hx28
           try clear c29
           try clear c31
           try clear c33
           try clear c38
           try clear c44
           try clear c45
           try clear c46
           try clear c46b0
           try clear c47
           try clear c49
           try clear c49b0
           try clear c49b1
           try clear c49b2
           try clear c50
           try clear c53
           try clear c57
           try clear c58
           try clear y2_0 y2_1 y2_2 y2_3
           try clear y3_0 y3_1 y3_2 y3_3
           try clear y4_0 y4_1 y4_10 y4_11 y4_12 y4_13 y4_14 y4_15 y4_16 y4_17 y4_18 y4_19 y4_2 y4_3 y4_4 y4_5 y4_6 y4_7 y4_8 y4_9
           try clear y5_0 y5_1 y5_10 y5_11 y5_12 y5_13 y5_14 y5_15 y5_16 y5_17 y5_18 y5_19 y5_2 y5_3 y5_4 y5_5 y5_6 y5_7 y5_8 y5_9
           try clear y6_0 y6_1 y6_10 y6_11 y6_12 y6_13 y6_14 y6_15 y6_16 y6_17 y6_18 y6_19 y6_2 y6_3 y6_4 y6_5 y6_6 y6_7 y6_8 y6_9
           try clear y7_0 y7_1 y7_10 y7_11 y7_12 y7_13 y7_14 y7_15 y7_16 y7_17 y7_18 y7_19 y7_2 y7_3 y7_4 y7_5 y7_6 y7_7 y7_8 y7_9
           try clear y8_0 y8_1 y8_10 y8_11 y8_12 y8_13 y8_14 y8_15 y8_16 y8_17 y8_18 y8_19 y8_2 y8_3 y8_4 y8_5 y8_6 y8_7 y8_8 y8_9
           try clear y9_0 y9_1 y9_10 y9_11 y9_12 y9_13 y9_14 y9_15 y9_16 y9_17 y9_18 y9_19 y9_2 y9_3 y9_4 y9_5 y9_6 y9_7 y9_8 y9_9
           try clear y10_0 y10_1 y10_10 y10_11 y10_12 y10_13 y10_14 y10_15 y10_16 y10_17 y10_18 y10_19 y10_2 y10_3 y10_4 y10_5 y10_6 y10_7 y10_8 y10_9
           try clear y11_0 y11_1 y11_10 y11_11 y11_12 y11_13 y11_14 y11_15 y11_16 y11_17 y11_18 y11_19 y11_2 y11_3 y11_4 y11_5 y11_6 y11_7 y11_8 y11_9
           try clear y12_0 y12_1 y12_2 y12_3
           try clear y13_0 y13_1 y13_10 y13_11 y13_12 y13_13 y13_14 y13_15 y13_16 y13_17 y13_18 y13_19 y13_2 y13_3 y13_4 y13_5 y13_6 y13_7 y13_8 y13_9
           try clear y1_0 y1_1 y1_2 y1_3
           try clear z2_0 z2_1 z2_2 z2_3
           try clear z3_0 z3_1 z3_2 z3_3
           try clear z4_0 z4_1 z4_10 z4_11 z4_12 z4_13 z4_14 z4_15 z4_16 z4_17 z4_18 z4_19 z4_2 z4_3 z4_4 z4_5 z4_6 z4_7 z4_8 z4_9
           try clear z5_0 z5_1 z5_10 z5_11 z5_12 z5_13 z5_14 z5_15 z5_16 z5_17 z5_18 z5_19 z5_2 z5_3 z5_4 z5_5 z5_6 z5_7 z5_8 z5_9
           try clear z6_0 z6_1 z6_10 z6_11 z6_12 z6_13 z6_14 z6_15 z6_16 z6_17 z6_18 z6_19 z6_2 z6_3 z6_4 z6_5 z6_6 z6_7 z6_8 z6_9
           try clear z7_0 z7_1 z7_10 z7_11 z7_12 z7_13 z7_14 z7_15 z7_16 z7_17 z7_18 z7_19 z7_2 z7_3 z7_4 z7_5 z7_6 z7_7 z7_8 z7_9
           try clear z8_0 z8_1 z8_10 z8_11 z8_12 z8_13 z8_14 z8_15 z8_16 z8_17 z8_18 z8_19 z8_2 z8_3 z8_4 z8_5 z8_6 z8_7 z8_8 z8_9
           try clear z9_0 z9_1 z9_10 z9_11 z9_12 z9_13 z9_14 z9_15 z9_16 z9_17 z9_18 z9_19 z9_2 z9_3 z9_4 z9_5 z9_6 z9_7 z9_8 z9_9
           try clear z10_0 z10_1 z10_10 z10_11 z10_12 z10_13 z10_14 z10_15 z10_16 z10_17 z10_18 z10_19 z10_2 z10_3 z10_4 z10_5 z10_6 z10_7 z10_8 z10_9
           try clear z11_0 z11_1 z11_10 z11_11 z11_12 z11_13 z11_14 z11_15 z11_16 z11_17 z11_18 z11_19 z11_2 z11_3 z11_4 z11_5 z11_6 z11_7 z11_8 z11_9
           try clear z12_0 z12_1 z12_2 z12_3
           try clear z13_0 z13_1 z13_10 z13_11 z13_12 z13_13 z13_14 z13_15 z13_16 z13_17 z13_18 z13_19 z13_2 z13_3 z13_4 z13_5 z13_6 z13_7 z13_8 z13_9
           try clear z1_0 z1_1 z1_2 z1_3
           try clear u1_0
           try clear u1_1
           try clear u1_10
           try clear u1_11
           try clear u1_12
           try clear u1_13
           try clear u1_14
           try clear u1_15
           try clear u1_16
           try clear u1_17
           try clear u1_18
           try clear u1_19
           try clear u1_2
           try clear u1_3
           try clear u1_4
           try clear u1_5
           try clear u1_6
           try clear u1_7
           try clear u1_8
           try clear u1_9
           try clear p2
           try clear p28
           try clear p289
           try clear p6
           try clear q2
           try clear q20
           try clear q28
           try clear q289
           obtain ⟨x66_4, rfl, HA, HK4, HO_5, BK282, BK290, HB⟩ := hrel
           cases gk with
           | zero => exact absurd HA.out (by simp [impl_ValidPlan.l1])
           | succ k4 =>
            have H := HA.out
            clear HA
            simp only [impl_ValidPlan.l1] at H
            by_cases c60 : x66_4 < 3
            ·rw [if_pos c60] at H
             have c60b0 : decide (x66_4 < 3) = true := decide_eq_true c60
             clear c60
             by_cases c61 : 0 ≤ x66_4
             ·rw [if_pos c61] at H
              have c61b0 : decide (0 ≤ x66_4) = true := decide_eq_true c61
              clear c61
              replace H := Option.bind_eq_some_iff.mp H
              obtain ⟨t294, A620, H⟩ := H
              replace H : ((impl_within.f (wrap64 (rd [((rd_T54 l1 x23_2).f1.f0), ((rd_T54 l1 x23_2).f1.f1), ((rd_T54 l1 x23_2).f1.f2)] x66_4)) (wrap64 (x23_2 + 1)) (wrap64 (t294 - 1))).bind fun t295 => (if t295 = true then (impl_ValidPlan.l1 k4 l1 t286 x23_2 l1 (l1.length : Int) x23_2 (wrap64 (x66_4 + 1)) a0_0 a0_1 a0_2 a0_3 ((rd_T54 l1 x23_2).f1.f0) ((rd_T54 l1 x23_2).f1.f1) ((rd_T54 l1 x23_2).f1.f2)) else (some false))) = some r := H
              have A62 := zd.mk A620
              clear A620
              replace H := Option.bind_eq_some_iff.mp H
              obtain ⟨t295, A630, H⟩ := H
              replace H : (if t295 = true then (impl_ValidPlan.l1 k4 l1 t286 x23_2 l1 (l1.length : Int) x23_2 (wrap64 (x66_4 + 1)) a0_0 a0_1 a0_2 a0_3 ((rd_T54 l1 x23_2).f1.f0) ((rd_T54 l1 x23_2).f1.f1) ((rd_T54 l1 x23_2).f1.f2)) else (some false)) = some r := H
              have A63 := zd.mk A630
              clear A630
              by_cases c64 : t295 = true
              ·subst c64
               have H1 : (impl_ValidPlan.l1 k4 l1 t286 x23_2 l1 (l1.length : Int) x23_2 (wrap64 (x66_4 + 1)) a0_0 a0_1 a0_2 a0_3 ((rd_T54 l1 x23_2).f1.f0) ((rd_T54 l1 x23_2).f1.f1) ((rd_T54 l1 x23_2).f1.f2)) = some r := by rw [if_pos rfl] at H; exact H
               clear H
               have H := H1
               clear H1
               have H' := zd.mk H
               clear H
               have u2_0 : ∀ W_ : World, (Instr.index 52 (.agg #[.int .i16 ((rd_T54 l1 x23_2).f1.f0), .int .i16 ((rd_T54 l1 x23_2).f1.f1), .int .i16 ((rd_T54 l1 x23_2).f1.f2)]) (.int .i64 x66_4)).run Try.prog W_ = .ok (.int .i16 (rd [((rd_T54 l1 x23_2).f1.f0), ((rd_T54 l1 x23_2).f1.f1), ((rd_T54 l1 x23_2).f1.f2)] x66_4)) W_ := by intro W_; rcases (show (x66_4 : Int) = 0 ∨ (x66_4 : Int) = 1 ∨ (x66_4 : Int) = 2 by have hp_ : 0 ≤ (x66_4 : Int) := od (by first | (with_reducible assumption) | assumption); have hq_ : x66_4 < (3 : Int) := od (by first | (with_reducible assumption) | assumption); omega) with h_ | h_ | h_ <;> rw [h_] <;> kernel_rfl
               go_wp2_with (first | ((with_reducible refine zo (N := 27) rfl ?_); refine load20_event (T := 54) (p := ad289.add ((x23_2).toNat * 20)) (x := ?lx10) ?la10 ?lb10 ?lc10 hu54 ?ld10 ?le10 u1_0 u1_1 u1_2 u1_3 u1_4 u1_5 u1_6 u1_7 u1_8 u1_9 u1_10 u1_11 u1_12 u1_13 u1_14 u1_15 u1_16 u1_17 u1_18 u1_19 ?_; (case la10 => rfl); (case lb10 => rfl); (case lc10 => rfl); (case ld10 => rfl); (case le10 => kernel_rfl)) | ((with_reducible refine zfa (t := 54) (p := 7) rfl ?_); refine store20_event (g := gb290) (T := 54) (t := 54) (cur := #[.int .i8 0, .int .i8 0, .int .i8 0, .int .i8 0, .int .i8 0, .int .i8 0, .int .i8 0, .int .i8 0, .int .i8 0, .int .i8 0, .int .i8 0, .int .i8 0, .int .i8 0, .int .i8 0, .int .i16 0, .int .i16 0, .int .i16 0, .int .i8 0, .bool false, .bool false]) (x := ?sx10) (y := ?sy10) (c0 := .int .i8 ((rd_T54 l1 x23_2).f0.f0)) (c1 := .int .i8 ((rd_T54 l1 x23_2).f0.f1)) (c2 := .int .i8 ((rd_T54 l1 x23_2).f0.f2)) (c3 := .int .i8 ((rd_T54 l1 x23_2).f0.f3)) (c4 := .int .i8 ((rd_T54 l1 x23_2).f0.f4)) (c5 := .int .i8 ((rd_T54 l1 x23_2).f0.f5)) (c6 := .int .i8 ((rd_T54 l1 x23_2).f0.f6)) (c7 := .int .i8 ((rd_T54 l1 x23_2).f0.f7)) (c8 := .int .i8 ((rd_T54 l1 x23_2).f0.f8)) (c9 := .int .i8 ((rd_T54 l1 x23_2).f0.f9)) (c10 := .int .i8 ((rd_T54 l1 x23_2).f0.f10)) (c11 := .int .i8 ((rd_T54 l1 x23_2).f0.f11)) (c12 := .int .i8 ((rd_T54 l1 x23_2).f0.f12)) (c13 := .int .i8 ((rd_T54 l1 x23_2).f0.f13)) (c14 := .int .i16 ((rd_T54 l1 x23_2).f1.f0)) (c15 := .int .i16 ((rd_T54 l1 x23_2).f1.f1)) (c16 := .int .i16 ((rd_T54 l1 x23_2).f1.f2)) (c17 := .int .i8 ((rd_T54 l1 x23_2).f2.f0)) (c18 := .bool ((rd_T54 l1 x23_2).f2.f1)) (c19 := .bool false) ?sa10 ?sb10 ?sc10 ?sd10 ?se10 ?sf10 BK290.out rfl ?sg10 ?_; (case sa10 => rfl); (case sb10 => rfl); (case sc10 => rfl); (case sd10 => rfl); (case se10 => rfl); (case sf10 => kernel_rfl); (case sg10 => rfl)) | ((with_reducible refine zr (f := 46) rfl ?_); refine zx (some 74) rfl rfl Try.func46 (by kernel_rfl) rfl #[.slice (some ad289) l1.length c1] rfl (by (try simp only [List.map_toArray, List.map_cons, List.map_nil]); first | done | rfl | (simp only [List.length_drop, List.length_take]; rfl)) ?_; (with_reducible refine (impl_Node.calls _ _ l1 t294 _ ?side1 ?side2 A62.out).mono ?_); (case side1 => repeat (first | exact (Kd.C_below HR1.out HB.out) | (with_reducible refine Kd.C_alloc ?_ _) | (with_reducible refine Kd.C_drewN ?_ _) | (with_reducible refine Kd.C_drew ?_))); (case side2 => exact HC1.out); rintro e w' ⟨rfl, ⟨nd, rfl⟩⟩; refine ⟨_, rfl, ?_⟩) | ((with_reducible refine zr (f := 38) rfl ?_); refine zx (some 76) rfl rfl Try.func38 (by kernel_rfl) rfl #[.int .i64 (wrap64 (rd [((rd_T54 l1 x23_2).f1.f0), ((rd_T54 l1 x23_2).f1.f1), ((rd_T54 l1 x23_2).f1.f2)] x66_4)), .int .i64 (wrap64 (x23_2 + 1)), .int .i64 (wrap64 (t294 - 1))] rfl (by (try simp only [List.map_toArray, List.map_cons, List.map_nil]); first | done | rfl | (simp only [List.length_drop, List.length_take]; rfl)) ?_; (with_reducible refine (impl_within.calls (wrap64 (rd [((rd_T54 l1 x23_2).f1.f0), ((rd_T54 l1 x23_2).f1.f1), ((rd_T54 l1 x23_2).f1.f2)] x66_4)) (wrap64 (x23_2 + 1)) (wrap64 (t294 - 1)) true _ A63.out).mono ?_); rintro e w' ⟨rfl, ⟨nd, rfl⟩⟩; refine ⟨_, rfl, ?_⟩))
               go_roundg k4
               case measure => have := HJ2.out; have := HK2.out; have := HJ41.out; have := HK4.out; omega
               case rel => exact ⟨(wrap64 (x66_4 + 1)), (by first | rfl | (simp; done) | (simp [*]; done)), H', ⟨by have := HJ2.out; have := HK2.out; have := HJ41.out; have := HK4.out; omega⟩, ⟨by (with_reducible repeat (first | apply Kd.R_alloc | apply Kd.R_drewN | apply Kd.R_drew)); exact HO_5.out⟩, ⟨by (with_reducible repeat (first | refine zf ?_ _ | refine zh ?_ | refine zg ?_ _)); exact BK282.out⟩, ⟨by (with_reducible repeat (first | refine zf ?_ _ | refine zh ?_ | refine zg ?_ _)); exact BK290.out⟩, ⟨by repeat (first | (with_reducible first | exact HB.out | apply zc | apply za | apply zb | refine ze ?_ GE282.out | refine ze ?_ GE290.out) | exact HB.out)⟩⟩
              replace c64 := Bool.eq_false_iff.mpr c64
              subst c64
              have H1 : (some false) = some r := by rw [if_neg (show ¬ (false = true) by decide)] at H; exact H
              clear H
              have H := H1
              clear H1
              obtain rfl := Option.some.inj H
              have u3_0 : ∀ W_ : World, (Instr.index 52 (.agg #[.int .i16 ((rd_T54 l1 x23_2).f1.f0), .int .i16 ((rd_T54 l1 x23_2).f1.f1), .int .i16 ((rd_T54 l1 x23_2).f1.f2)]) (.int .i64 x66_4)).run Try.prog W_ = .ok (.int .i16 (rd [((rd_T54 l1 x23_2).f1.f0), ((rd_T54 l1 x23_2).f1.f1), ((rd_T54 l1 x23_2).f1.f2)] x66_4)) W_ := by intro W_; rcases (show (x66_4 : Int) = 0 ∨ (x66_4 : Int) = 1 ∨ (x66_4 : Int) = 2 by have hp_ : 0 ≤ (x66_4 : Int) := od (by first | (with_reducible assumption) | assumption); have hq_ : x66_4 < (3 : Int) := od (by first | (with_reducible assumption) | assumption); omega) with h_ | h_ | h_ <;> rw [h_] <;> kernel_rfl
              go_wp2_with (first | ((with_reducible refine zo (N := 27) rfl ?_); refine load20_event (T := 54) (p := ad289.add ((x23_2).toNat * 20)) (x := ?lx11) ?la11 ?lb11 ?lc11 hu54 ?ld11 ?le11 u1_0 u1_1 u1_2 u1_3 u1_4 u1_5 u1_6 u1_7 u1_8 u1_9 u1_10 u1_11 u1_12 u1_13 u1_14 u1_15 u1_16 u1_17 u1_18 u1_19 ?_; (case la11 => rfl); (case lb11 => rfl); (case lc11 => rfl); (case ld11 => rfl); (case le11 => kernel_rfl)) | ((with_reducible refine zfa (t := 54) (p := 7) rfl ?_); refine store20_event (g := gb290) (T := 54) (t := 54) (cur := #[.int .i8 0, .int .i8 0, .int .i8 0, .int .i8 0, .int .i8 0, .int .i8 0, .int .i8 0, .int .i8 0, .int .i8 0, .int .i8 0, .int .i8 0, .int .i8 0, .int .i8 0, .int .i8 0, .int .i16 0, .int .i16 0, .int .i16 0, .int .i8 0, .bool false, .bool false]) (x := ?sx11) (y := ?sy11) (c0 := .int .i8 ((rd_T54 l1 x23_2).f0.f0)) (c1 := .int .i8 ((rd_T54 l1 x23_2).f0.f1)) (c2 := .int .i8 ((rd_T54 l1 x23_2).f0.f2)) (c3 := .int .i8 ((rd_T54 l1 x23_2).f0.f3)) (c4 := .int .i8 ((rd_T54 l1 x23_2).f0.f4)) (c5 := .int .i8 ((rd_T54 l1 x23_2).f0.f5)) (c6 := .int .i8 ((rd_T54 l1 x23_2).f0.f6)) (c7 := .int .i8 ((rd_T54 l1 x23_2).f0.f7)) (c8 := .int .i8 ((rd_T54 l1 x23_2).f0.f8)) (c9 := .int .i8 ((rd_T54 l1 x23_2).f0.f9)) (c10 := .int .i8 ((rd_T54 l1 x23_2).f0.f10)) (c11 := .int .i8 ((rd_T54 l1 x23_2).f0.f11)) (c12 := .int .i8 ((rd_T54 l1 x23_2).f0.f12)) (c13 := .int .i8 ((rd_T54 l1 x23_2).f0.f13)) (c14 := .int .i16 ((rd_T54 l1 x23_2).f1.f0)) (c15 := .int .i16 ((rd_T54 l1 x23_2).f1.f1)) (c16 := .int .i16 ((rd_T54 l1 x23_2).f1.f2)) (c17 := .int .i8 ((rd_T54 l1 x23_2).f2.f0)) (c18 := .bool ((rd_T54 l1 x23_2).f2.f1)) (c19 := .bool false) ?sa11 ?sb11 ?sc11 ?sd11 ?se11 ?sf11 BK290.out rfl ?sg11 ?_; (case sa11 => rfl); (case sb11 => rfl); (case sc11 => rfl); (case sd11 => rfl); (case se11 => rfl); (case sf11 => kernel_rfl); (case sg11 => rfl)) | ((with_reducible refine zr (f := 46) rfl ?_); refine zx (some 74) rfl rfl Try.func46 (by kernel_rfl) rfl #[.slice (some ad289) l1.length c1] rfl (by (try simp only [List.map_toArray, List.map_cons, List.map_nil]); first | done | rfl | (simp only [List.length_drop, List.length_take]; rfl)) ?_; (with_reducible refine (impl_Node.calls _ _ l1 t294 _ ?side1 ?side2 A62.out).mono ?_); (case side1 => repeat (first | exact (Kd.C_below HR1.out HB.out) | (with_reducible refine Kd.C_alloc ?_ _) | (with_reducible refine Kd.C_drewN ?_ _) | (with_reducible refine Kd.C_drew ?_))); (case side2 => exact HC1.out); rintro e w' ⟨rfl, ⟨nd, rfl⟩⟩; refine ⟨_, rfl, ?_⟩) | ((with_reducible refine zr (f := 38) rfl ?_); refine zx (some 76) rfl rfl Try.func38 (by kernel_rfl) rfl #[.int .i64 (wrap64 (rd [((rd_T54 l1 x23_2).f1.f0), ((rd_T54 l1 x23_2).f1.f1), ((rd_T54 l1 x23_2).f1.f2)] x66_4)), .int .i64 (wrap64 (x23_2 + 1)), .int .i64 (wrap64 (t294 - 1))] rfl (by (try simp only [List.map_toArray, List.map_cons, List.map_nil]); first | done | rfl | (simp only [List.length_drop, List.length_take]; rfl)) ?_; (with_reducible refine (impl_within.calls (wrap64 (rd [((rd_T54 l1 x23_2).f1.f0), ((rd_T54 l1 x23_2).f1.f1), ((rd_T54 l1 x23_2).f1.f2)] x66_4)) (wrap64 (x23_2 + 1)) (wrap64 (t294 - 1)) false _ A63.out).mono ?_); rintro e w' ⟨rfl, ⟨nd, rfl⟩⟩; refine ⟨_, rfl, ?_⟩))
              go_ret
              exact ⟨by first | rfl | (simp [errW_none, errW_some] <;> rfl) | (simp [*, errW_none, errW_some] <;> rfl), by repeat (first | (with_reducible first | exact HB.out | apply zc | apply za | apply zb | refine ze ?_ GE282.out | refine ze ?_ GE290.out) | exact HB.out)⟩
             rw [if_neg c61] at H
             exact absurd H (by simp)
            rw [if_neg c60] at H
            have c60b0 : decide (x66_4 < 3) = false := decide_eq_false c60
            clear c60
            have H' := zd.mk H
            clear H
            go_wp2_with (first | ((with_reducible refine zo (N := 27) rfl ?_); refine load20_event (T := 54) (p := ad289.add ((x23_2).toNat * 20)) (x := ?lx12) ?la12 ?lb12 ?lc12 hu54 ?ld12 ?le12 u1_0 u1_1 u1_2 u1_3 u1_4 u1_5 u1_6 u1_7 u1_8 u1_9 u1_10 u1_11 u1_12 u1_13 u1_14 u1_15 u1_16 u1_17 u1_18 u1_19 ?_; (case la12 => rfl); (case lb12 => rfl); (case lc12 => rfl); (case ld12 => rfl); (case le12 => kernel_rfl)) | ((with_reducible refine zfa (t := 54) (p := 7) rfl ?_); refine store20_event (g := gb290) (T := 54) (t := 54) (cur := #[.int .i8 0, .int .i8 0, .int .i8 0, .int .i8 0, .int .i8 0, .int .i8 0, .int .i8 0, .int .i8 0, .int .i8 0, .int .i8 0, .int .i8 0, .int .i8 0, .int .i8 0, .int .i8 0, .int .i16 0, .int .i16 0, .int .i16 0, .int .i8 0, .bool false, .bool false]) (x := ?sx12) (y := ?sy12) (c0 := .int .i8 ((rd_T54 l1 x23_2).f0.f0)) (c1 := .int .i8 ((rd_T54 l1 x23_2).f0.f1)) (c2 := .int .i8 ((rd_T54 l1 x23_2).f0.f2)) (c3 := .int .i8 ((rd_T54 l1 x23_2).f0.f3)) (c4 := .int .i8 ((rd_T54 l1 x23_2).f0.f4)) (c5 := .int .i8 ((rd_T54 l1 x23_2).f0.f5)) (c6 := .int .i8 ((rd_T54 l1 x23_2).f0.f6)) (c7 := .int .i8 ((rd_T54 l1 x23_2).f0.f7)) (c8 := .int .i8 ((rd_T54 l1 x23_2).f0.f8)) (c9 := .int .i8 ((rd_T54 l1 x23_2).f0.f9)) (c10 := .int .i8 ((rd_T54 l1 x23_2).f0.f10)) (c11 := .int .i8 ((rd_T54 l1 x23_2).f0.f11)) (c12 := .int .i8 ((rd_T54 l1 x23_2).f0.f12)) (c13 := .int .i8 ((rd_T54 l1 x23_2).f0.f13)) (c14 := .int .i16 ((rd_T54 l1 x23_2).f1.f0)) (c15 := .int .i16 ((rd_T54 l1 x23_2).f1.f1)) (c16 := .int .i16 ((rd_T54 l1 x23_2).f1.f2)) (c17 := .int .i8 ((rd_T54 l1 x23_2).f2.f0)) (c18 := .bool ((rd_T54 l1 x23_2).f2.f1)) (c19 := .bool false) ?sa12 ?sb12 ?sc12 ?sd12 ?se12 ?sf12 BK290.out rfl ?sg12 ?_; (case sa12 => rfl); (case sb12 => rfl); (case sc12 => rfl); (case sd12 => rfl); (case se12 => rfl); (case sf12 => kernel_rfl); (case sg12 => rfl)))
            go_roundg k4
            case measure => have := HJ2.out; have := HK2.out; have := HJ41.out; have := HK4.out; omega
            case rel => exact ⟨(wrap64 (x23_2 + 1)), (by first | rfl | (simp; done) | (simp [*]; done)), H', ⟨by have := HJ2.out; have := HK2.out; have := HJ41.out; have := HK4.out; omega⟩, ⟨by (with_reducible repeat (first | apply Kd.R_alloc | apply Kd.R_drewN | apply Kd.R_drew)); exact HO_5.out⟩, ⟨by (with_reducible repeat (first | refine zf ?_ _ | refine zh ?_ | refine zg ?_ _)); exact BK282.out⟩, ⟨by repeat (first | (with_reducible first | exact HB.out | apply zc | apply za | apply zb | refine ze ?_ GE282.out | refine ze ?_ GE290.out) | exact HB.out)⟩⟩
       rw [if_neg c19] at H
       exact absurd H (by simp)
      rw [if_neg c18] at H
      exact absurd H (by simp)
     rw [if_neg c17] at H
     have c17b0 : decide (x23_2 < (l1.length : Int)) = false := decide_eq_false c17
     clear c17
     obtain rfl := Option.some.inj H
     go_wp2_with (first | ((with_reducible refine zo (N := 27) rfl ?_); refine load20_event (T := 54) (p := ad289.add ((x23_2).toNat * 20)) (x := ?lx13) ?la13 ?lb13 ?lc13 hu54 ?ld13 ?le13 u1_0 u1_1 u1_2 u1_3 u1_4 u1_5 u1_6 u1_7 u1_8 u1_9 u1_10 u1_11 u1_12 u1_13 u1_14 u1_15 u1_16 u1_17 u1_18 u1_19 ?_; (case la13 => rfl); (case lb13 => rfl); (case lc13 => rfl); (case ld13 => rfl); (case le13 => kernel_rfl)) | ((with_reducible refine zfa (t := 54) (p := 7) rfl ?_); refine store20_event (g := gb290) (T := 54) (t := 54) (cur := #[.int .i8 0, .int .i8 0, .int .i8 0, .int .i8 0, .int .i8 0, .int .i8 0, .int .i8 0, .int .i8 0, .int .i8 0, .int .i8 0, .int .i8 0, .int .i8 0, .int .i8 0, .int .i8 0, .int .i16 0, .int .i16 0, .int .i16 0, .int .i8 0, .bool false, .bool false]) (x := ?sx13) (y := ?sy13) (c0 := .int .i8 ((rd_T54 l1 x23_2).f0.f0)) (c1 := .int .i8 ((rd_T54 l1 x23_2).f0.f1)) (c2 := .int .i8 ((rd_T54 l1 x23_2).f0.f2)) (c3 := .int .i8 ((rd_T54 l1 x23_2).f0.f3)) (c4 := .int .i8 ((rd_T54 l1 x23_2).f0.f4)) (c5 := .int .i8 ((rd_T54 l1 x23_2).f0.f5)) (c6 := .int .i8 ((rd_T54 l1 x23_2).f0.f6)) (c7 := .int .i8 ((rd_T54 l1 x23_2).f0.f7)) (c8 := .int .i8 ((rd_T54 l1 x23_2).f0.f8)) (c9 := .int .i8 ((rd_T54 l1 x23_2).f0.f9)) (c10 := .int .i8 ((rd_T54 l1 x23_2).f0.f10)) (c11 := .int .i8 ((rd_T54 l1 x23_2).f0.f11)) (c12 := .int .i8 ((rd_T54 l1 x23_2).f0.f12)) (c13 := .int .i8 ((rd_T54 l1 x23_2).f0.f13)) (c14 := .int .i16 ((rd_T54 l1 x23_2).f1.f0)) (c15 := .int .i16 ((rd_T54 l1 x23_2).f1.f1)) (c16 := .int .i16 ((rd_T54 l1 x23_2).f1.f2)) (c17 := .int .i8 ((rd_T54 l1 x23_2).f2.f0)) (c18 := .bool ((rd_T54 l1 x23_2).f2.f1)) (c19 := .bool false) ?sa13 ?sb13 ?sc13 ?sd13 ?se13 ?sf13 BK290.out rfl ?sg13 ?_; (case sa13 => rfl); (case sb13 => rfl); (case sc13 => rfl); (case sd13 => rfl); (case se13 => rfl); (case sf13 => kernel_rfl); (case sg13 => rfl)))
     go_ret
     exact ⟨by first | rfl | (simp [errW_none, errW_some] <;> rfl) | (simp [*, errW_none, errW_some] <;> rfl), by repeat (first | (with_reducible first | exact HB.out | apply zc | apply za | apply zb | refine ze ?_ GE282.out) | exact HB.out)⟩

end Go.Proofs.Ytmmonhpjjjdnjaa.U
