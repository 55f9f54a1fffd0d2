-- Written by wip/tools/myprint.py.
import Derived.Test.YtmmonhpjjjdnjaaVx0
import Derived.Test.YtmmonhpjjjdnjaaLLoadV
import Derived.Test.YtmmonhpjjjdnjaaVx12
import Derived.Test.YtmmonhpjjjdnjaaVx17
namespace Go.Proofs.Ytmmonhpjjjdnjaa.V
open Go.RowKit Go.Proofs.YtmmonhpjjjdnjaaW.PrintWords Go.Proofs.YtmmonhpjjjdnjaaW.PrintLast Go.Proofs.YtmmonhpjjjdnjaaW.PrintMore
attribute [local go_sem] zoa zqa zwa zva zia zga zra zpa
set_option linter.unusedVariables false
set_option linter.unusedSimpArgs false
mutual
def spec_SwapInPlan.j0 : Nat → List (S54) → Int → Int → Bool → Option ((List (S54)) × Int)
 | 0, _, _, _, _ => none
 | k + 1, x1, x2, x3, x32 => if x32 = true then (some ((([] : List (S54))), 2)) else ((some (([] : List (S54)) : List (S54))).bind fun y271 => (if y271.length + x1.length < 5864062014805 then (spec_SwapInPlan.l0 k x1 x2 x3 (y271 ++ x1) 0) else (none)))
def spec_SwapInPlan.l0 : Nat → List (S54) → Int → Int → List (S54) → Int → Option ((List (S54)) × Int)
 | 0, _, _, _, _, _ => none
 | k + 1, x1, x2, x3, x10, x11 => if x11 < (x10.length : Int) then (if 0 ≤ x11 then (if x11 < (x1.length : Int) then (if 0 ≤ x3 then (if x3 < 14 then (if 0 ≤ x2 then (if x2 < 14 then ((some (x10.set (x11 : Int).toNat (stP (za x10 x11) x2 (rdP (za x1 x11) x3) : S54) : List (S54))).bind fun y280 => ((some (y280.set (x11 : Int).toNat (stP (za y280 x11) x3 (rdP (za x1 x11) x2) : S54) : List (S54))).bind fun y284 => (if ((za y284 x11).f3 = true) then (if (wrap64 ((za x1 x11).f2.f0)) = x2 then (spec_SwapInPlan.l0 k x1 x2 x3 (y284.set (x11 : Int).toNat (⟨(⟨(za y284 x11).f0.f0, (za y284 x11).f0.f1, (za y284 x11).f0.f2, (za y284 x11).f0.f3, (za y284 x11).f0.f4, (za y284 x11).f0.f5, (za y284 x11).f0.f6, (za y284 x11).f0.f7, (za y284 x11).f0.f8, (za y284 x11).f0.f9, (za y284 x11).f0.f10, (za y284 x11).f0.f11, (za y284 x11).f0.f12, (za y284 x11).f0.f13⟩ : S50), (⟨(za y284 x11).f1.f0, (za y284 x11).f1.f1, (za y284 x11).f1.f2⟩ : S52), (⟨IntKind.i8.wrap (x3), (za y284 x11).f2.f1⟩ : S46), (za y284 x11).f3⟩ : S54)) (wrap64 (x11 + 1))) else (if (wrap64 ((za x1 x11).f2.f0)) = x3 then (spec_SwapInPlan.l0 k x1 x2 x3 (y284.set (x11 : Int).toNat (⟨(⟨(za y284 x11).f0.f0, (za y284 x11).f0.f1, (za y284 x11).f0.f2, (za y284 x11).f0.f3, (za y284 x11).f0.f4, (za y284 x11).f0.f5, (za y284 x11).f0.f6, (za y284 x11).f0.f7, (za y284 x11).f0.f8, (za y284 x11).f0.f9, (za y284 x11).f0.f10, (za y284 x11).f0.f11, (za y284 x11).f0.f12, (za y284 x11).f0.f13⟩ : S50), (⟨(za y284 x11).f1.f0, (za y284 x11).f1.f1, (za y284 x11).f1.f2⟩ : S52), (⟨IntKind.i8.wrap (x2), (za y284 x11).f2.f1⟩ : S46), (za y284 x11).f3⟩ : S54)) (wrap64 (x11 + 1))) else (spec_SwapInPlan.l0 k x1 x2 x3 y284 (wrap64 (x11 + 1))))) else (spec_SwapInPlan.l0 k x1 x2 x3 y284 (wrap64 (x11 + 1)))))) else (none)) else (none)) else (none)) else (none)) else (none)) else (none)) else (some (x10, 0))
end
def spec_SwapInPlan.f (k : Nat) (a0_0 : Int) (a0_1 : Int) (a0_2 : Bool) (a0_3 : Bool) (l1 : List (S54)) (a2 : Int) (a3 : Int) : Option ((List (S54)) × Int) := (spec_ValidPlan.f k a0_0 a0_1 a0_2 a0_3 l1).bind fun t262 => (if t262 = true then ((spec_l00In.f a2 0 (wrap64 ((wrap64 (a0_0)) - 1))).bind fun t266 => (if t266 = true then ((spec_l00In.f a3 0 (wrap64 ((wrap64 (a0_0)) - 1))).bind fun t267 => (spec_SwapInPlan.j0 k l1 a2 a3 (!t267))) else (spec_SwapInPlan.j0 k l1 a2 a3 true))) else (some ((([] : List (S54))), 1)))
def spec_SwapInPlan.T9 : Bool × List (List Nat × List Nat) := (true, [([], []), ([], []), ([], []), ([], []), ([], []), ([], []), ([3, 4], [3, 4]), ([6], [6]), ([7, 5], [5, 7]), ([8], [8]), ([0, 1], [0, 1]), ([10], [10]), ([11, 2, 0, 1, 2, 3, 4, 5, 6, 7, 8, 9], [2, 11]), ([12, 9, 0, 1, 2, 3, 4, 5, 6, 7, 8, 9], [9, 12])])
def spec_SwapInPlan.B9 : List Nat := [0, 0, 0, 0, 0, 0, 24, 88, 248, 504, 3, 1027, 4095, 8191]
theorem spec_SwapInPlan.tab9 : rtab .any (zse Try.f22 9) = spec_SwapInPlan.T9 := by kernel_rfl
theorem spec_SwapInPlan.bits9 : zzb spec_SwapInPlan.T9.2 spec_SwapInPlan.B9 = true := by kernel_rfl
def spec_SwapInPlan.T10 : Bool × List (List Nat × List Nat) := (true, [([], []), ([], []), ([], []), ([], []), ([], []), ([], []), ([3, 4], [3, 4]), ([6], [6]), ([7, 5], [5, 7]), ([8], [8]), ([0, 1], [0, 1]), ([10], [10]), ([11, 2, 0, 1, 2, 3, 4, 5, 6, 7, 8, 9], [2, 11]), ([12, 9, 0, 1, 2, 3, 4, 5, 6, 7, 8, 9], [9, 12])])
def spec_SwapInPlan.B10 : List Nat := [0, 0, 0, 0, 0, 0, 24, 88, 248, 504, 3, 1027, 4095, 8191]
theorem spec_SwapInPlan.tab10 : rtab .any (zse Try.f22 10) = spec_SwapInPlan.T10 := by kernel_rfl
theorem spec_SwapInPlan.bits10 : zzb spec_SwapInPlan.T10.2 spec_SwapInPlan.B10 = true := by kernel_rfl
set_option maxHeartbeats 8000000 in
set_option maxRecDepth 100000 in
theorem spec_SwapInPlan.calls (k : Nat) (a0_0 : Int) (a0_1 : Int) (a0_2 : Bool) (a0_3 : Bool) (A1 : Option Addr) (c1 : Nat) (l1 : List (S54)) (a2 : Int) (a3 : Int) (r1 : List (S54)) (r2 : Int) (w : World) (hr1 : Kd.C k54 w A1 l1.length l1) (hc1 : l1.length ≤ c1) (h : spec_SwapInPlan.f k a0_0 a0_1 a0_2 a0_3 l1 a2 a3 = some (r1, r2)) :
  Calls Try.prog 22 #[.agg #[.int .i8 a0_0, .int .i8 a0_1, .bool a0_2, .bool a0_3], .slice A1 l1.length c1, .int .i64 a2, .int .i64 a3] w fun e w' => ∃ v0_ : Value, e = .returned (.tuple #[v0_, .int .i64 r2]) ∧ Kd.R k54 54 w' w.heap.size (fun _ => True) v0_ r1 ∧ Below w.heap.size w w' := by
 have hu29 := Try.underlying29
 have HR1 := zc.mk hr1
 have HC1 := zc.mk hc1
 clear hr1 hc1
 have HB := zc.mk (Below.refl w.heap.size w)
 have H : ((spec_ValidPlan.f k a0_0 a0_1 a0_2 a0_3 l1).bind fun t262 => (if t262 = true then ((spec_l00In.f a2 0 (wrap64 ((wrap64 (a0_0)) - 1))).bind fun t266 => (if t266 = true then ((spec_l00In.f a3 0 (wrap64 ((wrap64 (a0_0)) - 1))).bind fun t267 => (spec_SwapInPlan.j0 k l1 a2 a3 (!t267))) else (spec_SwapInPlan.j0 k l1 a2 a3 true))) else (some ((([] : List (S54))), 1)))) = some (r1, r2) := h
 clear h
 replace H := Option.bind_eq_some_iff.mp H
 obtain ⟨t262, A50, H⟩ := H
 replace H : (if t262 = true then ((spec_l00In.f a2 0 (wrap64 ((wrap64 (a0_0)) - 1))).bind fun t266 => (if t266 = true then ((spec_l00In.f a3 0 (wrap64 ((wrap64 (a0_0)) - 1))).bind fun t267 => (spec_SwapInPlan.j0 k l1 a2 a3 (!t267))) else (spec_SwapInPlan.j0 k l1 a2 a3 true))) else (some ((([] : List (S54))), 1))) = some (r1, r2) := H
 have A5 := zc.mk A50
 clear A50
 by_cases c6 : t262 = true
 ·subst c6
  have H1 : ((spec_l00In.f a2 0 (wrap64 ((wrap64 (a0_0)) - 1))).bind fun t266 => (if t266 = true then ((spec_l00In.f a3 0 (wrap64 ((wrap64 (a0_0)) - 1))).bind fun t267 => (spec_SwapInPlan.j0 k l1 a2 a3 (!t267))) else (spec_SwapInPlan.j0 k l1 a2 a3 true))) = some (r1, r2) := by rw [if_pos rfl] at H; exact H
  clear H
  have H := H1
  clear H1
  have HC7 := zc.mk H
  clear H
  go_enter Try.func22, Try.ntmps22
  go_upto_region 3 with (first | ((with_reducible refine zp (N := 4) rfl ?_); refine zr ?hg (N := 4) ?hd (cs := #[.int .i8 a0_0, .int .i8 a0_1, .bool a0_2, .bool a0_3]) (t := 29) ?hr ?_; (case hd => rfl); (case hg => rfl); (case hr => first | (go_simp; done) | (go_simp; rfl)); intro gb261 hg w8 hbox hb; obtain ⟨n0_, n2_⟩ := bx (by repeat (first | (with_reducible first | exact HB.out | apply ze | apply zb | apply zd) | exact HB.out)) hb hg; have n1_ := zc.mk (hbox); have n3_ := n2_; clear HB; have HB := n0_; have BK261 := n1_; have GW261 := n2_; have GE261 := n3_; clear n0_ n1_ n2_ n3_; clear hb hbox hg; obtain ⟨y1_0, y1_1, y1_2, y1_3, z1_0, z1_1, z1_2, z1_3⟩ := cf4 BK261.out) | ((with_reducible refine zo (f := 24) rfl ?_); refine zaa (some 14) rfl rfl Try.func24 (by kernel_rfl) rfl #[.agg #[.int .i8 a0_0, .int .i8 a0_1, .bool a0_2, .bool a0_3], .slice A1 l1.length c1] rfl (by (try simp only [List.map_toArray, List.map_cons, List.map_nil]); first | done | rfl | (simp only [List.length_drop, List.length_take]; rfl)) ?_; (with_reducible refine (spec_ValidPlan.calls k a0_0 a0_1 a0_2 a0_3 _ _ l1 true _ ?side1 ?side2 A5.out).mono ?_); (case side1 => repeat (first | exact (Kd.C_below HR1.out HB.out) | (with_reducible refine Kd.C_alloc ?_ _) | (with_reducible refine Kd.C_drewN ?_ _) | (with_reducible refine Kd.C_drew ?_))); (case side2 => exact HC1.out); rintro e w10 ⟨rfl, hb⟩; refine ⟨_, rfl, ?_⟩; have n0_ := zc.mk (zn (by (with_reducible repeat (first | refine zg ?_ _ | refine zi ?_ | refine zh ?_ _)); exact BK261.out) hb); have n1_ := zc.mk (zq (by repeat (first | (with_reducible first | exact HB.out | apply ze | apply zb | apply zd | refine zf ?_ GE261.out) | exact HB.out)) hb); clear BK261; clear HB; have BK261 := n0_; have HB := n1_; clear n0_ n1_; (try clear hb); (try clear hb2); (try clear hk); (try clear hi)))
  (try simp only [Act.put, List.setIfInBounds_toArray, List.set_cons_zero, List.set_cons_succ])
  go_cut [32] (fun v32 wc => ∃ (kq : Nat) (x32_6 : Bool), v32 = .bool x32_6 ∧ zc (spec_SwapInPlan.j0 kq l1 a2 a3 x32_6 = some (r1, r2)) ∧ zc (kq ≤ k) ∧ zc (wc.heap[gb261]? = some (.cells #[.int .i8 a0_0, .int .i8 a0_1, .bool a0_2, .bool a0_3] 29 (0, 0))) ∧ zc (Below w.heap.size w wc))
  case first =>
   have H := HC7.out
   clear HC7
   replace H := Option.bind_eq_some_iff.mp H
   obtain ⟨t266, A110, H⟩ := H
   replace H : (if t266 = true then ((spec_l00In.f a3 0 (wrap64 ((wrap64 (a0_0)) - 1))).bind fun t267 => (spec_SwapInPlan.j0 k l1 a2 a3 (!t267))) else (spec_SwapInPlan.j0 k l1 a2 a3 true)) = some (r1, r2) := H
   have A11 := zc.mk A110
   clear A110
   by_cases c12 : t266 = true
   ·subst c12
    have H1 : ((spec_l00In.f a3 0 (wrap64 ((wrap64 (a0_0)) - 1))).bind fun t267 => (spec_SwapInPlan.j0 k l1 a2 a3 (!t267))) = some (r1, r2) := by rw [if_pos rfl] at H; exact H
    clear H
    have H := H1
    clear H1
    replace H := Option.bind_eq_some_iff.mp H
    obtain ⟨t267, A130, H⟩ := H
    replace H : (spec_SwapInPlan.j0 k l1 a2 a3 (!t267)) = some (r1, r2) := H
    have A13 := zc.mk A130
    clear A130
    have H' := zc.mk H
    clear H
    obtain ⟨y2_0, y2_1, y2_2, y2_3, z2_0, z2_1, z2_2, z2_3⟩ := cf4 BK261.out
    go_wp2_with (first | ((with_reducible refine zo (f := 37) rfl ?_); refine zaa (some 22) rfl rfl Try.func37 (by kernel_rfl) rfl #[.int .i64 a2, .int .i64 0, .int .i64 (wrap64 ((wrap64 (a0_0)) - 1))] rfl (by (try simp only [List.map_toArray, List.map_cons, List.map_nil]); first | done | rfl | (simp only [List.length_drop, List.length_take]; rfl)) ?_; (with_reducible refine (spec_l00In.calls a2 0 (wrap64 ((wrap64 (a0_0)) - 1)) true _ A11.out).mono ?_); rintro e w' ⟨rfl, ⟨nd, rfl⟩⟩; refine ⟨_, rfl, ?_⟩) | (go_at_call 37; (with_reducible refine (spec_l00In.calls a3 0 (wrap64 ((wrap64 (a0_0)) - 1)) t267 _ A13.out).mono ?_); rintro e w' ⟨rfl, ⟨nd, rfl⟩⟩))
    go_meet
    case rel => exact ⟨_, (!t267), (by first | rfl | (simp; done) | (simp [*]; done)), H', ⟨by first | omega | exact Nat.le_refl _⟩, ⟨by (with_reducible repeat (first | refine zg ?_ _ | refine zi ?_ | refine zh ?_ _)); exact BK261.out⟩, ⟨by repeat (first | (with_reducible first | exact HB.out | apply ze | apply zb | apply zd | refine zf ?_ GE261.out) | exact HB.out)⟩⟩
   replace c12 := Bool.eq_false_iff.mpr c12
   subst c12
   have H1 : (spec_SwapInPlan.j0 k l1 a2 a3 true) = some (r1, r2) := by rw [if_neg (show ¬ (false = true) by decide)] at H; exact H
   clear H
   have H := H1
   clear H1
   have H' := zc.mk H
   clear H
   obtain ⟨y3_0, y3_1, y3_2, y3_3, z3_0, z3_1, z3_2, z3_3⟩ := cf4 BK261.out
   go_wp2_with (first | ((with_reducible refine zo (f := 37) rfl ?_); refine zaa (some 22) rfl rfl Try.func37 (by kernel_rfl) rfl #[.int .i64 a2, .int .i64 0, .int .i64 (wrap64 ((wrap64 (a0_0)) - 1))] rfl (by (try simp only [List.map_toArray, List.map_cons, List.map_nil]); first | done | rfl | (simp only [List.length_drop, List.length_take]; rfl)) ?_; (with_reducible refine (spec_l00In.calls a2 0 (wrap64 ((wrap64 (a0_0)) - 1)) false _ A11.out).mono ?_); rintro e w' ⟨rfl, ⟨nd, rfl⟩⟩; refine ⟨_, rfl, ?_⟩))
   go_meet
   case rel => exact ⟨_, (true), (by first | rfl | (simp; done) | (simp [*]; done)), H', ⟨by first | omega | exact Nat.le_refl _⟩, ⟨by (with_reducible repeat (first | refine zg ?_ _ | refine zi ?_ | refine zh ?_ _)); exact BK261.out⟩, ⟨by repeat (first | (with_reducible first | exact HB.out | apply ze | apply zb | apply zd | refine zf ?_ GE261.out) | exact HB.out)⟩⟩
  case rest =>
   clear HC7
   try clear c1
   try clear c2
   try clear p2
   try clear c3
   try clear c6
   try clear p6
   try clear c12
   try clear y2_0 y2_1 y2_2 y2_3
   try clear y3_0 y3_1 y3_2 y3_3
   try clear y1_0 y1_1 y1_2 y1_3
   try clear z2_0 z2_1 z2_2 z2_3
   try clear z3_0 z3_1 z3_2 z3_3
   try clear z1_0 z1_1 z1_2 z1_3
   obtain ⟨kq, x32_6, rfl, HA, HJ6, BK261, HB⟩ := hcut
   cases kq with
   | zero => exact absurd HA.out (by simp [spec_SwapInPlan.j0])
   | succ kj6 =>
    have H := HA.out
    clear HA
    simp only [spec_SwapInPlan.j0] at H
    by_cases c16 : x32_6 = true
    ·subst c16
     have H1 : (some ((([] : List (S54))), 2)) = some (r1, r2) := by rw [if_pos rfl] at H; exact H
     clear H
     have H := H1
     clear H1
     obtain ⟨y268, hy268⟩ : ∃ y_ : List (S54), y_ = (([] : List (S54))) := ⟨_, rfl⟩
     replace H : (some (y268, 2)) = some (r1, r2) := by first | (rw [hy268]; with_reducible exact H) | (have H2_ := (Option.bind_some _ _).symm.trans H; rw [hy268]; with_reducible exact H2_) | (have H2_ := (Option.bind_some _ _).symm.trans H; with_reducible exact H2_) | with_reducible exact H | (rw [hy268]; exact H) | exact H
     have Ny268 := zc.mk hy268
     clear hy268
     simp only [Option.some.injEq, Prod.mk.injEq] at H
     obtain ⟨rfl, rfl⟩ := H
     go_wp2_with (first | ((with_reducible refine zp (N := 33) rfl ?_); refine Kd.R_lit k54 _ 54 ?hg (N := 33) ?hd (xs := ([] : List (S54))) (inner := []) (ok := fun _ => True) (okp := fun _ => True) ?hr ?hp (fun _ hk => hk) trivial (Below.refl _ _) (Nat.le_refl _) (by simp) ?_; (case hd => rfl); (case hg => rfl); (case hr => first | (go_simp; done) | (go_simp; rfl)); (case hp => exact (Reps.none _ _)); intro v269 w17 ho18 hb hg_ hnew_; clear hg_ hnew_; (first | rw [← Ny268.out] at ho18 | (simp only [Int.reduceToNat] at ho18; rw [← Ny268.out] at ho18)); have n0_ := zc.mk (Kd.R_lower ho18 (zz (by repeat (first | (with_reducible first | exact HB.out | apply ze | apply zb | apply zd | refine zf ?_ GE261.out) | exact HB.out)))); have n1_ := zc.mk (zn (by (with_reducible repeat (first | refine zg ?_ _ | refine zi ?_ | refine zh ?_ _)); exact BK261.out) hb); have n2_ := zc.mk (zq (by repeat (first | (with_reducible first | exact HB.out | apply ze | apply zb | apply zd | refine zf ?_ GE261.out) | exact HB.out)) hb); clear BK261; clear HB; have HO270 := n0_; have BK261 := n1_; have HB := n2_; clear n0_ n1_ n2_; clear hb ho18))
     go_ret2
     exact ⟨_, by first | rfl | (simp [zj, zk] <;> rfl) | (simp [*, zj, zk] <;> rfl), by (with_reducible repeat (first | apply Kd.R_alloc | apply Kd.R_drewN | apply Kd.R_drew)); exact HO270.out, by repeat (first | (with_reducible first | exact HB.out | apply ze | apply zb | apply zd | refine zf ?_ GE261.out) | exact HB.out)⟩
    replace c16 := Bool.eq_false_iff.mpr c16
    subst c16
    have H1 : ((some (([] : List (S54)) : List (S54))).bind fun y271 => (if y271.length + l1.length < 5864062014805 then (spec_SwapInPlan.l0 kj6 l1 a2 a3 (y271 ++ l1) 0) else (none))) = some (r1, r2) := by rw [if_neg (show ¬ (false = true) by decide)] at H; exact H
    clear H
    have H := H1
    clear H1
    obtain ⟨y271, hy271⟩ : ∃ y_ : List (S54), y_ = (([] : List (S54))) := ⟨_, rfl⟩
    replace H : (if y271.length + l1.length < 5864062014805 then (spec_SwapInPlan.l0 kj6 l1 a2 a3 (y271 ++ l1) 0) else (none)) = some (r1, r2) := by first | (rw [hy271]; with_reducible exact H) | (have H2_ := (Option.bind_some _ _).symm.trans H; rw [hy271]; with_reducible exact H2_) | (have H2_ := (Option.bind_some _ _).symm.trans H; with_reducible exact H2_) | with_reducible exact H | (rw [hy271]; exact H) | exact H
    have Ny271 := zc.mk hy271
    clear hy271
    by_cases c19 : y271.length + l1.length < 5864062014805
    ·rw [if_pos c19] at H
     have LMc19 := zc.mk c19
     clear c19
     obtain ⟨y274, hy274⟩ : ∃ y_ : List (S54), y_ = (y271 ++ l1) := ⟨_, rfl⟩
     replace H : (spec_SwapInPlan.l0 kj6 l1 a2 a3 y274 0) = some (r1, r2) := by first | (rw [hy274]; with_reducible exact H) | (have H2_ := (Option.bind_some _ _).symm.trans H; rw [hy274]; with_reducible exact H2_) | (have H2_ := (Option.bind_some _ _).symm.trans H; with_reducible exact H2_) | with_reducible exact H | (rw [hy274]; exact H) | exact H
     have Ny274 := zc.mk hy274
     clear hy274
     have H' := zc.mk H
     clear H
     go_wp2_with (first | ((with_reducible refine zp (N := 34) rfl ?_); refine Kd.R_lit k54 _ 54 ?hg (N := 34) ?hd (xs := ([] : List (S54))) (inner := []) (ok := fun _ => True) (okp := fun _ => True) ?hr ?hp (fun _ hk => hk) trivial (Below.refl _ _) (Nat.le_refl _) (by simp) ?_; (case hd => rfl); (case hg => rfl); (case hr => first | (go_simp; done) | (go_simp; rfl)); (case hp => exact (Reps.none _ _)); intro v272 w20 ho21 hb hg_ hnew_; clear hg_ hnew_; (first | rw [← Ny271.out] at ho21 | (simp only [Int.reduceToNat] at ho21; rw [← Ny271.out] at ho21)); have n0_ := zc.mk (Kd.R_lower ho21 (zz (by repeat (first | (with_reducible first | exact HB.out | apply ze | apply zb | apply zd | refine zf ?_ GE261.out) | exact HB.out)))); have n1_ := zc.mk (zn (by (with_reducible repeat (first | refine zg ?_ _ | refine zi ?_ | refine zh ?_ _)); exact BK261.out) hb); have n2_ := zc.mk (zq (by repeat (first | (with_reducible first | exact HB.out | apply ze | apply zb | apply zd | refine zf ?_ GE261.out) | exact HB.out)) hb); clear BK261; clear HB; have HO273 := n0_; have BK261 := n1_; have HB := n2_; clear n0_ n1_ n2_; clear hb ho21) | ((with_reducible refine zua (b := .append) (xs := #[.tmp 34, .tmp 35]) rfl ?_); at_builtin; refine Kd.R_append_rows k54 (w0 := w) w.heap.size rfl (.tmp 34) (.tmp 35) 31 54 (.agg #[(.int .i8 0), (.int .i8 0), (.int .i8 0), (.int .i8 0), (.int .i8 0), (.int .i8 0), (.int .i8 0), (.int .i8 0), (.int .i8 0), (.int .i8 0), (.int .i8 0), (.int .i8 0), (.int .i8 0), (.int .i8 0), (.int .i16 0), (.int .i16 0), (.int .i16 0), (.int .i8 0), (.bool false), (.bool false)]) 24 rfl Try.underlying31 info54 rfl (by decide) (by omega) v272 y271 l1 _ _ _ (fun _ => True) (fun _ => False) rfl rfl ?aO ?aR (fun _ _ h => h) (fun _ h => h.elim) ?aF ?aB ?aS ?aL ?_; (case aR => repeat (first | exact (Kd.C_below HR1.out HB.out) | (with_reducible refine Kd.C_alloc ?_ _) | (with_reducible refine Kd.C_drewN ?_ _) | (with_reducible refine Kd.C_drew ?_))); (case aB => exact (by repeat (first | (with_reducible first | exact HB.out | apply ze | apply zb | apply zd | refine zf ?_ GE261.out) | exact HB.out))); (case aF => exact (fun _ _ => trivial)); (case aO => exact (by (with_reducible repeat (first | apply Kd.R_alloc | apply Kd.R_drewN | apply Kd.R_drew)); exact HO273.out)); (case aS => exact (zz (by repeat (first | (with_reducible first | exact HB.out | apply ze | apply zb | apply zd | refine zf ?_ GE261.out) | exact HB.out)))); (case aL => have := LMc19.out; omega); intro v275 w22 ho hb hg hat; rw [← Ny274.out] at ho; have n0_ := zc.mk (zkb (g := gb261) (o := .cells #[.int .i8 a0_0, .int .i8 a0_1, .bool a0_2, .bool a0_3] 29 (0, 0)) (by (with_reducible repeat (first | refine zg ?_ _ | refine zi ?_ | refine zh ?_ _)); exact BK261.out) hg (Kd.R_ne HO273.out BK261.out (by decide))); have n1_ := zc.mk (hb); have n2_ := zc.mk (ho); clear BK261; clear HB; clear HO273; have BK261 := n0_; have HB := n1_; have HO276 := n2_; clear n0_ n1_ n2_; clear ho hb hg hat))
     go_loopg [11] kj6 (fun kq v11 w' => ∃ (x10_2 : List (S54)) (x11_2 : Int), v11 = .int .i64 x11_2 ∧ zc (spec_SwapInPlan.l0 kq l1 a2 a3 x10_2 x11_2 = some (r1, r2)) ∧ zc (kq ≤ kj6) ∧ zc (Kd.R k54 54 w' w.heap.size (fun _ => True) v275 x10_2) ∧ zc (w'.heap[gb261]? = some (.cells #[.int .i8 a0_0, .int .i8 a0_1, .bool a0_2, .bool a0_3] 29 (0, 0))) ∧ zc (Below w.heap.size w w'))
     case atStart => exact ⟨(y274), (0), (by first | rfl | (simp; done) | (simp [*]; done)), H', ⟨Nat.le_refl _⟩, ⟨by (with_reducible repeat (first | apply Kd.R_alloc | apply Kd.R_drewN | apply Kd.R_drew)); exact HO276.out⟩, ⟨by (with_reducible repeat (first | refine zg ?_ _ | refine zi ?_ | refine zh ?_ _)); exact BK261.out⟩, ⟨by repeat (first | (with_reducible first | exact HB.out | apply ze | apply zb | apply zd | refine zf ?_ GE261.out) | exact HB.out)⟩⟩
     case round =>
      clear H'
      try clear c1
      try clear c2
      try clear p2
      try clear c3
      try clear c6
      try clear p6
      try clear c12
      try clear c16
      try clear c19
      try clear c22
      try clear y2_0 y2_1 y2_2 y2_3
      try clear y3_0 y3_1 y3_2 y3_3
      try clear y1_0 y1_1 y1_2 y1_3
      try clear z2_0 z2_1 z2_2 z2_3
      try clear z3_0 z3_1 z3_2 z3_3
      try clear z1_0 z1_1 z1_2 z1_3
      try clear p2
      try clear p6
      obtain ⟨x10_2, x11_2, rfl, HA, HK2, HO_10, BK261, HB⟩ := hrel
      cases gk with
      | zero => exact absurd HA.out (by simp [spec_SwapInPlan.l0])
      | succ k2 =>
       have H := HA.out
       clear HA
       simp only [spec_SwapInPlan.l0] at H
       by_cases c23 : x11_2 < (x10_2.length : Int)
       ·rw [if_pos c23] at H
        have c23b0 : decide (x11_2 < (x10_2.length : Int)) = true := decide_eq_true c23
        clear c23
        by_cases c24 : 0 ≤ x11_2
        ·rw [if_pos c24] at H
         have c24b0 : decide (0 ≤ x11_2) = true := decide_eq_true c24
         clear c24
         by_cases c25 : x11_2 < (l1.length : Int)
         ·rw [if_pos c25] at H
          have c25b0 : decide (x11_2 < (l1.length : Int)) = true := decide_eq_true c25
          clear c25
          by_cases c26 : 0 ≤ a3
          ·rw [if_pos c26] at H
           have c26b0 : decide (0 ≤ a3) = true := decide_eq_true c26
           clear c26
           by_cases c27 : a3 < 14
           ·rw [if_pos c27] at H
            have c27b0 : decide (a3 < 14) = true := decide_eq_true c27
            clear c27
            by_cases c29 : 0 ≤ a2
            ·rw [if_pos c29] at H
             have c29b0 : decide (0 ≤ a2) = true := decide_eq_true c29
             clear c29
             by_cases c30 : a2 < 14
             ·rw [if_pos c30] at H
              have c30b0 : decide (a2 < 14) = true := decide_eq_true c30
              clear c30
              obtain ⟨y280, hy280⟩ : ∃ y_ : List (S54), y_ = (x10_2.set (x11_2 : Int).toNat (stP (za x10_2 x11_2) a2 (rdP (za l1 x11_2) a3) : S54)) := ⟨_, rfl⟩
              replace H : ((some (y280.set (x11_2 : Int).toNat (stP (za y280 x11_2) a3 (rdP (za l1 x11_2) a2) : S54) : List (S54))).bind fun y284 => (if ((za y284 x11_2).f3 = true) then (if (wrap64 ((za l1 x11_2).f2.f0)) = a2 then (spec_SwapInPlan.l0 k2 l1 a2 a3 (y284.set (x11_2 : Int).toNat (⟨(⟨(za y284 x11_2).f0.f0, (za y284 x11_2).f0.f1, (za y284 x11_2).f0.f2, (za y284 x11_2).f0.f3, (za y284 x11_2).f0.f4, (za y284 x11_2).f0.f5, (za y284 x11_2).f0.f6, (za y284 x11_2).f0.f7, (za y284 x11_2).f0.f8, (za y284 x11_2).f0.f9, (za y284 x11_2).f0.f10, (za y284 x11_2).f0.f11, (za y284 x11_2).f0.f12, (za y284 x11_2).f0.f13⟩ : S50), (⟨(za y284 x11_2).f1.f0, (za y284 x11_2).f1.f1, (za y284 x11_2).f1.f2⟩ : S52), (⟨IntKind.i8.wrap (a3), (za y284 x11_2).f2.f1⟩ : S46), (za y284 x11_2).f3⟩ : S54)) (wrap64 (x11_2 + 1))) else (if (wrap64 ((za l1 x11_2).f2.f0)) = a3 then (spec_SwapInPlan.l0 k2 l1 a2 a3 (y284.set (x11_2 : Int).toNat (⟨(⟨(za y284 x11_2).f0.f0, (za y284 x11_2).f0.f1, (za y284 x11_2).f0.f2, (za y284 x11_2).f0.f3, (za y284 x11_2).f0.f4, (za y284 x11_2).f0.f5, (za y284 x11_2).f0.f6, (za y284 x11_2).f0.f7, (za y284 x11_2).f0.f8, (za y284 x11_2).f0.f9, (za y284 x11_2).f0.f10, (za y284 x11_2).f0.f11, (za y284 x11_2).f0.f12, (za y284 x11_2).f0.f13⟩ : S50), (⟨(za y284 x11_2).f1.f0, (za y284 x11_2).f1.f1, (za y284 x11_2).f1.f2⟩ : S52), (⟨IntKind.i8.wrap (a2), (za y284 x11_2).f2.f1⟩ : S46), (za y284 x11_2).f3⟩ : S54)) (wrap64 (x11_2 + 1))) else (spec_SwapInPlan.l0 k2 l1 a2 a3 y284 (wrap64 (x11_2 + 1))))) else (spec_SwapInPlan.l0 k2 l1 a2 a3 y284 (wrap64 (x11_2 + 1))))) = some (r1, r2) := by first | (rw [hy280]; with_reducible exact H) | (have H2_ := (Option.bind_some _ _).symm.trans H; rw [hy280]; with_reducible exact H2_) | (have H2_ := (Option.bind_some _ _).symm.trans H; with_reducible exact H2_) | with_reducible exact H | (rw [hy280]; exact H) | exact H
              have Ny280 := zc.mk hy280
              clear hy280
              obtain ⟨y284, hy284⟩ : ∃ y_ : List (S54), y_ = (y280.set (x11_2 : Int).toNat (stP (za y280 x11_2) a3 (rdP (za l1 x11_2) a2) : S54)) := ⟨_, rfl⟩
              replace H : (if ((za y284 x11_2).f3 = true) then (if (wrap64 ((za l1 x11_2).f2.f0)) = a2 then (spec_SwapInPlan.l0 k2 l1 a2 a3 (y284.set (x11_2 : Int).toNat (⟨(⟨(za y284 x11_2).f0.f0, (za y284 x11_2).f0.f1, (za y284 x11_2).f0.f2, (za y284 x11_2).f0.f3, (za y284 x11_2).f0.f4, (za y284 x11_2).f0.f5, (za y284 x11_2).f0.f6, (za y284 x11_2).f0.f7, (za y284 x11_2).f0.f8, (za y284 x11_2).f0.f9, (za y284 x11_2).f0.f10, (za y284 x11_2).f0.f11, (za y284 x11_2).f0.f12, (za y284 x11_2).f0.f13⟩ : S50), (⟨(za y284 x11_2).f1.f0, (za y284 x11_2).f1.f1, (za y284 x11_2).f1.f2⟩ : S52), (⟨IntKind.i8.wrap (a3), (za y284 x11_2).f2.f1⟩ : S46), (za y284 x11_2).f3⟩ : S54)) (wrap64 (x11_2 + 1))) else (if (wrap64 ((za l1 x11_2).f2.f0)) = a3 then (spec_SwapInPlan.l0 k2 l1 a2 a3 (y284.set (x11_2 : Int).toNat (⟨(⟨(za y284 x11_2).f0.f0, (za y284 x11_2).f0.f1, (za y284 x11_2).f0.f2, (za y284 x11_2).f0.f3, (za y284 x11_2).f0.f4, (za y284 x11_2).f0.f5, (za y284 x11_2).f0.f6, (za y284 x11_2).f0.f7, (za y284 x11_2).f0.f8, (za y284 x11_2).f0.f9, (za y284 x11_2).f0.f10, (za y284 x11_2).f0.f11, (za y284 x11_2).f0.f12, (za y284 x11_2).f0.f13⟩ : S50), (⟨(za y284 x11_2).f1.f0, (za y284 x11_2).f1.f1, (za y284 x11_2).f1.f2⟩ : S52), (⟨IntKind.i8.wrap (a2), (za y284 x11_2).f2.f1⟩ : S46), (za y284 x11_2).f3⟩ : S54)) (wrap64 (x11_2 + 1))) else (spec_SwapInPlan.l0 k2 l1 a2 a3 y284 (wrap64 (x11_2 + 1))))) else (spec_SwapInPlan.l0 k2 l1 a2 a3 y284 (wrap64 (x11_2 + 1)))) = some (r1, r2) := by first | (rw [hy284]; with_reducible exact H) | (have H2_ := (Option.bind_some _ _).symm.trans H; rw [hy284]; with_reducible exact H2_) | (have H2_ := (Option.bind_some _ _).symm.trans H; with_reducible exact H2_) | with_reducible exact H | (rw [hy284]; exact H) | exact H
              have Ny284 := zc.mk hy284
              clear hy284
              obtain ⟨bq32, hbq32⟩ : ∃ b_ : Bool, b_ = ((za y284 x11_2).f3) := ⟨_, rfl⟩
              replace H : (if (bq32 = true) then (if (wrap64 ((za l1 x11_2).f2.f0)) = a2 then (spec_SwapInPlan.l0 k2 l1 a2 a3 (y284.set (x11_2 : Int).toNat (⟨(⟨(za y284 x11_2).f0.f0, (za y284 x11_2).f0.f1, (za y284 x11_2).f0.f2, (za y284 x11_2).f0.f3, (za y284 x11_2).f0.f4, (za y284 x11_2).f0.f5, (za y284 x11_2).f0.f6, (za y284 x11_2).f0.f7, (za y284 x11_2).f0.f8, (za y284 x11_2).f0.f9, (za y284 x11_2).f0.f10, (za y284 x11_2).f0.f11, (za y284 x11_2).f0.f12, (za y284 x11_2).f0.f13⟩ : S50), (⟨(za y284 x11_2).f1.f0, (za y284 x11_2).f1.f1, (za y284 x11_2).f1.f2⟩ : S52), (⟨IntKind.i8.wrap (a3), (za y284 x11_2).f2.f1⟩ : S46), bq32⟩ : S54)) (wrap64 (x11_2 + 1))) else (if (wrap64 ((za l1 x11_2).f2.f0)) = a3 then (spec_SwapInPlan.l0 k2 l1 a2 a3 (y284.set (x11_2 : Int).toNat (⟨(⟨(za y284 x11_2).f0.f0, (za y284 x11_2).f0.f1, (za y284 x11_2).f0.f2, (za y284 x11_2).f0.f3, (za y284 x11_2).f0.f4, (za y284 x11_2).f0.f5, (za y284 x11_2).f0.f6, (za y284 x11_2).f0.f7, (za y284 x11_2).f0.f8, (za y284 x11_2).f0.f9, (za y284 x11_2).f0.f10, (za y284 x11_2).f0.f11, (za y284 x11_2).f0.f12, (za y284 x11_2).f0.f13⟩ : S50), (⟨(za y284 x11_2).f1.f0, (za y284 x11_2).f1.f1, (za y284 x11_2).f1.f2⟩ : S52), (⟨IntKind.i8.wrap (a2), (za y284 x11_2).f2.f1⟩ : S46), bq32⟩ : S54)) (wrap64 (x11_2 + 1))) else (spec_SwapInPlan.l0 k2 l1 a2 a3 y284 (wrap64 (x11_2 + 1))))) else (spec_SwapInPlan.l0 k2 l1 a2 a3 y284 (wrap64 (x11_2 + 1)))) = some (r1, r2) := by rw [← hbq32] at H; exact H
              have Nbq32 := zc.mk hbq32
              clear hbq32
              by_cases c33 : (bq32 = true)
              ·subst c33
               have H1 : (if (wrap64 ((za l1 x11_2).f2.f0)) = a2 then (spec_SwapInPlan.l0 k2 l1 a2 a3 (y284.set (x11_2 : Int).toNat (⟨(⟨(za y284 x11_2).f0.f0, (za y284 x11_2).f0.f1, (za y284 x11_2).f0.f2, (za y284 x11_2).f0.f3, (za y284 x11_2).f0.f4, (za y284 x11_2).f0.f5, (za y284 x11_2).f0.f6, (za y284 x11_2).f0.f7, (za y284 x11_2).f0.f8, (za y284 x11_2).f0.f9, (za y284 x11_2).f0.f10, (za y284 x11_2).f0.f11, (za y284 x11_2).f0.f12, (za y284 x11_2).f0.f13⟩ : S50), (⟨(za y284 x11_2).f1.f0, (za y284 x11_2).f1.f1, (za y284 x11_2).f1.f2⟩ : S52), (⟨IntKind.i8.wrap (a3), (za y284 x11_2).f2.f1⟩ : S46), true⟩ : S54)) (wrap64 (x11_2 + 1))) else (if (wrap64 ((za l1 x11_2).f2.f0)) = a3 then (spec_SwapInPlan.l0 k2 l1 a2 a3 (y284.set (x11_2 : Int).toNat (⟨(⟨(za y284 x11_2).f0.f0, (za y284 x11_2).f0.f1, (za y284 x11_2).f0.f2, (za y284 x11_2).f0.f3, (za y284 x11_2).f0.f4, (za y284 x11_2).f0.f5, (za y284 x11_2).f0.f6, (za y284 x11_2).f0.f7, (za y284 x11_2).f0.f8, (za y284 x11_2).f0.f9, (za y284 x11_2).f0.f10, (za y284 x11_2).f0.f11, (za y284 x11_2).f0.f12, (za y284 x11_2).f0.f13⟩ : S50), (⟨(za y284 x11_2).f1.f0, (za y284 x11_2).f1.f1, (za y284 x11_2).f1.f2⟩ : S52), (⟨IntKind.i8.wrap (a2), (za y284 x11_2).f2.f1⟩ : S46), true⟩ : S54)) (wrap64 (x11_2 + 1))) else (spec_SwapInPlan.l0 k2 l1 a2 a3 y284 (wrap64 (x11_2 + 1))))) = some (r1, r2) := by rw [if_pos rfl] at H; exact H
               clear H
               have H := H1
               clear H1
               by_cases c34 : (wrap64 ((za l1 x11_2).f2.f0)) = a2
               ·rw [if_pos c34] at H
                have c34b0 : ((wrap64 ((za l1 x11_2).f2.f0)) == a2) = true := beq_iff_eq.mpr c34
                have c34b1 : ((wrap64 ((za l1 x11_2).f2.f0)) != a2) = false := bne_eq_false_iff_eq.mpr c34
                (try (have c34b2 : ((IntKind.i64.wrap ((za l1 x11_2).f2.f0)) == a2) = true := by have h_ : ((wrap64 ((za l1 x11_2).f2.f0)) == a2) = true := beq_iff_eq.mpr c34; simpa only [zm, zl] using h_))
                (try (have c34b3 : ((IntKind.i64.wrap ((za l1 x11_2).f2.f0)) != a2) = false := by have h_ : ((wrap64 ((za l1 x11_2).f2.f0)) != a2) = false := bne_eq_false_iff_eq.mpr c34; simpa only [zm, zl] using h_))
                clear c34
                obtain ⟨y287, hy287⟩ : ∃ y_ : List (S54), y_ = (y284.set (x11_2 : Int).toNat (⟨(⟨(za y284 x11_2).f0.f0, (za y284 x11_2).f0.f1, (za y284 x11_2).f0.f2, (za y284 x11_2).f0.f3, (za y284 x11_2).f0.f4, (za y284 x11_2).f0.f5, (za y284 x11_2).f0.f6, (za y284 x11_2).f0.f7, (za y284 x11_2).f0.f8, (za y284 x11_2).f0.f9, (za y284 x11_2).f0.f10, (za y284 x11_2).f0.f11, (za y284 x11_2).f0.f12, (za y284 x11_2).f0.f13⟩ : S50), (⟨(za y284 x11_2).f1.f0, (za y284 x11_2).f1.f1, (za y284 x11_2).f1.f2⟩ : S52), (⟨IntKind.i8.wrap (a3), (za y284 x11_2).f2.f1⟩ : S46), true⟩ : S54)) := ⟨_, rfl⟩
                replace H : (spec_SwapInPlan.l0 k2 l1 a2 a3 y287 (wrap64 (x11_2 + 1))) = some (r1, r2) := by first | (rw [hy287]; with_reducible exact H) | (have H2_ := (Option.bind_some _ _).symm.trans H; rw [hy287]; with_reducible exact H2_) | (have H2_ := (Option.bind_some _ _).symm.trans H; with_reducible exact H2_) | with_reducible exact H | (rw [hy287]; exact H) | exact H
                have Ny287 := zc.mk hy287
                clear hy287
                have H' := zc.mk H
                clear H
                obtain ⟨Ao36, co36, eo36⟩ := Kd.R_slice HO_10.out
                subst eo36
                try go_wp2
                have n0_ := zc.mk (Kd.R_drew HO_10.out)
                have n1_ := zc.mk (zi BK261.out)
                have n2_ := zc.mk (zd HB.out)
                clear HO_10
                clear BK261
                clear HB
                have HO_10 := n0_
                have BK261 := n1_
                have HB := n2_
                clear n0_ n1_ n2_
                have p277 : 0 ≤ (x11_2 : Int) := od (by first | (with_reducible assumption) | assumption)
                have q277 : x11_2 < (l1.length : Int) := od (by first | (with_reducible assumption) | assumption)
                obtain ⟨ad277, e277, u1_0, u1_1, u1_2, u1_3, u1_4, u1_5, u1_6, u1_7, u1_8, u1_9, u1_10, u1_11, u1_12, u1_13, u1_14, u1_15, u1_16, u1_17, u1_18, u1_19, v1_0, v1_1, v1_2, v1_3, v1_4, v1_5, v1_6, v1_7, v1_8, v1_9, v1_10, v1_11, v1_12, v1_13, v1_14, v1_15, v1_16, v1_17, v1_18, v1_19⟩ := zcb HB.out HR1.out x11_2 p277 q277
                (try rw [← Nbq32.out] at u1_18)
                (try rw [← Nbq32.out] at u1_19)
                cases e277
                replace p277 := eq_true p277
                replace q277 := eq_true q277
                have v2_0 : w.cell? ((ad277.add ((x11_2).toNat * 20)).add (a3).toNat) = some (.int .i8 (rdP (za l1 x11_2) a3)) := by rcases (is14 (j := a3) (od (by first | (with_reducible assumption) | assumption)) (od (by first | (with_reducible assumption) | assumption))) with h_ | h_ | h_ | h_ | h_ | h_ | h_ | h_ | h_ | h_ | h_ | h_ | h_ | h_ <;> rw [h_] <;> first | exact v1_0 | exact v1_1 | exact v1_2 | exact v1_3 | exact v1_4 | exact v1_5 | exact v1_6 | exact v1_7 | exact v1_8 | exact v1_9 | exact v1_10 | exact v1_11 | exact v1_12 | exact v1_13
                have p38 : 0 ≤ (a3 : Int) := od (by first | (with_reducible assumption) | assumption)
                have q38 : a3 < (14 : Int) := od (by first | (with_reducible assumption) | assumption)
                replace p38 := eq_true p38
                replace q38 := eq_true q38
                have p28 : 0 ≤ (x11_2 : Int) := od (by first | (with_reducible assumption) | assumption)
                have q28 : (x11_2 : Int) < ((x10_2.length : Int) : Int) := od (by first | (with_reducible assumption) | assumption)
                obtain ⟨go28, co28, eo28, gb28, gl28, cl28, HG28⟩ := Kd.R_form HO_10.out (by omega)
                (first | cases eo28 | (injection eo28 with ea_ en_ ec_; (first | subst ea_ | (injection ea_ with ea_; subst ea_)); subst ec_; clear en_))
                have GB28 := zc.mk gb28
                have GG28 := zc.mk HG28
                clear gb28 gl28 HG28
                obtain ⟨ce28, hcl28, hM28, hcc28, hfr28⟩ := Kd.R_elem HO_10.out z54 (x11_2 : Int) p28 q28
                obtain rfl := zw hM28
                obtain ⟨u2_0, u2_1, u2_2, u2_3, u2_4, u2_5, u2_6, u2_7, u2_8, u2_9, u2_10, u2_11, u2_12, u2_13, u2_14, u2_15, u2_16, u2_17, u2_18, u2_19⟩ := rx20 (g := go28) (b := (x11_2 : Int).toNat * 20) hcc28
                obtain ⟨t1_0, t1_1, t1_2, t1_3, t1_4, t1_5, t1_6, t1_7, t1_8, t1_9, t1_10, t1_11, t1_12, t1_13, t1_14, t1_15, t1_16, t1_17, t1_18, t1_19⟩ := rf20 (g := go28) (b := (x11_2 : Int).toNat * 20) hfr28
                clear hcl28 hcc28 hfr28 hM28
                replace p28 := eq_true p28
                replace q28 := eq_true q28
                have u3_0 := ztb (a := fun z_ : Int => ⟨go28, (x11_2 : Int).toNat * 20 + z_.toNat, none⟩) (j := a2) (od (by first | (with_reducible assumption) | assumption)) (od (by first | (with_reducible assumption) | assumption)) u2_0 u2_1 u2_2 u2_3 u2_4 u2_5 u2_6 u2_7 u2_8 u2_9 u2_10 u2_11 u2_12 u2_13
                (try dsimp only at u3_0)
                have t2_0 := zhc (a := fun z_ : Int => ⟨go28, (x11_2 : Int).toNat * 20 + z_.toNat, none⟩) (j := a2) (od (by first | (with_reducible assumption) | assumption)) (od (by first | (with_reducible assumption) | assumption)) t1_0 t1_1 t1_2 t1_3 t1_4 t1_5 t1_6 t1_7 t1_8 t1_9 t1_10 t1_11 t1_12 t1_13
                (try dsimp only at t2_0)
                have p39 : 0 ≤ (a2 : Int) := od (by first | (with_reducible assumption) | assumption)
                have q39 : a2 < (14 : Int) := od (by first | (with_reducible assumption) | assumption)
                replace p39 := eq_true p39
                replace q39 := eq_true q39
                obtain ⟨ce40, hcl40, hM40, hcc40, hfr40⟩ := Kd.R_elem HO_10.out z54 (x11_2 : Int) (od (by first | (with_reducible assumption) | assumption)) (by have h_ : (x11_2 : Int) < ((x10_2.length : Int) : Int) := od (by first | (with_reducible assumption) | assumption); first | exact h_ | (have e_ := (Kd.R_reads' HO_10.out).1; omega) | simpa using h_)
                obtain rfl := zw hM40
                have HP40 := (Kd.R_seg HO_10.out (x11_2 : Int) (od (by first | (with_reducible assumption) | assumption)) (by have h_ : (x11_2 : Int) < ((x10_2.length : Int) : Int) := od (by first | (with_reducible assumption) | assumption); first | exact h_ | (have e_ := (Kd.R_reads' HO_10.out).1; omega) | simpa using h_) (seg := [.int .i8 (rdP (za l1 x11_2) a3)]) (j := (a2).toNat) hcl40 hcc40 (show (a2).toNat + 1 ≤ 20 from by have hp_ : 0 ≤ (a2 : Int) := od (by first | (with_reducible assumption) | assumption); have hq_ : a2 < (14 : Int) := od (by first | (with_reducible assumption) | assumption); omega) (x' := (stP (za x10_2 x11_2) a2 (rdP (za l1 x11_2) a3) : S54)) (by rcases (is14 (j := a2) (od (by first | (with_reducible assumption) | assumption)) (od (by first | (with_reducible assumption) | assumption))) with h_ | h_ | h_ | h_ | h_ | h_ | h_ | h_ | h_ | h_ | h_ | h_ | h_ | h_ <;> rw [h_] <;> first | exact zea _ _ _ _ | (have e_ := Nbq32.out; unfold za at e_; rw [← e_]; exact zea _ _ _ _)) (fun _ hk => hk)).1
                rw [← Ny280.out] at HP40
                have HQ40 := zc.mk HP40
                clear hcl40 hcc40 hfr40 hM40 HP40
                refine zjb (n := 14) (S := fun w' => EA w' (ad277.add ((x11_2).toNat * 20)) (za l1 x11_2) ((za l1 x11_2).f2.f1) ((za l1 x11_2).f3) (w'.cell? ((ad277.add ((x11_2).toNat * 20)).add (a3).toNat) = some (.int .i8 (rdP (za l1 x11_2) a3)))) (ds := [13]) (fm 14 0) (by kernel_rfl) rfl rfl ⟨(bc HB.out v1_0), (bc HB.out v1_1), (bc HB.out v1_2), (bc HB.out v1_3), (bc HB.out v1_4), (bc HB.out v1_5), (bc HB.out v1_6), (bc HB.out v1_7), (bc HB.out v1_8), (bc HB.out v1_9), (bc HB.out v1_10), (bc HB.out v1_11), (bc HB.out v1_12), (bc HB.out v1_13), (bc HB.out v1_14), (bc HB.out v1_15), (bc HB.out v1_16), (bc HB.out v1_17), (by first | exact (bc HB.out v1_18) | (have h_ := (bc HB.out v1_18); rw [← Nbq32.out] at h_; exact h_)), (by first | exact (bc HB.out v1_19) | (have h_ := (bc HB.out v1_19); rw [← Nbq32.out] at h_; exact h_)), (bc HB.out v2_0)⟩ (fun hHeld => ?_); refine zsa spec_SwapInPlan.tab9 spec_SwapInPlan.bits9 (fun HT_ HW_ => ?_)
                generalize wr.drew = w37 at HO_10 BK261 HB GG28 HQ40 t1_0 t1_1 t1_10 t1_11 t1_12 t1_13 t1_14 t1_15 t1_16 t1_17 t1_18 t1_19 t1_2 t1_3 t1_4 t1_5 t1_6 t1_7 t1_8 t1_9 t2_0 u1_0 u1_1 u1_10 u1_11 u1_12 u1_13 u1_14 u1_15 u1_16 u1_17 u1_18 u1_19 u1_2 u1_3 u1_4 u1_5 u1_6 u1_7 u1_8 u1_9 u2_0 u2_1 u2_10 u2_11 u2_12 u2_13 u2_14 u2_15 u2_16 u2_17 u2_18 u2_19 u2_2 u2_3 u2_4 u2_5 u2_6 u2_7 u2_8 u2_9 u3_0 hHeld ⊢
                refine pb 0 43 (fm 14 1) rfl rfl HT_.out (by kernel_rfl) pq (by rfl) (by intro w'; go_simp; with_reducible rfl) (by simp only [Act.put, ea, eb, ec, zm, zl]; rfl) ?_
                refine pb 1 44 (fm 14 2) rfl rfl HT_.out (by kernel_rfl) pq (by rfl) (by intro w'; go_simp; with_reducible rfl) (by simp only [Act.put, ea, eb, ec, zm, zl]; rfl) ?_
                refine pb 2 45 (fm 14 3) rfl rfl HT_.out (by kernel_rfl) pq (by rfl) (by intro w'; go_simp; with_reducible rfl) (by simp only [Act.put, ea, eb, ec, zm, zl]; rfl) ?_
                refine pb 3 46 (fm 14 4) rfl rfl HT_.out (by kernel_rfl) pq (by rfl) (by intro w'; go_simp; with_reducible rfl) (by simp only [Act.put, ea, eb, ec, zm, zl]; rfl) ?_
                refine pb 4 47 (fm 14 5) rfl rfl HT_.out (by kernel_rfl) pq (by rfl) (by intro w'; go_simp; with_reducible rfl) (by simp only [Act.put, ea, eb, ec, zm, zl]; rfl) ?_
                refine pb 5 48 (fm 14 6) rfl rfl HT_.out (by kernel_rfl) pq (by rfl) (by intro w'; go_simp; with_reducible rfl) (by simp only [Act.put, ea, eb, ec, zm, zl]; rfl) ?_
                refine pb 6 49 (fm 14 7) rfl rfl HT_.out (by kernel_rfl) pq (by rfl) (by intro w'; go_simp; with_reducible rfl) (by simp only [Act.put, ea, eb, ec, zm, zl]; rfl) ?_
                refine pb 7 50 (fm 14 8) rfl rfl HT_.out (by kernel_rfl) pq (by rfl) (by intro w'; go_simp; with_reducible rfl) (by simp only [Act.put, ea, eb, ec, zm, zl]; rfl) ?_
                refine pb 8 51 (fm 14 9) rfl rfl HT_.out (by kernel_rfl) pq (by rfl) (by intro w'; go_simp; with_reducible rfl) (by simp only [Act.put, ea, eb, ec, zm, zl]; rfl) ?_
                refine pb 10 53 #[T, T, T, T, T, T, T, T, T, F, T, F, F, F] rfl rfl HT_.out (by kernel_rfl) pq (by rfl) (by intro w'; go_simp; with_reducible rfl) (by simp only [Act.put, ea, eb, ec, zm, zl]; rfl) ?_
                refine pb 11 54 #[T, T, T, T, T, T, T, T, T, F, T, T, F, F] rfl rfl HT_.out (by kernel_rfl) pq (by rfl) (by intro w'; go_simp; with_reducible rfl) (by simp only [Act.put, ea, eb, ec, zm, zl]; rfl) ?_
                refine take_ (i := 9) (N := some 52) (v := ?_) (a' := ?_) (fm 14 12) rfl rfl (zca HT_.out HW_.out (by kernel_rfl)) (fun _ _ _ h => h) (Or.inl ⟨by rfl, ?_⟩) hHeld ?_ ?_
                rotate_left
                ·rintro w' ⟨s0, s1, s2, s3, s4, s5, s6, s7, s8, s9, s10, s11, s12, s13, s14, s15, s16, s17, s18, s19, s20⟩
                 go_simp
                 with_reducible rfl
                rotate_left
                ·simp only [Act.put, List.setIfInBounds_toArray, List.set_cons_zero, List.set_cons_succ, zm, zl]
                 rfl
                refine pb 12 55 (fm 14 13) rfl rfl HT_.out (by kernel_rfl) pq (by rfl) (by intro w'; go_simp; with_reducible rfl) (by simp only [Act.put, ea, eb, ec, zm, zl]; rfl) ?_
                refine zjc (i := 13) (N := none) (fm 14 14) rfl rfl (zhb HT_.out (by kernel_rfl)) (by decide) (fun K hK => ?_)
                refine zic (w1 := ?_) (by rfl) rfl ?_ ?_
                rotate_left
                ·go_simp
                 rfl
                refine hK.out _ _ ?_
                clear hK K
                refine zac (zab HT_.out (by kernel_rfl)) ?_
                try go_wp2
                have n0_ : zc (Kd.R k54 54 (w37.setCell ⟨go28, (x11_2 : Int).toNat * 20 + (a2).toNat, none⟩ (.int .i8 (rdP (za l1 x11_2) a3))) w.heap.size (fun _ => True) (.slice (some ⟨go28, 0, none⟩) x10_2.length co36) y280) := ⟨by (with_reducible repeat (first | apply Kd.R_alloc | apply Kd.R_drewN | apply Kd.R_drew)); exact HQ40.out⟩
                have n1_ : zc ((w37.setCell ⟨go28, (x11_2 : Int).toNat * 20 + (a2).toNat, none⟩ (.int .i8 (rdP (za l1 x11_2) a3))).heap[gb261]? = some (.cells #[.int .i8 a0_0, .int .i8 a0_1, .bool a0_2, .bool a0_3] 29 (0, 0))) := ⟨by (with_reducible repeat (first | refine zg ?_ _ | refine zi ?_ | refine zh ?_ _)); refine zma ?_ (by have h_ := Kd.R_ne HO_10.out BK261.out (by decide); intro e_; exact h_ (by rw [e_]; rfl)) _; (with_reducible repeat (first | refine zg ?_ _ | refine zi ?_ | refine zh ?_ _)); exact BK261.out⟩
                have n2_ : zc (Below w.heap.size w (w37.setCell ⟨go28, (x11_2 : Int).toNat * 20 + (a2).toNat, none⟩ (.int .i8 (rdP (za l1 x11_2) a3)))) := ⟨by repeat (first | (with_reducible first | exact HB.out | apply ze | apply zb | apply zd | refine zf ?_ GB28.out | refine zf ?_ GE261.out) | exact HB.out)⟩
                (try clear HO_10)
                (try clear BK261)
                (try clear HB)
                generalize (w37.setCell ⟨go28, (x11_2 : Int).toNat * 20 + (a2).toNat, none⟩ (.int .i8 (rdP (za l1 x11_2) a3))) = w41 at n0_ n1_ n2_ ⊢
                have HO_10 := n0_
                have BK261 := n1_
                have HB := n2_
                clear n0_ n1_ n2_
                have n0_ := zc.mk (Kd.R_drew HO_10.out)
                have n1_ := zc.mk (zi BK261.out)
                have n2_ := zc.mk (zd HB.out)
                clear HO_10
                clear BK261
                clear HB
                have HO_10 := n0_
                have BK261 := n1_
                have HB := n2_
                clear n0_ n1_ n2_
                have p281 : 0 ≤ (x11_2 : Int) := od (by first | (with_reducible assumption) | assumption)
                have q281 : x11_2 < (l1.length : Int) := od (by first | (with_reducible assumption) | assumption)
                obtain ⟨ad281, e281, u4_0, u4_1, u4_2, u4_3, u4_4, u4_5, u4_6, u4_7, u4_8, u4_9, u4_10, u4_11, u4_12, u4_13, u4_14, u4_15, u4_16, u4_17, u4_18, u4_19, v3_0, v3_1, v3_2, v3_3, v3_4, v3_5, v3_6, v3_7, v3_8, v3_9, v3_10, v3_11, v3_12, v3_13, v3_14, v3_15, v3_16, v3_17, v3_18, v3_19⟩ := zcb HB.out HR1.out x11_2 p281 q281
                (try rw [← Nbq32.out] at u4_18)
                (try rw [← Nbq32.out] at u4_19)
                obtain rfl : ad277 = ad281 := (by injection e281)
                replace p281 := eq_true p281
                replace q281 := eq_true q281
                have v4_0 : w.cell? ((ad277.add ((x11_2).toNat * 20)).add (a2).toNat) = some (.int .i8 (rdP (za l1 x11_2) a2)) := by rcases (is14 (j := a2) (od (by first | (with_reducible assumption) | assumption)) (od (by first | (with_reducible assumption) | assumption))) with h_ | h_ | h_ | h_ | h_ | h_ | h_ | h_ | h_ | h_ | h_ | h_ | h_ | h_ <;> rw [h_] <;> first | exact v3_0 | exact v3_1 | exact v3_2 | exact v3_3 | exact v3_4 | exact v3_5 | exact v3_6 | exact v3_7 | exact v3_8 | exact v3_9 | exact v3_10 | exact v3_11 | exact v3_12 | exact v3_13
                have p43 : 0 ≤ (a2 : Int) := od (by first | (with_reducible assumption) | assumption)
                have q43 : a2 < (14 : Int) := od (by first | (with_reducible assumption) | assumption)
                replace p43 := eq_true p43
                replace q43 := eq_true q43
                have p31 : 0 ≤ (x11_2 : Int) := od (by first | (with_reducible assumption) | assumption)
                have q31 : (x11_2 : Int) < ((x10_2.length : Int) : Int) := od (by first | (with_reducible assumption) | assumption)
                obtain ⟨ce31, hcl31, hM31, hcc31, hfr31⟩ := Kd.R_elem HO_10.out z54 (x11_2 : Int) p31 q31
                obtain rfl := zw hM31
                obtain ⟨u5_0, u5_1, u5_2, u5_3, u5_4, u5_5, u5_6, u5_7, u5_8, u5_9, u5_10, u5_11, u5_12, u5_13, u5_14, u5_15, u5_16, u5_17, u5_18, u5_19⟩ := rx20 (g := go28) (b := (x11_2 : Int).toNat * 20) hcc31
                obtain ⟨t3_0, t3_1, t3_2, t3_3, t3_4, t3_5, t3_6, t3_7, t3_8, t3_9, t3_10, t3_11, t3_12, t3_13, t3_14, t3_15, t3_16, t3_17, t3_18, t3_19⟩ := rf20 (g := go28) (b := (x11_2 : Int).toNat * 20) hfr31
                clear hcl31 hcc31 hfr31 hM31
                replace p31 := eq_true p31
                replace q31 := eq_true q31
                have u6_0 := ztb (a := fun z_ : Int => ⟨go28, (x11_2 : Int).toNat * 20 + z_.toNat, none⟩) (j := a3) (od (by first | (with_reducible assumption) | assumption)) (od (by first | (with_reducible assumption) | assumption)) u5_0 u5_1 u5_2 u5_3 u5_4 u5_5 u5_6 u5_7 u5_8 u5_9 u5_10 u5_11 u5_12 u5_13
                (try dsimp only at u6_0)
                have t4_0 := zhc (a := fun z_ : Int => ⟨go28, (x11_2 : Int).toNat * 20 + z_.toNat, none⟩) (j := a3) (od (by first | (with_reducible assumption) | assumption)) (od (by first | (with_reducible assumption) | assumption)) t3_0 t3_1 t3_2 t3_3 t3_4 t3_5 t3_6 t3_7 t3_8 t3_9 t3_10 t3_11 t3_12 t3_13
                (try dsimp only at t4_0)
                have p44 : 0 ≤ (a3 : Int) := od (by first | (with_reducible assumption) | assumption)
                have q44 : a3 < (14 : Int) := od (by first | (with_reducible assumption) | assumption)
                replace p44 := eq_true p44
                replace q44 := eq_true q44
                obtain ⟨ce45, hcl45, hM45, hcc45, hfr45⟩ := Kd.R_elem HO_10.out z54 (x11_2 : Int) (od (by first | (with_reducible assumption) | assumption)) (by have h_ : (x11_2 : Int) < ((x10_2.length : Int) : Int) := od (by first | (with_reducible assumption) | assumption); first | exact h_ | (have e_ := (Kd.R_reads' HO_10.out).1; omega) | simpa using h_)
                obtain rfl := zw hM45
                have HP45 := (Kd.R_seg HO_10.out (x11_2 : Int) (od (by first | (with_reducible assumption) | assumption)) (by have h_ : (x11_2 : Int) < ((x10_2.length : Int) : Int) := od (by first | (with_reducible assumption) | assumption); first | exact h_ | (have e_ := (Kd.R_reads' HO_10.out).1; omega) | simpa using h_) (seg := [.int .i8 (rdP (za l1 x11_2) a2)]) (j := (a3).toNat) hcl45 hcc45 (show (a3).toNat + 1 ≤ 20 from by have hp_ : 0 ≤ (a3 : Int) := od (by first | (with_reducible assumption) | assumption); have hq_ : a3 < (14 : Int) := od (by first | (with_reducible assumption) | assumption); omega) (x' := (stP (za y280 x11_2) a3 (rdP (za l1 x11_2) a2) : S54)) (by rcases (is14 (j := a3) (od (by first | (with_reducible assumption) | assumption)) (od (by first | (with_reducible assumption) | assumption))) with h_ | h_ | h_ | h_ | h_ | h_ | h_ | h_ | h_ | h_ | h_ | h_ | h_ | h_ <;> rw [h_] <;> first | exact zea _ _ _ _ | (have e_ := Nbq32.out; unfold za at e_; rw [← e_]; exact zea _ _ _ _)) (fun _ hk => hk)).1
                rw [← Ny284.out] at HP45
                have HQ45 := zc.mk HP45
                clear hcl45 hcc45 hfr45 hM45 HP45
                refine zjb (n := 14) (S := fun w' => EA w' (ad277.add ((x11_2).toNat * 20)) (za l1 x11_2) ((za l1 x11_2).f2.f1) ((za l1 x11_2).f3) (w'.cell? ((ad277.add ((x11_2).toNat * 20)).add (a2).toNat) = some (.int .i8 (rdP (za l1 x11_2) a2)))) (ds := [13]) (fm 14 0) (by kernel_rfl) rfl rfl ⟨(bc HB.out v3_0), (bc HB.out v3_1), (bc HB.out v3_2), (bc HB.out v3_3), (bc HB.out v3_4), (bc HB.out v3_5), (bc HB.out v3_6), (bc HB.out v3_7), (bc HB.out v3_8), (bc HB.out v3_9), (bc HB.out v3_10), (bc HB.out v3_11), (bc HB.out v3_12), (bc HB.out v3_13), (bc HB.out v3_14), (bc HB.out v3_15), (bc HB.out v3_16), (bc HB.out v3_17), (by first | exact (bc HB.out v3_18) | (have h_ := (bc HB.out v3_18); rw [← Nbq32.out] at h_; exact h_)), (by first | exact (bc HB.out v3_19) | (have h_ := (bc HB.out v3_19); rw [← Nbq32.out] at h_; exact h_)), (bc HB.out v4_0)⟩ (fun hHeld => ?_); refine zsa spec_SwapInPlan.tab10 spec_SwapInPlan.bits10 (fun HT_ HW_ => ?_)
                generalize w41.drew = w42 at HO_10 BK261 HB HQ40 HQ45 t3_0 t3_1 t3_10 t3_11 t3_12 t3_13 t3_14 t3_15 t3_16 t3_17 t3_18 t3_19 t3_2 t3_3 t3_4 t3_5 t3_6 t3_7 t3_8 t3_9 t4_0 u4_0 u4_1 u4_10 u4_11 u4_12 u4_13 u4_14 u4_15 u4_16 u4_17 u4_18 u4_19 u4_2 u4_3 u4_4 u4_5 u4_6 u4_7 u4_8 u4_9 u5_0 u5_1 u5_10 u5_11 u5_12 u5_13 u5_14 u5_15 u5_16 u5_17 u5_18 u5_19 u5_2 u5_3 u5_4 u5_5 u5_6 u5_7 u5_8 u5_9 u6_0 hHeld ⊢
                refine pb 0 56 (fm 14 1) rfl rfl HT_.out (by kernel_rfl) pq (by rfl) (by intro w'; go_simp; with_reducible rfl) (by simp only [Act.put, ea, eb, ec, zm, zl]; rfl) ?_
                refine pb 1 57 (fm 14 2) rfl rfl HT_.out (by kernel_rfl) pq (by rfl) (by intro w'; go_simp; with_reducible rfl) (by simp only [Act.put, ea, eb, ec, zm, zl]; rfl) ?_
                refine pb 2 58 (fm 14 3) rfl rfl HT_.out (by kernel_rfl) pq (by rfl) (by intro w'; go_simp; with_reducible rfl) (by simp only [Act.put, ea, eb, ec, zm, zl]; rfl) ?_
                refine pb 3 59 (fm 14 4) rfl rfl HT_.out (by kernel_rfl) pq (by rfl) (by intro w'; go_simp; with_reducible rfl) (by simp only [Act.put, ea, eb, ec, zm, zl]; rfl) ?_
                refine pb 4 60 (fm 14 5) rfl rfl HT_.out (by kernel_rfl) pq (by rfl) (by intro w'; go_simp; with_reducible rfl) (by simp only [Act.put, ea, eb, ec, zm, zl]; rfl) ?_
                refine pb 5 61 (fm 14 6) rfl rfl HT_.out (by kernel_rfl) pq (by rfl) (by intro w'; go_simp; with_reducible rfl) (by simp only [Act.put, ea, eb, ec, zm, zl]; rfl) ?_
                refine pb 6 62 (fm 14 7) rfl rfl HT_.out (by kernel_rfl) pq (by rfl) (by intro w'; go_simp; with_reducible rfl) (by simp only [Act.put, ea, eb, ec, zm, zl]; rfl) ?_
                refine pb 7 63 (fm 14 8) rfl rfl HT_.out (by kernel_rfl) pq (by rfl) (by intro w'; go_simp; with_reducible rfl) (by simp only [Act.put, ea, eb, ec, zm, zl]; rfl) ?_
                refine pb 8 64 (fm 14 9) rfl rfl HT_.out (by kernel_rfl) pq (by rfl) (by intro w'; go_simp; with_reducible rfl) (by simp only [Act.put, ea, eb, ec, zm, zl]; rfl) ?_
                refine pb 10 66 #[T, T, T, T, T, T, T, T, T, F, T, F, F, F] rfl rfl HT_.out (by kernel_rfl) pq (by rfl) (by intro w'; go_simp; with_reducible rfl) (by simp only [Act.put, ea, eb, ec, zm, zl]; rfl) ?_
                refine pb 11 67 #[T, T, T, T, T, T, T, T, T, F, T, T, F, F] rfl rfl HT_.out (by kernel_rfl) pq (by rfl) (by intro w'; go_simp; with_reducible rfl) (by simp only [Act.put, ea, eb, ec, zm, zl]; rfl) ?_
                refine take_ (i := 9) (N := some 65) (v := ?_) (a' := ?_) (fm 14 12) rfl rfl (zca HT_.out HW_.out (by kernel_rfl)) (fun _ _ _ h => h) (Or.inl ⟨by rfl, ?_⟩) hHeld ?_ ?_
                rotate_left
                ·rintro w' ⟨s0, s1, s2, s3, s4, s5, s6, s7, s8, s9, s10, s11, s12, s13, s14, s15, s16, s17, s18, s19, s20⟩
                 go_simp
                 with_reducible rfl
                rotate_left
                ·simp only [Act.put, List.setIfInBounds_toArray, List.set_cons_zero, List.set_cons_succ, zm, zl]
                 rfl
                refine pb 12 68 (fm 14 13) rfl rfl HT_.out (by kernel_rfl) pq (by rfl) (by intro w'; go_simp; with_reducible rfl) (by simp only [Act.put, ea, eb, ec, zm, zl]; rfl) ?_
                refine zjc (i := 13) (N := none) (fm 14 14) rfl rfl (zhb HT_.out (by kernel_rfl)) (by decide) (fun K hK => ?_)
                refine zic (w1 := ?_) (by rfl) rfl ?_ ?_
                rotate_left
                ·go_simp
                 rfl
                refine hK.out _ _ ?_
                clear hK K
                refine zac (zab HT_.out (by kernel_rfl)) ?_
                have n0_ : zc (Kd.R k54 54 (w42.setCell ⟨go28, (x11_2 : Int).toNat * 20 + (a3).toNat, none⟩ (.int .i8 (rdP (za l1 x11_2) a2))) w.heap.size (fun _ => True) (.slice (some ⟨go28, 0, none⟩) x10_2.length co36) y284) := ⟨by (with_reducible repeat (first | apply Kd.R_alloc | apply Kd.R_drewN | apply Kd.R_drew)); exact HQ45.out⟩
                have n1_ : zc ((w42.setCell ⟨go28, (x11_2 : Int).toNat * 20 + (a3).toNat, none⟩ (.int .i8 (rdP (za l1 x11_2) a2))).heap[gb261]? = some (.cells #[.int .i8 a0_0, .int .i8 a0_1, .bool a0_2, .bool a0_3] 29 (0, 0))) := ⟨by (with_reducible repeat (first | refine zg ?_ _ | refine zi ?_ | refine zh ?_ _)); refine zma ?_ (by have h_ := Kd.R_ne HO_10.out BK261.out (by decide); intro e_; exact h_ (by rw [e_]; rfl)) _; (with_reducible repeat (first | refine zg ?_ _ | refine zi ?_ | refine zh ?_ _)); exact BK261.out⟩
                have n2_ : zc (Below w.heap.size w (w42.setCell ⟨go28, (x11_2 : Int).toNat * 20 + (a3).toNat, none⟩ (.int .i8 (rdP (za l1 x11_2) a2)))) := ⟨by repeat (first | (with_reducible first | exact HB.out | apply ze | apply zb | apply zd | refine zf ?_ GB28.out | refine zf ?_ GE261.out) | exact HB.out)⟩
                (try clear HO_10)
                (try clear BK261)
                (try clear HB)
                generalize (w42.setCell ⟨go28, (x11_2 : Int).toNat * 20 + (a3).toNat, none⟩ (.int .i8 (rdP (za l1 x11_2) a2))) = w46 at n0_ n1_ n2_ ⊢
                have HO_10 := n0_
                have BK261 := n1_
                have HB := n2_
                clear n0_ n1_ n2_
                have p285 : 0 ≤ (x11_2 : Int) := od (by first | (with_reducible assumption) | assumption)
                have q285 : x11_2 < (y284.length : Int) := (by have h_ : (x11_2 : Int) < ((x10_2.length : Int) : Int) := od (by first | (with_reducible assumption) | assumption); first | (have e_ := (Kd.R_reads' HO_10.out).1; omega) | simpa only [Ny280.out, Ny284.out, List.length_set] using h_)
                have ql285 : ((x11_2 : Int) < ((x10_2.length : Int) : Int)) = True := eq_true (od (by first | (with_reducible assumption) | assumption))
                obtain ⟨ad285, e285, u7_0, u7_1, u7_2, u7_3, u7_4, u7_5, u7_6, u7_7, u7_8, u7_9, u7_10, u7_11, u7_12, u7_13, u7_14, u7_15, u7_16, u7_17, u7_18, u7_19⟩ := zta (Kd.R_reads' HO_10.out).2.2 x11_2 p285 q285
                (try rw [← Nbq32.out] at u7_18)
                (try rw [← Nbq32.out] at u7_19)
                obtain rfl : (⟨go28, 0, none⟩ : Addr) = ad285 := (by injection e285)
                (first | simp only [zha] at u7_0 u7_1 u7_2 u7_3 u7_4 u7_5 u7_6 u7_7 u7_8 u7_9 u7_10 u7_11 u7_12 u7_13 u7_14 u7_15 u7_16 u7_17 u7_18 u7_19 | simp only [zrb] at u7_0 u7_1 u7_2 u7_3 u7_4 u7_5 u7_6 u7_7 u7_8 u7_9 u7_10 u7_11 u7_12 u7_13 u7_14 u7_15 u7_16 u7_17 u7_18 u7_19 | simp only [Addr.add, Nat.zero_add] at u7_0 u7_1 u7_2 u7_3 u7_4 u7_5 u7_6 u7_7 u7_8 u7_9 u7_10 u7_11 u7_12 u7_13 u7_14 u7_15 u7_16 u7_17 u7_18 u7_19 | skip)
                replace p285 := eq_true p285
                replace q285 := eq_true q285
                have p286 : 0 ≤ (x11_2 : Int) := od (by first | (with_reducible assumption) | assumption)
                have q286 : x11_2 < (l1.length : Int) := od (by first | (with_reducible assumption) | assumption)
                obtain ⟨ad286, e286, u8_0, u8_1, u8_2, u8_3, u8_4, u8_5, u8_6, u8_7, u8_8, u8_9, u8_10, u8_11, u8_12, u8_13, u8_14, u8_15, u8_16, u8_17, u8_18, u8_19⟩ := zsb HB.out HR1.out x11_2 p286 q286
                (try rw [← Nbq32.out] at u8_18)
                (try rw [← Nbq32.out] at u8_19)
                obtain rfl : ad277 = ad286 := (by injection e286)
                replace p286 := eq_true p286
                replace q286 := eq_true q286
                have p35 : 0 ≤ (x11_2 : Int) := od (by first | (with_reducible assumption) | assumption)
                have q35 : (x11_2 : Int) < ((x10_2.length : Int) : Int) := od (by first | (with_reducible assumption) | assumption)
                obtain ⟨ce35, hcl35, hM35, hcc35, hfr35⟩ := Kd.R_elem HO_10.out z54 (x11_2 : Int) p35 q35
                obtain rfl := zw hM35
                obtain ⟨u9_0, u9_1, u9_2, u9_3, u9_4, u9_5, u9_6, u9_7, u9_8, u9_9, u9_10, u9_11, u9_12, u9_13, u9_14, u9_15, u9_16, u9_17, u9_18, u9_19⟩ := rx20 (g := go28) (b := (x11_2 : Int).toNat * 20) hcc35
                obtain ⟨t5_0, t5_1, t5_2, t5_3, t5_4, t5_5, t5_6, t5_7, t5_8, t5_9, t5_10, t5_11, t5_12, t5_13, t5_14, t5_15, t5_16, t5_17, t5_18, t5_19⟩ := rf20 (g := go28) (b := (x11_2 : Int).toNat * 20) hfr35
                clear hcl35 hcc35 hfr35 hM35
                replace p35 := eq_true p35
                replace q35 := eq_true q35
                have HX47 := zc.mk (show Kd.R k54 54 w46 w.heap.size (fun _ => True) (.slice (some ⟨go28, 0, none⟩) x10_2.length co36) y284 from (by (with_reducible repeat (first | apply Kd.R_alloc | apply Kd.R_drewN | apply Kd.R_drew)); exact HO_10.out))
                obtain ⟨ce47, hcl47, hM47, hcc47, hfr47⟩ := Kd.R_elem HX47.out z54 (x11_2 : Int) (od (by first | (with_reducible assumption) | assumption)) (by have h_ : (x11_2 : Int) < ((x10_2.length : Int) : Int) := od (by first | (with_reducible assumption) | assumption); first | exact h_ | (have e_ := (Kd.R_reads' HO_10.out).1; omega) | simpa using h_)
                obtain rfl := zw hM47
                have HP47 := Kd.R_seg HX47.out (x11_2 : Int) (od (by first | (with_reducible assumption) | assumption)) (by have h_ : (x11_2 : Int) < ((x10_2.length : Int) : Int) := od (by first | (with_reducible assumption) | assumption); first | exact h_ | (have e_ := (Kd.R_reads' HO_10.out).1; omega) | simpa using h_) (seg := [.int .i8 (IntKind.i8.wrap (a3))]) (j := 17) hcl47 hcc47 (show 18 ≤ 20 from by decide) (x' := (⟨(⟨(za y284 x11_2).f0.f0, (za y284 x11_2).f0.f1, (za y284 x11_2).f0.f2, (za y284 x11_2).f0.f3, (za y284 x11_2).f0.f4, (za y284 x11_2).f0.f5, (za y284 x11_2).f0.f6, (za y284 x11_2).f0.f7, (za y284 x11_2).f0.f8, (za y284 x11_2).f0.f9, (za y284 x11_2).f0.f10, (za y284 x11_2).f0.f11, (za y284 x11_2).f0.f12, (za y284 x11_2).f0.f13⟩ : S50), (⟨(za y284 x11_2).f1.f0, (za y284 x11_2).f1.f1, (za y284 x11_2).f1.f2⟩ : S52), (⟨IntKind.i8.wrap (a3), (za y284 x11_2).f2.f1⟩ : S46), true⟩ : S54)) (by first | exact zea _ _ _ _ | (have e_ := Nbq32.out; unfold za at e_; rw [← e_]; exact zea _ _ _ _)) (fun _ hk => hk)
                have u10_17 := hcc47 17 _ rfl
                (try simp only [show (k54).sz = 20 from rfl, Nat.mul_one, Nat.add_zero] at u10_17)
                have t6_17 := hfr47 17
                (try simp only [show (k54).sz = 20 from rfl, Nat.mul_one, Nat.add_zero] at t6_17)
                clear hcl47 hcc47 hfr47 hM47
                try go_wp2_with (first | ((with_reducible refine zda (t := 22) (p := 91) rfl ?_); refine zxa (t := 22) (p := 91) (v := ?vo_w48) (w1 := (w46.setCell ⟨go28, (x11_2 : Int).toNat * 20 + 17, none⟩ (.int .i8 (IntKind.i8.wrap (a3))))) ?hg ?ho ?hn ?hr ?_; (case ho => rfl); (case hg => rfl); (case hn => rfl); (case hr => first | (go_simp; done) | (go_simp; rfl)); intro w48 hw; have hg : w46.grownBy w48 (some go28) := (by rw [hw]; exact HP47.2); have hp_ : Kd.R k54 54 w48 w.heap.size (fun _ => True) (.slice (some ⟨go28, 0, none⟩) x10_2.length co36) y287 := (by rw [hw, Ny287.out]; exact HP47.1); clear HP47; have n0_ := zc.mk (hp_); have n1_ := zc.mk (zkb (g := gb261) (o := .cells #[.int .i8 a0_0, .int .i8 a0_1, .bool a0_2, .bool a0_3] 29 (0, 0)) (by (with_reducible repeat (first | refine zg ?_ _ | refine zi ?_ | refine zh ?_ _)); exact BK261.out) hg (Kd.R_ne HO_10.out BK261.out (by decide))); have n2_ := zc.mk ((by rw [hw]; exact zf (HB.out) GB28.out : Below w.heap.size w w48)); clear HO_10; clear BK261; clear HB; have HO_10 := n0_; have BK261 := n1_; have HB := n2_; clear n0_ n1_ n2_; clear hg hw hp_))
                go_roundg k2
                case measure => have := HJ6.out; have := HK2.out; omega
                case rel => exact ⟨(y287), (wrap64 (x11_2 + 1)), (by first | rfl | (simp; done) | (simp [*]; done)), H', ⟨by have := HJ6.out; have := HK2.out; omega⟩, ⟨by (with_reducible repeat (first | apply Kd.R_alloc | apply Kd.R_drewN | apply Kd.R_drew)); exact HO_10.out⟩, ⟨by (with_reducible repeat (first | refine zg ?_ _ | refine zi ?_ | refine zh ?_ _)); exact BK261.out⟩, ⟨by repeat (first | (with_reducible first | exact HB.out | apply ze | apply zb | apply zd | refine zf ?_ GE261.out) | exact HB.out)⟩⟩
               rw [if_neg c34] at H
               have c34b0 : ((wrap64 ((za l1 x11_2).f2.f0)) == a2) = false := beq_eq_false_iff_ne.mpr c34
               have c34b1 : ((wrap64 ((za l1 x11_2).f2.f0)) != a2) = true := bne_iff_ne.mpr c34
               (try (have c34b2 : ((IntKind.i64.wrap ((za l1 x11_2).f2.f0)) == a2) = false := by have h_ : ((wrap64 ((za l1 x11_2).f2.f0)) == a2) = false := beq_eq_false_iff_ne.mpr c34; simpa only [zm, zl] using h_))
               (try (have c34b3 : ((IntKind.i64.wrap ((za l1 x11_2).f2.f0)) != a2) = true := by have h_ : ((wrap64 ((za l1 x11_2).f2.f0)) != a2) = true := bne_iff_ne.mpr c34; simpa only [zm, zl] using h_))
               by_cases c49 : (wrap64 ((za l1 x11_2).f2.f0)) = a3
               ·rw [if_pos c49] at H
                have c49b0 : ((wrap64 ((za l1 x11_2).f2.f0)) == a3) = true := beq_iff_eq.mpr c49
                have c49b1 : ((wrap64 ((za l1 x11_2).f2.f0)) != a3) = false := bne_eq_false_iff_eq.mpr c49
                (try (have c49b2 : ((IntKind.i64.wrap ((za l1 x11_2).f2.f0)) == a3) = true := by have h_ : ((wrap64 ((za l1 x11_2).f2.f0)) == a3) = true := beq_iff_eq.mpr c49; simpa only [zm, zl] using h_))
                (try (have c49b3 : ((IntKind.i64.wrap ((za l1 x11_2).f2.f0)) != a3) = false := by have h_ : ((wrap64 ((za l1 x11_2).f2.f0)) != a3) = false := bne_eq_false_iff_eq.mpr c49; simpa only [zm, zl] using h_))
                clear c49
                obtain ⟨y288, hy288⟩ : ∃ y_ : List (S54), y_ = (y284.set (x11_2 : Int).toNat (⟨(⟨(za y284 x11_2).f0.f0, (za y284 x11_2).f0.f1, (za y284 x11_2).f0.f2, (za y284 x11_2).f0.f3, (za y284 x11_2).f0.f4, (za y284 x11_2).f0.f5, (za y284 x11_2).f0.f6, (za y284 x11_2).f0.f7, (za y284 x11_2).f0.f8, (za y284 x11_2).f0.f9, (za y284 x11_2).f0.f10, (za y284 x11_2).f0.f11, (za y284 x11_2).f0.f12, (za y284 x11_2).f0.f13⟩ : S50), (⟨(za y284 x11_2).f1.f0, (za y284 x11_2).f1.f1, (za y284 x11_2).f1.f2⟩ : S52), (⟨IntKind.i8.wrap (a2), (za y284 x11_2).f2.f1⟩ : S46), true⟩ : S54)) := ⟨_, rfl⟩
                replace H : (spec_SwapInPlan.l0 k2 l1 a2 a3 y288 (wrap64 (x11_2 + 1))) = some (r1, r2) := by first | (rw [hy288]; with_reducible exact H) | (have H2_ := (Option.bind_some _ _).symm.trans H; rw [hy288]; with_reducible exact H2_) | (have H2_ := (Option.bind_some _ _).symm.trans H; with_reducible exact H2_) | with_reducible exact H | (rw [hy288]; exact H) | exact H
                have Ny288 := zc.mk hy288
                clear hy288
                have H' := zc.mk H
                clear H
                obtain ⟨Ao51, co51, eo51⟩ := Kd.R_slice HO_10.out
                subst eo51
                try go_wp2
                have n0_ := zc.mk (Kd.R_drew HO_10.out)
                have n1_ := zc.mk (zi BK261.out)
                have n2_ := zc.mk (zd HB.out)
                clear HO_10
                clear BK261
                clear HB
                have HO_10 := n0_
                have BK261 := n1_
                have HB := n2_
                clear n0_ n1_ n2_
                have p277 : 0 ≤ (x11_2 : Int) := od (by first | (with_reducible assumption) | assumption)
                have q277 : x11_2 < (l1.length : Int) := od (by first | (with_reducible assumption) | assumption)
                obtain ⟨ad277, e277, u1_0, u1_1, u1_2, u1_3, u1_4, u1_5, u1_6, u1_7, u1_8, u1_9, u1_10, u1_11, u1_12, u1_13, u1_14, u1_15, u1_16, u1_17, u1_18, u1_19, v1_0, v1_1, v1_2, v1_3, v1_4, v1_5, v1_6, v1_7, v1_8, v1_9, v1_10, v1_11, v1_12, v1_13, v1_14, v1_15, v1_16, v1_17, v1_18, v1_19⟩ := zcb HB.out HR1.out x11_2 p277 q277
                (try rw [← Nbq32.out] at u1_18)
                (try rw [← Nbq32.out] at u1_19)
                cases e277
                replace p277 := eq_true p277
                replace q277 := eq_true q277
                have v5_0 : w.cell? ((ad277.add ((x11_2).toNat * 20)).add (a3).toNat) = some (.int .i8 (rdP (za l1 x11_2) a3)) := by rcases (is14 (j := a3) (od (by first | (with_reducible assumption) | assumption)) (od (by first | (with_reducible assumption) | assumption))) with h_ | h_ | h_ | h_ | h_ | h_ | h_ | h_ | h_ | h_ | h_ | h_ | h_ | h_ <;> rw [h_] <;> first | exact v1_0 | exact v1_1 | exact v1_2 | exact v1_3 | exact v1_4 | exact v1_5 | exact v1_6 | exact v1_7 | exact v1_8 | exact v1_9 | exact v1_10 | exact v1_11 | exact v1_12 | exact v1_13
                have p53 : 0 ≤ (a3 : Int) := od (by first | (with_reducible assumption) | assumption)
                have q53 : a3 < (14 : Int) := od (by first | (with_reducible assumption) | assumption)
                replace p53 := eq_true p53
                replace q53 := eq_true q53
                have p28 : 0 ≤ (x11_2 : Int) := od (by first | (with_reducible assumption) | assumption)
                have q28 : (x11_2 : Int) < ((x10_2.length : Int) : Int) := od (by first | (with_reducible assumption) | assumption)
                obtain ⟨go28, co28, eo28, gb28, gl28, cl28, HG28⟩ := Kd.R_form HO_10.out (by omega)
                (first | cases eo28 | (injection eo28 with ea_ en_ ec_; (first | subst ea_ | (injection ea_ with ea_; subst ea_)); subst ec_; clear en_))
                have GB28 := zc.mk gb28
                have GG28 := zc.mk HG28
                clear gb28 gl28 HG28
                obtain ⟨ce28, hcl28, hM28, hcc28, hfr28⟩ := Kd.R_elem HO_10.out z54 (x11_2 : Int) p28 q28
                obtain rfl := zw hM28
                obtain ⟨u2_0, u2_1, u2_2, u2_3, u2_4, u2_5, u2_6, u2_7, u2_8, u2_9, u2_10, u2_11, u2_12, u2_13, u2_14, u2_15, u2_16, u2_17, u2_18, u2_19⟩ := rx20 (g := go28) (b := (x11_2 : Int).toNat * 20) hcc28
                obtain ⟨t1_0, t1_1, t1_2, t1_3, t1_4, t1_5, t1_6, t1_7, t1_8, t1_9, t1_10, t1_11, t1_12, t1_13, t1_14, t1_15, t1_16, t1_17, t1_18, t1_19⟩ := rf20 (g := go28) (b := (x11_2 : Int).toNat * 20) hfr28
                clear hcl28 hcc28 hfr28 hM28
                replace p28 := eq_true p28
                replace q28 := eq_true q28
                have u11_0 := ztb (a := fun z_ : Int => ⟨go28, (x11_2 : Int).toNat * 20 + z_.toNat, none⟩) (j := a2) (od (by first | (with_reducible assumption) | assumption)) (od (by first | (with_reducible assumption) | assumption)) u2_0 u2_1 u2_2 u2_3 u2_4 u2_5 u2_6 u2_7 u2_8 u2_9 u2_10 u2_11 u2_12 u2_13
                (try dsimp only at u11_0)
                have t7_0 := zhc (a := fun z_ : Int => ⟨go28, (x11_2 : Int).toNat * 20 + z_.toNat, none⟩) (j := a2) (od (by first | (with_reducible assumption) | assumption)) (od (by first | (with_reducible assumption) | assumption)) t1_0 t1_1 t1_2 t1_3 t1_4 t1_5 t1_6 t1_7 t1_8 t1_9 t1_10 t1_11 t1_12 t1_13
                (try dsimp only at t7_0)
                have p54 : 0 ≤ (a2 : Int) := od (by first | (with_reducible assumption) | assumption)
                have q54 : a2 < (14 : Int) := od (by first | (with_reducible assumption) | assumption)
                replace p54 := eq_true p54
                replace q54 := eq_true q54
                obtain ⟨ce55, hcl55, hM55, hcc55, hfr55⟩ := Kd.R_elem HO_10.out z54 (x11_2 : Int) (od (by first | (with_reducible assumption) | assumption)) (by have h_ : (x11_2 : Int) < ((x10_2.length : Int) : Int) := od (by first | (with_reducible assumption) | assumption); first | exact h_ | (have e_ := (Kd.R_reads' HO_10.out).1; omega) | simpa using h_)
                obtain rfl := zw hM55
                have HP55 := (Kd.R_seg HO_10.out (x11_2 : Int) (od (by first | (with_reducible assumption) | assumption)) (by have h_ : (x11_2 : Int) < ((x10_2.length : Int) : Int) := od (by first | (with_reducible assumption) | assumption); first | exact h_ | (have e_ := (Kd.R_reads' HO_10.out).1; omega) | simpa using h_) (seg := [.int .i8 (rdP (za l1 x11_2) a3)]) (j := (a2).toNat) hcl55 hcc55 (show (a2).toNat + 1 ≤ 20 from by have hp_ : 0 ≤ (a2 : Int) := od (by first | (with_reducible assumption) | assumption); have hq_ : a2 < (14 : Int) := od (by first | (with_reducible assumption) | assumption); omega) (x' := (stP (za x10_2 x11_2) a2 (rdP (za l1 x11_2) a3) : S54)) (by rcases (is14 (j := a2) (od (by first | (with_reducible assumption) | assumption)) (od (by first | (with_reducible assumption) | assumption))) with h_ | h_ | h_ | h_ | h_ | h_ | h_ | h_ | h_ | h_ | h_ | h_ | h_ | h_ <;> rw [h_] <;> first | exact zea _ _ _ _ | (have e_ := Nbq32.out; unfold za at e_; rw [← e_]; exact zea _ _ _ _)) (fun _ hk => hk)).1
                rw [← Ny280.out] at HP55
                have HQ55 := zc.mk HP55
                clear hcl55 hcc55 hfr55 hM55 HP55
                refine zjb (n := 14) (S := fun w' => EA w' (ad277.add ((x11_2).toNat * 20)) (za l1 x11_2) ((za l1 x11_2).f2.f1) ((za l1 x11_2).f3) (w'.cell? ((ad277.add ((x11_2).toNat * 20)).add (a3).toNat) = some (.int .i8 (rdP (za l1 x11_2) a3)))) (ds := [13]) (fm 14 0) (by kernel_rfl) rfl rfl ⟨(bc HB.out v1_0), (bc HB.out v1_1), (bc HB.out v1_2), (bc HB.out v1_3), (bc HB.out v1_4), (bc HB.out v1_5), (bc HB.out v1_6), (bc HB.out v1_7), (bc HB.out v1_8), (bc HB.out v1_9), (bc HB.out v1_10), (bc HB.out v1_11), (bc HB.out v1_12), (bc HB.out v1_13), (bc HB.out v1_14), (bc HB.out v1_15), (bc HB.out v1_16), (bc HB.out v1_17), (by first | exact (bc HB.out v1_18) | (have h_ := (bc HB.out v1_18); rw [← Nbq32.out] at h_; exact h_)), (by first | exact (bc HB.out v1_19) | (have h_ := (bc HB.out v1_19); rw [← Nbq32.out] at h_; exact h_)), (bc HB.out v5_0)⟩ (fun hHeld => ?_); refine zsa spec_SwapInPlan.tab9 spec_SwapInPlan.bits9 (fun HT_ HW_ => ?_)
                generalize wr.drew = w52 at HO_10 BK261 HB GG28 HQ55 t1_0 t1_1 t1_10 t1_11 t1_12 t1_13 t1_14 t1_15 t1_16 t1_17 t1_18 t1_19 t1_2 t1_3 t1_4 t1_5 t1_6 t1_7 t1_8 t1_9 t7_0 u1_0 u1_1 u1_10 u1_11 u1_12 u1_13 u1_14 u1_15 u1_16 u1_17 u1_18 u1_19 u1_2 u1_3 u1_4 u1_5 u1_6 u1_7 u1_8 u1_9 u2_0 u2_1 u2_10 u2_11 u2_12 u2_13 u2_14 u2_15 u2_16 u2_17 u2_18 u2_19 u2_2 u2_3 u2_4 u2_5 u2_6 u2_7 u2_8 u2_9 u11_0 hHeld ⊢
                refine pb 0 43 (fm 14 1) rfl rfl HT_.out (by kernel_rfl) pq (by rfl) (by intro w'; go_simp; with_reducible rfl) (by simp only [Act.put, ea, eb, ec, zm, zl]; rfl) ?_
                refine pb 1 44 (fm 14 2) rfl rfl HT_.out (by kernel_rfl) pq (by rfl) (by intro w'; go_simp; with_reducible rfl) (by simp only [Act.put, ea, eb, ec, zm, zl]; rfl) ?_
                refine pb 2 45 (fm 14 3) rfl rfl HT_.out (by kernel_rfl) pq (by rfl) (by intro w'; go_simp; with_reducible rfl) (by simp only [Act.put, ea, eb, ec, zm, zl]; rfl) ?_
                refine pb 3 46 (fm 14 4) rfl rfl HT_.out (by kernel_rfl) pq (by rfl) (by intro w'; go_simp; with_reducible rfl) (by simp only [Act.put, ea, eb, ec, zm, zl]; rfl) ?_
                refine pb 4 47 (fm 14 5) rfl rfl HT_.out (by kernel_rfl) pq (by rfl) (by intro w'; go_simp; with_reducible rfl) (by simp only [Act.put, ea, eb, ec, zm, zl]; rfl) ?_
                refine pb 5 48 (fm 14 6) rfl rfl HT_.out (by kernel_rfl) pq (by rfl) (by intro w'; go_simp; with_reducible rfl) (by simp only [Act.put, ea, eb, ec, zm, zl]; rfl) ?_
                refine pb 6 49 (fm 14 7) rfl rfl HT_.out (by kernel_rfl) pq (by rfl) (by intro w'; go_simp; with_reducible rfl) (by simp only [Act.put, ea, eb, ec, zm, zl]; rfl) ?_
                refine pb 7 50 (fm 14 8) rfl rfl HT_.out (by kernel_rfl) pq (by rfl) (by intro w'; go_simp; with_reducible rfl) (by simp only [Act.put, ea, eb, ec, zm, zl]; rfl) ?_
                refine pb 8 51 (fm 14 9) rfl rfl HT_.out (by kernel_rfl) pq (by rfl) (by intro w'; go_simp; with_reducible rfl) (by simp only [Act.put, ea, eb, ec, zm, zl]; rfl) ?_
                refine pb 10 53 #[T, T, T, T, T, T, T, T, T, F, T, F, F, F] rfl rfl HT_.out (by kernel_rfl) pq (by rfl) (by intro w'; go_simp; with_reducible rfl) (by simp only [Act.put, ea, eb, ec, zm, zl]; rfl) ?_
                refine pb 11 54 #[T, T, T, T, T, T, T, T, T, F, T, T, F, F] rfl rfl HT_.out (by kernel_rfl) pq (by rfl) (by intro w'; go_simp; with_reducible rfl) (by simp only [Act.put, ea, eb, ec, zm, zl]; rfl) ?_
                refine take_ (i := 9) (N := some 52) (v := ?_) (a' := ?_) (fm 14 12) rfl rfl (zca HT_.out HW_.out (by kernel_rfl)) (fun _ _ _ h => h) (Or.inl ⟨by rfl, ?_⟩) hHeld ?_ ?_
                rotate_left
                ·rintro w' ⟨s0, s1, s2, s3, s4, s5, s6, s7, s8, s9, s10, s11, s12, s13, s14, s15, s16, s17, s18, s19, s20⟩
                 go_simp
                 with_reducible rfl
                rotate_left
                ·simp only [Act.put, List.setIfInBounds_toArray, List.set_cons_zero, List.set_cons_succ, zm, zl]
                 rfl
                refine pb 12 55 (fm 14 13) rfl rfl HT_.out (by kernel_rfl) pq (by rfl) (by intro w'; go_simp; with_reducible rfl) (by simp only [Act.put, ea, eb, ec, zm, zl]; rfl) ?_
                refine zjc (i := 13) (N := none) (fm 14 14) rfl rfl (zhb HT_.out (by kernel_rfl)) (by decide) (fun K hK => ?_)
                refine zic (w1 := ?_) (by rfl) rfl ?_ ?_
                rotate_left
                ·go_simp
                 rfl
                refine hK.out _ _ ?_
                clear hK K
                refine zac (zab HT_.out (by kernel_rfl)) ?_
                try go_wp2
                have n0_ : zc (Kd.R k54 54 (w52.setCell ⟨go28, (x11_2 : Int).toNat * 20 + (a2).toNat, none⟩ (.int .i8 (rdP (za l1 x11_2) a3))) w.heap.size (fun _ => True) (.slice (some ⟨go28, 0, none⟩) x10_2.length co51) y280) := ⟨by (with_reducible repeat (first | apply Kd.R_alloc | apply Kd.R_drewN | apply Kd.R_drew)); exact HQ55.out⟩
                have n1_ : zc ((w52.setCell ⟨go28, (x11_2 : Int).toNat * 20 + (a2).toNat, none⟩ (.int .i8 (rdP (za l1 x11_2) a3))).heap[gb261]? = some (.cells #[.int .i8 a0_0, .int .i8 a0_1, .bool a0_2, .bool a0_3] 29 (0, 0))) := ⟨by (with_reducible repeat (first | refine zg ?_ _ | refine zi ?_ | refine zh ?_ _)); refine zma ?_ (by have h_ := Kd.R_ne HO_10.out BK261.out (by decide); intro e_; exact h_ (by rw [e_]; rfl)) _; (with_reducible repeat (first | refine zg ?_ _ | refine zi ?_ | refine zh ?_ _)); exact BK261.out⟩
                have n2_ : zc (Below w.heap.size w (w52.setCell ⟨go28, (x11_2 : Int).toNat * 20 + (a2).toNat, none⟩ (.int .i8 (rdP (za l1 x11_2) a3)))) := ⟨by repeat (first | (with_reducible first | exact HB.out | apply ze | apply zb | apply zd | refine zf ?_ GB28.out | refine zf ?_ GE261.out) | exact HB.out)⟩
                (try clear HO_10)
                (try clear BK261)
                (try clear HB)
                generalize (w52.setCell ⟨go28, (x11_2 : Int).toNat * 20 + (a2).toNat, none⟩ (.int .i8 (rdP (za l1 x11_2) a3))) = w56 at n0_ n1_ n2_ ⊢
                have HO_10 := n0_
                have BK261 := n1_
                have HB := n2_
                clear n0_ n1_ n2_
                have n0_ := zc.mk (Kd.R_drew HO_10.out)
                have n1_ := zc.mk (zi BK261.out)
                have n2_ := zc.mk (zd HB.out)
                clear HO_10
                clear BK261
                clear HB
                have HO_10 := n0_
                have BK261 := n1_
                have HB := n2_
                clear n0_ n1_ n2_
                have p281 : 0 ≤ (x11_2 : Int) := od (by first | (with_reducible assumption) | assumption)
                have q281 : x11_2 < (l1.length : Int) := od (by first | (with_reducible assumption) | assumption)
                obtain ⟨ad281, e281, u4_0, u4_1, u4_2, u4_3, u4_4, u4_5, u4_6, u4_7, u4_8, u4_9, u4_10, u4_11, u4_12, u4_13, u4_14, u4_15, u4_16, u4_17, u4_18, u4_19, v3_0, v3_1, v3_2, v3_3, v3_4, v3_5, v3_6, v3_7, v3_8, v3_9, v3_10, v3_11, v3_12, v3_13, v3_14, v3_15, v3_16, v3_17, v3_18, v3_19⟩ := zcb HB.out HR1.out x11_2 p281 q281
                (try rw [← Nbq32.out] at u4_18)
                (try rw [← Nbq32.out] at u4_19)
                obtain rfl : ad277 = ad281 := (by injection e281)
                replace p281 := eq_true p281
                replace q281 := eq_true q281
                have v6_0 : w.cell? ((ad277.add ((x11_2).toNat * 20)).add (a2).toNat) = some (.int .i8 (rdP (za l1 x11_2) a2)) := by rcases (is14 (j := a2) (od (by first | (with_reducible assumption) | assumption)) (od (by first | (with_reducible assumption) | assumption))) with h_ | h_ | h_ | h_ | h_ | h_ | h_ | h_ | h_ | h_ | h_ | h_ | h_ | h_ <;> rw [h_] <;> first | exact v3_0 | exact v3_1 | exact v3_2 | exact v3_3 | exact v3_4 | exact v3_5 | exact v3_6 | exact v3_7 | exact v3_8 | exact v3_9 | exact v3_10 | exact v3_11 | exact v3_12 | exact v3_13
                have p58 : 0 ≤ (a2 : Int) := od (by first | (with_reducible assumption) | assumption)
                have q58 : a2 < (14 : Int) := od (by first | (with_reducible assumption) | assumption)
                replace p58 := eq_true p58
                replace q58 := eq_true q58
                have p31 : 0 ≤ (x11_2 : Int) := od (by first | (with_reducible assumption) | assumption)
                have q31 : (x11_2 : Int) < ((x10_2.length : Int) : Int) := od (by first | (with_reducible assumption) | assumption)
                obtain ⟨ce31, hcl31, hM31, hcc31, hfr31⟩ := Kd.R_elem HO_10.out z54 (x11_2 : Int) p31 q31
                obtain rfl := zw hM31
                obtain ⟨u5_0, u5_1, u5_2, u5_3, u5_4, u5_5, u5_6, u5_7, u5_8, u5_9, u5_10, u5_11, u5_12, u5_13, u5_14, u5_15, u5_16, u5_17, u5_18, u5_19⟩ := rx20 (g := go28) (b := (x11_2 : Int).toNat * 20) hcc31
                obtain ⟨t3_0, t3_1, t3_2, t3_3, t3_4, t3_5, t3_6, t3_7, t3_8, t3_9, t3_10, t3_11, t3_12, t3_13, t3_14, t3_15, t3_16, t3_17, t3_18, t3_19⟩ := rf20 (g := go28) (b := (x11_2 : Int).toNat * 20) hfr31
                clear hcl31 hcc31 hfr31 hM31
                replace p31 := eq_true p31
                replace q31 := eq_true q31
                have u12_0 := ztb (a := fun z_ : Int => ⟨go28, (x11_2 : Int).toNat * 20 + z_.toNat, none⟩) (j := a3) (od (by first | (with_reducible assumption) | assumption)) (od (by first | (with_reducible assumption) | assumption)) u5_0 u5_1 u5_2 u5_3 u5_4 u5_5 u5_6 u5_7 u5_8 u5_9 u5_10 u5_11 u5_12 u5_13
                (try dsimp only at u12_0)
                have t8_0 := zhc (a := fun z_ : Int => ⟨go28, (x11_2 : Int).toNat * 20 + z_.toNat, none⟩) (j := a3) (od (by first | (with_reducible assumption) | assumption)) (od (by first | (with_reducible assumption) | assumption)) t3_0 t3_1 t3_2 t3_3 t3_4 t3_5 t3_6 t3_7 t3_8 t3_9 t3_10 t3_11 t3_12 t3_13
                (try dsimp only at t8_0)
                have p59 : 0 ≤ (a3 : Int) := od (by first | (with_reducible assumption) | assumption)
                have q59 : a3 < (14 : Int) := od (by first | (with_reducible assumption) | assumption)
                replace p59 := eq_true p59
                replace q59 := eq_true q59
                obtain ⟨ce60, hcl60, hM60, hcc60, hfr60⟩ := Kd.R_elem HO_10.out z54 (x11_2 : Int) (od (by first | (with_reducible assumption) | assumption)) (by have h_ : (x11_2 : Int) < ((x10_2.length : Int) : Int) := od (by first | (with_reducible assumption) | assumption); first | exact h_ | (have e_ := (Kd.R_reads' HO_10.out).1; omega) | simpa using h_)
                obtain rfl := zw hM60
                have HP60 := (Kd.R_seg HO_10.out (x11_2 : Int) (od (by first | (with_reducible assumption) | assumption)) (by have h_ : (x11_2 : Int) < ((x10_2.length : Int) : Int) := od (by first | (with_reducible assumption) | assumption); first | exact h_ | (have e_ := (Kd.R_reads' HO_10.out).1; omega) | simpa using h_) (seg := [.int .i8 (rdP (za l1 x11_2) a2)]) (j := (a3).toNat) hcl60 hcc60 (show (a3).toNat + 1 ≤ 20 from by have hp_ : 0 ≤ (a3 : Int) := od (by first | (with_reducible assumption) | assumption); have hq_ : a3 < (14 : Int) := od (by first | (with_reducible assumption) | assumption); omega) (x' := (stP (za y280 x11_2) a3 (rdP (za l1 x11_2) a2) : S54)) (by rcases (is14 (j := a3) (od (by first | (with_reducible assumption) | assumption)) (od (by first | (with_reducible assumption) | assumption))) with h_ | h_ | h_ | h_ | h_ | h_ | h_ | h_ | h_ | h_ | h_ | h_ | h_ | h_ <;> rw [h_] <;> first | exact zea _ _ _ _ | (have e_ := Nbq32.out; unfold za at e_; rw [← e_]; exact zea _ _ _ _)) (fun _ hk => hk)).1
                rw [← Ny284.out] at HP60
                have HQ60 := zc.mk HP60
                clear hcl60 hcc60 hfr60 hM60 HP60
                refine zjb (n := 14) (S := fun w' => EA w' (ad277.add ((x11_2).toNat * 20)) (za l1 x11_2) ((za l1 x11_2).f2.f1) ((za l1 x11_2).f3) (w'.cell? ((ad277.add ((x11_2).toNat * 20)).add (a2).toNat) = some (.int .i8 (rdP (za l1 x11_2) a2)))) (ds := [13]) (fm 14 0) (by kernel_rfl) rfl rfl ⟨(bc HB.out v3_0), (bc HB.out v3_1), (bc HB.out v3_2), (bc HB.out v3_3), (bc HB.out v3_4), (bc HB.out v3_5), (bc HB.out v3_6), (bc HB.out v3_7), (bc HB.out v3_8), (bc HB.out v3_9), (bc HB.out v3_10), (bc HB.out v3_11), (bc HB.out v3_12), (bc HB.out v3_13), (bc HB.out v3_14), (bc HB.out v3_15), (bc HB.out v3_16), (bc HB.out v3_17), (by first | exact (bc HB.out v3_18) | (have h_ := (bc HB.out v3_18); rw [← Nbq32.out] at h_; exact h_)), (by first | exact (bc HB.out v3_19) | (have h_ := (bc HB.out v3_19); rw [← Nbq32.out] at h_; exact h_)), (bc HB.out v6_0)⟩ (fun hHeld => ?_); refine zsa spec_SwapInPlan.tab10 spec_SwapInPlan.bits10 (fun HT_ HW_ => ?_)
                generalize w56.drew = w57 at HO_10 BK261 HB HQ55 HQ60 t3_0 t3_1 t3_10 t3_11 t3_12 t3_13 t3_14 t3_15 t3_16 t3_17 t3_18 t3_19 t3_2 t3_3 t3_4 t3_5 t3_6 t3_7 t3_8 t3_9 t8_0 u4_0 u4_1 u4_10 u4_11 u4_12 u4_13 u4_14 u4_15 u4_16 u4_17 u4_18 u4_19 u4_2 u4_3 u4_4 u4_5 u4_6 u4_7 u4_8 u4_9 u5_0 u5_1 u5_10 u5_11 u5_12 u5_13 u5_14 u5_15 u5_16 u5_17 u5_18 u5_19 u5_2 u5_3 u5_4 u5_5 u5_6 u5_7 u5_8 u5_9 u12_0 hHeld ⊢
                refine pb 0 56 (fm 14 1) rfl rfl HT_.out (by kernel_rfl) pq (by rfl) (by intro w'; go_simp; with_reducible rfl) (by simp only [Act.put, ea, eb, ec, zm, zl]; rfl) ?_
                refine pb 1 57 (fm 14 2) rfl rfl HT_.out (by kernel_rfl) pq (by rfl) (by intro w'; go_simp; with_reducible rfl) (by simp only [Act.put, ea, eb, ec, zm, zl]; rfl) ?_
                refine pb 2 58 (fm 14 3) rfl rfl HT_.out (by kernel_rfl) pq (by rfl) (by intro w'; go_simp; with_reducible rfl) (by simp only [Act.put, ea, eb, ec, zm, zl]; rfl) ?_
                refine pb 3 59 (fm 14 4) rfl rfl HT_.out (by kernel_rfl) pq (by rfl) (by intro w'; go_simp; with_reducible rfl) (by simp only [Act.put, ea, eb, ec, zm, zl]; rfl) ?_
                refine pb 4 60 (fm 14 5) rfl rfl HT_.out (by kernel_rfl) pq (by rfl) (by intro w'; go_simp; with_reducible rfl) (by simp only [Act.put, ea, eb, ec, zm, zl]; rfl) ?_
                refine pb 5 61 (fm 14 6) rfl rfl HT_.out (by kernel_rfl) pq (by rfl) (by intro w'; go_simp; with_reducible rfl) (by simp only [Act.put, ea, eb, ec, zm, zl]; rfl) ?_
                refine pb 6 62 (fm 14 7) rfl rfl HT_.out (by kernel_rfl) pq (by rfl) (by intro w'; go_simp; with_reducible rfl) (by simp only [Act.put, ea, eb, ec, zm, zl]; rfl) ?_
                refine pb 7 63 (fm 14 8) rfl rfl HT_.out (by kernel_rfl) pq (by rfl) (by intro w'; go_simp; with_reducible rfl) (by simp only [Act.put, ea, eb, ec, zm, zl]; rfl) ?_
                refine pb 8 64 (fm 14 9) rfl rfl HT_.out (by kernel_rfl) pq (by rfl) (by intro w'; go_simp; with_reducible rfl) (by simp only [Act.put, ea, eb, ec, zm, zl]; rfl) ?_
                refine pb 10 66 #[T, T, T, T, T, T, T, T, T, F, T, F, F, F] rfl rfl HT_.out (by kernel_rfl) pq (by rfl) (by intro w'; go_simp; with_reducible rfl) (by simp only [Act.put, ea, eb, ec, zm, zl]; rfl) ?_
                refine pb 11 67 #[T, T, T, T, T, T, T, T, T, F, T, T, F, F] rfl rfl HT_.out (by kernel_rfl) pq (by rfl) (by intro w'; go_simp; with_reducible rfl) (by simp only [Act.put, ea, eb, ec, zm, zl]; rfl) ?_
                refine take_ (i := 9) (N := some 65) (v := ?_) (a' := ?_) (fm 14 12) rfl rfl (zca HT_.out HW_.out (by kernel_rfl)) (fun _ _ _ h => h) (Or.inl ⟨by rfl, ?_⟩) hHeld ?_ ?_
                rotate_left
                ·rintro w' ⟨s0, s1, s2, s3, s4, s5, s6, s7, s8, s9, s10, s11, s12, s13, s14, s15, s16, s17, s18, s19, s20⟩
                 go_simp
                 with_reducible rfl
                rotate_left
                ·simp only [Act.put, List.setIfInBounds_toArray, List.set_cons_zero, List.set_cons_succ, zm, zl]
                 rfl
                refine pb 12 68 (fm 14 13) rfl rfl HT_.out (by kernel_rfl) pq (by rfl) (by intro w'; go_simp; with_reducible rfl) (by simp only [Act.put, ea, eb, ec, zm, zl]; rfl) ?_
                refine zjc (i := 13) (N := none) (fm 14 14) rfl rfl (zhb HT_.out (by kernel_rfl)) (by decide) (fun K hK => ?_)
                refine zic (w1 := ?_) (by rfl) rfl ?_ ?_
                rotate_left
                ·go_simp
                 rfl
                refine hK.out _ _ ?_
                clear hK K
                refine zac (zab HT_.out (by kernel_rfl)) ?_
                have n0_ : zc (Kd.R k54 54 (w57.setCell ⟨go28, (x11_2 : Int).toNat * 20 + (a3).toNat, none⟩ (.int .i8 (rdP (za l1 x11_2) a2))) w.heap.size (fun _ => True) (.slice (some ⟨go28, 0, none⟩) x10_2.length co51) y284) := ⟨by (with_reducible repeat (first | apply Kd.R_alloc | apply Kd.R_drewN | apply Kd.R_drew)); exact HQ60.out⟩
                have n1_ : zc ((w57.setCell ⟨go28, (x11_2 : Int).toNat * 20 + (a3).toNat, none⟩ (.int .i8 (rdP (za l1 x11_2) a2))).heap[gb261]? = some (.cells #[.int .i8 a0_0, .int .i8 a0_1, .bool a0_2, .bool a0_3] 29 (0, 0))) := ⟨by (with_reducible repeat (first | refine zg ?_ _ | refine zi ?_ | refine zh ?_ _)); refine zma ?_ (by have h_ := Kd.R_ne HO_10.out BK261.out (by decide); intro e_; exact h_ (by rw [e_]; rfl)) _; (with_reducible repeat (first | refine zg ?_ _ | refine zi ?_ | refine zh ?_ _)); exact BK261.out⟩
                have n2_ : zc (Below w.heap.size w (w57.setCell ⟨go28, (x11_2 : Int).toNat * 20 + (a3).toNat, none⟩ (.int .i8 (rdP (za l1 x11_2) a2)))) := ⟨by repeat (first | (with_reducible first | exact HB.out | apply ze | apply zb | apply zd | refine zf ?_ GB28.out | refine zf ?_ GE261.out) | exact HB.out)⟩
                (try clear HO_10)
                (try clear BK261)
                (try clear HB)
                generalize (w57.setCell ⟨go28, (x11_2 : Int).toNat * 20 + (a3).toNat, none⟩ (.int .i8 (rdP (za l1 x11_2) a2))) = w61 at n0_ n1_ n2_ ⊢
                have HO_10 := n0_
                have BK261 := n1_
                have HB := n2_
                clear n0_ n1_ n2_
                have p285 : 0 ≤ (x11_2 : Int) := od (by first | (with_reducible assumption) | assumption)
                have q285 : x11_2 < (y284.length : Int) := (by have h_ : (x11_2 : Int) < ((x10_2.length : Int) : Int) := od (by first | (with_reducible assumption) | assumption); first | (have e_ := (Kd.R_reads' HO_10.out).1; omega) | simpa only [Ny280.out, Ny284.out, List.length_set] using h_)
                have ql285 : ((x11_2 : Int) < ((x10_2.length : Int) : Int)) = True := eq_true (od (by first | (with_reducible assumption) | assumption))
                obtain ⟨ad285, e285, u7_0, u7_1, u7_2, u7_3, u7_4, u7_5, u7_6, u7_7, u7_8, u7_9, u7_10, u7_11, u7_12, u7_13, u7_14, u7_15, u7_16, u7_17, u7_18, u7_19⟩ := zta (Kd.R_reads' HO_10.out).2.2 x11_2 p285 q285
                (try rw [← Nbq32.out] at u7_18)
                (try rw [← Nbq32.out] at u7_19)
                obtain rfl : (⟨go28, 0, none⟩ : Addr) = ad285 := (by injection e285)
                (first | simp only [zha] at u7_0 u7_1 u7_2 u7_3 u7_4 u7_5 u7_6 u7_7 u7_8 u7_9 u7_10 u7_11 u7_12 u7_13 u7_14 u7_15 u7_16 u7_17 u7_18 u7_19 | simp only [zrb] at u7_0 u7_1 u7_2 u7_3 u7_4 u7_5 u7_6 u7_7 u7_8 u7_9 u7_10 u7_11 u7_12 u7_13 u7_14 u7_15 u7_16 u7_17 u7_18 u7_19 | simp only [Addr.add, Nat.zero_add] at u7_0 u7_1 u7_2 u7_3 u7_4 u7_5 u7_6 u7_7 u7_8 u7_9 u7_10 u7_11 u7_12 u7_13 u7_14 u7_15 u7_16 u7_17 u7_18 u7_19 | skip)
                replace p285 := eq_true p285
                replace q285 := eq_true q285
                have p286 : 0 ≤ (x11_2 : Int) := od (by first | (with_reducible assumption) | assumption)
                have q286 : x11_2 < (l1.length : Int) := od (by first | (with_reducible assumption) | assumption)
                obtain ⟨ad286, e286, u8_0, u8_1, u8_2, u8_3, u8_4, u8_5, u8_6, u8_7, u8_8, u8_9, u8_10, u8_11, u8_12, u8_13, u8_14, u8_15, u8_16, u8_17, u8_18, u8_19⟩ := zsb HB.out HR1.out x11_2 p286 q286
                (try rw [← Nbq32.out] at u8_18)
                (try rw [← Nbq32.out] at u8_19)
                obtain rfl : ad277 = ad286 := (by injection e286)
                replace p286 := eq_true p286
                replace q286 := eq_true q286
                have p50 : 0 ≤ (x11_2 : Int) := od (by first | (with_reducible assumption) | assumption)
                have q50 : (x11_2 : Int) < ((x10_2.length : Int) : Int) := od (by first | (with_reducible assumption) | assumption)
                obtain ⟨ce50, hcl50, hM50, hcc50, hfr50⟩ := Kd.R_elem HO_10.out z54 (x11_2 : Int) p50 q50
                obtain rfl := zw hM50
                obtain ⟨u13_0, u13_1, u13_2, u13_3, u13_4, u13_5, u13_6, u13_7, u13_8, u13_9, u13_10, u13_11, u13_12, u13_13, u13_14, u13_15, u13_16, u13_17, u13_18, u13_19⟩ := rx20 (g := go28) (b := (x11_2 : Int).toNat * 20) hcc50
                obtain ⟨t9_0, t9_1, t9_2, t9_3, t9_4, t9_5, t9_6, t9_7, t9_8, t9_9, t9_10, t9_11, t9_12, t9_13, t9_14, t9_15, t9_16, t9_17, t9_18, t9_19⟩ := rf20 (g := go28) (b := (x11_2 : Int).toNat * 20) hfr50
                clear hcl50 hcc50 hfr50 hM50
                replace p50 := eq_true p50
                replace q50 := eq_true q50
                have HX62 := zc.mk (show Kd.R k54 54 w61 w.heap.size (fun _ => True) (.slice (some ⟨go28, 0, none⟩) x10_2.length co51) y284 from (by (with_reducible repeat (first | apply Kd.R_alloc | apply Kd.R_drewN | apply Kd.R_drew)); exact HO_10.out))
                obtain ⟨ce62, hcl62, hM62, hcc62, hfr62⟩ := Kd.R_elem HX62.out z54 (x11_2 : Int) (od (by first | (with_reducible assumption) | assumption)) (by have h_ : (x11_2 : Int) < ((x10_2.length : Int) : Int) := od (by first | (with_reducible assumption) | assumption); first | exact h_ | (have e_ := (Kd.R_reads' HO_10.out).1; omega) | simpa using h_)
                obtain rfl := zw hM62
                have HP62 := Kd.R_seg HX62.out (x11_2 : Int) (od (by first | (with_reducible assumption) | assumption)) (by have h_ : (x11_2 : Int) < ((x10_2.length : Int) : Int) := od (by first | (with_reducible assumption) | assumption); first | exact h_ | (have e_ := (Kd.R_reads' HO_10.out).1; omega) | simpa using h_) (seg := [.int .i8 (IntKind.i8.wrap (a2))]) (j := 17) hcl62 hcc62 (show 18 ≤ 20 from by decide) (x' := (⟨(⟨(za y284 x11_2).f0.f0, (za y284 x11_2).f0.f1, (za y284 x11_2).f0.f2, (za y284 x11_2).f0.f3, (za y284 x11_2).f0.f4, (za y284 x11_2).f0.f5, (za y284 x11_2).f0.f6, (za y284 x11_2).f0.f7, (za y284 x11_2).f0.f8, (za y284 x11_2).f0.f9, (za y284 x11_2).f0.f10, (za y284 x11_2).f0.f11, (za y284 x11_2).f0.f12, (za y284 x11_2).f0.f13⟩ : S50), (⟨(za y284 x11_2).f1.f0, (za y284 x11_2).f1.f1, (za y284 x11_2).f1.f2⟩ : S52), (⟨IntKind.i8.wrap (a2), (za y284 x11_2).f2.f1⟩ : S46), true⟩ : S54)) (by first | exact zea _ _ _ _ | (have e_ := Nbq32.out; unfold za at e_; rw [← e_]; exact zea _ _ _ _)) (fun _ hk => hk)
                have u14_17 := hcc62 17 _ rfl
                (try simp only [show (k54).sz = 20 from rfl, Nat.mul_one, Nat.add_zero] at u14_17)
                have t10_17 := hfr62 17
                (try simp only [show (k54).sz = 20 from rfl, Nat.mul_one, Nat.add_zero] at t10_17)
                clear hcl62 hcc62 hfr62 hM62
                try go_wp2_with (first | ((with_reducible refine zda (t := 22) (p := 101) rfl ?_); refine zxa (t := 22) (p := 101) (v := ?vo_w63) (w1 := (w61.setCell ⟨go28, (x11_2 : Int).toNat * 20 + 17, none⟩ (.int .i8 (IntKind.i8.wrap (a2))))) ?hg ?ho ?hn ?hr ?_; (case ho => rfl); (case hg => rfl); (case hn => rfl); (case hr => first | (go_simp; done) | (go_simp; rfl)); intro w63 hw; have hg : w61.grownBy w63 (some go28) := (by rw [hw]; exact HP62.2); have hp_ : Kd.R k54 54 w63 w.heap.size (fun _ => True) (.slice (some ⟨go28, 0, none⟩) x10_2.length co51) y288 := (by rw [hw, Ny288.out]; exact HP62.1); clear HP62; have n0_ := zc.mk (hp_); have n1_ := zc.mk (zkb (g := gb261) (o := .cells #[.int .i8 a0_0, .int .i8 a0_1, .bool a0_2, .bool a0_3] 29 (0, 0)) (by (with_reducible repeat (first | refine zg ?_ _ | refine zi ?_ | refine zh ?_ _)); exact BK261.out) hg (Kd.R_ne HO_10.out BK261.out (by decide))); have n2_ := zc.mk ((by rw [hw]; exact zf (HB.out) GB28.out : Below w.heap.size w w63)); clear HO_10; clear BK261; clear HB; have HO_10 := n0_; have BK261 := n1_; have HB := n2_; clear n0_ n1_ n2_; clear hg hw hp_))
                go_roundg k2
                case measure => have := HJ6.out; have := HK2.out; omega
                case rel => exact ⟨(y288), (wrap64 (x11_2 + 1)), (by first | rfl | (simp; done) | (simp [*]; done)), H', ⟨by have := HJ6.out; have := HK2.out; omega⟩, ⟨by (with_reducible repeat (first | apply Kd.R_alloc | apply Kd.R_drewN | apply Kd.R_drew)); exact HO_10.out⟩, ⟨by (with_reducible repeat (first | refine zg ?_ _ | refine zi ?_ | refine zh ?_ _)); exact BK261.out⟩, ⟨by repeat (first | (with_reducible first | exact HB.out | apply ze | apply zb | apply zd | refine zf ?_ GE261.out) | exact HB.out)⟩⟩
               rw [if_neg c49] at H
               have c49b0 : ((wrap64 ((za l1 x11_2).f2.f0)) == a3) = false := beq_eq_false_iff_ne.mpr c49
               have c49b1 : ((wrap64 ((za l1 x11_2).f2.f0)) != a3) = true := bne_iff_ne.mpr c49
               (try (have c49b2 : ((IntKind.i64.wrap ((za l1 x11_2).f2.f0)) == a3) = false := by have h_ : ((wrap64 ((za l1 x11_2).f2.f0)) == a3) = false := beq_eq_false_iff_ne.mpr c49; simpa only [zm, zl] using h_))
               (try (have c49b3 : ((IntKind.i64.wrap ((za l1 x11_2).f2.f0)) != a3) = true := by have h_ : ((wrap64 ((za l1 x11_2).f2.f0)) != a3) = true := bne_iff_ne.mpr c49; simpa only [zm, zl] using h_))
               have H' := zc.mk H
               clear H
               obtain ⟨Ao64, co64, eo64⟩ := Kd.R_slice HO_10.out
               subst eo64
               try go_wp2
               have n0_ := zc.mk (Kd.R_drew HO_10.out)
               have n1_ := zc.mk (zi BK261.out)
               have n2_ := zc.mk (zd HB.out)
               clear HO_10
               clear BK261
               clear HB
               have HO_10 := n0_
               have BK261 := n1_
               have HB := n2_
               clear n0_ n1_ n2_
               have p277 : 0 ≤ (x11_2 : Int) := od (by first | (with_reducible assumption) | assumption)
               have q277 : x11_2 < (l1.length : Int) := od (by first | (with_reducible assumption) | assumption)
               obtain ⟨ad277, e277, u1_0, u1_1, u1_2, u1_3, u1_4, u1_5, u1_6, u1_7, u1_8, u1_9, u1_10, u1_11, u1_12, u1_13, u1_14, u1_15, u1_16, u1_17, u1_18, u1_19, v1_0, v1_1, v1_2, v1_3, v1_4, v1_5, v1_6, v1_7, v1_8, v1_9, v1_10, v1_11, v1_12, v1_13, v1_14, v1_15, v1_16, v1_17, v1_18, v1_19⟩ := zcb HB.out HR1.out x11_2 p277 q277
               (try rw [← Nbq32.out] at u1_18)
               (try rw [← Nbq32.out] at u1_19)
               cases e277
               replace p277 := eq_true p277
               replace q277 := eq_true q277
               have v7_0 : w.cell? ((ad277.add ((x11_2).toNat * 20)).add (a3).toNat) = some (.int .i8 (rdP (za l1 x11_2) a3)) := by rcases (is14 (j := a3) (od (by first | (with_reducible assumption) | assumption)) (od (by first | (with_reducible assumption) | assumption))) with h_ | h_ | h_ | h_ | h_ | h_ | h_ | h_ | h_ | h_ | h_ | h_ | h_ | h_ <;> rw [h_] <;> first | exact v1_0 | exact v1_1 | exact v1_2 | exact v1_3 | exact v1_4 | exact v1_5 | exact v1_6 | exact v1_7 | exact v1_8 | exact v1_9 | exact v1_10 | exact v1_11 | exact v1_12 | exact v1_13
               have p66 : 0 ≤ (a3 : Int) := od (by first | (with_reducible assumption) | assumption)
               have q66 : a3 < (14 : Int) := od (by first | (with_reducible assumption) | assumption)
               replace p66 := eq_true p66
               replace q66 := eq_true q66
               have p28 : 0 ≤ (x11_2 : Int) := od (by first | (with_reducible assumption) | assumption)
               have q28 : (x11_2 : Int) < ((x10_2.length : Int) : Int) := od (by first | (with_reducible assumption) | assumption)
               obtain ⟨go28, co28, eo28, gb28, gl28, cl28, HG28⟩ := Kd.R_form HO_10.out (by omega)
               (first | cases eo28 | (injection eo28 with ea_ en_ ec_; (first | subst ea_ | (injection ea_ with ea_; subst ea_)); subst ec_; clear en_))
               have GB28 := zc.mk gb28
               have GG28 := zc.mk HG28
               clear gb28 gl28 HG28
               obtain ⟨ce28, hcl28, hM28, hcc28, hfr28⟩ := Kd.R_elem HO_10.out z54 (x11_2 : Int) p28 q28
               obtain rfl := zw hM28
               obtain ⟨u2_0, u2_1, u2_2, u2_3, u2_4, u2_5, u2_6, u2_7, u2_8, u2_9, u2_10, u2_11, u2_12, u2_13, u2_14, u2_15, u2_16, u2_17, u2_18, u2_19⟩ := rx20 (g := go28) (b := (x11_2 : Int).toNat * 20) hcc28
               obtain ⟨t1_0, t1_1, t1_2, t1_3, t1_4, t1_5, t1_6, t1_7, t1_8, t1_9, t1_10, t1_11, t1_12, t1_13, t1_14, t1_15, t1_16, t1_17, t1_18, t1_19⟩ := rf20 (g := go28) (b := (x11_2 : Int).toNat * 20) hfr28
               clear hcl28 hcc28 hfr28 hM28
               replace p28 := eq_true p28
               replace q28 := eq_true q28
               have u15_0 := ztb (a := fun z_ : Int => ⟨go28, (x11_2 : Int).toNat * 20 + z_.toNat, none⟩) (j := a2) (od (by first | (with_reducible assumption) | assumption)) (od (by first | (with_reducible assumption) | assumption)) u2_0 u2_1 u2_2 u2_3 u2_4 u2_5 u2_6 u2_7 u2_8 u2_9 u2_10 u2_11 u2_12 u2_13
               (try dsimp only at u15_0)
               have t11_0 := zhc (a := fun z_ : Int => ⟨go28, (x11_2 : Int).toNat * 20 + z_.toNat, none⟩) (j := a2) (od (by first | (with_reducible assumption) | assumption)) (od (by first | (with_reducible assumption) | assumption)) t1_0 t1_1 t1_2 t1_3 t1_4 t1_5 t1_6 t1_7 t1_8 t1_9 t1_10 t1_11 t1_12 t1_13
               (try dsimp only at t11_0)
               have p67 : 0 ≤ (a2 : Int) := od (by first | (with_reducible assumption) | assumption)
               have q67 : a2 < (14 : Int) := od (by first | (with_reducible assumption) | assumption)
               replace p67 := eq_true p67
               replace q67 := eq_true q67
               obtain ⟨ce68, hcl68, hM68, hcc68, hfr68⟩ := Kd.R_elem HO_10.out z54 (x11_2 : Int) (od (by first | (with_reducible assumption) | assumption)) (by have h_ : (x11_2 : Int) < ((x10_2.length : Int) : Int) := od (by first | (with_reducible assumption) | assumption); first | exact h_ | (have e_ := (Kd.R_reads' HO_10.out).1; omega) | simpa using h_)
               obtain rfl := zw hM68
               have HP68 := (Kd.R_seg HO_10.out (x11_2 : Int) (od (by first | (with_reducible assumption) | assumption)) (by have h_ : (x11_2 : Int) < ((x10_2.length : Int) : Int) := od (by first | (with_reducible assumption) | assumption); first | exact h_ | (have e_ := (Kd.R_reads' HO_10.out).1; omega) | simpa using h_) (seg := [.int .i8 (rdP (za l1 x11_2) a3)]) (j := (a2).toNat) hcl68 hcc68 (show (a2).toNat + 1 ≤ 20 from by have hp_ : 0 ≤ (a2 : Int) := od (by first | (with_reducible assumption) | assumption); have hq_ : a2 < (14 : Int) := od (by first | (with_reducible assumption) | assumption); omega) (x' := (stP (za x10_2 x11_2) a2 (rdP (za l1 x11_2) a3) : S54)) (by rcases (is14 (j := a2) (od (by first | (with_reducible assumption) | assumption)) (od (by first | (with_reducible assumption) | assumption))) with h_ | h_ | h_ | h_ | h_ | h_ | h_ | h_ | h_ | h_ | h_ | h_ | h_ | h_ <;> rw [h_] <;> first | exact zea _ _ _ _ | (have e_ := Nbq32.out; unfold za at e_; rw [← e_]; exact zea _ _ _ _)) (fun _ hk => hk)).1
               rw [← Ny280.out] at HP68
               have HQ68 := zc.mk HP68
               clear hcl68 hcc68 hfr68 hM68 HP68
               refine zjb (n := 14) (S := fun w' => EA w' (ad277.add ((x11_2).toNat * 20)) (za l1 x11_2) ((za l1 x11_2).f2.f1) ((za l1 x11_2).f3) (w'.cell? ((ad277.add ((x11_2).toNat * 20)).add (a3).toNat) = some (.int .i8 (rdP (za l1 x11_2) a3)))) (ds := [13]) (fm 14 0) (by kernel_rfl) rfl rfl ⟨(bc HB.out v1_0), (bc HB.out v1_1), (bc HB.out v1_2), (bc HB.out v1_3), (bc HB.out v1_4), (bc HB.out v1_5), (bc HB.out v1_6), (bc HB.out v1_7), (bc HB.out v1_8), (bc HB.out v1_9), (bc HB.out v1_10), (bc HB.out v1_11), (bc HB.out v1_12), (bc HB.out v1_13), (bc HB.out v1_14), (bc HB.out v1_15), (bc HB.out v1_16), (bc HB.out v1_17), (by first | exact (bc HB.out v1_18) | (have h_ := (bc HB.out v1_18); rw [← Nbq32.out] at h_; exact h_)), (by first | exact (bc HB.out v1_19) | (have h_ := (bc HB.out v1_19); rw [← Nbq32.out] at h_; exact h_)), (bc HB.out v7_0)⟩ (fun hHeld => ?_); refine zsa spec_SwapInPlan.tab9 spec_SwapInPlan.bits9 (fun HT_ HW_ => ?_)
               generalize wr.drew = w65 at HO_10 BK261 HB GG28 HQ68 t1_0 t1_1 t1_10 t1_11 t1_12 t1_13 t1_14 t1_15 t1_16 t1_17 t1_18 t1_19 t1_2 t1_3 t1_4 t1_5 t1_6 t1_7 t1_8 t1_9 t11_0 u1_0 u1_1 u1_10 u1_11 u1_12 u1_13 u1_14 u1_15 u1_16 u1_17 u1_18 u1_19 u1_2 u1_3 u1_4 u1_5 u1_6 u1_7 u1_8 u1_9 u2_0 u2_1 u2_10 u2_11 u2_12 u2_13 u2_14 u2_15 u2_16 u2_17 u2_18 u2_19 u2_2 u2_3 u2_4 u2_5 u2_6 u2_7 u2_8 u2_9 u15_0 hHeld ⊢
               refine pb 0 43 (fm 14 1) rfl rfl HT_.out (by kernel_rfl) pq (by rfl) (by intro w'; go_simp; with_reducible rfl) (by simp only [Act.put, ea, eb, ec, zm, zl]; rfl) ?_
               refine pb 1 44 (fm 14 2) rfl rfl HT_.out (by kernel_rfl) pq (by rfl) (by intro w'; go_simp; with_reducible rfl) (by simp only [Act.put, ea, eb, ec, zm, zl]; rfl) ?_
               refine pb 2 45 (fm 14 3) rfl rfl HT_.out (by kernel_rfl) pq (by rfl) (by intro w'; go_simp; with_reducible rfl) (by simp only [Act.put, ea, eb, ec, zm, zl]; rfl) ?_
               refine pb 3 46 (fm 14 4) rfl rfl HT_.out (by kernel_rfl) pq (by rfl) (by intro w'; go_simp; with_reducible rfl) (by simp only [Act.put, ea, eb, ec, zm, zl]; rfl) ?_
               refine pb 4 47 (fm 14 5) rfl rfl HT_.out (by kernel_rfl) pq (by rfl) (by intro w'; go_simp; with_reducible rfl) (by simp only [Act.put, ea, eb, ec, zm, zl]; rfl) ?_
               refine pb 5 48 (fm 14 6) rfl rfl HT_.out (by kernel_rfl) pq (by rfl) (by intro w'; go_simp; with_reducible rfl) (by simp only [Act.put, ea, eb, ec, zm, zl]; rfl) ?_
               refine pb 6 49 (fm 14 7) rfl rfl HT_.out (by kernel_rfl) pq (by rfl) (by intro w'; go_simp; with_reducible rfl) (by simp only [Act.put, ea, eb, ec, zm, zl]; rfl) ?_
               refine pb 7 50 (fm 14 8) rfl rfl HT_.out (by kernel_rfl) pq (by rfl) (by intro w'; go_simp; with_reducible rfl) (by simp only [Act.put, ea, eb, ec, zm, zl]; rfl) ?_
               refine pb 8 51 (fm 14 9) rfl rfl HT_.out (by kernel_rfl) pq (by rfl) (by intro w'; go_simp; with_reducible rfl) (by simp only [Act.put, ea, eb, ec, zm, zl]; rfl) ?_
               refine pb 10 53 #[T, T, T, T, T, T, T, T, T, F, T, F, F, F] rfl rfl HT_.out (by kernel_rfl) pq (by rfl) (by intro w'; go_simp; with_reducible rfl) (by simp only [Act.put, ea, eb, ec, zm, zl]; rfl) ?_
               refine pb 11 54 #[T, T, T, T, T, T, T, T, T, F, T, T, F, F] rfl rfl HT_.out (by kernel_rfl) pq (by rfl) (by intro w'; go_simp; with_reducible rfl) (by simp only [Act.put, ea, eb, ec, zm, zl]; rfl) ?_
               refine take_ (i := 9) (N := some 52) (v := ?_) (a' := ?_) (fm 14 12) rfl rfl (zca HT_.out HW_.out (by kernel_rfl)) (fun _ _ _ h => h) (Or.inl ⟨by rfl, ?_⟩) hHeld ?_ ?_
               rotate_left
               ·rintro w' ⟨s0, s1, s2, s3, s4, s5, s6, s7, s8, s9, s10, s11, s12, s13, s14, s15, s16, s17, s18, s19, s20⟩
                go_simp
                with_reducible rfl
               rotate_left
               ·simp only [Act.put, List.setIfInBounds_toArray, List.set_cons_zero, List.set_cons_succ, zm, zl]
                rfl
               refine pb 12 55 (fm 14 13) rfl rfl HT_.out (by kernel_rfl) pq (by rfl) (by intro w'; go_simp; with_reducible rfl) (by simp only [Act.put, ea, eb, ec, zm, zl]; rfl) ?_
               refine zjc (i := 13) (N := none) (fm 14 14) rfl rfl (zhb HT_.out (by kernel_rfl)) (by decide) (fun K hK => ?_)
               refine zic (w1 := ?_) (by rfl) rfl ?_ ?_
               rotate_left
               ·go_simp
                rfl
               refine hK.out _ _ ?_
               clear hK K
               refine zac (zab HT_.out (by kernel_rfl)) ?_
               try go_wp2
               have n0_ : zc (Kd.R k54 54 (w65.setCell ⟨go28, (x11_2 : Int).toNat * 20 + (a2).toNat, none⟩ (.int .i8 (rdP (za l1 x11_2) a3))) w.heap.size (fun _ => True) (.slice (some ⟨go28, 0, none⟩) x10_2.length co64) y280) := ⟨by (with_reducible repeat (first | apply Kd.R_alloc | apply Kd.R_drewN | apply Kd.R_drew)); exact HQ68.out⟩
               have n1_ : zc ((w65.setCell ⟨go28, (x11_2 : Int).toNat * 20 + (a2).toNat, none⟩ (.int .i8 (rdP (za l1 x11_2) a3))).heap[gb261]? = some (.cells #[.int .i8 a0_0, .int .i8 a0_1, .bool a0_2, .bool a0_3] 29 (0, 0))) := ⟨by (with_reducible repeat (first | refine zg ?_ _ | refine zi ?_ | refine zh ?_ _)); refine zma ?_ (by have h_ := Kd.R_ne HO_10.out BK261.out (by decide); intro e_; exact h_ (by rw [e_]; rfl)) _; (with_reducible repeat (first | refine zg ?_ _ | refine zi ?_ | refine zh ?_ _)); exact BK261.out⟩
               have n2_ : zc (Below w.heap.size w (w65.setCell ⟨go28, (x11_2 : Int).toNat * 20 + (a2).toNat, none⟩ (.int .i8 (rdP (za l1 x11_2) a3)))) := ⟨by repeat (first | (with_reducible first | exact HB.out | apply ze | apply zb | apply zd | refine zf ?_ GB28.out | refine zf ?_ GE261.out) | exact HB.out)⟩
               (try clear HO_10)
               (try clear BK261)
               (try clear HB)
               generalize (w65.setCell ⟨go28, (x11_2 : Int).toNat * 20 + (a2).toNat, none⟩ (.int .i8 (rdP (za l1 x11_2) a3))) = w69 at n0_ n1_ n2_ ⊢
               have HO_10 := n0_
               have BK261 := n1_
               have HB := n2_
               clear n0_ n1_ n2_
               have n0_ := zc.mk (Kd.R_drew HO_10.out)
               have n1_ := zc.mk (zi BK261.out)
               have n2_ := zc.mk (zd HB.out)
               clear HO_10
               clear BK261
               clear HB
               have HO_10 := n0_
               have BK261 := n1_
               have HB := n2_
               clear n0_ n1_ n2_
               have p281 : 0 ≤ (x11_2 : Int) := od (by first | (with_reducible assumption) | assumption)
               have q281 : x11_2 < (l1.length : Int) := od (by first | (with_reducible assumption) | assumption)
               obtain ⟨ad281, e281, u4_0, u4_1, u4_2, u4_3, u4_4, u4_5, u4_6, u4_7, u4_8, u4_9, u4_10, u4_11, u4_12, u4_13, u4_14, u4_15, u4_16, u4_17, u4_18, u4_19, v3_0, v3_1, v3_2, v3_3, v3_4, v3_5, v3_6, v3_7, v3_8, v3_9, v3_10, v3_11, v3_12, v3_13, v3_14, v3_15, v3_16, v3_17, v3_18, v3_19⟩ := zcb HB.out HR1.out x11_2 p281 q281
               (try rw [← Nbq32.out] at u4_18)
               (try rw [← Nbq32.out] at u4_19)
               obtain rfl : ad277 = ad281 := (by injection e281)
               replace p281 := eq_true p281
               replace q281 := eq_true q281
               have v8_0 : w.cell? ((ad277.add ((x11_2).toNat * 20)).add (a2).toNat) = some (.int .i8 (rdP (za l1 x11_2) a2)) := by rcases (is14 (j := a2) (od (by first | (with_reducible assumption) | assumption)) (od (by first | (with_reducible assumption) | assumption))) with h_ | h_ | h_ | h_ | h_ | h_ | h_ | h_ | h_ | h_ | h_ | h_ | h_ | h_ <;> rw [h_] <;> first | exact v3_0 | exact v3_1 | exact v3_2 | exact v3_3 | exact v3_4 | exact v3_5 | exact v3_6 | exact v3_7 | exact v3_8 | exact v3_9 | exact v3_10 | exact v3_11 | exact v3_12 | exact v3_13
               have p71 : 0 ≤ (a2 : Int) := od (by first | (with_reducible assumption) | assumption)
               have q71 : a2 < (14 : Int) := od (by first | (with_reducible assumption) | assumption)
               replace p71 := eq_true p71
               replace q71 := eq_true q71
               have p31 : 0 ≤ (x11_2 : Int) := od (by first | (with_reducible assumption) | assumption)
               have q31 : (x11_2 : Int) < ((x10_2.length : Int) : Int) := od (by first | (with_reducible assumption) | assumption)
               obtain ⟨ce31, hcl31, hM31, hcc31, hfr31⟩ := Kd.R_elem HO_10.out z54 (x11_2 : Int) p31 q31
               obtain rfl := zw hM31
               obtain ⟨u5_0, u5_1, u5_2, u5_3, u5_4, u5_5, u5_6, u5_7, u5_8, u5_9, u5_10, u5_11, u5_12, u5_13, u5_14, u5_15, u5_16, u5_17, u5_18, u5_19⟩ := rx20 (g := go28) (b := (x11_2 : Int).toNat * 20) hcc31
               obtain ⟨t3_0, t3_1, t3_2, t3_3, t3_4, t3_5, t3_6, t3_7, t3_8, t3_9, t3_10, t3_11, t3_12, t3_13, t3_14, t3_15, t3_16, t3_17, t3_18, t3_19⟩ := rf20 (g := go28) (b := (x11_2 : Int).toNat * 20) hfr31
               clear hcl31 hcc31 hfr31 hM31
               replace p31 := eq_true p31
               replace q31 := eq_true q31
               have u16_0 := ztb (a := fun z_ : Int => ⟨go28, (x11_2 : Int).toNat * 20 + z_.toNat, none⟩) (j := a3) (od (by first | (with_reducible assumption) | assumption)) (od (by first | (with_reducible assumption) | assumption)) u5_0 u5_1 u5_2 u5_3 u5_4 u5_5 u5_6 u5_7 u5_8 u5_9 u5_10 u5_11 u5_12 u5_13
               (try dsimp only at u16_0)
               have t12_0 := zhc (a := fun z_ : Int => ⟨go28, (x11_2 : Int).toNat * 20 + z_.toNat, none⟩) (j := a3) (od (by first | (with_reducible assumption) | assumption)) (od (by first | (with_reducible assumption) | assumption)) t3_0 t3_1 t3_2 t3_3 t3_4 t3_5 t3_6 t3_7 t3_8 t3_9 t3_10 t3_11 t3_12 t3_13
               (try dsimp only at t12_0)
               have p72 : 0 ≤ (a3 : Int) := od (by first | (with_reducible assumption) | assumption)
               have q72 : a3 < (14 : Int) := od (by first | (with_reducible assumption) | assumption)
               replace p72 := eq_true p72
               replace q72 := eq_true q72
               obtain ⟨ce73, hcl73, hM73, hcc73, hfr73⟩ := Kd.R_elem HO_10.out z54 (x11_2 : Int) (od (by first | (with_reducible assumption) | assumption)) (by have h_ : (x11_2 : Int) < ((x10_2.length : Int) : Int) := od (by first | (with_reducible assumption) | assumption); first | exact h_ | (have e_ := (Kd.R_reads' HO_10.out).1; omega) | simpa using h_)
               obtain rfl := zw hM73
               have HP73 := (Kd.R_seg HO_10.out (x11_2 : Int) (od (by first | (with_reducible assumption) | assumption)) (by have h_ : (x11_2 : Int) < ((x10_2.length : Int) : Int) := od (by first | (with_reducible assumption) | assumption); first | exact h_ | (have e_ := (Kd.R_reads' HO_10.out).1; omega) | simpa using h_) (seg := [.int .i8 (rdP (za l1 x11_2) a2)]) (j := (a3).toNat) hcl73 hcc73 (show (a3).toNat + 1 ≤ 20 from by have hp_ : 0 ≤ (a3 : Int) := od (by first | (with_reducible assumption) | assumption); have hq_ : a3 < (14 : Int) := od (by first | (with_reducible assumption) | assumption); omega) (x' := (stP (za y280 x11_2) a3 (rdP (za l1 x11_2) a2) : S54)) (by rcases (is14 (j := a3) (od (by first | (with_reducible assumption) | assumption)) (od (by first | (with_reducible assumption) | assumption))) with h_ | h_ | h_ | h_ | h_ | h_ | h_ | h_ | h_ | h_ | h_ | h_ | h_ | h_ <;> rw [h_] <;> first | exact zea _ _ _ _ | (have e_ := Nbq32.out; unfold za at e_; rw [← e_]; exact zea _ _ _ _)) (fun _ hk => hk)).1
               rw [← Ny284.out] at HP73
               have HQ73 := zc.mk HP73
               clear hcl73 hcc73 hfr73 hM73 HP73
               refine zjb (n := 14) (S := fun w' => EA w' (ad277.add ((x11_2).toNat * 20)) (za l1 x11_2) ((za l1 x11_2).f2.f1) ((za l1 x11_2).f3) (w'.cell? ((ad277.add ((x11_2).toNat * 20)).add (a2).toNat) = some (.int .i8 (rdP (za l1 x11_2) a2)))) (ds := [13]) (fm 14 0) (by kernel_rfl) rfl rfl ⟨(bc HB.out v3_0), (bc HB.out v3_1), (bc HB.out v3_2), (bc HB.out v3_3), (bc HB.out v3_4), (bc HB.out v3_5), (bc HB.out v3_6), (bc HB.out v3_7), (bc HB.out v3_8), (bc HB.out v3_9), (bc HB.out v3_10), (bc HB.out v3_11), (bc HB.out v3_12), (bc HB.out v3_13), (bc HB.out v3_14), (bc HB.out v3_15), (bc HB.out v3_16), (bc HB.out v3_17), (by first | exact (bc HB.out v3_18) | (have h_ := (bc HB.out v3_18); rw [← Nbq32.out] at h_; exact h_)), (by first | exact (bc HB.out v3_19) | (have h_ := (bc HB.out v3_19); rw [← Nbq32.out] at h_; exact h_)), (bc HB.out v8_0)⟩ (fun hHeld => ?_); refine zsa spec_SwapInPlan.tab10 spec_SwapInPlan.bits10 (fun HT_ HW_ => ?_)
               generalize w69.drew = w70 at HO_10 BK261 HB HQ68 HQ73 t3_0 t3_1 t3_10 t3_11 t3_12 t3_13 t3_14 t3_15 t3_16 t3_17 t3_18 t3_19 t3_2 t3_3 t3_4 t3_5 t3_6 t3_7 t3_8 t3_9 t12_0 u4_0 u4_1 u4_10 u4_11 u4_12 u4_13 u4_14 u4_15 u4_16 u4_17 u4_18 u4_19 u4_2 u4_3 u4_4 u4_5 u4_6 u4_7 u4_8 u4_9 u5_0 u5_1 u5_10 u5_11 u5_12 u5_13 u5_14 u5_15 u5_16 u5_17 u5_18 u5_19 u5_2 u5_3 u5_4 u5_5 u5_6 u5_7 u5_8 u5_9 u16_0 hHeld ⊢
               refine pb 0 56 (fm 14 1) rfl rfl HT_.out (by kernel_rfl) pq (by rfl) (by intro w'; go_simp; with_reducible rfl) (by simp only [Act.put, ea, eb, ec, zm, zl]; rfl) ?_
               refine pb 1 57 (fm 14 2) rfl rfl HT_.out (by kernel_rfl) pq (by rfl) (by intro w'; go_simp; with_reducible rfl) (by simp only [Act.put, ea, eb, ec, zm, zl]; rfl) ?_
               refine pb 2 58 (fm 14 3) rfl rfl HT_.out (by kernel_rfl) pq (by rfl) (by intro w'; go_simp; with_reducible rfl) (by simp only [Act.put, ea, eb, ec, zm, zl]; rfl) ?_
               refine pb 3 59 (fm 14 4) rfl rfl HT_.out (by kernel_rfl) pq (by rfl) (by intro w'; go_simp; with_reducible rfl) (by simp only [Act.put, ea, eb, ec, zm, zl]; rfl) ?_
               refine pb 4 60 (fm 14 5) rfl rfl HT_.out (by kernel_rfl) pq (by rfl) (by intro w'; go_simp; with_reducible rfl) (by simp only [Act.put, ea, eb, ec, zm, zl]; rfl) ?_
               refine pb 5 61 (fm 14 6) rfl rfl HT_.out (by kernel_rfl) pq (by rfl) (by intro w'; go_simp; with_reducible rfl) (by simp only [Act.put, ea, eb, ec, zm, zl]; rfl) ?_
               refine pb 6 62 (fm 14 7) rfl rfl HT_.out (by kernel_rfl) pq (by rfl) (by intro w'; go_simp; with_reducible rfl) (by simp only [Act.put, ea, eb, ec, zm, zl]; rfl) ?_
               refine pb 7 63 (fm 14 8) rfl rfl HT_.out (by kernel_rfl) pq (by rfl) (by intro w'; go_simp; with_reducible rfl) (by simp only [Act.put, ea, eb, ec, zm, zl]; rfl) ?_
               refine pb 8 64 (fm 14 9) rfl rfl HT_.out (by kernel_rfl) pq (by rfl) (by intro w'; go_simp; with_reducible rfl) (by simp only [Act.put, ea, eb, ec, zm, zl]; rfl) ?_
               refine pb 10 66 #[T, T, T, T, T, T, T, T, T, F, T, F, F, F] rfl rfl HT_.out (by kernel_rfl) pq (by rfl) (by intro w'; go_simp; with_reducible rfl) (by simp only [Act.put, ea, eb, ec, zm, zl]; rfl) ?_
               refine pb 11 67 #[T, T, T, T, T, T, T, T, T, F, T, T, F, F] rfl rfl HT_.out (by kernel_rfl) pq (by rfl) (by intro w'; go_simp; with_reducible rfl) (by simp only [Act.put, ea, eb, ec, zm, zl]; rfl) ?_
               refine take_ (i := 9) (N := some 65) (v := ?_) (a' := ?_) (fm 14 12) rfl rfl (zca HT_.out HW_.out (by kernel_rfl)) (fun _ _ _ h => h) (Or.inl ⟨by rfl, ?_⟩) hHeld ?_ ?_
               rotate_left
               ·rintro w' ⟨s0, s1, s2, s3, s4, s5, s6, s7, s8, s9, s10, s11, s12, s13, s14, s15, s16, s17, s18, s19, s20⟩
                go_simp
                with_reducible rfl
               rotate_left
               ·simp only [Act.put, List.setIfInBounds_toArray, List.set_cons_zero, List.set_cons_succ, zm, zl]
                rfl
               refine pb 12 68 (fm 14 13) rfl rfl HT_.out (by kernel_rfl) pq (by rfl) (by intro w'; go_simp; with_reducible rfl) (by simp only [Act.put, ea, eb, ec, zm, zl]; rfl) ?_
               refine zjc (i := 13) (N := none) (fm 14 14) rfl rfl (zhb HT_.out (by kernel_rfl)) (by decide) (fun K hK => ?_)
               refine zic (w1 := ?_) (by rfl) rfl ?_ ?_
               rotate_left
               ·go_simp
                rfl
               refine hK.out _ _ ?_
               clear hK K
               refine zac (zab HT_.out (by kernel_rfl)) ?_
               have n0_ : zc (Kd.R k54 54 (w70.setCell ⟨go28, (x11_2 : Int).toNat * 20 + (a3).toNat, none⟩ (.int .i8 (rdP (za l1 x11_2) a2))) w.heap.size (fun _ => True) (.slice (some ⟨go28, 0, none⟩) x10_2.length _) y284) := ⟨by (with_reducible repeat (first | apply Kd.R_alloc | apply Kd.R_drewN | apply Kd.R_drew)); exact HQ73.out⟩
               have n1_ : zc ((w70.setCell ⟨go28, (x11_2 : Int).toNat * 20 + (a3).toNat, none⟩ (.int .i8 (rdP (za l1 x11_2) a2))).heap[gb261]? = some (.cells #[.int .i8 a0_0, .int .i8 a0_1, .bool a0_2, .bool a0_3] 29 (0, 0))) := ⟨by (with_reducible repeat (first | refine zg ?_ _ | refine zi ?_ | refine zh ?_ _)); refine zma ?_ (by have h_ := Kd.R_ne HO_10.out BK261.out (by decide); intro e_; exact h_ (by rw [e_]; rfl)) _; (with_reducible repeat (first | refine zg ?_ _ | refine zi ?_ | refine zh ?_ _)); exact BK261.out⟩
               have n2_ : zc (Below w.heap.size w (w70.setCell ⟨go28, (x11_2 : Int).toNat * 20 + (a3).toNat, none⟩ (.int .i8 (rdP (za l1 x11_2) a2)))) := ⟨by repeat (first | (with_reducible first | exact HB.out | apply ze | apply zb | apply zd | refine zf ?_ GB28.out | refine zf ?_ GE261.out) | exact HB.out)⟩
               (try clear HO_10)
               (try clear BK261)
               (try clear HB)
               generalize (w70.setCell ⟨go28, (x11_2 : Int).toNat * 20 + (a3).toNat, none⟩ (.int .i8 (rdP (za l1 x11_2) a2))) = w70z at n0_ n1_ n2_ ⊢
               have HO_10 := n0_
               have BK261 := n1_
               have HB := n2_
               clear n0_ n1_ n2_
               have p285 : 0 ≤ (x11_2 : Int) := od (by first | (with_reducible assumption) | assumption)
               have q285 : x11_2 < (y284.length : Int) := (by have h_ : (x11_2 : Int) < ((x10_2.length : Int) : Int) := od (by first | (with_reducible assumption) | assumption); first | (have e_ := (Kd.R_reads' HO_10.out).1; omega) | simpa only [Ny280.out, Ny284.out, List.length_set] using h_)
               have ql285 : ((x11_2 : Int) < ((x10_2.length : Int) : Int)) = True := eq_true (od (by first | (with_reducible assumption) | assumption))
               obtain ⟨ad285, e285, u7_0, u7_1, u7_2, u7_3, u7_4, u7_5, u7_6, u7_7, u7_8, u7_9, u7_10, u7_11, u7_12, u7_13, u7_14, u7_15, u7_16, u7_17, u7_18, u7_19⟩ := zta (Kd.R_reads' HO_10.out).2.2 x11_2 p285 q285
               (try rw [← Nbq32.out] at u7_18)
               (try rw [← Nbq32.out] at u7_19)
               obtain rfl : (⟨go28, 0, none⟩ : Addr) = ad285 := (by injection e285)
               (first | simp only [zha] at u7_0 u7_1 u7_2 u7_3 u7_4 u7_5 u7_6 u7_7 u7_8 u7_9 u7_10 u7_11 u7_12 u7_13 u7_14 u7_15 u7_16 u7_17 u7_18 u7_19 | simp only [zrb] at u7_0 u7_1 u7_2 u7_3 u7_4 u7_5 u7_6 u7_7 u7_8 u7_9 u7_10 u7_11 u7_12 u7_13 u7_14 u7_15 u7_16 u7_17 u7_18 u7_19 | simp only [Addr.add, Nat.zero_add] at u7_0 u7_1 u7_2 u7_3 u7_4 u7_5 u7_6 u7_7 u7_8 u7_9 u7_10 u7_11 u7_12 u7_13 u7_14 u7_15 u7_16 u7_17 u7_18 u7_19 | skip)
               replace p285 := eq_true p285
               replace q285 := eq_true q285
               have p286 : 0 ≤ (x11_2 : Int) := od (by first | (with_reducible assumption) | assumption)
               have q286 : x11_2 < (l1.length : Int) := od (by first | (with_reducible assumption) | assumption)
               obtain ⟨ad286, e286, u8_0, u8_1, u8_2, u8_3, u8_4, u8_5, u8_6, u8_7, u8_8, u8_9, u8_10, u8_11, u8_12, u8_13, u8_14, u8_15, u8_16, u8_17, u8_18, u8_19⟩ := zta HR1.out x11_2 p286 q286
               (try rw [← Nbq32.out] at u8_18)
               (try rw [← Nbq32.out] at u8_19)
               obtain rfl : ad277 = ad286 := (by injection e286)
               have hn286_0 : ad277.block ≠ go28 := Nat.ne_of_lt (Nat.lt_of_lt_of_le (by have := World.block_lt_of_cell? _ _ u8_0; first | rwa [add_block] at this | exact this) GB28.out)
               replace u8_0 := bc HB.out u8_0
               replace u8_1 := bc HB.out u8_1
               replace u8_2 := bc HB.out u8_2
               replace u8_3 := bc HB.out u8_3
               replace u8_4 := bc HB.out u8_4
               replace u8_5 := bc HB.out u8_5
               replace u8_6 := bc HB.out u8_6
               replace u8_7 := bc HB.out u8_7
               replace u8_8 := bc HB.out u8_8
               replace u8_9 := bc HB.out u8_9
               replace u8_10 := bc HB.out u8_10
               replace u8_11 := bc HB.out u8_11
               replace u8_12 := bc HB.out u8_12
               replace u8_13 := bc HB.out u8_13
               replace u8_14 := bc HB.out u8_14
               replace u8_15 := bc HB.out u8_15
               replace u8_16 := bc HB.out u8_16
               replace u8_17 := bc HB.out u8_17
               replace u8_18 := bc HB.out u8_18
               replace u8_19 := bc HB.out u8_19
               clear hn286_0
               replace p286 := eq_true p286
               replace q286 := eq_true q286
               try go_wp2
               go_roundg k2
               case measure => have := HJ6.out; have := HK2.out; omega
               case rel => exact ⟨(y284), (wrap64 (x11_2 + 1)), (by first | rfl | (simp; done) | (simp [*]; done)), H', ⟨by have := HJ6.out; have := HK2.out; omega⟩, ⟨by (with_reducible repeat (first | apply Kd.R_alloc | apply Kd.R_drewN | apply Kd.R_drew)); exact HO_10.out⟩, ⟨by (with_reducible repeat (first | refine zg ?_ _ | refine zi ?_ | refine zh ?_ _)); exact BK261.out⟩, ⟨by repeat (first | (with_reducible first | exact HB.out | apply ze | apply zb | apply zd | refine zf ?_ GB28.out | refine zf ?_ GE261.out) | exact HB.out)⟩⟩
              replace c33 := Bool.eq_false_iff.mpr c33
              subst c33
              have H1 : (spec_SwapInPlan.l0 k2 l1 a2 a3 y284 (wrap64 (x11_2 + 1))) = some (r1, r2) := by rw [if_neg (show ¬ (false = true) by decide)] at H; exact H
              clear H
              have H := H1
              clear H1
              have H' := zc.mk H
              clear H
              obtain ⟨Ao74, co74, eo74⟩ := Kd.R_slice HO_10.out
              subst eo74
              try go_wp2
              have n0_ := zc.mk (Kd.R_drew HO_10.out)
              have n1_ := zc.mk (zi BK261.out)
              have n2_ := zc.mk (zd HB.out)
              clear HO_10
              clear BK261
              clear HB
              have HO_10 := n0_
              have BK261 := n1_
              have HB := n2_
              clear n0_ n1_ n2_
              have p277 : 0 ≤ (x11_2 : Int) := od (by first | (with_reducible assumption) | assumption)
              have q277 : x11_2 < (l1.length : Int) := od (by first | (with_reducible assumption) | assumption)
              obtain ⟨ad277, e277, u1_0, u1_1, u1_2, u1_3, u1_4, u1_5, u1_6, u1_7, u1_8, u1_9, u1_10, u1_11, u1_12, u1_13, u1_14, u1_15, u1_16, u1_17, u1_18, u1_19, v1_0, v1_1, v1_2, v1_3, v1_4, v1_5, v1_6, v1_7, v1_8, v1_9, v1_10, v1_11, v1_12, v1_13, v1_14, v1_15, v1_16, v1_17, v1_18, v1_19⟩ := zcb HB.out HR1.out x11_2 p277 q277
              (try rw [← Nbq32.out] at u1_18)
              (try rw [← Nbq32.out] at u1_19)
              cases e277
              replace p277 := eq_true p277
              replace q277 := eq_true q277
              have v9_0 : w.cell? ((ad277.add ((x11_2).toNat * 20)).add (a3).toNat) = some (.int .i8 (rdP (za l1 x11_2) a3)) := by rcases (is14 (j := a3) (od (by first | (with_reducible assumption) | assumption)) (od (by first | (with_reducible assumption) | assumption))) with h_ | h_ | h_ | h_ | h_ | h_ | h_ | h_ | h_ | h_ | h_ | h_ | h_ | h_ <;> rw [h_] <;> first | exact v1_0 | exact v1_1 | exact v1_2 | exact v1_3 | exact v1_4 | exact v1_5 | exact v1_6 | exact v1_7 | exact v1_8 | exact v1_9 | exact v1_10 | exact v1_11 | exact v1_12 | exact v1_13
              have p76 : 0 ≤ (a3 : Int) := od (by first | (with_reducible assumption) | assumption)
              have q76 : a3 < (14 : Int) := od (by first | (with_reducible assumption) | assumption)
              replace p76 := eq_true p76
              replace q76 := eq_true q76
              have p28 : 0 ≤ (x11_2 : Int) := od (by first | (with_reducible assumption) | assumption)
              have q28 : (x11_2 : Int) < ((x10_2.length : Int) : Int) := od (by first | (with_reducible assumption) | assumption)
              obtain ⟨go28, co28, eo28, gb28, gl28, cl28, HG28⟩ := Kd.R_form HO_10.out (by omega)
              (first | cases eo28 | (injection eo28 with ea_ en_ ec_; (first | subst ea_ | (injection ea_ with ea_; subst ea_)); subst ec_; clear en_))
              have GB28 := zc.mk gb28
              have GG28 := zc.mk HG28
              clear gb28 gl28 HG28
              obtain ⟨ce28, hcl28, hM28, hcc28, hfr28⟩ := Kd.R_elem HO_10.out z54 (x11_2 : Int) p28 q28
              obtain rfl := zw hM28
              obtain ⟨u2_0, u2_1, u2_2, u2_3, u2_4, u2_5, u2_6, u2_7, u2_8, u2_9, u2_10, u2_11, u2_12, u2_13, u2_14, u2_15, u2_16, u2_17, u2_18, u2_19⟩ := rx20 (g := go28) (b := (x11_2 : Int).toNat * 20) hcc28
              obtain ⟨t1_0, t1_1, t1_2, t1_3, t1_4, t1_5, t1_6, t1_7, t1_8, t1_9, t1_10, t1_11, t1_12, t1_13, t1_14, t1_15, t1_16, t1_17, t1_18, t1_19⟩ := rf20 (g := go28) (b := (x11_2 : Int).toNat * 20) hfr28
              clear hcl28 hcc28 hfr28 hM28
              replace p28 := eq_true p28
              replace q28 := eq_true q28
              have u17_0 := ztb (a := fun z_ : Int => ⟨go28, (x11_2 : Int).toNat * 20 + z_.toNat, none⟩) (j := a2) (od (by first | (with_reducible assumption) | assumption)) (od (by first | (with_reducible assumption) | assumption)) u2_0 u2_1 u2_2 u2_3 u2_4 u2_5 u2_6 u2_7 u2_8 u2_9 u2_10 u2_11 u2_12 u2_13
              (try dsimp only at u17_0)
              have t13_0 := zhc (a := fun z_ : Int => ⟨go28, (x11_2 : Int).toNat * 20 + z_.toNat, none⟩) (j := a2) (od (by first | (with_reducible assumption) | assumption)) (od (by first | (with_reducible assumption) | assumption)) t1_0 t1_1 t1_2 t1_3 t1_4 t1_5 t1_6 t1_7 t1_8 t1_9 t1_10 t1_11 t1_12 t1_13
              (try dsimp only at t13_0)
              have p77 : 0 ≤ (a2 : Int) := od (by first | (with_reducible assumption) | assumption)
              have q77 : a2 < (14 : Int) := od (by first | (with_reducible assumption) | assumption)
              replace p77 := eq_true p77
              replace q77 := eq_true q77
              obtain ⟨ce78, hcl78, hM78, hcc78, hfr78⟩ := Kd.R_elem HO_10.out z54 (x11_2 : Int) (od (by first | (with_reducible assumption) | assumption)) (by have h_ : (x11_2 : Int) < ((x10_2.length : Int) : Int) := od (by first | (with_reducible assumption) | assumption); first | exact h_ | (have e_ := (Kd.R_reads' HO_10.out).1; omega) | simpa using h_)
              obtain rfl := zw hM78
              have HP78 := (Kd.R_seg HO_10.out (x11_2 : Int) (od (by first | (with_reducible assumption) | assumption)) (by have h_ : (x11_2 : Int) < ((x10_2.length : Int) : Int) := od (by first | (with_reducible assumption) | assumption); first | exact h_ | (have e_ := (Kd.R_reads' HO_10.out).1; omega) | simpa using h_) (seg := [.int .i8 (rdP (za l1 x11_2) a3)]) (j := (a2).toNat) hcl78 hcc78 (show (a2).toNat + 1 ≤ 20 from by have hp_ : 0 ≤ (a2 : Int) := od (by first | (with_reducible assumption) | assumption); have hq_ : a2 < (14 : Int) := od (by first | (with_reducible assumption) | assumption); omega) (x' := (stP (za x10_2 x11_2) a2 (rdP (za l1 x11_2) a3) : S54)) (by rcases (is14 (j := a2) (od (by first | (with_reducible assumption) | assumption)) (od (by first | (with_reducible assumption) | assumption))) with h_ | h_ | h_ | h_ | h_ | h_ | h_ | h_ | h_ | h_ | h_ | h_ | h_ | h_ <;> rw [h_] <;> first | exact zea _ _ _ _ | (have e_ := Nbq32.out; unfold za at e_; rw [← e_]; exact zea _ _ _ _)) (fun _ hk => hk)).1
              rw [← Ny280.out] at HP78
              have HQ78 := zc.mk HP78
              clear hcl78 hcc78 hfr78 hM78 HP78
              refine zjb (n := 14) (S := fun w' => EA w' (ad277.add ((x11_2).toNat * 20)) (za l1 x11_2) ((za l1 x11_2).f2.f1) ((za l1 x11_2).f3) (w'.cell? ((ad277.add ((x11_2).toNat * 20)).add (a3).toNat) = some (.int .i8 (rdP (za l1 x11_2) a3)))) (ds := [13]) (fm 14 0) (by kernel_rfl) rfl rfl ⟨(bc HB.out v1_0), (bc HB.out v1_1), (bc HB.out v1_2), (bc HB.out v1_3), (bc HB.out v1_4), (bc HB.out v1_5), (bc HB.out v1_6), (bc HB.out v1_7), (bc HB.out v1_8), (bc HB.out v1_9), (bc HB.out v1_10), (bc HB.out v1_11), (bc HB.out v1_12), (bc HB.out v1_13), (bc HB.out v1_14), (bc HB.out v1_15), (bc HB.out v1_16), (bc HB.out v1_17), (by first | exact (bc HB.out v1_18) | (have h_ := (bc HB.out v1_18); rw [← Nbq32.out] at h_; exact h_)), (by first | exact (bc HB.out v1_19) | (have h_ := (bc HB.out v1_19); rw [← Nbq32.out] at h_; exact h_)), (bc HB.out v9_0)⟩ (fun hHeld => ?_); refine zsa spec_SwapInPlan.tab9 spec_SwapInPlan.bits9 (fun HT_ HW_ => ?_)
              generalize wr.drew = w75 at HO_10 BK261 HB GG28 HQ78 t1_0 t1_1 t1_10 t1_11 t1_12 t1_13 t1_14 t1_15 t1_16 t1_17 t1_18 t1_19 t1_2 t1_3 t1_4 t1_5 t1_6 t1_7 t1_8 t1_9 t13_0 u1_0 u1_1 u1_10 u1_11 u1_12 u1_13 u1_14 u1_15 u1_16 u1_17 u1_18 u1_19 u1_2 u1_3 u1_4 u1_5 u1_6 u1_7 u1_8 u1_9 u2_0 u2_1 u2_10 u2_11 u2_12 u2_13 u2_14 u2_15 u2_16 u2_17 u2_18 u2_19 u2_2 u2_3 u2_4 u2_5 u2_6 u2_7 u2_8 u2_9 u17_0 hHeld ⊢
              refine pb 0 43 (fm 14 1) rfl rfl HT_.out (by kernel_rfl) pq (by rfl) (by intro w'; go_simp; with_reducible rfl) (by simp only [Act.put, ea, eb, ec, zm, zl]; rfl) ?_
              refine pb 1 44 (fm 14 2) rfl rfl HT_.out (by kernel_rfl) pq (by rfl) (by intro w'; go_simp; with_reducible rfl) (by simp only [Act.put, ea, eb, ec, zm, zl]; rfl) ?_
              refine pb 2 45 (fm 14 3) rfl rfl HT_.out (by kernel_rfl) pq (by rfl) (by intro w'; go_simp; with_reducible rfl) (by simp only [Act.put, ea, eb, ec, zm, zl]; rfl) ?_
              refine pb 3 46 (fm 14 4) rfl rfl HT_.out (by kernel_rfl) pq (by rfl) (by intro w'; go_simp; with_reducible rfl) (by simp only [Act.put, ea, eb, ec, zm, zl]; rfl) ?_
              refine pb 4 47 (fm 14 5) rfl rfl HT_.out (by kernel_rfl) pq (by rfl) (by intro w'; go_simp; with_reducible rfl) (by simp only [Act.put, ea, eb, ec, zm, zl]; rfl) ?_
              refine pb 5 48 (fm 14 6) rfl rfl HT_.out (by kernel_rfl) pq (by rfl) (by intro w'; go_simp; with_reducible rfl) (by simp only [Act.put, ea, eb, ec, zm, zl]; rfl) ?_
              refine pb 6 49 (fm 14 7) rfl rfl HT_.out (by kernel_rfl) pq (by rfl) (by intro w'; go_simp; with_reducible rfl) (by simp only [Act.put, ea, eb, ec, zm, zl]; rfl) ?_
              refine pb 7 50 (fm 14 8) rfl rfl HT_.out (by kernel_rfl) pq (by rfl) (by intro w'; go_simp; with_reducible rfl) (by simp only [Act.put, ea, eb, ec, zm, zl]; rfl) ?_
              refine pb 8 51 (fm 14 9) rfl rfl HT_.out (by kernel_rfl) pq (by rfl) (by intro w'; go_simp; with_reducible rfl) (by simp only [Act.put, ea, eb, ec, zm, zl]; rfl) ?_
              refine pb 10 53 #[T, T, T, T, T, T, T, T, T, F, T, F, F, F] rfl rfl HT_.out (by kernel_rfl) pq (by rfl) (by intro w'; go_simp; with_reducible rfl) (by simp only [Act.put, ea, eb, ec, zm, zl]; rfl) ?_
              refine pb 11 54 #[T, T, T, T, T, T, T, T, T, F, T, T, F, F] rfl rfl HT_.out (by kernel_rfl) pq (by rfl) (by intro w'; go_simp; with_reducible rfl) (by simp only [Act.put, ea, eb, ec, zm, zl]; rfl) ?_
              refine take_ (i := 9) (N := some 52) (v := ?_) (a' := ?_) (fm 14 12) rfl rfl (zca HT_.out HW_.out (by kernel_rfl)) (fun _ _ _ h => h) (Or.inl ⟨by rfl, ?_⟩) hHeld ?_ ?_
              rotate_left
              ·rintro w' ⟨s0, s1, s2, s3, s4, s5, s6, s7, s8, s9, s10, s11, s12, s13, s14, s15, s16, s17, s18, s19, s20⟩
               go_simp
               with_reducible rfl
              rotate_left
              ·simp only [Act.put, List.setIfInBounds_toArray, List.set_cons_zero, List.set_cons_succ, zm, zl]
               rfl
              refine pb 12 55 (fm 14 13) rfl rfl HT_.out (by kernel_rfl) pq (by rfl) (by intro w'; go_simp; with_reducible rfl) (by simp only [Act.put, ea, eb, ec, zm, zl]; rfl) ?_
              refine zjc (i := 13) (N := none) (fm 14 14) rfl rfl (zhb HT_.out (by kernel_rfl)) (by decide) (fun K hK => ?_)
              refine zic (w1 := ?_) (by rfl) rfl ?_ ?_
              rotate_left
              ·go_simp
               rfl
              refine hK.out _ _ ?_
              clear hK K
              refine zac (zab HT_.out (by kernel_rfl)) ?_
              try go_wp2
              have n0_ : zc (Kd.R k54 54 (w75.setCell ⟨go28, (x11_2 : Int).toNat * 20 + (a2).toNat, none⟩ (.int .i8 (rdP (za l1 x11_2) a3))) w.heap.size (fun _ => True) (.slice (some ⟨go28, 0, none⟩) x10_2.length co74) y280) := ⟨by (with_reducible repeat (first | apply Kd.R_alloc | apply Kd.R_drewN | apply Kd.R_drew)); exact HQ78.out⟩
              have n1_ : zc ((w75.setCell ⟨go28, (x11_2 : Int).toNat * 20 + (a2).toNat, none⟩ (.int .i8 (rdP (za l1 x11_2) a3))).heap[gb261]? = some (.cells #[.int .i8 a0_0, .int .i8 a0_1, .bool a0_2, .bool a0_3] 29 (0, 0))) := ⟨by (with_reducible repeat (first | refine zg ?_ _ | refine zi ?_ | refine zh ?_ _)); refine zma ?_ (by have h_ := Kd.R_ne HO_10.out BK261.out (by decide); intro e_; exact h_ (by rw [e_]; rfl)) _; (with_reducible repeat (first | refine zg ?_ _ | refine zi ?_ | refine zh ?_ _)); exact BK261.out⟩
              have n2_ : zc (Below w.heap.size w (w75.setCell ⟨go28, (x11_2 : Int).toNat * 20 + (a2).toNat, none⟩ (.int .i8 (rdP (za l1 x11_2) a3)))) := ⟨by repeat (first | (with_reducible first | exact HB.out | apply ze | apply zb | apply zd | refine zf ?_ GB28.out | refine zf ?_ GE261.out) | exact HB.out)⟩
              (try clear HO_10)
              (try clear BK261)
              (try clear HB)
              generalize (w75.setCell ⟨go28, (x11_2 : Int).toNat * 20 + (a2).toNat, none⟩ (.int .i8 (rdP (za l1 x11_2) a3))) = w79 at n0_ n1_ n2_ ⊢
              have HO_10 := n0_
              have BK261 := n1_
              have HB := n2_
              clear n0_ n1_ n2_
              have n0_ := zc.mk (Kd.R_drew HO_10.out)
              have n1_ := zc.mk (zi BK261.out)
              have n2_ := zc.mk (zd HB.out)
              clear HO_10
              clear BK261
              clear HB
              have HO_10 := n0_
              have BK261 := n1_
              have HB := n2_
              clear n0_ n1_ n2_
              have p281 : 0 ≤ (x11_2 : Int) := od (by first | (with_reducible assumption) | assumption)
              have q281 : x11_2 < (l1.length : Int) := od (by first | (with_reducible assumption) | assumption)
              obtain ⟨ad281, e281, u4_0, u4_1, u4_2, u4_3, u4_4, u4_5, u4_6, u4_7, u4_8, u4_9, u4_10, u4_11, u4_12, u4_13, u4_14, u4_15, u4_16, u4_17, u4_18, u4_19, v3_0, v3_1, v3_2, v3_3, v3_4, v3_5, v3_6, v3_7, v3_8, v3_9, v3_10, v3_11, v3_12, v3_13, v3_14, v3_15, v3_16, v3_17, v3_18, v3_19⟩ := zcb HB.out HR1.out x11_2 p281 q281
              (try rw [← Nbq32.out] at u4_18)
              (try rw [← Nbq32.out] at u4_19)
              obtain rfl : ad277 = ad281 := (by injection e281)
              replace p281 := eq_true p281
              replace q281 := eq_true q281
              have v10_0 : w.cell? ((ad277.add ((x11_2).toNat * 20)).add (a2).toNat) = some (.int .i8 (rdP (za l1 x11_2) a2)) := by rcases (is14 (j := a2) (od (by first | (with_reducible assumption) | assumption)) (od (by first | (with_reducible assumption) | assumption))) with h_ | h_ | h_ | h_ | h_ | h_ | h_ | h_ | h_ | h_ | h_ | h_ | h_ | h_ <;> rw [h_] <;> first | exact v3_0 | exact v3_1 | exact v3_2 | exact v3_3 | exact v3_4 | exact v3_5 | exact v3_6 | exact v3_7 | exact v3_8 | exact v3_9 | exact v3_10 | exact v3_11 | exact v3_12 | exact v3_13
              have p81 : 0 ≤ (a2 : Int) := od (by first | (with_reducible assumption) | assumption)
              have q81 : a2 < (14 : Int) := od (by first | (with_reducible assumption) | assumption)
              replace p81 := eq_true p81
              replace q81 := eq_true q81
              have p31 : 0 ≤ (x11_2 : Int) := od (by first | (with_reducible assumption) | assumption)
              have q31 : (x11_2 : Int) < ((x10_2.length : Int) : Int) := od (by first | (with_reducible assumption) | assumption)
              obtain ⟨ce31, hcl31, hM31, hcc31, hfr31⟩ := Kd.R_elem HO_10.out z54 (x11_2 : Int) p31 q31
              obtain rfl := zw hM31
              obtain ⟨u5_0, u5_1, u5_2, u5_3, u5_4, u5_5, u5_6, u5_7, u5_8, u5_9, u5_10, u5_11, u5_12, u5_13, u5_14, u5_15, u5_16, u5_17, u5_18, u5_19⟩ := rx20 (g := go28) (b := (x11_2 : Int).toNat * 20) hcc31
              obtain ⟨t3_0, t3_1, t3_2, t3_3, t3_4, t3_5, t3_6, t3_7, t3_8, t3_9, t3_10, t3_11, t3_12, t3_13, t3_14, t3_15, t3_16, t3_17, t3_18, t3_19⟩ := rf20 (g := go28) (b := (x11_2 : Int).toNat * 20) hfr31
              clear hcl31 hcc31 hfr31 hM31
              replace p31 := eq_true p31
              replace q31 := eq_true q31
              have u18_0 := ztb (a := fun z_ : Int => ⟨go28, (x11_2 : Int).toNat * 20 + z_.toNat, none⟩) (j := a3) (od (by first | (with_reducible assumption) | assumption)) (od (by first | (with_reducible assumption) | assumption)) u5_0 u5_1 u5_2 u5_3 u5_4 u5_5 u5_6 u5_7 u5_8 u5_9 u5_10 u5_11 u5_12 u5_13
              (try dsimp only at u18_0)
              have t14_0 := zhc (a := fun z_ : Int => ⟨go28, (x11_2 : Int).toNat * 20 + z_.toNat, none⟩) (j := a3) (od (by first | (with_reducible assumption) | assumption)) (od (by first | (with_reducible assumption) | assumption)) t3_0 t3_1 t3_2 t3_3 t3_4 t3_5 t3_6 t3_7 t3_8 t3_9 t3_10 t3_11 t3_12 t3_13
              (try dsimp only at t14_0)
              have p82 : 0 ≤ (a3 : Int) := od (by first | (with_reducible assumption) | assumption)
              have q82 : a3 < (14 : Int) := od (by first | (with_reducible assumption) | assumption)
              replace p82 := eq_true p82
              replace q82 := eq_true q82
              obtain ⟨ce83, hcl83, hM83, hcc83, hfr83⟩ := Kd.R_elem HO_10.out z54 (x11_2 : Int) (od (by first | (with_reducible assumption) | assumption)) (by have h_ : (x11_2 : Int) < ((x10_2.length : Int) : Int) := od (by first | (with_reducible assumption) | assumption); first | exact h_ | (have e_ := (Kd.R_reads' HO_10.out).1; omega) | simpa using h_)
              obtain rfl := zw hM83
              have HP83 := (Kd.R_seg HO_10.out (x11_2 : Int) (od (by first | (with_reducible assumption) | assumption)) (by have h_ : (x11_2 : Int) < ((x10_2.length : Int) : Int) := od (by first | (with_reducible assumption) | assumption); first | exact h_ | (have e_ := (Kd.R_reads' HO_10.out).1; omega) | simpa using h_) (seg := [.int .i8 (rdP (za l1 x11_2) a2)]) (j := (a3).toNat) hcl83 hcc83 (show (a3).toNat + 1 ≤ 20 from by have hp_ : 0 ≤ (a3 : Int) := od (by first | (with_reducible assumption) | assumption); have hq_ : a3 < (14 : Int) := od (by first | (with_reducible assumption) | assumption); omega) (x' := (stP (za y280 x11_2) a3 (rdP (za l1 x11_2) a2) : S54)) (by rcases (is14 (j := a3) (od (by first | (with_reducible assumption) | assumption)) (od (by first | (with_reducible assumption) | assumption))) with h_ | h_ | h_ | h_ | h_ | h_ | h_ | h_ | h_ | h_ | h_ | h_ | h_ | h_ <;> rw [h_] <;> first | exact zea _ _ _ _ | (have e_ := Nbq32.out; unfold za at e_; rw [← e_]; exact zea _ _ _ _)) (fun _ hk => hk)).1
              rw [← Ny284.out] at HP83
              have HQ83 := zc.mk HP83
              clear hcl83 hcc83 hfr83 hM83 HP83
              refine zjb (n := 14) (S := fun w' => EA w' (ad277.add ((x11_2).toNat * 20)) (za l1 x11_2) ((za l1 x11_2).f2.f1) ((za l1 x11_2).f3) (w'.cell? ((ad277.add ((x11_2).toNat * 20)).add (a2).toNat) = some (.int .i8 (rdP (za l1 x11_2) a2)))) (ds := [13]) (fm 14 0) (by kernel_rfl) rfl rfl ⟨(bc HB.out v3_0), (bc HB.out v3_1), (bc HB.out v3_2), (bc HB.out v3_3), (bc HB.out v3_4), (bc HB.out v3_5), (bc HB.out v3_6), (bc HB.out v3_7), (bc HB.out v3_8), (bc HB.out v3_9), (bc HB.out v3_10), (bc HB.out v3_11), (bc HB.out v3_12), (bc HB.out v3_13), (bc HB.out v3_14), (bc HB.out v3_15), (bc HB.out v3_16), (bc HB.out v3_17), (by first | exact (bc HB.out v3_18) | (have h_ := (bc HB.out v3_18); rw [← Nbq32.out] at h_; exact h_)), (by first | exact (bc HB.out v3_19) | (have h_ := (bc HB.out v3_19); rw [← Nbq32.out] at h_; exact h_)), (bc HB.out v10_0)⟩ (fun hHeld => ?_); refine zsa spec_SwapInPlan.tab10 spec_SwapInPlan.bits10 (fun HT_ HW_ => ?_)
              generalize w79.drew = w80 at HO_10 BK261 HB HQ78 HQ83 t3_0 t3_1 t3_10 t3_11 t3_12 t3_13 t3_14 t3_15 t3_16 t3_17 t3_18 t3_19 t3_2 t3_3 t3_4 t3_5 t3_6 t3_7 t3_8 t3_9 t14_0 u4_0 u4_1 u4_10 u4_11 u4_12 u4_13 u4_14 u4_15 u4_16 u4_17 u4_18 u4_19 u4_2 u4_3 u4_4 u4_5 u4_6 u4_7 u4_8 u4_9 u5_0 u5_1 u5_10 u5_11 u5_12 u5_13 u5_14 u5_15 u5_16 u5_17 u5_18 u5_19 u5_2 u5_3 u5_4 u5_5 u5_6 u5_7 u5_8 u5_9 u18_0 hHeld ⊢
              refine pb 0 56 (fm 14 1) rfl rfl HT_.out (by kernel_rfl) pq (by rfl) (by intro w'; go_simp; with_reducible rfl) (by simp only [Act.put, ea, eb, ec, zm, zl]; rfl) ?_
              refine pb 1 57 (fm 14 2) rfl rfl HT_.out (by kernel_rfl) pq (by rfl) (by intro w'; go_simp; with_reducible rfl) (by simp only [Act.put, ea, eb, ec, zm, zl]; rfl) ?_
              refine pb 2 58 (fm 14 3) rfl rfl HT_.out (by kernel_rfl) pq (by rfl) (by intro w'; go_simp; with_reducible rfl) (by simp only [Act.put, ea, eb, ec, zm, zl]; rfl) ?_
              refine pb 3 59 (fm 14 4) rfl rfl HT_.out (by kernel_rfl) pq (by rfl) (by intro w'; go_simp; with_reducible rfl) (by simp only [Act.put, ea, eb, ec, zm, zl]; rfl) ?_
              refine pb 4 60 (fm 14 5) rfl rfl HT_.out (by kernel_rfl) pq (by rfl) (by intro w'; go_simp; with_reducible rfl) (by simp only [Act.put, ea, eb, ec, zm, zl]; rfl) ?_
              refine pb 5 61 (fm 14 6) rfl rfl HT_.out (by kernel_rfl) pq (by rfl) (by intro w'; go_simp; with_reducible rfl) (by simp only [Act.put, ea, eb, ec, zm, zl]; rfl) ?_
              refine pb 6 62 (fm 14 7) rfl rfl HT_.out (by kernel_rfl) pq (by rfl) (by intro w'; go_simp; with_reducible rfl) (by simp only [Act.put, ea, eb, ec, zm, zl]; rfl) ?_
              refine pb 7 63 (fm 14 8) rfl rfl HT_.out (by kernel_rfl) pq (by rfl) (by intro w'; go_simp; with_reducible rfl) (by simp only [Act.put, ea, eb, ec, zm, zl]; rfl) ?_
              refine pb 8 64 (fm 14 9) rfl rfl HT_.out (by kernel_rfl) pq (by rfl) (by intro w'; go_simp; with_reducible rfl) (by simp only [Act.put, ea, eb, ec, zm, zl]; rfl) ?_
              refine pb 10 66 #[T, T, T, T, T, T, T, T, T, F, T, F, F, F] rfl rfl HT_.out (by kernel_rfl) pq (by rfl) (by intro w'; go_simp; with_reducible rfl) (by simp only [Act.put, ea, eb, ec, zm, zl]; rfl) ?_
              refine pb 11 67 #[T, T, T, T, T, T, T, T, T, F, T, T, F, F] rfl rfl HT_.out (by kernel_rfl) pq (by rfl) (by intro w'; go_simp; with_reducible rfl) (by simp only [Act.put, ea, eb, ec, zm, zl]; rfl) ?_
              refine take_ (i := 9) (N := some 65) (v := ?_) (a' := ?_) (fm 14 12) rfl rfl (zca HT_.out HW_.out (by kernel_rfl)) (fun _ _ _ h => h) (Or.inl ⟨by rfl, ?_⟩) hHeld ?_ ?_
              rotate_left
              ·rintro w' ⟨s0, s1, s2, s3, s4, s5, s6, s7, s8, s9, s10, s11, s12, s13, s14, s15, s16, s17, s18, s19, s20⟩
               go_simp
               with_reducible rfl
              rotate_left
              ·simp only [Act.put, List.setIfInBounds_toArray, List.set_cons_zero, List.set_cons_succ, zm, zl]
               rfl
              refine pb 12 68 (fm 14 13) rfl rfl HT_.out (by kernel_rfl) pq (by rfl) (by intro w'; go_simp; with_reducible rfl) (by simp only [Act.put, ea, eb, ec, zm, zl]; rfl) ?_
              refine zjc (i := 13) (N := none) (fm 14 14) rfl rfl (zhb HT_.out (by kernel_rfl)) (by decide) (fun K hK => ?_)
              refine zic (w1 := ?_) (by rfl) rfl ?_ ?_
              rotate_left
              ·go_simp
               rfl
              refine hK.out _ _ ?_
              clear hK K
              refine zac (zab HT_.out (by kernel_rfl)) ?_
              have n0_ : zc (Kd.R k54 54 (w80.setCell ⟨go28, (x11_2 : Int).toNat * 20 + (a3).toNat, none⟩ (.int .i8 (rdP (za l1 x11_2) a2))) w.heap.size (fun _ => True) (.slice (some ⟨go28, 0, none⟩) x10_2.length _) y284) := ⟨by (with_reducible repeat (first | apply Kd.R_alloc | apply Kd.R_drewN | apply Kd.R_drew)); exact HQ83.out⟩
              have n1_ : zc ((w80.setCell ⟨go28, (x11_2 : Int).toNat * 20 + (a3).toNat, none⟩ (.int .i8 (rdP (za l1 x11_2) a2))).heap[gb261]? = some (.cells #[.int .i8 a0_0, .int .i8 a0_1, .bool a0_2, .bool a0_3] 29 (0, 0))) := ⟨by (with_reducible repeat (first | refine zg ?_ _ | refine zi ?_ | refine zh ?_ _)); refine zma ?_ (by have h_ := Kd.R_ne HO_10.out BK261.out (by decide); intro e_; exact h_ (by rw [e_]; rfl)) _; (with_reducible repeat (first | refine zg ?_ _ | refine zi ?_ | refine zh ?_ _)); exact BK261.out⟩
              have n2_ : zc (Below w.heap.size w (w80.setCell ⟨go28, (x11_2 : Int).toNat * 20 + (a3).toNat, none⟩ (.int .i8 (rdP (za l1 x11_2) a2)))) := ⟨by repeat (first | (with_reducible first | exact HB.out | apply ze | apply zb | apply zd | refine zf ?_ GB28.out | refine zf ?_ GE261.out) | exact HB.out)⟩
              (try clear HO_10)
              (try clear BK261)
              (try clear HB)
              generalize (w80.setCell ⟨go28, (x11_2 : Int).toNat * 20 + (a3).toNat, none⟩ (.int .i8 (rdP (za l1 x11_2) a2))) = w80z at n0_ n1_ n2_ ⊢
              have HO_10 := n0_
              have BK261 := n1_
              have HB := n2_
              clear n0_ n1_ n2_
              have p285 : 0 ≤ (x11_2 : Int) := od (by first | (with_reducible assumption) | assumption)
              have q285 : x11_2 < (y284.length : Int) := (by have h_ : (x11_2 : Int) < ((x10_2.length : Int) : Int) := od (by first | (with_reducible assumption) | assumption); first | (have e_ := (Kd.R_reads' HO_10.out).1; omega) | simpa only [Ny280.out, Ny284.out, List.length_set] using h_)
              have ql285 : ((x11_2 : Int) < ((x10_2.length : Int) : Int)) = True := eq_true (od (by first | (with_reducible assumption) | assumption))
              obtain ⟨ad285, e285, u7_0, u7_1, u7_2, u7_3, u7_4, u7_5, u7_6, u7_7, u7_8, u7_9, u7_10, u7_11, u7_12, u7_13, u7_14, u7_15, u7_16, u7_17, u7_18, u7_19⟩ := zta (Kd.R_reads' HO_10.out).2.2 x11_2 p285 q285
              (try rw [← Nbq32.out] at u7_18)
              (try rw [← Nbq32.out] at u7_19)
              obtain rfl : (⟨go28, 0, none⟩ : Addr) = ad285 := (by injection e285)
              (first | simp only [zha] at u7_0 u7_1 u7_2 u7_3 u7_4 u7_5 u7_6 u7_7 u7_8 u7_9 u7_10 u7_11 u7_12 u7_13 u7_14 u7_15 u7_16 u7_17 u7_18 u7_19 | simp only [zrb] at u7_0 u7_1 u7_2 u7_3 u7_4 u7_5 u7_6 u7_7 u7_8 u7_9 u7_10 u7_11 u7_12 u7_13 u7_14 u7_15 u7_16 u7_17 u7_18 u7_19 | simp only [Addr.add, Nat.zero_add] at u7_0 u7_1 u7_2 u7_3 u7_4 u7_5 u7_6 u7_7 u7_8 u7_9 u7_10 u7_11 u7_12 u7_13 u7_14 u7_15 u7_16 u7_17 u7_18 u7_19 | skip)
              replace p285 := eq_true p285
              replace q285 := eq_true q285
              try go_wp2
              go_roundg k2
              case measure => have := HJ6.out; have := HK2.out; omega
              case rel => exact ⟨(y284), (wrap64 (x11_2 + 1)), (by first | rfl | (simp; done) | (simp [*]; done)), H', ⟨by have := HJ6.out; have := HK2.out; omega⟩, ⟨by (with_reducible repeat (first | apply Kd.R_alloc | apply Kd.R_drewN | apply Kd.R_drew)); exact HO_10.out⟩, ⟨by (with_reducible repeat (first | refine zg ?_ _ | refine zi ?_ | refine zh ?_ _)); exact BK261.out⟩, ⟨by repeat (first | (with_reducible first | exact HB.out | apply ze | apply zb | apply zd | refine zf ?_ GB28.out | refine zf ?_ GE261.out) | exact HB.out)⟩⟩
             rw [if_neg c30] at H
             exact absurd H (by simp)
            rw [if_neg c29] at H
            exact absurd H (by simp)
           rw [if_neg c27] at H
           exact absurd H (by simp)
          rw [if_neg c26] at H
          exact absurd H (by simp)
         rw [if_neg c25] at H
         exact absurd H (by simp)
        rw [if_neg c24] at H
        exact absurd H (by simp)
       rw [if_neg c23] at H
       have c23b0 : decide (x11_2 < (x10_2.length : Int)) = false := decide_eq_false c23
       clear c23
       simp only [Option.some.injEq, Prod.mk.injEq] at H
       obtain ⟨rfl, rfl⟩ := H
       obtain ⟨Ao84, co84, eo84⟩ := Kd.R_slice HO_10.out
       subst eo84
       go_wp2
       go_ret2
       exact ⟨_, by first | rfl | (simp [zj, zk] <;> rfl) | (simp [*, zj, zk] <;> rfl), by (with_reducible repeat (first | apply Kd.R_alloc | apply Kd.R_drewN | apply Kd.R_drew)); exact HO_10.out, by repeat (first | (with_reducible first | exact HB.out | apply ze | apply zb | apply zd | refine zf ?_ GE261.out) | exact HB.out)⟩
    rw [if_neg c19] at H
    exact absurd H (by simp)
 replace c6 := Bool.eq_false_iff.mpr c6
 subst c6
 have H1 : (some ((([] : List (S54))), 1)) = some (r1, r2) := by rw [if_neg (show ¬ (false = true) by decide)] at H; exact H
 clear H
 have H := H1
 clear H1
 obtain ⟨y263, hy263⟩ : ∃ y_ : List (S54), y_ = (([] : List (S54))) := ⟨_, rfl⟩
 replace H : (some (y263, 1)) = some (r1, r2) := by first | (rw [hy263]; with_reducible exact H) | (have H2_ := (Option.bind_some _ _).symm.trans H; rw [hy263]; with_reducible exact H2_) | (have H2_ := (Option.bind_some _ _).symm.trans H; with_reducible exact H2_) | with_reducible exact H | (rw [hy263]; exact H) | exact H
 have Ny263 := zc.mk hy263
 clear hy263
 simp only [Option.some.injEq, Prod.mk.injEq] at H
 obtain ⟨rfl, rfl⟩ := H
 go_enter Try.func22, Try.ntmps22
 go_wp2_with (first | ((with_reducible refine zp (N := 4) rfl ?_); refine zr ?hg (N := 4) ?hd (cs := #[.int .i8 a0_0, .int .i8 a0_1, .bool a0_2, .bool a0_3]) (t := 29) ?hr ?_; (case hd => rfl); (case hg => rfl); (case hr => first | (go_simp; done) | (go_simp; rfl)); intro gb261 hg w85 hbox hb; obtain ⟨n0_, n2_⟩ := bx (by repeat (first | (with_reducible first | exact HB.out | apply ze | apply zb | apply zd) | exact HB.out)) hb hg; have n1_ := zc.mk (hbox); have n3_ := n2_; clear HB; have HB := n0_; have BK261 := n1_; have GW261 := n2_; have GE261 := n3_; clear n0_ n1_ n2_ n3_; clear hb hbox hg; obtain ⟨y4_0, y4_1, y4_2, y4_3, z4_0, z4_1, z4_2, z4_3⟩ := cf4 BK261.out) | ((with_reducible refine zo (f := 24) rfl ?_); refine zaa (some 14) rfl rfl Try.func24 (by kernel_rfl) rfl #[.agg #[.int .i8 a0_0, .int .i8 a0_1, .bool a0_2, .bool a0_3], .slice A1 l1.length c1] rfl (by (try simp only [List.map_toArray, List.map_cons, List.map_nil]); first | done | rfl | (simp only [List.length_drop, List.length_take]; rfl)) ?_; (with_reducible refine (spec_ValidPlan.calls k a0_0 a0_1 a0_2 a0_3 _ _ l1 false _ ?side1 ?side2 A5.out).mono ?_); (case side1 => repeat (first | exact (Kd.C_below HR1.out HB.out) | (with_reducible refine Kd.C_alloc ?_ _) | (with_reducible refine Kd.C_drewN ?_ _) | (with_reducible refine Kd.C_drew ?_))); (case side2 => exact HC1.out); rintro e w87 ⟨rfl, hb⟩; refine ⟨_, rfl, ?_⟩; have n0_ := zc.mk (zn (by (with_reducible repeat (first | refine zg ?_ _ | refine zi ?_ | refine zh ?_ _)); exact BK261.out) hb); have n1_ := zc.mk (zq (by repeat (first | (with_reducible first | exact HB.out | apply ze | apply zb | apply zd | refine zf ?_ GE261.out) | exact HB.out)) hb); clear BK261; clear HB; have BK261 := n0_; have HB := n1_; clear n0_ n1_; (try clear hb); (try clear hb2); (try clear hk); (try clear hi)) | ((with_reducible refine zp (N := 16) rfl ?_); refine Kd.R_lit k54 _ 54 ?hg (N := 16) ?hd (xs := ([] : List (S54))) (inner := []) (ok := fun _ => True) (okp := fun _ => True) ?hr ?hp (fun _ hk => hk) trivial (Below.refl _ _) (Nat.le_refl _) (by simp) ?_; (case hd => rfl); (case hg => rfl); (case hr => first | (go_simp; done) | (go_simp; rfl)); (case hp => exact (Reps.none _ _)); intro v264 w88 ho89 hb hg_ hnew_; clear hg_ hnew_; (first | rw [← Ny263.out] at ho89 | (simp only [Int.reduceToNat] at ho89; rw [← Ny263.out] at ho89)); have n0_ := zc.mk (Kd.R_lower ho89 (zz (by repeat (first | (with_reducible first | exact HB.out | apply ze | apply zb | apply zd | refine zf ?_ GE261.out) | exact HB.out)))); have n1_ := zc.mk (zn (by (with_reducible repeat (first | refine zg ?_ _ | refine zi ?_ | refine zh ?_ _)); exact BK261.out) hb); have n2_ := zc.mk (zq (by repeat (first | (with_reducible first | exact HB.out | apply ze | apply zb | apply zd | refine zf ?_ GE261.out) | exact HB.out)) hb); clear BK261; clear HB; have HO265 := n0_; have BK261 := n1_; have HB := n2_; clear n0_ n1_ n2_; clear hb ho89))
 go_ret2
 exact ⟨_, by first | rfl | (simp [zj, zk] <;> rfl) | (simp [*, zj, zk] <;> rfl), by (with_reducible repeat (first | apply Kd.R_alloc | apply Kd.R_drewN | apply Kd.R_drew)); exact HO265.out, by repeat (first | (with_reducible first | exact HB.out | apply ze | apply zb | apply zd | refine zf ?_ GE261.out) | exact HB.out)⟩
end Go.Proofs.Ytmmonhpjjjdnjaa.V
