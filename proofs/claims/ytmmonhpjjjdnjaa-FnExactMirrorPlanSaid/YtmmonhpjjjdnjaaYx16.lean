-- Written by wip/tools/myprint.py, a program of this session, by way of the kit's print.
import Derived.Test.YtmmonhpjjjdnjaaYx0
import Derived.Test.YtmmonhpjjjdnjaaLLoadY
import Derived.Test.YtmmonhpjjjdnjaaYx15
namespace Go.Proofs.Ytmmonhpjjjdnjaa.Y
open Go.RowKit Go.Proofs.YtmmonhpjjjdnjaaW.PrintWords Go.Proofs.YtmmonhpjjjdnjaaW.PrintLast Go.Proofs.YtmmonhpjjjdnjaaW.PrintMore
attribute [local go_sem] zha zga zka zja zba zaa zea zfa   -- for this text's walks alone
set_option linter.unusedVariables false
set_option linter.unusedSimpArgs false

/-! ### spec_MirrorPlan: function 18 -/
mutual
def spec_MirrorPlan.l0 : Nat → List (S54) → List (S54) → Int → Option ((List (S54)) × Int)
 | 0, _, _, _ => none
 | k + 1, x1, x6, x7 => if x7 < (x6.length : Int) then (spec_MirrorPlan.l1 k x1 x6 x7 0) else (some (x6, 0))
def spec_MirrorPlan.l1 : Nat → List (S54) → List (S54) → Int → Int → Option ((List (S54)) × Int)
 | 0, _, _, _, _ => none
 | k + 1, x1, x6, x7, x8 => if x8 < 14 then (if 0 ≤ x7 then (if x7 < (x6.length : Int) then (if 0 ≤ x8 then (spec_MirrorPlan.l1 k x1 (x6.set (x7 : Int).toNat (⟨(⟨(pickA x8 0 (IntKind.i8.wrap (-(rd [(rd_T54 x6 x7).f0.f0, (rd_T54 x6 x7).f0.f1, (rd_T54 x6 x7).f0.f2, (rd_T54 x6 x7).f0.f3, (rd_T54 x6 x7).f0.f4, (rd_T54 x6 x7).f0.f5, (rd_T54 x6 x7).f0.f6, (rd_T54 x6 x7).f0.f7, (rd_T54 x6 x7).f0.f8, (rd_T54 x6 x7).f0.f9, (rd_T54 x6 x7).f0.f10, (rd_T54 x6 x7).f0.f11, (rd_T54 x6 x7).f0.f12, (rd_T54 x6 x7).f0.f13] x8))) ((rd_T54 x6 x7).f0.f0)), (pickA x8 1 (IntKind.i8.wrap (-(rd [(rd_T54 x6 x7).f0.f0, (rd_T54 x6 x7).f0.f1, (rd_T54 x6 x7).f0.f2, (rd_T54 x6 x7).f0.f3, (rd_T54 x6 x7).f0.f4, (rd_T54 x6 x7).f0.f5, (rd_T54 x6 x7).f0.f6, (rd_T54 x6 x7).f0.f7, (rd_T54 x6 x7).f0.f8, (rd_T54 x6 x7).f0.f9, (rd_T54 x6 x7).f0.f10, (rd_T54 x6 x7).f0.f11, (rd_T54 x6 x7).f0.f12, (rd_T54 x6 x7).f0.f13] x8))) ((rd_T54 x6 x7).f0.f1)), (pickA x8 2 (IntKind.i8.wrap (-(rd [(rd_T54 x6 x7).f0.f0, (rd_T54 x6 x7).f0.f1, (rd_T54 x6 x7).f0.f2, (rd_T54 x6 x7).f0.f3, (rd_T54 x6 x7).f0.f4, (rd_T54 x6 x7).f0.f5, (rd_T54 x6 x7).f0.f6, (rd_T54 x6 x7).f0.f7, (rd_T54 x6 x7).f0.f8, (rd_T54 x6 x7).f0.f9, (rd_T54 x6 x7).f0.f10, (rd_T54 x6 x7).f0.f11, (rd_T54 x6 x7).f0.f12, (rd_T54 x6 x7).f0.f13] x8))) ((rd_T54 x6 x7).f0.f2)), (pickA x8 3 (IntKind.i8.wrap (-(rd [(rd_T54 x6 x7).f0.f0, (rd_T54 x6 x7).f0.f1, (rd_T54 x6 x7).f0.f2, (rd_T54 x6 x7).f0.f3, (rd_T54 x6 x7).f0.f4, (rd_T54 x6 x7).f0.f5, (rd_T54 x6 x7).f0.f6, (rd_T54 x6 x7).f0.f7, (rd_T54 x6 x7).f0.f8, (rd_T54 x6 x7).f0.f9, (rd_T54 x6 x7).f0.f10, (rd_T54 x6 x7).f0.f11, (rd_T54 x6 x7).f0.f12, (rd_T54 x6 x7).f0.f13] x8))) ((rd_T54 x6 x7).f0.f3)), (pickA x8 4 (IntKind.i8.wrap (-(rd [(rd_T54 x6 x7).f0.f0, (rd_T54 x6 x7).f0.f1, (rd_T54 x6 x7).f0.f2, (rd_T54 x6 x7).f0.f3, (rd_T54 x6 x7).f0.f4, (rd_T54 x6 x7).f0.f5, (rd_T54 x6 x7).f0.f6, (rd_T54 x6 x7).f0.f7, (rd_T54 x6 x7).f0.f8, (rd_T54 x6 x7).f0.f9, (rd_T54 x6 x7).f0.f10, (rd_T54 x6 x7).f0.f11, (rd_T54 x6 x7).f0.f12, (rd_T54 x6 x7).f0.f13] x8))) ((rd_T54 x6 x7).f0.f4)), (pickA x8 5 (IntKind.i8.wrap (-(rd [(rd_T54 x6 x7).f0.f0, (rd_T54 x6 x7).f0.f1, (rd_T54 x6 x7).f0.f2, (rd_T54 x6 x7).f0.f3, (rd_T54 x6 x7).f0.f4, (rd_T54 x6 x7).f0.f5, (rd_T54 x6 x7).f0.f6, (rd_T54 x6 x7).f0.f7, (rd_T54 x6 x7).f0.f8, (rd_T54 x6 x7).f0.f9, (rd_T54 x6 x7).f0.f10, (rd_T54 x6 x7).f0.f11, (rd_T54 x6 x7).f0.f12, (rd_T54 x6 x7).f0.f13] x8))) ((rd_T54 x6 x7).f0.f5)), (pickA x8 6 (IntKind.i8.wrap (-(rd [(rd_T54 x6 x7).f0.f0, (rd_T54 x6 x7).f0.f1, (rd_T54 x6 x7).f0.f2, (rd_T54 x6 x7).f0.f3, (rd_T54 x6 x7).f0.f4, (rd_T54 x6 x7).f0.f5, (rd_T54 x6 x7).f0.f6, (rd_T54 x6 x7).f0.f7, (rd_T54 x6 x7).f0.f8, (rd_T54 x6 x7).f0.f9, (rd_T54 x6 x7).f0.f10, (rd_T54 x6 x7).f0.f11, (rd_T54 x6 x7).f0.f12, (rd_T54 x6 x7).f0.f13] x8))) ((rd_T54 x6 x7).f0.f6)), (pickA x8 7 (IntKind.i8.wrap (-(rd [(rd_T54 x6 x7).f0.f0, (rd_T54 x6 x7).f0.f1, (rd_T54 x6 x7).f0.f2, (rd_T54 x6 x7).f0.f3, (rd_T54 x6 x7).f0.f4, (rd_T54 x6 x7).f0.f5, (rd_T54 x6 x7).f0.f6, (rd_T54 x6 x7).f0.f7, (rd_T54 x6 x7).f0.f8, (rd_T54 x6 x7).f0.f9, (rd_T54 x6 x7).f0.f10, (rd_T54 x6 x7).f0.f11, (rd_T54 x6 x7).f0.f12, (rd_T54 x6 x7).f0.f13] x8))) ((rd_T54 x6 x7).f0.f7)), (pickA x8 8 (IntKind.i8.wrap (-(rd [(rd_T54 x6 x7).f0.f0, (rd_T54 x6 x7).f0.f1, (rd_T54 x6 x7).f0.f2, (rd_T54 x6 x7).f0.f3, (rd_T54 x6 x7).f0.f4, (rd_T54 x6 x7).f0.f5, (rd_T54 x6 x7).f0.f6, (rd_T54 x6 x7).f0.f7, (rd_T54 x6 x7).f0.f8, (rd_T54 x6 x7).f0.f9, (rd_T54 x6 x7).f0.f10, (rd_T54 x6 x7).f0.f11, (rd_T54 x6 x7).f0.f12, (rd_T54 x6 x7).f0.f13] x8))) ((rd_T54 x6 x7).f0.f8)), (pickA x8 9 (IntKind.i8.wrap (-(rd [(rd_T54 x6 x7).f0.f0, (rd_T54 x6 x7).f0.f1, (rd_T54 x6 x7).f0.f2, (rd_T54 x6 x7).f0.f3, (rd_T54 x6 x7).f0.f4, (rd_T54 x6 x7).f0.f5, (rd_T54 x6 x7).f0.f6, (rd_T54 x6 x7).f0.f7, (rd_T54 x6 x7).f0.f8, (rd_T54 x6 x7).f0.f9, (rd_T54 x6 x7).f0.f10, (rd_T54 x6 x7).f0.f11, (rd_T54 x6 x7).f0.f12, (rd_T54 x6 x7).f0.f13] x8))) ((rd_T54 x6 x7).f0.f9)), (pickA x8 10 (IntKind.i8.wrap (-(rd [(rd_T54 x6 x7).f0.f0, (rd_T54 x6 x7).f0.f1, (rd_T54 x6 x7).f0.f2, (rd_T54 x6 x7).f0.f3, (rd_T54 x6 x7).f0.f4, (rd_T54 x6 x7).f0.f5, (rd_T54 x6 x7).f0.f6, (rd_T54 x6 x7).f0.f7, (rd_T54 x6 x7).f0.f8, (rd_T54 x6 x7).f0.f9, (rd_T54 x6 x7).f0.f10, (rd_T54 x6 x7).f0.f11, (rd_T54 x6 x7).f0.f12, (rd_T54 x6 x7).f0.f13] x8))) ((rd_T54 x6 x7).f0.f10)), (pickA x8 11 (IntKind.i8.wrap (-(rd [(rd_T54 x6 x7).f0.f0, (rd_T54 x6 x7).f0.f1, (rd_T54 x6 x7).f0.f2, (rd_T54 x6 x7).f0.f3, (rd_T54 x6 x7).f0.f4, (rd_T54 x6 x7).f0.f5, (rd_T54 x6 x7).f0.f6, (rd_T54 x6 x7).f0.f7, (rd_T54 x6 x7).f0.f8, (rd_T54 x6 x7).f0.f9, (rd_T54 x6 x7).f0.f10, (rd_T54 x6 x7).f0.f11, (rd_T54 x6 x7).f0.f12, (rd_T54 x6 x7).f0.f13] x8))) ((rd_T54 x6 x7).f0.f11)), (pickA x8 12 (IntKind.i8.wrap (-(rd [(rd_T54 x6 x7).f0.f0, (rd_T54 x6 x7).f0.f1, (rd_T54 x6 x7).f0.f2, (rd_T54 x6 x7).f0.f3, (rd_T54 x6 x7).f0.f4, (rd_T54 x6 x7).f0.f5, (rd_T54 x6 x7).f0.f6, (rd_T54 x6 x7).f0.f7, (rd_T54 x6 x7).f0.f8, (rd_T54 x6 x7).f0.f9, (rd_T54 x6 x7).f0.f10, (rd_T54 x6 x7).f0.f11, (rd_T54 x6 x7).f0.f12, (rd_T54 x6 x7).f0.f13] x8))) ((rd_T54 x6 x7).f0.f12)), (pickA x8 13 (IntKind.i8.wrap (-(rd [(rd_T54 x6 x7).f0.f0, (rd_T54 x6 x7).f0.f1, (rd_T54 x6 x7).f0.f2, (rd_T54 x6 x7).f0.f3, (rd_T54 x6 x7).f0.f4, (rd_T54 x6 x7).f0.f5, (rd_T54 x6 x7).f0.f6, (rd_T54 x6 x7).f0.f7, (rd_T54 x6 x7).f0.f8, (rd_T54 x6 x7).f0.f9, (rd_T54 x6 x7).f0.f10, (rd_T54 x6 x7).f0.f11, (rd_T54 x6 x7).f0.f12, (rd_T54 x6 x7).f0.f13] x8))) ((rd_T54 x6 x7).f0.f13))⟩ : S50), (⟨(rd_T54 x6 x7).f1.f0, (rd_T54 x6 x7).f1.f1, (rd_T54 x6 x7).f1.f2⟩ : S52), (⟨(rd_T54 x6 x7).f2.f0, (rd_T54 x6 x7).f2.f1⟩ : S46), (rd_T54 x6 x7).f3⟩ : S54)) x7 (wrap64 (x8 + 1))) else (none)) else (none)) else (none)) else (if 0 ≤ x7 then (if x7 < (x1.length : Int) then (if x7 < (x6.length : Int) then (spec_MirrorPlan.l0 k x1 (x6.set (x7 : Int).toNat (⟨(⟨(rd_T54 x6 x7).f0.f0, (rd_T54 x6 x7).f0.f1, (rd_T54 x6 x7).f0.f2, (rd_T54 x6 x7).f0.f3, (rd_T54 x6 x7).f0.f4, (rd_T54 x6 x7).f0.f5, (rd_T54 x6 x7).f0.f6, (rd_T54 x6 x7).f0.f7, (rd_T54 x6 x7).f0.f8, (rd_T54 x6 x7).f0.f9, (rd_T54 x6 x7).f0.f10, (rd_T54 x6 x7).f0.f11, (rd_T54 x6 x7).f0.f12, (rd_T54 x6 x7).f0.f13⟩ : S50), (⟨(rd_T54 x1 x7).f1.f2, (rd_T54 x1 x7).f1.f1, (rd_T54 x1 x7).f1.f0⟩ : S52), (⟨(rd_T54 x6 x7).f2.f0, (rd_T54 x6 x7).f2.f1⟩ : S46), (rd_T54 x6 x7).f3⟩ : S54)) (wrap64 (x7 + 1))) else (none)) else (none)) else (none))
end
def spec_MirrorPlan.f (k : Nat) (a0_0 : Int) (a0_1 : Int) (a0_2 : Bool) (a0_3 : Bool) (l1 : List (S54)) : Option ((List (S54)) × Int) := (spec_ValidPlan.f k a0_0 a0_1 a0_2 a0_3 l1).bind fun t248 => (if t248 = true then ((some (([] : List (S54)) : List (S54))).bind fun y252 => (if y252.length + l1.length < 5864062014805 then (spec_MirrorPlan.l0 k l1 (y252 ++ l1) 0) else (none))) else (some ((([] : List (S54))), 1)))
def spec_MirrorPlan.T10 : Bool × List (List Nat × List Nat) := (true, [([], []), ([], []), ([], []), ([], []), ([], []), ([], []), ([3, 4], [3, 4]), ([6], [6]), ([7, 5], [5, 7]), ([8], [8]), ([9], [9]), ([0, 1], [0, 1]), ([11], [11]), ([12, 2, 0, 1, 2, 3, 4, 5, 6, 7, 8, 9, 10], [2, 12]), ([13, 10, 0, 1, 2, 3, 4, 5, 6, 7, 8, 9, 10], [10, 13])])
def spec_MirrorPlan.B10 : List Nat := [0, 0, 0, 0, 0, 0, 24, 88, 248, 504, 1016, 3, 2051, 8191, 16383]
theorem spec_MirrorPlan.tab10 : rtab .any (opsOf Try.f18 10) = spec_MirrorPlan.T10 := by kernel_rfl
theorem spec_MirrorPlan.bits10 : waitsOk spec_MirrorPlan.T10.2 spec_MirrorPlan.B10 = true := by kernel_rfl
def spec_MirrorPlan.T11 : Bool × List (List Nat × List Nat) := (true, [([], []), ([], []), ([], []), ([], []), ([2, 3], [2, 3]), ([4], [4]), ([5], [5]), ([6], [6]), ([], []), ([], []), ([8, 9], [8, 9]), ([10], [10]), ([11], [11]), ([12], [12]), ([], []), ([], []), ([14, 15], [14, 15]), ([16], [16]), ([17], [17]), ([18], [18]), ([7, 13, 19], [7, 13, 19]), ([0, 1, 0, 1, 2, 3, 4, 5, 6, 7, 8, 9, 10, 11, 12, 13, 14, 15, 16, 17, 18, 19, 20], [0, 1]), ([21, 0, 1, 2, 3, 4, 5, 6, 7, 8, 9, 10, 11, 12, 13, 14, 15, 16, 17, 18, 19, 20], [21]), ([22, 20, 0, 1, 2, 3, 4, 5, 6, 7, 8, 9, 10, 11, 12, 13, 14, 15, 16, 17, 18, 19, 20], [20, 22])])
def spec_MirrorPlan.B11 : List Nat := [0, 0, 0, 0, 12, 28, 60, 124, 0, 0, 768, 1792, 3840, 7936, 0, 0, 49152, 114688, 245760, 507904, 1048572, 2097151, 4194303, 8388607]
theorem spec_MirrorPlan.tab11 : rtab .any (opsOf Try.f18 11) = spec_MirrorPlan.T11 := by kernel_rfl
theorem spec_MirrorPlan.bits11 : waitsOk spec_MirrorPlan.T11.2 spec_MirrorPlan.B11 = true := by kernel_rfl
set_option maxHeartbeats 8000000 in
set_option maxRecDepth 100000 in
theorem spec_MirrorPlan.calls (k : Nat) (a0_0 : Int) (a0_1 : Int) (a0_2 : Bool) (a0_3 : Bool) (A1 : Option Addr) (c1 : Nat) (l1 : List (S54)) (r1 : List (S54)) (r2 : Int) (w : World) (hr1 : Kd.C k54 w A1 l1.length l1) (hc1 : l1.length ≤ c1) (h : spec_MirrorPlan.f k a0_0 a0_1 a0_2 a0_3 l1 = some (r1, r2)) :
  Calls Try.prog 18 #[.agg #[.int .i8 a0_0, .int .i8 a0_1, .bool a0_2, .bool a0_3], .slice A1 l1.length c1] w fun e w' => ∃ v0_ : Value, e = .returned (.tuple #[v0_, .int .i64 r2]) ∧ Kd.R k54 54 w' w.heap.size (fun _ => True) v0_ r1 ∧ Below w.heap.size w w' := by
 have hu29 := Try.underlying29
 have hu52 := Try.underlying52
 have HR1 := zc.mk hr1
 have HC1 := zc.mk hc1
 clear hr1 hc1
 have HB := zc.mk (Below.refl w.heap.size w)
 have H : ((spec_ValidPlan.f k a0_0 a0_1 a0_2 a0_3 l1).bind fun t248 => (if t248 = true then ((some (([] : List (S54)) : List (S54))).bind fun y252 => (if y252.length + l1.length < 5864062014805 then (spec_MirrorPlan.l0 k l1 (y252 ++ l1) 0) else (none))) else (some ((([] : List (S54))), 1)))) = some (r1, r2) := h
 clear h
 replace H := Option.bind_eq_some_iff.mp H
 obtain ⟨t248, A30, H⟩ := H
 replace H : (if t248 = true then ((some (([] : List (S54)) : List (S54))).bind fun y252 => (if y252.length + l1.length < 5864062014805 then (spec_MirrorPlan.l0 k l1 (y252 ++ l1) 0) else (none))) else (some ((([] : List (S54))), 1))) = some (r1, r2) := H
 have A3 := zc.mk A30
 clear A30
 by_cases c4 : t248 = true
 ·subst c4
  have H1 : ((some (([] : List (S54)) : List (S54))).bind fun y252 => (if y252.length + l1.length < 5864062014805 then (spec_MirrorPlan.l0 k l1 (y252 ++ l1) 0) else (none))) = some (r1, r2) := by rw [if_pos rfl] at H; exact H
  clear H
  have H := H1
  clear H1
  obtain ⟨y252, hy252⟩ : ∃ y_ : List (S54), y_ = (([] : List (S54))) := ⟨_, rfl⟩
  replace H : (if y252.length + l1.length < 5864062014805 then (spec_MirrorPlan.l0 k l1 (y252 ++ l1) 0) else (none)) = some (r1, r2) := by first | (rw [hy252]; with_reducible exact H) | (have H2_ := (Option.bind_some _ _).symm.trans H; rw [hy252]; with_reducible exact H2_) | (have H2_ := (Option.bind_some _ _).symm.trans H; with_reducible exact H2_) | with_reducible exact H | (rw [hy252]; exact H) | exact H
  have Ny252 := zc.mk hy252
  clear hy252
  by_cases c5 : y252.length + l1.length < 5864062014805
  ·rw [if_pos c5] at H
   have LMc5 := zc.mk c5
   clear c5
   obtain ⟨y255, hy255⟩ : ∃ y_ : List (S54), y_ = (y252 ++ l1) := ⟨_, rfl⟩
   replace H : (spec_MirrorPlan.l0 k l1 y255 0) = some (r1, r2) := by first | (rw [hy255]; with_reducible exact H) | (have H2_ := (Option.bind_some _ _).symm.trans H; rw [hy255]; with_reducible exact H2_) | (have H2_ := (Option.bind_some _ _).symm.trans H; with_reducible exact H2_) | with_reducible exact H | (rw [hy255]; exact H) | exact H
   have Ny255 := zc.mk hy255
   clear hy255
   have H' := zc.mk H
   clear H
   go_enter Try.func18, Try.ntmps18
   go_wp2_with (first | ((with_reducible refine zn (N := 2) rfl ?_); refine zo ?hg (N := 2) ?hd (cs := #[.int .i8 a0_0, .int .i8 a0_1, .bool a0_2, .bool a0_3]) (t := 29) ?hr ?_; (case hd => rfl); (case hg => rfl); (case hr => first | (go_simp; done) | (go_simp; rfl)); intro gb247 hg w6 hbox hb; obtain ⟨n0_, n2_⟩ := bx (by repeat (first | (with_reducible first | exact HB.out | apply zd | apply za | apply zb) | exact HB.out)) hb hg; have n1_ := zc.mk (hbox); have n3_ := n2_; clear HB; have HB := n0_; have BK247 := n1_; have GW247 := n2_; have GE247 := n3_; clear n0_ n1_ n2_ n3_; clear hb hbox hg; have hcz7_0 : w6.cell? ⟨gb247, 0, none⟩ = some (.int .i8 a0_0) := (zr BK247.out 0).trans rfl; have hcz7_1 : w6.cell? ⟨gb247, 1, none⟩ = some (.int .i8 a0_1) := (zr BK247.out 1).trans rfl; have hcz7_2 : w6.cell? ⟨gb247, 2, none⟩ = some (.bool a0_2) := (zr BK247.out 2).trans rfl; have hcz7_3 : w6.cell? ⟨gb247, 3, none⟩ = some (.bool a0_3) := (zr BK247.out 3).trans rfl; obtain ⟨hfz7_0, hfz7_1, hfz7_2, hfz7_3⟩ := fz4 BK247.out) | ((with_reducible refine zl (f := 24) rfl ?_); refine zw (some 11) rfl rfl Try.func24 (by kernel_rfl) rfl #[.agg #[.int .i8 a0_0, .int .i8 a0_1, .bool a0_2, .bool a0_3], .slice A1 l1.length c1] rfl (by (try simp only [List.map_toArray, List.map_cons, List.map_nil]); first | done | rfl | (simp only [List.length_drop, List.length_take]; rfl)) ?_; (with_reducible refine (spec_ValidPlan.calls k a0_0 a0_1 a0_2 a0_3 _ _ l1 true _ ?side1 ?side2 A3.out).mono ?_); (case side1 => repeat (first | exact (Kd.C_below HR1.out HB.out) | (with_reducible refine Kd.C_alloc ?_ _) | (with_reducible refine Kd.C_drewN ?_ _) | (with_reducible refine Kd.C_drew ?_))); (case side2 => exact HC1.out); rintro e w8 ⟨rfl, hb⟩; refine ⟨_, rfl, ?_⟩; have n0_ := zc.mk (zi (by (with_reducible repeat (first | refine zf ?_ _ | refine zh ?_ | refine zg ?_ _)); exact BK247.out) hb); have n1_ := zc.mk (zp (by repeat (first | (with_reducible first | exact HB.out | apply zd | apply za | apply zb | refine ze ?_ GE247.out) | exact HB.out)) hb); clear BK247; clear HB; have BK247 := n0_; have HB := n1_; clear n0_ n1_; (try clear hb); (try clear hb2); (try clear hk); (try clear hi)) | ((with_reducible refine zn (N := 14) rfl ?_); refine Kd.R_lit k54 _ 54 ?hg (N := 14) ?hd (xs := ([] : List (S54))) (inner := []) (ok := fun _ => True) (okp := fun _ => True) ?hr ?hp (fun _ hk => hk) trivial (Below.refl _ _) (Nat.le_refl _) (by simp) ?_; (case hd => rfl); (case hg => rfl); (case hr => first | (go_simp; done) | (go_simp; rfl)); (case hp => exact (Reps.none _ _)); intro v253 w9 ho10 hb hg_ hnew_; clear hg_ hnew_; (first | rw [← Ny252.out] at ho10 | (simp only [Int.reduceToNat] at ho10; rw [← Ny252.out] at ho10)); have n0_ := zc.mk (Kd.R_lower ho10 (zv (by repeat (first | (with_reducible first | exact HB.out | apply zd | apply za | apply zb | refine ze ?_ GE247.out) | exact HB.out)))); have n1_ := zc.mk (zi (by (with_reducible repeat (first | refine zf ?_ _ | refine zh ?_ | refine zg ?_ _)); exact BK247.out) hb); have n2_ := zc.mk (zp (by repeat (first | (with_reducible first | exact HB.out | apply zd | apply za | apply zb | refine ze ?_ GE247.out) | exact HB.out)) hb); clear BK247; clear HB; have HO254 := n0_; have BK247 := n1_; have HB := n2_; clear n0_ n1_ n2_; clear hb ho10) | ((with_reducible refine zia (b := .append) (xs := #[.tmp 14, .tmp 15]) rfl ?_); at_builtin; refine Kd.R_append_rows k54 (w0 := w) w.heap.size rfl (.tmp 14) (.tmp 15) 31 54 (.agg #[(.int .i8 0), (.int .i8 0), (.int .i8 0), (.int .i8 0), (.int .i8 0), (.int .i8 0), (.int .i8 0), (.int .i8 0), (.int .i8 0), (.int .i8 0), (.int .i8 0), (.int .i8 0), (.int .i8 0), (.int .i8 0), (.int .i16 0), (.int .i16 0), (.int .i16 0), (.int .i8 0), (.bool false), (.bool false)]) 24 rfl Try.underlying31 info54 rfl (by decide) (by omega) v253 y252 l1 _ _ _ (fun _ => True) (fun _ => False) rfl rfl ?aO ?aR (fun _ _ h => h) (fun _ h => h.elim) ?aF ?aB ?aS ?aL ?_; (case aR => repeat (first | exact (Kd.C_below HR1.out HB.out) | (with_reducible refine Kd.C_alloc ?_ _) | (with_reducible refine Kd.C_drewN ?_ _) | (with_reducible refine Kd.C_drew ?_))); (case aB => exact (by repeat (first | (with_reducible first | exact HB.out | apply zd | apply za | apply zb | refine ze ?_ GE247.out) | exact HB.out))); (case aF => exact (fun _ _ => trivial)); (case aO => exact (by (with_reducible repeat (first | apply Kd.R_alloc | apply Kd.R_drewN | apply Kd.R_drew)); exact HO254.out)); (case aS => exact (zv (by repeat (first | (with_reducible first | exact HB.out | apply zd | apply za | apply zb | refine ze ?_ GE247.out) | exact HB.out)))); (case aL => have := LMc5.out; omega); intro v256 w11 ho hb hg hat; rw [← Ny255.out] at ho; have n0_ := zc.mk (blk_grown (g := gb247) (o := .cells #[.int .i8 a0_0, .int .i8 a0_1, .bool a0_2, .bool a0_3] 29 (0, 0)) (by (with_reducible repeat (first | refine zf ?_ _ | refine zh ?_ | refine zg ?_ _)); exact BK247.out) hg (Kd.R_ne HO254.out BK247.out (by decide))); have n1_ := zc.mk (hb); have n2_ := zc.mk (ho); clear BK247; clear HB; clear HO254; have BK247 := n0_; have HB := n1_; have HO257 := n2_; clear n0_ n1_ n2_; clear ho hb hg hat))
   go_loopg [7] k (fun kq v7 w' => ∃ (x6_1 : List (S54)) (x7_1 : Int), v7 = .int .i64 x7_1 ∧ zc (spec_MirrorPlan.l0 kq l1 x6_1 x7_1 = some (r1, r2)) ∧ zc (kq ≤ k) ∧ zc (Kd.R k54 54 w' w.heap.size (fun _ => True) v256 x6_1) ∧ zc (w'.heap[gb247]? = some (.cells #[.int .i8 a0_0, .int .i8 a0_1, .bool a0_2, .bool a0_3] 29 (0, 0))) ∧ zc (Below w.heap.size w w'))
   case atStart => exact ⟨(y255), (0), (by first | rfl | (simp; done) | (simp [*]; done)), H', ⟨Nat.le_refl _⟩, ⟨by (with_reducible repeat (first | apply Kd.R_alloc | apply Kd.R_drewN | apply Kd.R_drew)); exact HO257.out⟩, ⟨by (with_reducible repeat (first | refine zf ?_ _ | refine zh ?_ | refine zg ?_ _)); exact BK247.out⟩, ⟨by repeat (first | (with_reducible first | exact HB.out | apply zd | apply za | apply zb | refine ze ?_ GE247.out) | exact HB.out)⟩⟩
   case round =>
    clear H'
    try clear c1
    try clear c2
    try clear p2
    try clear c4
    try clear c5
    try clear hcz7_0 hcz7_1 hcz7_2 hcz7_3
    try clear hfz7_0 hfz7_1 hfz7_2 hfz7_3
    obtain ⟨x6_1, x7_1, rfl, HA, HK1, HO_6, BK247, HB⟩ := hrel
    cases gk with
    | zero => exact absurd HA.out (by simp [spec_MirrorPlan.l0])
    | succ k1 =>
     have H := HA.out
     clear HA
     simp only [spec_MirrorPlan.l0] at H
     by_cases c12 : x7_1 < (x6_1.length : Int)
     ·rw [if_pos c12] at H
      have c12b0 : decide (x7_1 < (x6_1.length : Int)) = true := decide_eq_true c12
      clear c12
      have H' := zc.mk H
      clear H
      obtain ⟨Ao13, co13, eo13⟩ := Kd.R_slice HO_6.out
      subst eo13
      go_wp2
      go_loopg [8] k1 (fun kq v8 w' => ∃ (x6_2 : List (S54)) (x8_2 : Int), v8 = .int .i64 x8_2 ∧ zc (spec_MirrorPlan.l1 kq l1 x6_2 x7_1 x8_2 = some (r1, r2)) ∧ zc (kq ≤ k1) ∧ zc (Kd.R k54 54 w' w.heap.size (fun _ => True) (.slice Ao13 x6_1.length co13) x6_2) ∧ zc (w'.heap[gb247]? = some (.cells #[.int .i8 a0_0, .int .i8 a0_1, .bool a0_2, .bool a0_3] 29 (0, 0))) ∧ zc (Below w.heap.size w w'))
      case atStart => exact ⟨(x6_1), (0), (by first | rfl | (simp; done) | (simp [*]; done)), H', ⟨Nat.le_refl _⟩, ⟨by (with_reducible repeat (first | apply Kd.R_alloc | apply Kd.R_drewN | apply Kd.R_drew)); exact HO_6.out⟩, ⟨by (with_reducible repeat (first | refine zf ?_ _ | refine zh ?_ | refine zg ?_ _)); exact BK247.out⟩, ⟨by repeat (first | (with_reducible first | exact HB.out | apply zd | apply za | apply zb | refine ze ?_ GE247.out) | exact HB.out)⟩⟩
      case round =>
       clear H'
       try clear c1
       try clear c2
       try clear p2
       try clear c4
       try clear c5
       try clear c12
       try clear c12b0
       try clear hcz7_0 hcz7_1 hcz7_2 hcz7_3
       try clear hfz7_0 hfz7_1 hfz7_2 hfz7_3
       try clear p2
       obtain ⟨x6_2, x8_2, rfl, HA, HK2, HO_6, BK247, HB⟩ := hrel
       have hl6_2 := (Kd.R_reads' HO_6.out).1
       rw [hl6_2] at HO_6
       (try simp only [hl6_2])
       (try simp only [hl6_2] at BK247)
       cases gk with
       | zero => exact absurd HA.out (by simp [spec_MirrorPlan.l1])
       | succ k2 =>
        have H := HA.out
        clear HA
        simp only [spec_MirrorPlan.l1] at H
        by_cases c14 : x8_2 < 14
        ·rw [if_pos c14] at H
         have c14b0 : decide (x8_2 < 14) = true := decide_eq_true c14
         clear c14
         by_cases c15 : 0 ≤ x7_1
         ·rw [if_pos c15] at H
          have c15b0 : decide (0 ≤ x7_1) = true := decide_eq_true c15
          clear c15
          by_cases c16 : x7_1 < (x6_2.length : Int)
          ·rw [if_pos c16] at H
           have c16b0 : decide (x7_1 < (x6_2.length : Int)) = true := decide_eq_true c16
           clear c16
           by_cases c17 : 0 ≤ x8_2
           ·rw [if_pos c17] at H
            have c17b0 : decide (0 ≤ x8_2) = true := decide_eq_true c17
            clear c17
            obtain ⟨y261, hy261⟩ : ∃ y_ : List (S54), y_ = (x6_2.set (x7_1 : Int).toNat (⟨(⟨(pickA x8_2 0 (IntKind.i8.wrap (-(rd [(rd_T54 x6_2 x7_1).f0.f0, (rd_T54 x6_2 x7_1).f0.f1, (rd_T54 x6_2 x7_1).f0.f2, (rd_T54 x6_2 x7_1).f0.f3, (rd_T54 x6_2 x7_1).f0.f4, (rd_T54 x6_2 x7_1).f0.f5, (rd_T54 x6_2 x7_1).f0.f6, (rd_T54 x6_2 x7_1).f0.f7, (rd_T54 x6_2 x7_1).f0.f8, (rd_T54 x6_2 x7_1).f0.f9, (rd_T54 x6_2 x7_1).f0.f10, (rd_T54 x6_2 x7_1).f0.f11, (rd_T54 x6_2 x7_1).f0.f12, (rd_T54 x6_2 x7_1).f0.f13] x8_2))) ((rd_T54 x6_2 x7_1).f0.f0)), (pickA x8_2 1 (IntKind.i8.wrap (-(rd [(rd_T54 x6_2 x7_1).f0.f0, (rd_T54 x6_2 x7_1).f0.f1, (rd_T54 x6_2 x7_1).f0.f2, (rd_T54 x6_2 x7_1).f0.f3, (rd_T54 x6_2 x7_1).f0.f4, (rd_T54 x6_2 x7_1).f0.f5, (rd_T54 x6_2 x7_1).f0.f6, (rd_T54 x6_2 x7_1).f0.f7, (rd_T54 x6_2 x7_1).f0.f8, (rd_T54 x6_2 x7_1).f0.f9, (rd_T54 x6_2 x7_1).f0.f10, (rd_T54 x6_2 x7_1).f0.f11, (rd_T54 x6_2 x7_1).f0.f12, (rd_T54 x6_2 x7_1).f0.f13] x8_2))) ((rd_T54 x6_2 x7_1).f0.f1)), (pickA x8_2 2 (IntKind.i8.wrap (-(rd [(rd_T54 x6_2 x7_1).f0.f0, (rd_T54 x6_2 x7_1).f0.f1, (rd_T54 x6_2 x7_1).f0.f2, (rd_T54 x6_2 x7_1).f0.f3, (rd_T54 x6_2 x7_1).f0.f4, (rd_T54 x6_2 x7_1).f0.f5, (rd_T54 x6_2 x7_1).f0.f6, (rd_T54 x6_2 x7_1).f0.f7, (rd_T54 x6_2 x7_1).f0.f8, (rd_T54 x6_2 x7_1).f0.f9, (rd_T54 x6_2 x7_1).f0.f10, (rd_T54 x6_2 x7_1).f0.f11, (rd_T54 x6_2 x7_1).f0.f12, (rd_T54 x6_2 x7_1).f0.f13] x8_2))) ((rd_T54 x6_2 x7_1).f0.f2)), (pickA x8_2 3 (IntKind.i8.wrap (-(rd [(rd_T54 x6_2 x7_1).f0.f0, (rd_T54 x6_2 x7_1).f0.f1, (rd_T54 x6_2 x7_1).f0.f2, (rd_T54 x6_2 x7_1).f0.f3, (rd_T54 x6_2 x7_1).f0.f4, (rd_T54 x6_2 x7_1).f0.f5, (rd_T54 x6_2 x7_1).f0.f6, (rd_T54 x6_2 x7_1).f0.f7, (rd_T54 x6_2 x7_1).f0.f8, (rd_T54 x6_2 x7_1).f0.f9, (rd_T54 x6_2 x7_1).f0.f10, (rd_T54 x6_2 x7_1).f0.f11, (rd_T54 x6_2 x7_1).f0.f12, (rd_T54 x6_2 x7_1).f0.f13] x8_2))) ((rd_T54 x6_2 x7_1).f0.f3)), (pickA x8_2 4 (IntKind.i8.wrap (-(rd [(rd_T54 x6_2 x7_1).f0.f0, (rd_T54 x6_2 x7_1).f0.f1, (rd_T54 x6_2 x7_1).f0.f2, (rd_T54 x6_2 x7_1).f0.f3, (rd_T54 x6_2 x7_1).f0.f4, (rd_T54 x6_2 x7_1).f0.f5, (rd_T54 x6_2 x7_1).f0.f6, (rd_T54 x6_2 x7_1).f0.f7, (rd_T54 x6_2 x7_1).f0.f8, (rd_T54 x6_2 x7_1).f0.f9, (rd_T54 x6_2 x7_1).f0.f10, (rd_T54 x6_2 x7_1).f0.f11, (rd_T54 x6_2 x7_1).f0.f12, (rd_T54 x6_2 x7_1).f0.f13] x8_2))) ((rd_T54 x6_2 x7_1).f0.f4)), (pickA x8_2 5 (IntKind.i8.wrap (-(rd [(rd_T54 x6_2 x7_1).f0.f0, (rd_T54 x6_2 x7_1).f0.f1, (rd_T54 x6_2 x7_1).f0.f2, (rd_T54 x6_2 x7_1).f0.f3, (rd_T54 x6_2 x7_1).f0.f4, (rd_T54 x6_2 x7_1).f0.f5, (rd_T54 x6_2 x7_1).f0.f6, (rd_T54 x6_2 x7_1).f0.f7, (rd_T54 x6_2 x7_1).f0.f8, (rd_T54 x6_2 x7_1).f0.f9, (rd_T54 x6_2 x7_1).f0.f10, (rd_T54 x6_2 x7_1).f0.f11, (rd_T54 x6_2 x7_1).f0.f12, (rd_T54 x6_2 x7_1).f0.f13] x8_2))) ((rd_T54 x6_2 x7_1).f0.f5)), (pickA x8_2 6 (IntKind.i8.wrap (-(rd [(rd_T54 x6_2 x7_1).f0.f0, (rd_T54 x6_2 x7_1).f0.f1, (rd_T54 x6_2 x7_1).f0.f2, (rd_T54 x6_2 x7_1).f0.f3, (rd_T54 x6_2 x7_1).f0.f4, (rd_T54 x6_2 x7_1).f0.f5, (rd_T54 x6_2 x7_1).f0.f6, (rd_T54 x6_2 x7_1).f0.f7, (rd_T54 x6_2 x7_1).f0.f8, (rd_T54 x6_2 x7_1).f0.f9, (rd_T54 x6_2 x7_1).f0.f10, (rd_T54 x6_2 x7_1).f0.f11, (rd_T54 x6_2 x7_1).f0.f12, (rd_T54 x6_2 x7_1).f0.f13] x8_2))) ((rd_T54 x6_2 x7_1).f0.f6)), (pickA x8_2 7 (IntKind.i8.wrap (-(rd [(rd_T54 x6_2 x7_1).f0.f0, (rd_T54 x6_2 x7_1).f0.f1, (rd_T54 x6_2 x7_1).f0.f2, (rd_T54 x6_2 x7_1).f0.f3, (rd_T54 x6_2 x7_1).f0.f4, (rd_T54 x6_2 x7_1).f0.f5, (rd_T54 x6_2 x7_1).f0.f6, (rd_T54 x6_2 x7_1).f0.f7, (rd_T54 x6_2 x7_1).f0.f8, (rd_T54 x6_2 x7_1).f0.f9, (rd_T54 x6_2 x7_1).f0.f10, (rd_T54 x6_2 x7_1).f0.f11, (rd_T54 x6_2 x7_1).f0.f12, (rd_T54 x6_2 x7_1).f0.f13] x8_2))) ((rd_T54 x6_2 x7_1).f0.f7)), (pickA x8_2 8 (IntKind.i8.wrap (-(rd [(rd_T54 x6_2 x7_1).f0.f0, (rd_T54 x6_2 x7_1).f0.f1, (rd_T54 x6_2 x7_1).f0.f2, (rd_T54 x6_2 x7_1).f0.f3, (rd_T54 x6_2 x7_1).f0.f4, (rd_T54 x6_2 x7_1).f0.f5, (rd_T54 x6_2 x7_1).f0.f6, (rd_T54 x6_2 x7_1).f0.f7, (rd_T54 x6_2 x7_1).f0.f8, (rd_T54 x6_2 x7_1).f0.f9, (rd_T54 x6_2 x7_1).f0.f10, (rd_T54 x6_2 x7_1).f0.f11, (rd_T54 x6_2 x7_1).f0.f12, (rd_T54 x6_2 x7_1).f0.f13] x8_2))) ((rd_T54 x6_2 x7_1).f0.f8)), (pickA x8_2 9 (IntKind.i8.wrap (-(rd [(rd_T54 x6_2 x7_1).f0.f0, (rd_T54 x6_2 x7_1).f0.f1, (rd_T54 x6_2 x7_1).f0.f2, (rd_T54 x6_2 x7_1).f0.f3, (rd_T54 x6_2 x7_1).f0.f4, (rd_T54 x6_2 x7_1).f0.f5, (rd_T54 x6_2 x7_1).f0.f6, (rd_T54 x6_2 x7_1).f0.f7, (rd_T54 x6_2 x7_1).f0.f8, (rd_T54 x6_2 x7_1).f0.f9, (rd_T54 x6_2 x7_1).f0.f10, (rd_T54 x6_2 x7_1).f0.f11, (rd_T54 x6_2 x7_1).f0.f12, (rd_T54 x6_2 x7_1).f0.f13] x8_2))) ((rd_T54 x6_2 x7_1).f0.f9)), (pickA x8_2 10 (IntKind.i8.wrap (-(rd [(rd_T54 x6_2 x7_1).f0.f0, (rd_T54 x6_2 x7_1).f0.f1, (rd_T54 x6_2 x7_1).f0.f2, (rd_T54 x6_2 x7_1).f0.f3, (rd_T54 x6_2 x7_1).f0.f4, (rd_T54 x6_2 x7_1).f0.f5, (rd_T54 x6_2 x7_1).f0.f6, (rd_T54 x6_2 x7_1).f0.f7, (rd_T54 x6_2 x7_1).f0.f8, (rd_T54 x6_2 x7_1).f0.f9, (rd_T54 x6_2 x7_1).f0.f10, (rd_T54 x6_2 x7_1).f0.f11, (rd_T54 x6_2 x7_1).f0.f12, (rd_T54 x6_2 x7_1).f0.f13] x8_2))) ((rd_T54 x6_2 x7_1).f0.f10)), (pickA x8_2 11 (IntKind.i8.wrap (-(rd [(rd_T54 x6_2 x7_1).f0.f0, (rd_T54 x6_2 x7_1).f0.f1, (rd_T54 x6_2 x7_1).f0.f2, (rd_T54 x6_2 x7_1).f0.f3, (rd_T54 x6_2 x7_1).f0.f4, (rd_T54 x6_2 x7_1).f0.f5, (rd_T54 x6_2 x7_1).f0.f6, (rd_T54 x6_2 x7_1).f0.f7, (rd_T54 x6_2 x7_1).f0.f8, (rd_T54 x6_2 x7_1).f0.f9, (rd_T54 x6_2 x7_1).f0.f10, (rd_T54 x6_2 x7_1).f0.f11, (rd_T54 x6_2 x7_1).f0.f12, (rd_T54 x6_2 x7_1).f0.f13] x8_2))) ((rd_T54 x6_2 x7_1).f0.f11)), (pickA x8_2 12 (IntKind.i8.wrap (-(rd [(rd_T54 x6_2 x7_1).f0.f0, (rd_T54 x6_2 x7_1).f0.f1, (rd_T54 x6_2 x7_1).f0.f2, (rd_T54 x6_2 x7_1).f0.f3, (rd_T54 x6_2 x7_1).f0.f4, (rd_T54 x6_2 x7_1).f0.f5, (rd_T54 x6_2 x7_1).f0.f6, (rd_T54 x6_2 x7_1).f0.f7, (rd_T54 x6_2 x7_1).f0.f8, (rd_T54 x6_2 x7_1).f0.f9, (rd_T54 x6_2 x7_1).f0.f10, (rd_T54 x6_2 x7_1).f0.f11, (rd_T54 x6_2 x7_1).f0.f12, (rd_T54 x6_2 x7_1).f0.f13] x8_2))) ((rd_T54 x6_2 x7_1).f0.f12)), (pickA x8_2 13 (IntKind.i8.wrap (-(rd [(rd_T54 x6_2 x7_1).f0.f0, (rd_T54 x6_2 x7_1).f0.f1, (rd_T54 x6_2 x7_1).f0.f2, (rd_T54 x6_2 x7_1).f0.f3, (rd_T54 x6_2 x7_1).f0.f4, (rd_T54 x6_2 x7_1).f0.f5, (rd_T54 x6_2 x7_1).f0.f6, (rd_T54 x6_2 x7_1).f0.f7, (rd_T54 x6_2 x7_1).f0.f8, (rd_T54 x6_2 x7_1).f0.f9, (rd_T54 x6_2 x7_1).f0.f10, (rd_T54 x6_2 x7_1).f0.f11, (rd_T54 x6_2 x7_1).f0.f12, (rd_T54 x6_2 x7_1).f0.f13] x8_2))) ((rd_T54 x6_2 x7_1).f0.f13))⟩ : S50), (⟨(rd_T54 x6_2 x7_1).f1.f0, (rd_T54 x6_2 x7_1).f1.f1, (rd_T54 x6_2 x7_1).f1.f2⟩ : S52), (⟨(rd_T54 x6_2 x7_1).f2.f0, (rd_T54 x6_2 x7_1).f2.f1⟩ : S46), (rd_T54 x6_2 x7_1).f3⟩ : S54)) := ⟨_, rfl⟩
            replace H : (spec_MirrorPlan.l1 k2 l1 y261 x7_1 (wrap64 (x8_2 + 1))) = some (r1, r2) := by first | (rw [hy261]; with_reducible exact H) | (have H2_ := (Option.bind_some _ _).symm.trans H; rw [hy261]; with_reducible exact H2_) | (have H2_ := (Option.bind_some _ _).symm.trans H; with_reducible exact H2_) | with_reducible exact H | (rw [hy261]; exact H) | exact H
            have Ny261 := zc.mk hy261
            clear hy261
            have H' := zc.mk H
            clear H
            try go_wp2
            have n0_ := zc.mk (Kd.R_drew HO_6.out)
            have n1_ := zc.mk (zh BK247.out)
            have n2_ := zc.mk (zb HB.out)
            clear HO_6
            clear BK247
            clear HB
            have HO_6 := n0_
            have BK247 := n1_
            have HB := n2_
            clear n0_ n1_ n2_
            have p258 : 0 ≤ (x7_1 : Int) := of_decide_eq_true (by first | (with_reducible assumption) | assumption)
            have q258 : x7_1 < (x6_2.length : Int) := of_decide_eq_true (by first | (with_reducible assumption) | assumption)
            obtain ⟨ad258, e258, hx258_0, hx258_1, hx258_2, hx258_3, hx258_4, hx258_5, hx258_6, hx258_7, hx258_8, hx258_9, hx258_10, hx258_11, hx258_12, hx258_13, hx258_14, hx258_15, hx258_16, hx258_17, hx258_18, hx258_19⟩ := at_T54 (Kd.R_reads' HO_6.out).2.2 x7_1 p258 q258
            cases e258
            replace p258 := eq_true p258
            replace q258 := eq_true q258
            have pf21 : 0 ≤ (x7_1 : Int) := of_decide_eq_true (by first | (with_reducible assumption) | assumption)
            have qf21 : (x7_1 : Int) < ((x6_2.length : Int) : Int) := of_decide_eq_true (by first | (with_reducible assumption) | assumption)
            obtain ⟨go22, co22, eo22, gb22, gl22, cl22, HG22⟩ := Kd.R_form HO_6.out (by omega)
            (first | cases eo22 | (injection eo22 with ea_ en_ ec_; (first | subst ea_ | (injection ea_ with ea_; subst ea_)); subst ec_; clear en_))
            have GB22 := zc.mk gb22
            have GG22 := zc.mk HG22
            clear gb22 gl22 HG22
            (first | simp only [zq] at hx258_0 | skip)
            (first | simp only [zq] at hx258_1 | skip)
            (first | simp only [zq] at hx258_2 | skip)
            (first | simp only [zq] at hx258_3 | skip)
            (first | simp only [zq] at hx258_4 | skip)
            (first | simp only [zq] at hx258_5 | skip)
            (first | simp only [zq] at hx258_6 | skip)
            (first | simp only [zq] at hx258_7 | skip)
            (first | simp only [zq] at hx258_8 | skip)
            (first | simp only [zq] at hx258_9 | skip)
            (first | simp only [zq] at hx258_10 | skip)
            (first | simp only [zq] at hx258_11 | skip)
            (first | simp only [zq] at hx258_12 | skip)
            (first | simp only [zq] at hx258_13 | skip)
            (first | simp only [zq] at hx258_14 | skip)
            (first | simp only [zq] at hx258_15 | skip)
            (first | simp only [zq] at hx258_16 | skip)
            (first | simp only [zq] at hx258_17 | skip)
            (first | simp only [zq] at hx258_18 | skip)
            (first | simp only [zq] at hx258_19 | skip)
            clear pf21 qf21
            have hx20_0 := rdc14 (a := fun z_ : Int => ⟨go22, ((x7_1).toNat * 20) + z_.toNat, none⟩) (j := x8_2) (of_decide_eq_true (by first | (with_reducible assumption) | assumption)) (of_decide_eq_true (by first | (with_reducible assumption) | assumption)) hx258_0 hx258_1 hx258_2 hx258_3 hx258_4 hx258_5 hx258_6 hx258_7 hx258_8 hx258_9 hx258_10 hx258_11 hx258_12 hx258_13
            (try dsimp only at hx20_0)
            have p20 : 0 ≤ (x8_2 : Int) := of_decide_eq_true (by first | (with_reducible assumption) | assumption)
            have q20 : x8_2 < (14 : Int) := of_decide_eq_true (by first | (with_reducible assumption) | assumption)
            replace p20 := eq_true p20
            replace q20 := eq_true q20
            have p18 : 0 ≤ (x7_1 : Int) := of_decide_eq_true (by first | (with_reducible assumption) | assumption)
            have q18 : (x7_1 : Int) < ((x6_2.length : Int) : Int) := of_decide_eq_true (by first | (with_reducible assumption) | assumption)
            obtain ⟨ce18, hcl18, hM18, hcc18, hfr18⟩ := Kd.R_elem HO_6.out z54 (x7_1 : Int) p18 q18
            obtain rfl := k54_openM hM18
            have hx18_0 : World.cell? _ ⟨go22, (x7_1 : Int).toNat * 20, none⟩ = some (.int .i8 ((rd_T54 x6_2 x7_1).f0.f0)) := hcc18 0 _ rfl
            have hx18_1 : World.cell? _ ⟨go22, (x7_1 : Int).toNat * 20 + 1, none⟩ = some (.int .i8 ((rd_T54 x6_2 x7_1).f0.f1)) := hcc18 1 _ rfl
            have hx18_2 : World.cell? _ ⟨go22, (x7_1 : Int).toNat * 20 + 2, none⟩ = some (.int .i8 ((rd_T54 x6_2 x7_1).f0.f2)) := hcc18 2 _ rfl
            have hx18_3 : World.cell? _ ⟨go22, (x7_1 : Int).toNat * 20 + 3, none⟩ = some (.int .i8 ((rd_T54 x6_2 x7_1).f0.f3)) := hcc18 3 _ rfl
            have hx18_4 : World.cell? _ ⟨go22, (x7_1 : Int).toNat * 20 + 4, none⟩ = some (.int .i8 ((rd_T54 x6_2 x7_1).f0.f4)) := hcc18 4 _ rfl
            have hx18_5 : World.cell? _ ⟨go22, (x7_1 : Int).toNat * 20 + 5, none⟩ = some (.int .i8 ((rd_T54 x6_2 x7_1).f0.f5)) := hcc18 5 _ rfl
            have hx18_6 : World.cell? _ ⟨go22, (x7_1 : Int).toNat * 20 + 6, none⟩ = some (.int .i8 ((rd_T54 x6_2 x7_1).f0.f6)) := hcc18 6 _ rfl
            have hx18_7 : World.cell? _ ⟨go22, (x7_1 : Int).toNat * 20 + 7, none⟩ = some (.int .i8 ((rd_T54 x6_2 x7_1).f0.f7)) := hcc18 7 _ rfl
            have hx18_8 : World.cell? _ ⟨go22, (x7_1 : Int).toNat * 20 + 8, none⟩ = some (.int .i8 ((rd_T54 x6_2 x7_1).f0.f8)) := hcc18 8 _ rfl
            have hx18_9 : World.cell? _ ⟨go22, (x7_1 : Int).toNat * 20 + 9, none⟩ = some (.int .i8 ((rd_T54 x6_2 x7_1).f0.f9)) := hcc18 9 _ rfl
            have hx18_10 : World.cell? _ ⟨go22, (x7_1 : Int).toNat * 20 + 10, none⟩ = some (.int .i8 ((rd_T54 x6_2 x7_1).f0.f10)) := hcc18 10 _ rfl
            have hx18_11 : World.cell? _ ⟨go22, (x7_1 : Int).toNat * 20 + 11, none⟩ = some (.int .i8 ((rd_T54 x6_2 x7_1).f0.f11)) := hcc18 11 _ rfl
            have hx18_12 : World.cell? _ ⟨go22, (x7_1 : Int).toNat * 20 + 12, none⟩ = some (.int .i8 ((rd_T54 x6_2 x7_1).f0.f12)) := hcc18 12 _ rfl
            have hx18_13 : World.cell? _ ⟨go22, (x7_1 : Int).toNat * 20 + 13, none⟩ = some (.int .i8 ((rd_T54 x6_2 x7_1).f0.f13)) := hcc18 13 _ rfl
            have hx18_14 : World.cell? _ ⟨go22, (x7_1 : Int).toNat * 20 + 14, none⟩ = some (.int .i16 ((rd_T54 x6_2 x7_1).f1.f0)) := hcc18 14 _ rfl
            have hx18_15 : World.cell? _ ⟨go22, (x7_1 : Int).toNat * 20 + 15, none⟩ = some (.int .i16 ((rd_T54 x6_2 x7_1).f1.f1)) := hcc18 15 _ rfl
            have hx18_16 : World.cell? _ ⟨go22, (x7_1 : Int).toNat * 20 + 16, none⟩ = some (.int .i16 ((rd_T54 x6_2 x7_1).f1.f2)) := hcc18 16 _ rfl
            have hx18_17 : World.cell? _ ⟨go22, (x7_1 : Int).toNat * 20 + 17, none⟩ = some (.int .i8 ((rd_T54 x6_2 x7_1).f2.f0)) := hcc18 17 _ rfl
            have hx18_18 : World.cell? _ ⟨go22, (x7_1 : Int).toNat * 20 + 18, none⟩ = some (.bool ((rd_T54 x6_2 x7_1).f2.f1)) := hcc18 18 _ rfl
            have hx18_19 : World.cell? _ ⟨go22, (x7_1 : Int).toNat * 20 + 19, none⟩ = some (.bool ((rd_T54 x6_2 x7_1).f3)) := hcc18 19 _ rfl
            have hf18_0 : World.frozen? _ ⟨go22, (x7_1 : Int).toNat * 20, none⟩ = false := hfr18 0
            have hf18_1 : World.frozen? _ ⟨go22, (x7_1 : Int).toNat * 20 + 1, none⟩ = false := hfr18 1
            have hf18_2 : World.frozen? _ ⟨go22, (x7_1 : Int).toNat * 20 + 2, none⟩ = false := hfr18 2
            have hf18_3 : World.frozen? _ ⟨go22, (x7_1 : Int).toNat * 20 + 3, none⟩ = false := hfr18 3
            have hf18_4 : World.frozen? _ ⟨go22, (x7_1 : Int).toNat * 20 + 4, none⟩ = false := hfr18 4
            have hf18_5 : World.frozen? _ ⟨go22, (x7_1 : Int).toNat * 20 + 5, none⟩ = false := hfr18 5
            have hf18_6 : World.frozen? _ ⟨go22, (x7_1 : Int).toNat * 20 + 6, none⟩ = false := hfr18 6
            have hf18_7 : World.frozen? _ ⟨go22, (x7_1 : Int).toNat * 20 + 7, none⟩ = false := hfr18 7
            have hf18_8 : World.frozen? _ ⟨go22, (x7_1 : Int).toNat * 20 + 8, none⟩ = false := hfr18 8
            have hf18_9 : World.frozen? _ ⟨go22, (x7_1 : Int).toNat * 20 + 9, none⟩ = false := hfr18 9
            have hf18_10 : World.frozen? _ ⟨go22, (x7_1 : Int).toNat * 20 + 10, none⟩ = false := hfr18 10
            have hf18_11 : World.frozen? _ ⟨go22, (x7_1 : Int).toNat * 20 + 11, none⟩ = false := hfr18 11
            have hf18_12 : World.frozen? _ ⟨go22, (x7_1 : Int).toNat * 20 + 12, none⟩ = false := hfr18 12
            have hf18_13 : World.frozen? _ ⟨go22, (x7_1 : Int).toNat * 20 + 13, none⟩ = false := hfr18 13
            have hf18_14 : World.frozen? _ ⟨go22, (x7_1 : Int).toNat * 20 + 14, none⟩ = false := hfr18 14
            have hf18_15 : World.frozen? _ ⟨go22, (x7_1 : Int).toNat * 20 + 15, none⟩ = false := hfr18 15
            have hf18_16 : World.frozen? _ ⟨go22, (x7_1 : Int).toNat * 20 + 16, none⟩ = false := hfr18 16
            have hf18_17 : World.frozen? _ ⟨go22, (x7_1 : Int).toNat * 20 + 17, none⟩ = false := hfr18 17
            have hf18_18 : World.frozen? _ ⟨go22, (x7_1 : Int).toNat * 20 + 18, none⟩ = false := hfr18 18
            have hf18_19 : World.frozen? _ ⟨go22, (x7_1 : Int).toNat * 20 + 19, none⟩ = false := hfr18 19
            clear hcl18 hcc18 hfr18 hM18
            replace p18 := eq_true p18
            replace q18 := eq_true q18
            have hx23_0 := rdc14 (a := fun z_ : Int => ⟨go22, (x7_1 : Int).toNat * 20 + z_.toNat, none⟩) (j := x8_2) (of_decide_eq_true (by first | (with_reducible assumption) | assumption)) (of_decide_eq_true (by first | (with_reducible assumption) | assumption)) hx18_0 hx18_1 hx18_2 hx18_3 hx18_4 hx18_5 hx18_6 hx18_7 hx18_8 hx18_9 hx18_10 hx18_11 hx18_12 hx18_13
            (try dsimp only at hx23_0)
            have hf23_0 := rfz14 (a := fun z_ : Int => ⟨go22, (x7_1 : Int).toNat * 20 + z_.toNat, none⟩) (j := x8_2) (of_decide_eq_true (by first | (with_reducible assumption) | assumption)) (of_decide_eq_true (by first | (with_reducible assumption) | assumption)) hf18_0 hf18_1 hf18_2 hf18_3 hf18_4 hf18_5 hf18_6 hf18_7 hf18_8 hf18_9 hf18_10 hf18_11 hf18_12 hf18_13
            (try dsimp only at hf23_0)
            have p23 : 0 ≤ (x8_2 : Int) := of_decide_eq_true (by first | (with_reducible assumption) | assumption)
            have q23 : x8_2 < (14 : Int) := of_decide_eq_true (by first | (with_reducible assumption) | assumption)
            replace p23 := eq_true p23
            replace q23 := eq_true q23
            obtain ⟨ce24, hcl24, hM24, hcc24, hfr24⟩ := Kd.R_elem HO_6.out z54 (x7_1 : Int) (of_decide_eq_true (by first | (with_reducible assumption) | assumption)) (by have h_ : (x7_1 : Int) < ((x6_2.length : Int) : Int) := of_decide_eq_true (by first | (with_reducible assumption) | assumption); first | exact h_ | (have e_ := (Kd.R_reads' HO_6.out).1; omega) | simpa using h_)
            obtain rfl := k54_openM hM24
            have HP24 := (Kd.R_seg HO_6.out (x7_1 : Int) (of_decide_eq_true (by first | (with_reducible assumption) | assumption)) (by have h_ : (x7_1 : Int) < ((x6_2.length : Int) : Int) := of_decide_eq_true (by first | (with_reducible assumption) | assumption); first | exact h_ | (have e_ := (Kd.R_reads' HO_6.out).1; omega) | simpa using h_) (seg := [.int .i8 (IntKind.i8.wrap (-(rd [(rd_T54 x6_2 x7_1).f0.f0, (rd_T54 x6_2 x7_1).f0.f1, (rd_T54 x6_2 x7_1).f0.f2, (rd_T54 x6_2 x7_1).f0.f3, (rd_T54 x6_2 x7_1).f0.f4, (rd_T54 x6_2 x7_1).f0.f5, (rd_T54 x6_2 x7_1).f0.f6, (rd_T54 x6_2 x7_1).f0.f7, (rd_T54 x6_2 x7_1).f0.f8, (rd_T54 x6_2 x7_1).f0.f9, (rd_T54 x6_2 x7_1).f0.f10, (rd_T54 x6_2 x7_1).f0.f11, (rd_T54 x6_2 x7_1).f0.f12, (rd_T54 x6_2 x7_1).f0.f13] x8_2)))]) (j := (x8_2).toNat) hcl24 hcc24 (show (x8_2).toNat + 1 ≤ 20 from by have hp_ : 0 ≤ (x8_2 : Int) := of_decide_eq_true (by first | (with_reducible assumption) | assumption); have hq_ : x8_2 < (14 : Int) := of_decide_eq_true (by first | (with_reducible assumption) | assumption); omega) (x' := (⟨(⟨(pickA x8_2 0 (IntKind.i8.wrap (-(rd [(rd_T54 x6_2 x7_1).f0.f0, (rd_T54 x6_2 x7_1).f0.f1, (rd_T54 x6_2 x7_1).f0.f2, (rd_T54 x6_2 x7_1).f0.f3, (rd_T54 x6_2 x7_1).f0.f4, (rd_T54 x6_2 x7_1).f0.f5, (rd_T54 x6_2 x7_1).f0.f6, (rd_T54 x6_2 x7_1).f0.f7, (rd_T54 x6_2 x7_1).f0.f8, (rd_T54 x6_2 x7_1).f0.f9, (rd_T54 x6_2 x7_1).f0.f10, (rd_T54 x6_2 x7_1).f0.f11, (rd_T54 x6_2 x7_1).f0.f12, (rd_T54 x6_2 x7_1).f0.f13] x8_2))) ((rd_T54 x6_2 x7_1).f0.f0)), (pickA x8_2 1 (IntKind.i8.wrap (-(rd [(rd_T54 x6_2 x7_1).f0.f0, (rd_T54 x6_2 x7_1).f0.f1, (rd_T54 x6_2 x7_1).f0.f2, (rd_T54 x6_2 x7_1).f0.f3, (rd_T54 x6_2 x7_1).f0.f4, (rd_T54 x6_2 x7_1).f0.f5, (rd_T54 x6_2 x7_1).f0.f6, (rd_T54 x6_2 x7_1).f0.f7, (rd_T54 x6_2 x7_1).f0.f8, (rd_T54 x6_2 x7_1).f0.f9, (rd_T54 x6_2 x7_1).f0.f10, (rd_T54 x6_2 x7_1).f0.f11, (rd_T54 x6_2 x7_1).f0.f12, (rd_T54 x6_2 x7_1).f0.f13] x8_2))) ((rd_T54 x6_2 x7_1).f0.f1)), (pickA x8_2 2 (IntKind.i8.wrap (-(rd [(rd_T54 x6_2 x7_1).f0.f0, (rd_T54 x6_2 x7_1).f0.f1, (rd_T54 x6_2 x7_1).f0.f2, (rd_T54 x6_2 x7_1).f0.f3, (rd_T54 x6_2 x7_1).f0.f4, (rd_T54 x6_2 x7_1).f0.f5, (rd_T54 x6_2 x7_1).f0.f6, (rd_T54 x6_2 x7_1).f0.f7, (rd_T54 x6_2 x7_1).f0.f8, (rd_T54 x6_2 x7_1).f0.f9, (rd_T54 x6_2 x7_1).f0.f10, (rd_T54 x6_2 x7_1).f0.f11, (rd_T54 x6_2 x7_1).f0.f12, (rd_T54 x6_2 x7_1).f0.f13] x8_2))) ((rd_T54 x6_2 x7_1).f0.f2)), (pickA x8_2 3 (IntKind.i8.wrap (-(rd [(rd_T54 x6_2 x7_1).f0.f0, (rd_T54 x6_2 x7_1).f0.f1, (rd_T54 x6_2 x7_1).f0.f2, (rd_T54 x6_2 x7_1).f0.f3, (rd_T54 x6_2 x7_1).f0.f4, (rd_T54 x6_2 x7_1).f0.f5, (rd_T54 x6_2 x7_1).f0.f6, (rd_T54 x6_2 x7_1).f0.f7, (rd_T54 x6_2 x7_1).f0.f8, (rd_T54 x6_2 x7_1).f0.f9, (rd_T54 x6_2 x7_1).f0.f10, (rd_T54 x6_2 x7_1).f0.f11, (rd_T54 x6_2 x7_1).f0.f12, (rd_T54 x6_2 x7_1).f0.f13] x8_2))) ((rd_T54 x6_2 x7_1).f0.f3)), (pickA x8_2 4 (IntKind.i8.wrap (-(rd [(rd_T54 x6_2 x7_1).f0.f0, (rd_T54 x6_2 x7_1).f0.f1, (rd_T54 x6_2 x7_1).f0.f2, (rd_T54 x6_2 x7_1).f0.f3, (rd_T54 x6_2 x7_1).f0.f4, (rd_T54 x6_2 x7_1).f0.f5, (rd_T54 x6_2 x7_1).f0.f6, (rd_T54 x6_2 x7_1).f0.f7, (rd_T54 x6_2 x7_1).f0.f8, (rd_T54 x6_2 x7_1).f0.f9, (rd_T54 x6_2 x7_1).f0.f10, (rd_T54 x6_2 x7_1).f0.f11, (rd_T54 x6_2 x7_1).f0.f12, (rd_T54 x6_2 x7_1).f0.f13] x8_2))) ((rd_T54 x6_2 x7_1).f0.f4)), (pickA x8_2 5 (IntKind.i8.wrap (-(rd [(rd_T54 x6_2 x7_1).f0.f0, (rd_T54 x6_2 x7_1).f0.f1, (rd_T54 x6_2 x7_1).f0.f2, (rd_T54 x6_2 x7_1).f0.f3, (rd_T54 x6_2 x7_1).f0.f4, (rd_T54 x6_2 x7_1).f0.f5, (rd_T54 x6_2 x7_1).f0.f6, (rd_T54 x6_2 x7_1).f0.f7, (rd_T54 x6_2 x7_1).f0.f8, (rd_T54 x6_2 x7_1).f0.f9, (rd_T54 x6_2 x7_1).f0.f10, (rd_T54 x6_2 x7_1).f0.f11, (rd_T54 x6_2 x7_1).f0.f12, (rd_T54 x6_2 x7_1).f0.f13] x8_2))) ((rd_T54 x6_2 x7_1).f0.f5)), (pickA x8_2 6 (IntKind.i8.wrap (-(rd [(rd_T54 x6_2 x7_1).f0.f0, (rd_T54 x6_2 x7_1).f0.f1, (rd_T54 x6_2 x7_1).f0.f2, (rd_T54 x6_2 x7_1).f0.f3, (rd_T54 x6_2 x7_1).f0.f4, (rd_T54 x6_2 x7_1).f0.f5, (rd_T54 x6_2 x7_1).f0.f6, (rd_T54 x6_2 x7_1).f0.f7, (rd_T54 x6_2 x7_1).f0.f8, (rd_T54 x6_2 x7_1).f0.f9, (rd_T54 x6_2 x7_1).f0.f10, (rd_T54 x6_2 x7_1).f0.f11, (rd_T54 x6_2 x7_1).f0.f12, (rd_T54 x6_2 x7_1).f0.f13] x8_2))) ((rd_T54 x6_2 x7_1).f0.f6)), (pickA x8_2 7 (IntKind.i8.wrap (-(rd [(rd_T54 x6_2 x7_1).f0.f0, (rd_T54 x6_2 x7_1).f0.f1, (rd_T54 x6_2 x7_1).f0.f2, (rd_T54 x6_2 x7_1).f0.f3, (rd_T54 x6_2 x7_1).f0.f4, (rd_T54 x6_2 x7_1).f0.f5, (rd_T54 x6_2 x7_1).f0.f6, (rd_T54 x6_2 x7_1).f0.f7, (rd_T54 x6_2 x7_1).f0.f8, (rd_T54 x6_2 x7_1).f0.f9, (rd_T54 x6_2 x7_1).f0.f10, (rd_T54 x6_2 x7_1).f0.f11, (rd_T54 x6_2 x7_1).f0.f12, (rd_T54 x6_2 x7_1).f0.f13] x8_2))) ((rd_T54 x6_2 x7_1).f0.f7)), (pickA x8_2 8 (IntKind.i8.wrap (-(rd [(rd_T54 x6_2 x7_1).f0.f0, (rd_T54 x6_2 x7_1).f0.f1, (rd_T54 x6_2 x7_1).f0.f2, (rd_T54 x6_2 x7_1).f0.f3, (rd_T54 x6_2 x7_1).f0.f4, (rd_T54 x6_2 x7_1).f0.f5, (rd_T54 x6_2 x7_1).f0.f6, (rd_T54 x6_2 x7_1).f0.f7, (rd_T54 x6_2 x7_1).f0.f8, (rd_T54 x6_2 x7_1).f0.f9, (rd_T54 x6_2 x7_1).f0.f10, (rd_T54 x6_2 x7_1).f0.f11, (rd_T54 x6_2 x7_1).f0.f12, (rd_T54 x6_2 x7_1).f0.f13] x8_2))) ((rd_T54 x6_2 x7_1).f0.f8)), (pickA x8_2 9 (IntKind.i8.wrap (-(rd [(rd_T54 x6_2 x7_1).f0.f0, (rd_T54 x6_2 x7_1).f0.f1, (rd_T54 x6_2 x7_1).f0.f2, (rd_T54 x6_2 x7_1).f0.f3, (rd_T54 x6_2 x7_1).f0.f4, (rd_T54 x6_2 x7_1).f0.f5, (rd_T54 x6_2 x7_1).f0.f6, (rd_T54 x6_2 x7_1).f0.f7, (rd_T54 x6_2 x7_1).f0.f8, (rd_T54 x6_2 x7_1).f0.f9, (rd_T54 x6_2 x7_1).f0.f10, (rd_T54 x6_2 x7_1).f0.f11, (rd_T54 x6_2 x7_1).f0.f12, (rd_T54 x6_2 x7_1).f0.f13] x8_2))) ((rd_T54 x6_2 x7_1).f0.f9)), (pickA x8_2 10 (IntKind.i8.wrap (-(rd [(rd_T54 x6_2 x7_1).f0.f0, (rd_T54 x6_2 x7_1).f0.f1, (rd_T54 x6_2 x7_1).f0.f2, (rd_T54 x6_2 x7_1).f0.f3, (rd_T54 x6_2 x7_1).f0.f4, (rd_T54 x6_2 x7_1).f0.f5, (rd_T54 x6_2 x7_1).f0.f6, (rd_T54 x6_2 x7_1).f0.f7, (rd_T54 x6_2 x7_1).f0.f8, (rd_T54 x6_2 x7_1).f0.f9, (rd_T54 x6_2 x7_1).f0.f10, (rd_T54 x6_2 x7_1).f0.f11, (rd_T54 x6_2 x7_1).f0.f12, (rd_T54 x6_2 x7_1).f0.f13] x8_2))) ((rd_T54 x6_2 x7_1).f0.f10)), (pickA x8_2 11 (IntKind.i8.wrap (-(rd [(rd_T54 x6_2 x7_1).f0.f0, (rd_T54 x6_2 x7_1).f0.f1, (rd_T54 x6_2 x7_1).f0.f2, (rd_T54 x6_2 x7_1).f0.f3, (rd_T54 x6_2 x7_1).f0.f4, (rd_T54 x6_2 x7_1).f0.f5, (rd_T54 x6_2 x7_1).f0.f6, (rd_T54 x6_2 x7_1).f0.f7, (rd_T54 x6_2 x7_1).f0.f8, (rd_T54 x6_2 x7_1).f0.f9, (rd_T54 x6_2 x7_1).f0.f10, (rd_T54 x6_2 x7_1).f0.f11, (rd_T54 x6_2 x7_1).f0.f12, (rd_T54 x6_2 x7_1).f0.f13] x8_2))) ((rd_T54 x6_2 x7_1).f0.f11)), (pickA x8_2 12 (IntKind.i8.wrap (-(rd [(rd_T54 x6_2 x7_1).f0.f0, (rd_T54 x6_2 x7_1).f0.f1, (rd_T54 x6_2 x7_1).f0.f2, (rd_T54 x6_2 x7_1).f0.f3, (rd_T54 x6_2 x7_1).f0.f4, (rd_T54 x6_2 x7_1).f0.f5, (rd_T54 x6_2 x7_1).f0.f6, (rd_T54 x6_2 x7_1).f0.f7, (rd_T54 x6_2 x7_1).f0.f8, (rd_T54 x6_2 x7_1).f0.f9, (rd_T54 x6_2 x7_1).f0.f10, (rd_T54 x6_2 x7_1).f0.f11, (rd_T54 x6_2 x7_1).f0.f12, (rd_T54 x6_2 x7_1).f0.f13] x8_2))) ((rd_T54 x6_2 x7_1).f0.f12)), (pickA x8_2 13 (IntKind.i8.wrap (-(rd [(rd_T54 x6_2 x7_1).f0.f0, (rd_T54 x6_2 x7_1).f0.f1, (rd_T54 x6_2 x7_1).f0.f2, (rd_T54 x6_2 x7_1).f0.f3, (rd_T54 x6_2 x7_1).f0.f4, (rd_T54 x6_2 x7_1).f0.f5, (rd_T54 x6_2 x7_1).f0.f6, (rd_T54 x6_2 x7_1).f0.f7, (rd_T54 x6_2 x7_1).f0.f8, (rd_T54 x6_2 x7_1).f0.f9, (rd_T54 x6_2 x7_1).f0.f10, (rd_T54 x6_2 x7_1).f0.f11, (rd_T54 x6_2 x7_1).f0.f12, (rd_T54 x6_2 x7_1).f0.f13] x8_2))) ((rd_T54 x6_2 x7_1).f0.f13))⟩ : S50), (⟨(rd_T54 x6_2 x7_1).f1.f0, (rd_T54 x6_2 x7_1).f1.f1, (rd_T54 x6_2 x7_1).f1.f2⟩ : S52), (⟨(rd_T54 x6_2 x7_1).f2.f0, (rd_T54 x6_2 x7_1).f2.f1⟩ : S46), (rd_T54 x6_2 x7_1).f3⟩ : S54)) (by rcases (show (x8_2 : Int) = 0 ∨ (x8_2 : Int) = 1 ∨ (x8_2 : Int) = 2 ∨ (x8_2 : Int) = 3 ∨ (x8_2 : Int) = 4 ∨ (x8_2 : Int) = 5 ∨ (x8_2 : Int) = 6 ∨ (x8_2 : Int) = 7 ∨ (x8_2 : Int) = 8 ∨ (x8_2 : Int) = 9 ∨ (x8_2 : Int) = 10 ∨ (x8_2 : Int) = 11 ∨ (x8_2 : Int) = 12 ∨ (x8_2 : Int) = 13 by have hp_ : 0 ≤ (x8_2 : Int) := of_decide_eq_true (by first | (with_reducible assumption) | assumption); have hq_ : x8_2 < (14 : Int) := of_decide_eq_true (by first | (with_reducible assumption) | assumption); omega) with h_ | h_ | h_ | h_ | h_ | h_ | h_ | h_ | h_ | h_ | h_ | h_ | h_ | h_ <;> rw [h_] <;> exact k54_mkM _ _ _ _) (fun _ hk => hk)).1
            rw [← Ny261.out] at HP24
            have HQ24 := zc.mk HP24
            clear hcl24 hcc24 hfr24 hM24 HP24
            refine start_ (n := 15) (S := fun w' => w'.cell? ⟨go22, ((x7_1).toNat * 20), none⟩ = some (.int .i8 ((rd_T54 x6_2 x7_1).f0.f0)) ∧ w'.cell? ⟨go22, ((x7_1).toNat * 20) + 1, none⟩ = some (.int .i8 ((rd_T54 x6_2 x7_1).f0.f1)) ∧ w'.cell? ⟨go22, ((x7_1).toNat * 20) + 2, none⟩ = some (.int .i8 ((rd_T54 x6_2 x7_1).f0.f2)) ∧ w'.cell? ⟨go22, ((x7_1).toNat * 20) + 3, none⟩ = some (.int .i8 ((rd_T54 x6_2 x7_1).f0.f3)) ∧ w'.cell? ⟨go22, ((x7_1).toNat * 20) + 4, none⟩ = some (.int .i8 ((rd_T54 x6_2 x7_1).f0.f4)) ∧ w'.cell? ⟨go22, ((x7_1).toNat * 20) + 5, none⟩ = some (.int .i8 ((rd_T54 x6_2 x7_1).f0.f5)) ∧ w'.cell? ⟨go22, ((x7_1).toNat * 20) + 6, none⟩ = some (.int .i8 ((rd_T54 x6_2 x7_1).f0.f6)) ∧ w'.cell? ⟨go22, ((x7_1).toNat * 20) + 7, none⟩ = some (.int .i8 ((rd_T54 x6_2 x7_1).f0.f7)) ∧ w'.cell? ⟨go22, ((x7_1).toNat * 20) + 8, none⟩ = some (.int .i8 ((rd_T54 x6_2 x7_1).f0.f8)) ∧ w'.cell? ⟨go22, ((x7_1).toNat * 20) + 9, none⟩ = some (.int .i8 ((rd_T54 x6_2 x7_1).f0.f9)) ∧ w'.cell? ⟨go22, ((x7_1).toNat * 20) + 10, none⟩ = some (.int .i8 ((rd_T54 x6_2 x7_1).f0.f10)) ∧ w'.cell? ⟨go22, ((x7_1).toNat * 20) + 11, none⟩ = some (.int .i8 ((rd_T54 x6_2 x7_1).f0.f11)) ∧ w'.cell? ⟨go22, ((x7_1).toNat * 20) + 12, none⟩ = some (.int .i8 ((rd_T54 x6_2 x7_1).f0.f12)) ∧ w'.cell? ⟨go22, ((x7_1).toNat * 20) + 13, none⟩ = some (.int .i8 ((rd_T54 x6_2 x7_1).f0.f13)) ∧ w'.cell? ⟨go22, ((x7_1).toNat * 20) + 14, none⟩ = some (.int .i16 ((rd_T54 x6_2 x7_1).f1.f0)) ∧ w'.cell? ⟨go22, ((x7_1).toNat * 20) + 15, none⟩ = some (.int .i16 ((rd_T54 x6_2 x7_1).f1.f1)) ∧ w'.cell? ⟨go22, ((x7_1).toNat * 20) + 16, none⟩ = some (.int .i16 ((rd_T54 x6_2 x7_1).f1.f2)) ∧ w'.cell? ⟨go22, ((x7_1).toNat * 20) + 17, none⟩ = some (.int .i8 ((rd_T54 x6_2 x7_1).f2.f0)) ∧ w'.cell? ⟨go22, ((x7_1).toNat * 20) + 18, none⟩ = some (.bool ((rd_T54 x6_2 x7_1).f2.f1)) ∧ w'.cell? ⟨go22, ((x7_1).toNat * 20) + 19, none⟩ = some (.bool ((rd_T54 x6_2 x7_1).f3)) ∧ w'.cell? ⟨go22, ((x7_1).toNat * 20) + (x8_2).toNat, none⟩ = some (.int .i8 (rd [(rd_T54 x6_2 x7_1).f0.f0, (rd_T54 x6_2 x7_1).f0.f1, (rd_T54 x6_2 x7_1).f0.f2, (rd_T54 x6_2 x7_1).f0.f3, (rd_T54 x6_2 x7_1).f0.f4, (rd_T54 x6_2 x7_1).f0.f5, (rd_T54 x6_2 x7_1).f0.f6, (rd_T54 x6_2 x7_1).f0.f7, (rd_T54 x6_2 x7_1).f0.f8, (rd_T54 x6_2 x7_1).f0.f9, (rd_T54 x6_2 x7_1).f0.f10, (rd_T54 x6_2 x7_1).f0.f11, (rd_T54 x6_2 x7_1).f0.f12, (rd_T54 x6_2 x7_1).f0.f13] x8_2))) (ds := [14]) (fm 15 0) (by kernel_rfl) rfl rfl ⟨hx258_0, hx258_1, hx258_2, hx258_3, hx258_4, hx258_5, hx258_6, hx258_7, hx258_8, hx258_9, hx258_10, hx258_11, hx258_12, hx258_13, hx258_14, hx258_15, hx258_16, hx258_17, hx258_18, hx258_19, hx20_0⟩ (fun hHeld => ?_); refine zma spec_MirrorPlan.tab10 spec_MirrorPlan.bits10 (fun HT_ HW_ => ?_)
            generalize wr.drew = w19 at HO_6 BK247 HB GG22 HQ24 hf18_0 hf18_1 hf18_10 hf18_11 hf18_12 hf18_13 hf18_14 hf18_15 hf18_16 hf18_17 hf18_18 hf18_19 hf18_2 hf18_3 hf18_4 hf18_5 hf18_6 hf18_7 hf18_8 hf18_9 hf23_0 hx18_0 hx18_1 hx18_10 hx18_11 hx18_12 hx18_13 hx18_14 hx18_15 hx18_16 hx18_17 hx18_18 hx18_19 hx18_2 hx18_3 hx18_4 hx18_5 hx18_6 hx18_7 hx18_8 hx18_9 hx20_0 hx23_0 hx258_0 hx258_1 hx258_10 hx258_11 hx258_12 hx258_13 hx258_14 hx258_15 hx258_16 hx258_17 hx258_18 hx258_19 hx258_2 hx258_3 hx258_4 hx258_5 hx258_6 hx258_7 hx258_8 hx258_9 hHeld ⊢
            refine pv 0 27 (fm 15 1) rfl rfl (zj HT_.out (by kernel_rfl)) (fun _ _ _ h => h) (Or.inl ⟨by rfl, by intro w'; go_simp; with_reducible rfl⟩) (by simp only [Act.put, ea, eb, ec, zm, zk]; rfl) ?_
            refine pv 1 28 (fm 15 2) rfl rfl (zj HT_.out (by kernel_rfl)) (fun _ _ _ h => h) (Or.inl ⟨by rfl, by intro w'; go_simp; with_reducible rfl⟩) (by simp only [Act.put, ea, eb, ec, zm, zk]; rfl) ?_
            refine pv 2 29 (fm 15 3) rfl rfl (zj HT_.out (by kernel_rfl)) (fun _ _ _ h => h) (Or.inl ⟨by rfl, by intro w'; go_simp; with_reducible rfl⟩) (by simp only [Act.put, ea, eb, ec, zm, zk]; rfl) ?_
            refine pv 3 30 (fm 15 4) rfl rfl (zj HT_.out (by kernel_rfl)) (fun _ _ _ h => h) (Or.inl ⟨by rfl, by intro w'; go_simp; with_reducible rfl⟩) (by simp only [Act.put, ea, eb, ec, zm, zk]; rfl) ?_
            refine pv 4 31 (fm 15 5) rfl rfl (zj HT_.out (by kernel_rfl)) (fun _ _ _ h => h) (Or.inl ⟨by rfl, by intro w'; go_simp; with_reducible rfl⟩) (by simp only [Act.put, ea, eb, ec, zm, zk]; rfl) ?_
            refine pv 5 32 (fm 15 6) rfl rfl (zj HT_.out (by kernel_rfl)) (fun _ _ _ h => h) (Or.inl ⟨by rfl, by intro w'; go_simp; with_reducible rfl⟩) (by simp only [Act.put, ea, eb, ec, zm, zk]; rfl) ?_
            refine pv 6 33 (fm 15 7) rfl rfl (zj HT_.out (by kernel_rfl)) (fun _ _ _ h => h) (Or.inl ⟨by rfl, by intro w'; go_simp; with_reducible rfl⟩) (by simp only [Act.put, ea, eb, ec, zm, zk]; rfl) ?_
            refine pv 7 34 (fm 15 8) rfl rfl (zj HT_.out (by kernel_rfl)) (fun _ _ _ h => h) (Or.inl ⟨by rfl, by intro w'; go_simp; with_reducible rfl⟩) (by simp only [Act.put, ea, eb, ec, zm, zk]; rfl) ?_
            refine pv 8 35 (fm 15 9) rfl rfl (zj HT_.out (by kernel_rfl)) (fun _ _ _ h => h) (Or.inl ⟨by rfl, by intro w'; go_simp; with_reducible rfl⟩) (by simp only [Act.put, ea, eb, ec, zm, zk]; rfl) ?_
            refine pv 11 38 #[T, T, T, T, T, T, T, T, T, F, F, T, F, F, F] rfl rfl (zj HT_.out (by kernel_rfl)) (fun _ _ _ h => h) (Or.inl ⟨by rfl, by intro w'; go_simp; with_reducible rfl⟩) (by simp only [Act.put, ea, eb, ec, zm, zk]; rfl) ?_
            refine pv 12 39 #[T, T, T, T, T, T, T, T, T, F, F, T, T, F, F] rfl rfl (zj HT_.out (by kernel_rfl)) (fun _ _ _ h => h) (Or.inl ⟨by rfl, by intro w'; go_simp; with_reducible rfl⟩) (by simp only [Act.put, ea, eb, ec, zm, zk]; rfl) ?_
            refine take_ (i := 9) (N := some 36) (v := ?_) (a' := ?_) #[T, T, T, T, T, T, T, T, T, T, F, T, T, F, F] rfl rfl (zca HT_.out HW_.out (by kernel_rfl)) (fun _ _ _ h => h) (Or.inl ⟨by rfl, ?_⟩) hHeld ?_ ?_
            rotate_left
            ·rintro w' ⟨s0, s1, s2, s3, s4, s5, s6, s7, s8, s9, s10, s11, s12, s13, s14, s15, s16, s17, s18, s19, s20⟩
             go_simp
             with_reducible rfl
            rotate_left
            ·simp only [Act.put, List.setIfInBounds_toArray, List.set_cons_zero, List.set_cons_succ, zm, zk]
             rfl
            refine pv 10 37 (fm 15 13) rfl rfl (zj HT_.out (by kernel_rfl)) (fun _ _ _ h => h) (Or.inl ⟨by rfl, by intro w'; go_simp; with_reducible rfl⟩) (by simp only [Act.put, ea, eb, ec, zm, zk]; rfl) ?_
            refine pv 13 40 (fm 15 14) rfl rfl (zj HT_.out (by kernel_rfl)) (fun _ _ _ h => h) (Or.inl ⟨by rfl, by intro w'; go_simp; with_reducible rfl⟩) (by simp only [Act.put, ea, eb, ec, zm, zk]; rfl) ?_
            refine last_ (i := 14) (N := none) (fm 15 15) rfl rfl (one_of HT_.out (by kernel_rfl)) (by decide) (fun K hK => ?_)
            refine skip_ (w1 := ?_) (by rfl) rfl ?_ ?_
            rotate_left
            ·go_simp
             rfl
            refine hK.out _ _ ?_
            clear hK K
            refine done_ (done_of HT_.out (by kernel_rfl)) ?_
            try go_wp2
            (try simp only [← hl6_2])
            go_roundg k2
            case measure => have := HK1.out; have := HK2.out; omega
            case rel => exact ⟨(y261), (wrap64 (x8_2 + 1)), (by first | rfl | (simp; done) | (simp [*]; done)), H', ⟨by have := HK1.out; have := HK2.out; omega⟩, ⟨by (try simp only [hl6_2]); (with_reducible repeat (first | apply Kd.R_alloc | apply Kd.R_drewN | apply Kd.R_drew)); exact HQ24.out⟩, ⟨by (try simp only [hl6_2]); (with_reducible repeat (first | refine zf ?_ _ | refine zh ?_ | refine zg ?_ _)); refine zla ?_ (by have h_ := Kd.R_ne HO_6.out BK247.out (by decide); intro e_; exact h_ (by rw [e_]; rfl)) _; (with_reducible repeat (first | refine zf ?_ _ | refine zh ?_ | refine zg ?_ _)); exact BK247.out⟩, ⟨by repeat (first | (with_reducible first | exact HB.out | apply zd | apply za | apply zb | refine ze ?_ GB22.out | refine ze ?_ GE247.out) | exact HB.out)⟩⟩
           rw [if_neg c17] at H
           exact absurd H (by simp)
          rw [if_neg c16] at H
          exact absurd H (by simp)
         rw [if_neg c15] at H
         exact absurd H (by simp)
        rw [if_neg c14] at H
        have c14b0 : decide (x8_2 < 14) = false := decide_eq_false c14
        clear c14
        by_cases c25 : 0 ≤ x7_1
        ·rw [if_pos c25] at H
         have c25b0 : decide (0 ≤ x7_1) = true := decide_eq_true c25
         clear c25
         by_cases c26 : x7_1 < (l1.length : Int)
         ·rw [if_pos c26] at H
          have c26b0 : decide (x7_1 < (l1.length : Int)) = true := decide_eq_true c26
          clear c26
          by_cases c27 : x7_1 < (x6_2.length : Int)
          ·rw [if_pos c27] at H
           have c27b0 : decide (x7_1 < (x6_2.length : Int)) = true := decide_eq_true c27
           clear c27
           obtain ⟨y265, hy265⟩ : ∃ y_ : List (S54), y_ = (x6_2.set (x7_1 : Int).toNat (⟨(⟨(rd_T54 x6_2 x7_1).f0.f0, (rd_T54 x6_2 x7_1).f0.f1, (rd_T54 x6_2 x7_1).f0.f2, (rd_T54 x6_2 x7_1).f0.f3, (rd_T54 x6_2 x7_1).f0.f4, (rd_T54 x6_2 x7_1).f0.f5, (rd_T54 x6_2 x7_1).f0.f6, (rd_T54 x6_2 x7_1).f0.f7, (rd_T54 x6_2 x7_1).f0.f8, (rd_T54 x6_2 x7_1).f0.f9, (rd_T54 x6_2 x7_1).f0.f10, (rd_T54 x6_2 x7_1).f0.f11, (rd_T54 x6_2 x7_1).f0.f12, (rd_T54 x6_2 x7_1).f0.f13⟩ : S50), (⟨(rd_T54 l1 x7_1).f1.f2, (rd_T54 l1 x7_1).f1.f1, (rd_T54 l1 x7_1).f1.f0⟩ : S52), (⟨(rd_T54 x6_2 x7_1).f2.f0, (rd_T54 x6_2 x7_1).f2.f1⟩ : S46), (rd_T54 x6_2 x7_1).f3⟩ : S54)) := ⟨_, rfl⟩
           replace H : (spec_MirrorPlan.l0 k2 l1 y265 (wrap64 (x7_1 + 1))) = some (r1, r2) := by first | (rw [hy265]; with_reducible exact H) | (have H2_ := (Option.bind_some _ _).symm.trans H; rw [hy265]; with_reducible exact H2_) | (have H2_ := (Option.bind_some _ _).symm.trans H; with_reducible exact H2_) | with_reducible exact H | (rw [hy265]; exact H) | exact H
           have Ny265 := zc.mk hy265
           clear hy265
           have H' := zc.mk H
           clear H
           try go_wp2
           have n0_ := zc.mk (Kd.R_drew HO_6.out)
           have n1_ := zc.mk (zh BK247.out)
           have n2_ := zc.mk (zb HB.out)
           clear HO_6
           clear BK247
           clear HB
           have HO_6 := n0_
           have BK247 := n1_
           have HB := n2_
           clear n0_ n1_ n2_
           have p262 : 0 ≤ (x7_1 : Int) := of_decide_eq_true (by first | (with_reducible assumption) | assumption)
           have q262 : x7_1 < (l1.length : Int) := of_decide_eq_true (by first | (with_reducible assumption) | assumption)
           obtain ⟨ad262, e262, hx262_0, hx262_1, hx262_2, hx262_3, hx262_4, hx262_5, hx262_6, hx262_7, hx262_8, hx262_9, hx262_10, hx262_11, hx262_12, hx262_13, hx262_14, hx262_15, hx262_16, hx262_17, hx262_18, hx262_19⟩ := at_T54 HR1.out x7_1 p262 q262
           have hw262_19 := hx262_19
           have hw262_18 := hx262_18
           have hw262_17 := hx262_17
           have hw262_16 := hx262_16
           have hw262_15 := hx262_15
           have hw262_14 := hx262_14
           have hw262_13 := hx262_13
           have hw262_12 := hx262_12
           have hw262_11 := hx262_11
           have hw262_10 := hx262_10
           have hw262_9 := hx262_9
           have hw262_8 := hx262_8
           have hw262_7 := hx262_7
           have hw262_6 := hx262_6
           have hw262_5 := hx262_5
           have hw262_4 := hx262_4
           have hw262_3 := hx262_3
           have hw262_2 := hx262_2
           have hw262_1 := hx262_1
           have hw262_0 := hx262_0
           cases e262
           replace hx262_0 := (HB.out.cell (World.block_lt_of_cell? w _ hx262_0)).trans hx262_0
           replace hx262_1 := (HB.out.cell (World.block_lt_of_cell? w _ hx262_1)).trans hx262_1
           replace hx262_2 := (HB.out.cell (World.block_lt_of_cell? w _ hx262_2)).trans hx262_2
           replace hx262_3 := (HB.out.cell (World.block_lt_of_cell? w _ hx262_3)).trans hx262_3
           replace hx262_4 := (HB.out.cell (World.block_lt_of_cell? w _ hx262_4)).trans hx262_4
           replace hx262_5 := (HB.out.cell (World.block_lt_of_cell? w _ hx262_5)).trans hx262_5
           replace hx262_6 := (HB.out.cell (World.block_lt_of_cell? w _ hx262_6)).trans hx262_6
           replace hx262_7 := (HB.out.cell (World.block_lt_of_cell? w _ hx262_7)).trans hx262_7
           replace hx262_8 := (HB.out.cell (World.block_lt_of_cell? w _ hx262_8)).trans hx262_8
           replace hx262_9 := (HB.out.cell (World.block_lt_of_cell? w _ hx262_9)).trans hx262_9
           replace hx262_10 := (HB.out.cell (World.block_lt_of_cell? w _ hx262_10)).trans hx262_10
           replace hx262_11 := (HB.out.cell (World.block_lt_of_cell? w _ hx262_11)).trans hx262_11
           replace hx262_12 := (HB.out.cell (World.block_lt_of_cell? w _ hx262_12)).trans hx262_12
           replace hx262_13 := (HB.out.cell (World.block_lt_of_cell? w _ hx262_13)).trans hx262_13
           replace hx262_14 := (HB.out.cell (World.block_lt_of_cell? w _ hx262_14)).trans hx262_14
           replace hx262_15 := (HB.out.cell (World.block_lt_of_cell? w _ hx262_15)).trans hx262_15
           replace hx262_16 := (HB.out.cell (World.block_lt_of_cell? w _ hx262_16)).trans hx262_16
           replace hx262_17 := (HB.out.cell (World.block_lt_of_cell? w _ hx262_17)).trans hx262_17
           replace hx262_18 := (HB.out.cell (World.block_lt_of_cell? w _ hx262_18)).trans hx262_18
           replace hx262_19 := (HB.out.cell (World.block_lt_of_cell? w _ hx262_19)).trans hx262_19
           replace p262 := eq_true p262
           replace q262 := eq_true q262
           have p263 : 0 ≤ (x7_1 : Int) := of_decide_eq_true (by first | (with_reducible assumption) | assumption)
           have q263 : x7_1 < (l1.length : Int) := of_decide_eq_true (by first | (with_reducible assumption) | assumption)
           obtain ⟨ad263, e263, hx263_0, hx263_1, hx263_2, hx263_3, hx263_4, hx263_5, hx263_6, hx263_7, hx263_8, hx263_9, hx263_10, hx263_11, hx263_12, hx263_13, hx263_14, hx263_15, hx263_16, hx263_17, hx263_18, hx263_19⟩ := at_T54 HR1.out x7_1 p263 q263
           have hw263_19 := hx263_19
           have hw263_18 := hx263_18
           have hw263_17 := hx263_17
           have hw263_16 := hx263_16
           have hw263_15 := hx263_15
           have hw263_14 := hx263_14
           have hw263_13 := hx263_13
           have hw263_12 := hx263_12
           have hw263_11 := hx263_11
           have hw263_10 := hx263_10
           have hw263_9 := hx263_9
           have hw263_8 := hx263_8
           have hw263_7 := hx263_7
           have hw263_6 := hx263_6
           have hw263_5 := hx263_5
           have hw263_4 := hx263_4
           have hw263_3 := hx263_3
           have hw263_2 := hx263_2
           have hw263_1 := hx263_1
           have hw263_0 := hx263_0
           obtain rfl : ad262 = ad263 := (by injection e263)
           replace hx263_0 := (HB.out.cell (World.block_lt_of_cell? w _ hx263_0)).trans hx263_0
           replace hx263_1 := (HB.out.cell (World.block_lt_of_cell? w _ hx263_1)).trans hx263_1
           replace hx263_2 := (HB.out.cell (World.block_lt_of_cell? w _ hx263_2)).trans hx263_2
           replace hx263_3 := (HB.out.cell (World.block_lt_of_cell? w _ hx263_3)).trans hx263_3
           replace hx263_4 := (HB.out.cell (World.block_lt_of_cell? w _ hx263_4)).trans hx263_4
           replace hx263_5 := (HB.out.cell (World.block_lt_of_cell? w _ hx263_5)).trans hx263_5
           replace hx263_6 := (HB.out.cell (World.block_lt_of_cell? w _ hx263_6)).trans hx263_6
           replace hx263_7 := (HB.out.cell (World.block_lt_of_cell? w _ hx263_7)).trans hx263_7
           replace hx263_8 := (HB.out.cell (World.block_lt_of_cell? w _ hx263_8)).trans hx263_8
           replace hx263_9 := (HB.out.cell (World.block_lt_of_cell? w _ hx263_9)).trans hx263_9
           replace hx263_10 := (HB.out.cell (World.block_lt_of_cell? w _ hx263_10)).trans hx263_10
           replace hx263_11 := (HB.out.cell (World.block_lt_of_cell? w _ hx263_11)).trans hx263_11
           replace hx263_12 := (HB.out.cell (World.block_lt_of_cell? w _ hx263_12)).trans hx263_12
           replace hx263_13 := (HB.out.cell (World.block_lt_of_cell? w _ hx263_13)).trans hx263_13
           replace hx263_14 := (HB.out.cell (World.block_lt_of_cell? w _ hx263_14)).trans hx263_14
           replace hx263_15 := (HB.out.cell (World.block_lt_of_cell? w _ hx263_15)).trans hx263_15
           replace hx263_16 := (HB.out.cell (World.block_lt_of_cell? w _ hx263_16)).trans hx263_16
           replace hx263_17 := (HB.out.cell (World.block_lt_of_cell? w _ hx263_17)).trans hx263_17
           replace hx263_18 := (HB.out.cell (World.block_lt_of_cell? w _ hx263_18)).trans hx263_18
           replace hx263_19 := (HB.out.cell (World.block_lt_of_cell? w _ hx263_19)).trans hx263_19
           replace p263 := eq_true p263
           replace q263 := eq_true q263
           have p264 : 0 ≤ (x7_1 : Int) := of_decide_eq_true (by first | (with_reducible assumption) | assumption)
           have q264 : x7_1 < (l1.length : Int) := of_decide_eq_true (by first | (with_reducible assumption) | assumption)
           obtain ⟨ad264, e264, hx264_0, hx264_1, hx264_2, hx264_3, hx264_4, hx264_5, hx264_6, hx264_7, hx264_8, hx264_9, hx264_10, hx264_11, hx264_12, hx264_13, hx264_14, hx264_15, hx264_16, hx264_17, hx264_18, hx264_19⟩ := at_T54 HR1.out x7_1 p264 q264
           have hw264_19 := hx264_19
           have hw264_18 := hx264_18
           have hw264_17 := hx264_17
           have hw264_16 := hx264_16
           have hw264_15 := hx264_15
           have hw264_14 := hx264_14
           have hw264_13 := hx264_13
           have hw264_12 := hx264_12
           have hw264_11 := hx264_11
           have hw264_10 := hx264_10
           have hw264_9 := hx264_9
           have hw264_8 := hx264_8
           have hw264_7 := hx264_7
           have hw264_6 := hx264_6
           have hw264_5 := hx264_5
           have hw264_4 := hx264_4
           have hw264_3 := hx264_3
           have hw264_2 := hx264_2
           have hw264_1 := hx264_1
           have hw264_0 := hx264_0
           obtain rfl : ad262 = ad264 := (by injection e264)
           replace hx264_0 := (HB.out.cell (World.block_lt_of_cell? w _ hx264_0)).trans hx264_0
           replace hx264_1 := (HB.out.cell (World.block_lt_of_cell? w _ hx264_1)).trans hx264_1
           replace hx264_2 := (HB.out.cell (World.block_lt_of_cell? w _ hx264_2)).trans hx264_2
           replace hx264_3 := (HB.out.cell (World.block_lt_of_cell? w _ hx264_3)).trans hx264_3
           replace hx264_4 := (HB.out.cell (World.block_lt_of_cell? w _ hx264_4)).trans hx264_4
           replace hx264_5 := (HB.out.cell (World.block_lt_of_cell? w _ hx264_5)).trans hx264_5
           replace hx264_6 := (HB.out.cell (World.block_lt_of_cell? w _ hx264_6)).trans hx264_6
           replace hx264_7 := (HB.out.cell (World.block_lt_of_cell? w _ hx264_7)).trans hx264_7
           replace hx264_8 := (HB.out.cell (World.block_lt_of_cell? w _ hx264_8)).trans hx264_8
           replace hx264_9 := (HB.out.cell (World.block_lt_of_cell? w _ hx264_9)).trans hx264_9
           replace hx264_10 := (HB.out.cell (World.block_lt_of_cell? w _ hx264_10)).trans hx264_10
           replace hx264_11 := (HB.out.cell (World.block_lt_of_cell? w _ hx264_11)).trans hx264_11
           replace hx264_12 := (HB.out.cell (World.block_lt_of_cell? w _ hx264_12)).trans hx264_12
           replace hx264_13 := (HB.out.cell (World.block_lt_of_cell? w _ hx264_13)).trans hx264_13
           replace hx264_14 := (HB.out.cell (World.block_lt_of_cell? w _ hx264_14)).trans hx264_14
           replace hx264_15 := (HB.out.cell (World.block_lt_of_cell? w _ hx264_15)).trans hx264_15
           replace hx264_16 := (HB.out.cell (World.block_lt_of_cell? w _ hx264_16)).trans hx264_16
           replace hx264_17 := (HB.out.cell (World.block_lt_of_cell? w _ hx264_17)).trans hx264_17
           replace hx264_18 := (HB.out.cell (World.block_lt_of_cell? w _ hx264_18)).trans hx264_18
           replace hx264_19 := (HB.out.cell (World.block_lt_of_cell? w _ hx264_19)).trans hx264_19
           replace p264 := eq_true p264
           replace q264 := eq_true q264
           have p28 : 0 ≤ (x7_1 : Int) := of_decide_eq_true (by first | (with_reducible assumption) | assumption)
           have q28 : (x7_1 : Int) < ((x6_2.length : Int) : Int) := of_decide_eq_true (by first | (with_reducible assumption) | assumption)
           obtain ⟨go28, co28, eo28, gb28, gl28, cl28, HG28⟩ := Kd.R_form HO_6.out (by omega)
           (first | cases eo28 | (injection eo28 with ea_ en_ ec_; (first | subst ea_ | (injection ea_ with ea_; subst ea_)); subst ec_; clear en_))
           have GB28 := zc.mk gb28
           have GG28 := zc.mk HG28
           clear gb28 gl28 HG28
           obtain ⟨ce28, hcl28, hM28, hcc28, hfr28⟩ := Kd.R_elem HO_6.out z54 (x7_1 : Int) p28 q28
           obtain rfl := k54_openM hM28
           have hx28_0 : World.cell? _ ⟨go28, (x7_1 : Int).toNat * 20, none⟩ = some (.int .i8 ((rd_T54 x6_2 x7_1).f0.f0)) := hcc28 0 _ rfl
           have hx28_1 : World.cell? _ ⟨go28, (x7_1 : Int).toNat * 20 + 1, none⟩ = some (.int .i8 ((rd_T54 x6_2 x7_1).f0.f1)) := hcc28 1 _ rfl
           have hx28_2 : World.cell? _ ⟨go28, (x7_1 : Int).toNat * 20 + 2, none⟩ = some (.int .i8 ((rd_T54 x6_2 x7_1).f0.f2)) := hcc28 2 _ rfl
           have hx28_3 : World.cell? _ ⟨go28, (x7_1 : Int).toNat * 20 + 3, none⟩ = some (.int .i8 ((rd_T54 x6_2 x7_1).f0.f3)) := hcc28 3 _ rfl
           have hx28_4 : World.cell? _ ⟨go28, (x7_1 : Int).toNat * 20 + 4, none⟩ = some (.int .i8 ((rd_T54 x6_2 x7_1).f0.f4)) := hcc28 4 _ rfl
           have hx28_5 : World.cell? _ ⟨go28, (x7_1 : Int).toNat * 20 + 5, none⟩ = some (.int .i8 ((rd_T54 x6_2 x7_1).f0.f5)) := hcc28 5 _ rfl
           have hx28_6 : World.cell? _ ⟨go28, (x7_1 : Int).toNat * 20 + 6, none⟩ = some (.int .i8 ((rd_T54 x6_2 x7_1).f0.f6)) := hcc28 6 _ rfl
           have hx28_7 : World.cell? _ ⟨go28, (x7_1 : Int).toNat * 20 + 7, none⟩ = some (.int .i8 ((rd_T54 x6_2 x7_1).f0.f7)) := hcc28 7 _ rfl
           have hx28_8 : World.cell? _ ⟨go28, (x7_1 : Int).toNat * 20 + 8, none⟩ = some (.int .i8 ((rd_T54 x6_2 x7_1).f0.f8)) := hcc28 8 _ rfl
           have hx28_9 : World.cell? _ ⟨go28, (x7_1 : Int).toNat * 20 + 9, none⟩ = some (.int .i8 ((rd_T54 x6_2 x7_1).f0.f9)) := hcc28 9 _ rfl
           have hx28_10 : World.cell? _ ⟨go28, (x7_1 : Int).toNat * 20 + 10, none⟩ = some (.int .i8 ((rd_T54 x6_2 x7_1).f0.f10)) := hcc28 10 _ rfl
           have hx28_11 : World.cell? _ ⟨go28, (x7_1 : Int).toNat * 20 + 11, none⟩ = some (.int .i8 ((rd_T54 x6_2 x7_1).f0.f11)) := hcc28 11 _ rfl
           have hx28_12 : World.cell? _ ⟨go28, (x7_1 : Int).toNat * 20 + 12, none⟩ = some (.int .i8 ((rd_T54 x6_2 x7_1).f0.f12)) := hcc28 12 _ rfl
           have hx28_13 : World.cell? _ ⟨go28, (x7_1 : Int).toNat * 20 + 13, none⟩ = some (.int .i8 ((rd_T54 x6_2 x7_1).f0.f13)) := hcc28 13 _ rfl
           have hx28_14 : World.cell? _ ⟨go28, (x7_1 : Int).toNat * 20 + 14, none⟩ = some (.int .i16 ((rd_T54 x6_2 x7_1).f1.f0)) := hcc28 14 _ rfl
           have hx28_15 : World.cell? _ ⟨go28, (x7_1 : Int).toNat * 20 + 15, none⟩ = some (.int .i16 ((rd_T54 x6_2 x7_1).f1.f1)) := hcc28 15 _ rfl
           have hx28_16 : World.cell? _ ⟨go28, (x7_1 : Int).toNat * 20 + 16, none⟩ = some (.int .i16 ((rd_T54 x6_2 x7_1).f1.f2)) := hcc28 16 _ rfl
           have hx28_17 : World.cell? _ ⟨go28, (x7_1 : Int).toNat * 20 + 17, none⟩ = some (.int .i8 ((rd_T54 x6_2 x7_1).f2.f0)) := hcc28 17 _ rfl
           have hx28_18 : World.cell? _ ⟨go28, (x7_1 : Int).toNat * 20 + 18, none⟩ = some (.bool ((rd_T54 x6_2 x7_1).f2.f1)) := hcc28 18 _ rfl
           have hx28_19 : World.cell? _ ⟨go28, (x7_1 : Int).toNat * 20 + 19, none⟩ = some (.bool ((rd_T54 x6_2 x7_1).f3)) := hcc28 19 _ rfl
           have hf28_0 : World.frozen? _ ⟨go28, (x7_1 : Int).toNat * 20, none⟩ = false := hfr28 0
           have hf28_1 : World.frozen? _ ⟨go28, (x7_1 : Int).toNat * 20 + 1, none⟩ = false := hfr28 1
           have hf28_2 : World.frozen? _ ⟨go28, (x7_1 : Int).toNat * 20 + 2, none⟩ = false := hfr28 2
           have hf28_3 : World.frozen? _ ⟨go28, (x7_1 : Int).toNat * 20 + 3, none⟩ = false := hfr28 3
           have hf28_4 : World.frozen? _ ⟨go28, (x7_1 : Int).toNat * 20 + 4, none⟩ = false := hfr28 4
           have hf28_5 : World.frozen? _ ⟨go28, (x7_1 : Int).toNat * 20 + 5, none⟩ = false := hfr28 5
           have hf28_6 : World.frozen? _ ⟨go28, (x7_1 : Int).toNat * 20 + 6, none⟩ = false := hfr28 6
           have hf28_7 : World.frozen? _ ⟨go28, (x7_1 : Int).toNat * 20 + 7, none⟩ = false := hfr28 7
           have hf28_8 : World.frozen? _ ⟨go28, (x7_1 : Int).toNat * 20 + 8, none⟩ = false := hfr28 8
           have hf28_9 : World.frozen? _ ⟨go28, (x7_1 : Int).toNat * 20 + 9, none⟩ = false := hfr28 9
           have hf28_10 : World.frozen? _ ⟨go28, (x7_1 : Int).toNat * 20 + 10, none⟩ = false := hfr28 10
           have hf28_11 : World.frozen? _ ⟨go28, (x7_1 : Int).toNat * 20 + 11, none⟩ = false := hfr28 11
           have hf28_12 : World.frozen? _ ⟨go28, (x7_1 : Int).toNat * 20 + 12, none⟩ = false := hfr28 12
           have hf28_13 : World.frozen? _ ⟨go28, (x7_1 : Int).toNat * 20 + 13, none⟩ = false := hfr28 13
           have hf28_14 : World.frozen? _ ⟨go28, (x7_1 : Int).toNat * 20 + 14, none⟩ = false := hfr28 14
           have hf28_15 : World.frozen? _ ⟨go28, (x7_1 : Int).toNat * 20 + 15, none⟩ = false := hfr28 15
           have hf28_16 : World.frozen? _ ⟨go28, (x7_1 : Int).toNat * 20 + 16, none⟩ = false := hfr28 16
           have hf28_17 : World.frozen? _ ⟨go28, (x7_1 : Int).toNat * 20 + 17, none⟩ = false := hfr28 17
           have hf28_18 : World.frozen? _ ⟨go28, (x7_1 : Int).toNat * 20 + 18, none⟩ = false := hfr28 18
           have hf28_19 : World.frozen? _ ⟨go28, (x7_1 : Int).toNat * 20 + 19, none⟩ = false := hfr28 19
           clear hcl28 hcc28 hfr28 hM28
           replace p28 := eq_true p28
           replace q28 := eq_true q28
           obtain ⟨ce30, hcl30, hM30, hcc30, hfr30⟩ := Kd.R_elem HO_6.out z54 (x7_1 : Int) (of_decide_eq_true (by first | (with_reducible assumption) | assumption)) (by have h_ : (x7_1 : Int) < ((x6_2.length : Int) : Int) := of_decide_eq_true (by first | (with_reducible assumption) | assumption); first | exact h_ | (have e_ := (Kd.R_reads' HO_6.out).1; omega) | simpa using h_)
           obtain rfl := k54_openM hM30
           have HP30 := (Kd.R_seg HO_6.out (x7_1 : Int) (of_decide_eq_true (by first | (with_reducible assumption) | assumption)) (by have h_ : (x7_1 : Int) < ((x6_2.length : Int) : Int) := of_decide_eq_true (by first | (with_reducible assumption) | assumption); first | exact h_ | (have e_ := (Kd.R_reads' HO_6.out).1; omega) | simpa using h_) (seg := [.int .i16 ((rd_T54 l1 x7_1).f1.f2), .int .i16 ((rd_T54 l1 x7_1).f1.f1), .int .i16 ((rd_T54 l1 x7_1).f1.f0)]) (j := 14) hcl30 hcc30 (show 17 ≤ 20 from by decide) (x' := (⟨(⟨(rd_T54 x6_2 x7_1).f0.f0, (rd_T54 x6_2 x7_1).f0.f1, (rd_T54 x6_2 x7_1).f0.f2, (rd_T54 x6_2 x7_1).f0.f3, (rd_T54 x6_2 x7_1).f0.f4, (rd_T54 x6_2 x7_1).f0.f5, (rd_T54 x6_2 x7_1).f0.f6, (rd_T54 x6_2 x7_1).f0.f7, (rd_T54 x6_2 x7_1).f0.f8, (rd_T54 x6_2 x7_1).f0.f9, (rd_T54 x6_2 x7_1).f0.f10, (rd_T54 x6_2 x7_1).f0.f11, (rd_T54 x6_2 x7_1).f0.f12, (rd_T54 x6_2 x7_1).f0.f13⟩ : S50), (⟨(rd_T54 l1 x7_1).f1.f2, (rd_T54 l1 x7_1).f1.f1, (rd_T54 l1 x7_1).f1.f0⟩ : S52), (⟨(rd_T54 x6_2 x7_1).f2.f0, (rd_T54 x6_2 x7_1).f2.f1⟩ : S46), (rd_T54 x6_2 x7_1).f3⟩ : S54)) (k54_mkM _ _ _ (⟨(⟨(rd_T54 x6_2 x7_1).f0.f0, (rd_T54 x6_2 x7_1).f0.f1, (rd_T54 x6_2 x7_1).f0.f2, (rd_T54 x6_2 x7_1).f0.f3, (rd_T54 x6_2 x7_1).f0.f4, (rd_T54 x6_2 x7_1).f0.f5, (rd_T54 x6_2 x7_1).f0.f6, (rd_T54 x6_2 x7_1).f0.f7, (rd_T54 x6_2 x7_1).f0.f8, (rd_T54 x6_2 x7_1).f0.f9, (rd_T54 x6_2 x7_1).f0.f10, (rd_T54 x6_2 x7_1).f0.f11, (rd_T54 x6_2 x7_1).f0.f12, (rd_T54 x6_2 x7_1).f0.f13⟩ : S50), (⟨(rd_T54 l1 x7_1).f1.f2, (rd_T54 l1 x7_1).f1.f1, (rd_T54 l1 x7_1).f1.f0⟩ : S52), (⟨(rd_T54 x6_2 x7_1).f2.f0, (rd_T54 x6_2 x7_1).f2.f1⟩ : S46), (rd_T54 x6_2 x7_1).f3⟩ : S54) ) (fun _ hk => hk)).1
           rw [← Ny265.out] at HP30
           have HQ30 := zc.mk HP30
           clear hcl30 hcc30 hfr30 hM30 HP30
           refine start_ (n := 24) (S := fun w' => w'.cell? (ad262.add ((x7_1).toNat * 20)) = some (.int .i8 ((rd_T54 l1 x7_1).f0.f0)) ∧ w'.cell? ⟨(ad262.add ((x7_1).toNat * 20)).block, (ad262.add ((x7_1).toNat * 20)).off + 1, none⟩ = some (.int .i8 ((rd_T54 l1 x7_1).f0.f1)) ∧ w'.cell? ⟨(ad262.add ((x7_1).toNat * 20)).block, (ad262.add ((x7_1).toNat * 20)).off + 2, none⟩ = some (.int .i8 ((rd_T54 l1 x7_1).f0.f2)) ∧ w'.cell? ⟨(ad262.add ((x7_1).toNat * 20)).block, (ad262.add ((x7_1).toNat * 20)).off + 3, none⟩ = some (.int .i8 ((rd_T54 l1 x7_1).f0.f3)) ∧ w'.cell? ⟨(ad262.add ((x7_1).toNat * 20)).block, (ad262.add ((x7_1).toNat * 20)).off + 4, none⟩ = some (.int .i8 ((rd_T54 l1 x7_1).f0.f4)) ∧ w'.cell? ⟨(ad262.add ((x7_1).toNat * 20)).block, (ad262.add ((x7_1).toNat * 20)).off + 5, none⟩ = some (.int .i8 ((rd_T54 l1 x7_1).f0.f5)) ∧ w'.cell? ⟨(ad262.add ((x7_1).toNat * 20)).block, (ad262.add ((x7_1).toNat * 20)).off + 6, none⟩ = some (.int .i8 ((rd_T54 l1 x7_1).f0.f6)) ∧ w'.cell? ⟨(ad262.add ((x7_1).toNat * 20)).block, (ad262.add ((x7_1).toNat * 20)).off + 7, none⟩ = some (.int .i8 ((rd_T54 l1 x7_1).f0.f7)) ∧ w'.cell? ⟨(ad262.add ((x7_1).toNat * 20)).block, (ad262.add ((x7_1).toNat * 20)).off + 8, none⟩ = some (.int .i8 ((rd_T54 l1 x7_1).f0.f8)) ∧ w'.cell? ⟨(ad262.add ((x7_1).toNat * 20)).block, (ad262.add ((x7_1).toNat * 20)).off + 9, none⟩ = some (.int .i8 ((rd_T54 l1 x7_1).f0.f9)) ∧ w'.cell? ⟨(ad262.add ((x7_1).toNat * 20)).block, (ad262.add ((x7_1).toNat * 20)).off + 10, none⟩ = some (.int .i8 ((rd_T54 l1 x7_1).f0.f10)) ∧ w'.cell? ⟨(ad262.add ((x7_1).toNat * 20)).block, (ad262.add ((x7_1).toNat * 20)).off + 11, none⟩ = some (.int .i8 ((rd_T54 l1 x7_1).f0.f11)) ∧ w'.cell? ⟨(ad262.add ((x7_1).toNat * 20)).block, (ad262.add ((x7_1).toNat * 20)).off + 12, none⟩ = some (.int .i8 ((rd_T54 l1 x7_1).f0.f12)) ∧ w'.cell? ⟨(ad262.add ((x7_1).toNat * 20)).block, (ad262.add ((x7_1).toNat * 20)).off + 13, none⟩ = some (.int .i8 ((rd_T54 l1 x7_1).f0.f13)) ∧ w'.cell? ⟨(ad262.add ((x7_1).toNat * 20)).block, (ad262.add ((x7_1).toNat * 20)).off + 14, none⟩ = some (.int .i16 ((rd_T54 l1 x7_1).f1.f0)) ∧ w'.cell? ⟨(ad262.add ((x7_1).toNat * 20)).block, (ad262.add ((x7_1).toNat * 20)).off + 15, none⟩ = some (.int .i16 ((rd_T54 l1 x7_1).f1.f1)) ∧ w'.cell? ⟨(ad262.add ((x7_1).toNat * 20)).block, (ad262.add ((x7_1).toNat * 20)).off + 16, none⟩ = some (.int .i16 ((rd_T54 l1 x7_1).f1.f2)) ∧ w'.cell? ⟨(ad262.add ((x7_1).toNat * 20)).block, (ad262.add ((x7_1).toNat * 20)).off + 17, none⟩ = some (.int .i8 ((rd_T54 l1 x7_1).f2.f0)) ∧ w'.cell? ⟨(ad262.add ((x7_1).toNat * 20)).block, (ad262.add ((x7_1).toNat * 20)).off + 18, none⟩ = some (.bool ((rd_T54 l1 x7_1).f2.f1)) ∧ w'.cell? ⟨(ad262.add ((x7_1).toNat * 20)).block, (ad262.add ((x7_1).toNat * 20)).off + 19, none⟩ = some (.bool ((rd_T54 l1 x7_1).f3)) ∧ w'.cell? (ad262.add ((x7_1).toNat * 20)) = some (.int .i8 ((rd_T54 l1 x7_1).f0.f0)) ∧ w'.cell? ⟨(ad262.add ((x7_1).toNat * 20)).block, (ad262.add ((x7_1).toNat * 20)).off + 1, none⟩ = some (.int .i8 ((rd_T54 l1 x7_1).f0.f1)) ∧ w'.cell? ⟨(ad262.add ((x7_1).toNat * 20)).block, (ad262.add ((x7_1).toNat * 20)).off + 2, none⟩ = some (.int .i8 ((rd_T54 l1 x7_1).f0.f2)) ∧ w'.cell? ⟨(ad262.add ((x7_1).toNat * 20)).block, (ad262.add ((x7_1).toNat * 20)).off + 3, none⟩ = some (.int .i8 ((rd_T54 l1 x7_1).f0.f3)) ∧ w'.cell? ⟨(ad262.add ((x7_1).toNat * 20)).block, (ad262.add ((x7_1).toNat * 20)).off + 4, none⟩ = some (.int .i8 ((rd_T54 l1 x7_1).f0.f4)) ∧ w'.cell? ⟨(ad262.add ((x7_1).toNat * 20)).block, (ad262.add ((x7_1).toNat * 20)).off + 5, none⟩ = some (.int .i8 ((rd_T54 l1 x7_1).f0.f5)) ∧ w'.cell? ⟨(ad262.add ((x7_1).toNat * 20)).block, (ad262.add ((x7_1).toNat * 20)).off + 6, none⟩ = some (.int .i8 ((rd_T54 l1 x7_1).f0.f6)) ∧ w'.cell? ⟨(ad262.add ((x7_1).toNat * 20)).block, (ad262.add ((x7_1).toNat * 20)).off + 7, none⟩ = some (.int .i8 ((rd_T54 l1 x7_1).f0.f7)) ∧ w'.cell? ⟨(ad262.add ((x7_1).toNat * 20)).block, (ad262.add ((x7_1).toNat * 20)).off + 8, none⟩ = some (.int .i8 ((rd_T54 l1 x7_1).f0.f8)) ∧ w'.cell? ⟨(ad262.add ((x7_1).toNat * 20)).block, (ad262.add ((x7_1).toNat * 20)).off + 9, none⟩ = some (.int .i8 ((rd_T54 l1 x7_1).f0.f9)) ∧ w'.cell? ⟨(ad262.add ((x7_1).toNat * 20)).block, (ad262.add ((x7_1).toNat * 20)).off + 10, none⟩ = some (.int .i8 ((rd_T54 l1 x7_1).f0.f10)) ∧ w'.cell? ⟨(ad262.add ((x7_1).toNat * 20)).block, (ad262.add ((x7_1).toNat * 20)).off + 11, none⟩ = some (.int .i8 ((rd_T54 l1 x7_1).f0.f11)) ∧ w'.cell? ⟨(ad262.add ((x7_1).toNat * 20)).block, (ad262.add ((x7_1).toNat * 20)).off + 12, none⟩ = some (.int .i8 ((rd_T54 l1 x7_1).f0.f12)) ∧ w'.cell? ⟨(ad262.add ((x7_1).toNat * 20)).block, (ad262.add ((x7_1).toNat * 20)).off + 13, none⟩ = some (.int .i8 ((rd_T54 l1 x7_1).f0.f13)) ∧ w'.cell? ⟨(ad262.add ((x7_1).toNat * 20)).block, (ad262.add ((x7_1).toNat * 20)).off + 14, none⟩ = some (.int .i16 ((rd_T54 l1 x7_1).f1.f0)) ∧ w'.cell? ⟨(ad262.add ((x7_1).toNat * 20)).block, (ad262.add ((x7_1).toNat * 20)).off + 15, none⟩ = some (.int .i16 ((rd_T54 l1 x7_1).f1.f1)) ∧ w'.cell? ⟨(ad262.add ((x7_1).toNat * 20)).block, (ad262.add ((x7_1).toNat * 20)).off + 16, none⟩ = some (.int .i16 ((rd_T54 l1 x7_1).f1.f2)) ∧ w'.cell? ⟨(ad262.add ((x7_1).toNat * 20)).block, (ad262.add ((x7_1).toNat * 20)).off + 17, none⟩ = some (.int .i8 ((rd_T54 l1 x7_1).f2.f0)) ∧ w'.cell? ⟨(ad262.add ((x7_1).toNat * 20)).block, (ad262.add ((x7_1).toNat * 20)).off + 18, none⟩ = some (.bool ((rd_T54 l1 x7_1).f2.f1)) ∧ w'.cell? ⟨(ad262.add ((x7_1).toNat * 20)).block, (ad262.add ((x7_1).toNat * 20)).off + 19, none⟩ = some (.bool ((rd_T54 l1 x7_1).f3)) ∧ w'.cell? (ad262.add ((x7_1).toNat * 20)) = some (.int .i8 ((rd_T54 l1 x7_1).f0.f0)) ∧ w'.cell? ⟨(ad262.add ((x7_1).toNat * 20)).block, (ad262.add ((x7_1).toNat * 20)).off + 1, none⟩ = some (.int .i8 ((rd_T54 l1 x7_1).f0.f1)) ∧ w'.cell? ⟨(ad262.add ((x7_1).toNat * 20)).block, (ad262.add ((x7_1).toNat * 20)).off + 2, none⟩ = some (.int .i8 ((rd_T54 l1 x7_1).f0.f2)) ∧ w'.cell? ⟨(ad262.add ((x7_1).toNat * 20)).block, (ad262.add ((x7_1).toNat * 20)).off + 3, none⟩ = some (.int .i8 ((rd_T54 l1 x7_1).f0.f3)) ∧ w'.cell? ⟨(ad262.add ((x7_1).toNat * 20)).block, (ad262.add ((x7_1).toNat * 20)).off + 4, none⟩ = some (.int .i8 ((rd_T54 l1 x7_1).f0.f4)) ∧ w'.cell? ⟨(ad262.add ((x7_1).toNat * 20)).block, (ad262.add ((x7_1).toNat * 20)).off + 5, none⟩ = some (.int .i8 ((rd_T54 l1 x7_1).f0.f5)) ∧ w'.cell? ⟨(ad262.add ((x7_1).toNat * 20)).block, (ad262.add ((x7_1).toNat * 20)).off + 6, none⟩ = some (.int .i8 ((rd_T54 l1 x7_1).f0.f6)) ∧ w'.cell? ⟨(ad262.add ((x7_1).toNat * 20)).block, (ad262.add ((x7_1).toNat * 20)).off + 7, none⟩ = some (.int .i8 ((rd_T54 l1 x7_1).f0.f7)) ∧ w'.cell? ⟨(ad262.add ((x7_1).toNat * 20)).block, (ad262.add ((x7_1).toNat * 20)).off + 8, none⟩ = some (.int .i8 ((rd_T54 l1 x7_1).f0.f8)) ∧ w'.cell? ⟨(ad262.add ((x7_1).toNat * 20)).block, (ad262.add ((x7_1).toNat * 20)).off + 9, none⟩ = some (.int .i8 ((rd_T54 l1 x7_1).f0.f9)) ∧ w'.cell? ⟨(ad262.add ((x7_1).toNat * 20)).block, (ad262.add ((x7_1).toNat * 20)).off + 10, none⟩ = some (.int .i8 ((rd_T54 l1 x7_1).f0.f10)) ∧ w'.cell? ⟨(ad262.add ((x7_1).toNat * 20)).block, (ad262.add ((x7_1).toNat * 20)).off + 11, none⟩ = some (.int .i8 ((rd_T54 l1 x7_1).f0.f11)) ∧ w'.cell? ⟨(ad262.add ((x7_1).toNat * 20)).block, (ad262.add ((x7_1).toNat * 20)).off + 12, none⟩ = some (.int .i8 ((rd_T54 l1 x7_1).f0.f12)) ∧ w'.cell? ⟨(ad262.add ((x7_1).toNat * 20)).block, (ad262.add ((x7_1).toNat * 20)).off + 13, none⟩ = some (.int .i8 ((rd_T54 l1 x7_1).f0.f13)) ∧ w'.cell? ⟨(ad262.add ((x7_1).toNat * 20)).block, (ad262.add ((x7_1).toNat * 20)).off + 14, none⟩ = some (.int .i16 ((rd_T54 l1 x7_1).f1.f0)) ∧ w'.cell? ⟨(ad262.add ((x7_1).toNat * 20)).block, (ad262.add ((x7_1).toNat * 20)).off + 15, none⟩ = some (.int .i16 ((rd_T54 l1 x7_1).f1.f1)) ∧ w'.cell? ⟨(ad262.add ((x7_1).toNat * 20)).block, (ad262.add ((x7_1).toNat * 20)).off + 16, none⟩ = some (.int .i16 ((rd_T54 l1 x7_1).f1.f2)) ∧ w'.cell? ⟨(ad262.add ((x7_1).toNat * 20)).block, (ad262.add ((x7_1).toNat * 20)).off + 17, none⟩ = some (.int .i8 ((rd_T54 l1 x7_1).f2.f0)) ∧ w'.cell? ⟨(ad262.add ((x7_1).toNat * 20)).block, (ad262.add ((x7_1).toNat * 20)).off + 18, none⟩ = some (.bool ((rd_T54 l1 x7_1).f2.f1)) ∧ w'.cell? ⟨(ad262.add ((x7_1).toNat * 20)).block, (ad262.add ((x7_1).toNat * 20)).off + 19, none⟩ = some (.bool ((rd_T54 l1 x7_1).f3))) (ds := [23]) (fm 24 0) (by kernel_rfl) rfl rfl ⟨((HB.out.cell (World.block_lt_of_cell? w _ hw262_0)).trans hw262_0), ((HB.out.cell (World.block_lt_of_cell? w _ hw262_1)).trans hw262_1), ((HB.out.cell (World.block_lt_of_cell? w _ hw262_2)).trans hw262_2), ((HB.out.cell (World.block_lt_of_cell? w _ hw262_3)).trans hw262_3), ((HB.out.cell (World.block_lt_of_cell? w _ hw262_4)).trans hw262_4), ((HB.out.cell (World.block_lt_of_cell? w _ hw262_5)).trans hw262_5), ((HB.out.cell (World.block_lt_of_cell? w _ hw262_6)).trans hw262_6), ((HB.out.cell (World.block_lt_of_cell? w _ hw262_7)).trans hw262_7), ((HB.out.cell (World.block_lt_of_cell? w _ hw262_8)).trans hw262_8), ((HB.out.cell (World.block_lt_of_cell? w _ hw262_9)).trans hw262_9), ((HB.out.cell (World.block_lt_of_cell? w _ hw262_10)).trans hw262_10), ((HB.out.cell (World.block_lt_of_cell? w _ hw262_11)).trans hw262_11), ((HB.out.cell (World.block_lt_of_cell? w _ hw262_12)).trans hw262_12), ((HB.out.cell (World.block_lt_of_cell? w _ hw262_13)).trans hw262_13), ((HB.out.cell (World.block_lt_of_cell? w _ hw262_14)).trans hw262_14), ((HB.out.cell (World.block_lt_of_cell? w _ hw262_15)).trans hw262_15), ((HB.out.cell (World.block_lt_of_cell? w _ hw262_16)).trans hw262_16), ((HB.out.cell (World.block_lt_of_cell? w _ hw262_17)).trans hw262_17), ((HB.out.cell (World.block_lt_of_cell? w _ hw262_18)).trans hw262_18), ((HB.out.cell (World.block_lt_of_cell? w _ hw262_19)).trans hw262_19), ((HB.out.cell (World.block_lt_of_cell? w _ hw263_0)).trans hw263_0), ((HB.out.cell (World.block_lt_of_cell? w _ hw263_1)).trans hw263_1), ((HB.out.cell (World.block_lt_of_cell? w _ hw263_2)).trans hw263_2), ((HB.out.cell (World.block_lt_of_cell? w _ hw263_3)).trans hw263_3), ((HB.out.cell (World.block_lt_of_cell? w _ hw263_4)).trans hw263_4), ((HB.out.cell (World.block_lt_of_cell? w _ hw263_5)).trans hw263_5), ((HB.out.cell (World.block_lt_of_cell? w _ hw263_6)).trans hw263_6), ((HB.out.cell (World.block_lt_of_cell? w _ hw263_7)).trans hw263_7), ((HB.out.cell (World.block_lt_of_cell? w _ hw263_8)).trans hw263_8), ((HB.out.cell (World.block_lt_of_cell? w _ hw263_9)).trans hw263_9), ((HB.out.cell (World.block_lt_of_cell? w _ hw263_10)).trans hw263_10), ((HB.out.cell (World.block_lt_of_cell? w _ hw263_11)).trans hw263_11), ((HB.out.cell (World.block_lt_of_cell? w _ hw263_12)).trans hw263_12), ((HB.out.cell (World.block_lt_of_cell? w _ hw263_13)).trans hw263_13), ((HB.out.cell (World.block_lt_of_cell? w _ hw263_14)).trans hw263_14), ((HB.out.cell (World.block_lt_of_cell? w _ hw263_15)).trans hw263_15), ((HB.out.cell (World.block_lt_of_cell? w _ hw263_16)).trans hw263_16), ((HB.out.cell (World.block_lt_of_cell? w _ hw263_17)).trans hw263_17), ((HB.out.cell (World.block_lt_of_cell? w _ hw263_18)).trans hw263_18), ((HB.out.cell (World.block_lt_of_cell? w _ hw263_19)).trans hw263_19), ((HB.out.cell (World.block_lt_of_cell? w _ hw264_0)).trans hw264_0), ((HB.out.cell (World.block_lt_of_cell? w _ hw264_1)).trans hw264_1), ((HB.out.cell (World.block_lt_of_cell? w _ hw264_2)).trans hw264_2), ((HB.out.cell (World.block_lt_of_cell? w _ hw264_3)).trans hw264_3), ((HB.out.cell (World.block_lt_of_cell? w _ hw264_4)).trans hw264_4), ((HB.out.cell (World.block_lt_of_cell? w _ hw264_5)).trans hw264_5), ((HB.out.cell (World.block_lt_of_cell? w _ hw264_6)).trans hw264_6), ((HB.out.cell (World.block_lt_of_cell? w _ hw264_7)).trans hw264_7), ((HB.out.cell (World.block_lt_of_cell? w _ hw264_8)).trans hw264_8), ((HB.out.cell (World.block_lt_of_cell? w _ hw264_9)).trans hw264_9), ((HB.out.cell (World.block_lt_of_cell? w _ hw264_10)).trans hw264_10), ((HB.out.cell (World.block_lt_of_cell? w _ hw264_11)).trans hw264_11), ((HB.out.cell (World.block_lt_of_cell? w _ hw264_12)).trans hw264_12), ((HB.out.cell (World.block_lt_of_cell? w _ hw264_13)).trans hw264_13), ((HB.out.cell (World.block_lt_of_cell? w _ hw264_14)).trans hw264_14), ((HB.out.cell (World.block_lt_of_cell? w _ hw264_15)).trans hw264_15), ((HB.out.cell (World.block_lt_of_cell? w _ hw264_16)).trans hw264_16), ((HB.out.cell (World.block_lt_of_cell? w _ hw264_17)).trans hw264_17), ((HB.out.cell (World.block_lt_of_cell? w _ hw264_18)).trans hw264_18), ((HB.out.cell (World.block_lt_of_cell? w _ hw264_19)).trans hw264_19)⟩ (fun hHeld => ?_); refine zma spec_MirrorPlan.tab11 spec_MirrorPlan.bits11 (fun HT_ HW_ => ?_)
           generalize wr.drew = w29 at HO_6 BK247 HB GG28 HQ30 hf28_0 hf28_1 hf28_10 hf28_11 hf28_12 hf28_13 hf28_14 hf28_15 hf28_16 hf28_17 hf28_18 hf28_19 hf28_2 hf28_3 hf28_4 hf28_5 hf28_6 hf28_7 hf28_8 hf28_9 hx262_0 hx262_1 hx262_10 hx262_11 hx262_12 hx262_13 hx262_14 hx262_15 hx262_16 hx262_17 hx262_18 hx262_19 hx262_2 hx262_3 hx262_4 hx262_5 hx262_6 hx262_7 hx262_8 hx262_9 hx263_0 hx263_1 hx263_10 hx263_11 hx263_12 hx263_13 hx263_14 hx263_15 hx263_16 hx263_17 hx263_18 hx263_19 hx263_2 hx263_3 hx263_4 hx263_5 hx263_6 hx263_7 hx263_8 hx263_9 hx264_0 hx264_1 hx264_10 hx264_11 hx264_12 hx264_13 hx264_14 hx264_15 hx264_16 hx264_17 hx264_18 hx264_19 hx264_2 hx264_3 hx264_4 hx264_5 hx264_6 hx264_7 hx264_8 hx264_9 hx28_0 hx28_1 hx28_10 hx28_11 hx28_12 hx28_13 hx28_14 hx28_15 hx28_16 hx28_17 hx28_18 hx28_19 hx28_2 hx28_3 hx28_4 hx28_5 hx28_6 hx28_7 hx28_8 hx28_9 hHeld ⊢
           refine pv 0 41 (fm 24 1) rfl rfl (zj HT_.out (by kernel_rfl)) (fun _ _ _ h => h) (Or.inl ⟨by rfl, by intro w'; go_simp; with_reducible rfl⟩) (by simp only [Act.put, ea, eb, ec, zm, zk]; rfl) ?_
           refine pv 1 42 (fm 24 2) rfl rfl (zj HT_.out (by kernel_rfl)) (fun _ _ _ h => h) (Or.inl ⟨by rfl, by intro w'; go_simp; with_reducible rfl⟩) (by simp only [Act.put, ea, eb, ec, zm, zk]; rfl) ?_
           refine pv 2 43 (fm 24 3) rfl rfl (zj HT_.out (by kernel_rfl)) (fun _ _ _ h => h) (Or.inl ⟨by rfl, by intro w'; go_simp; with_reducible rfl⟩) (by simp only [Act.put, ea, eb, ec, zm, zk]; rfl) ?_
           refine pv 3 44 (fm 24 4) rfl rfl (zj HT_.out (by kernel_rfl)) (fun _ _ _ h => h) (Or.inl ⟨by rfl, by intro w'; go_simp; with_reducible rfl⟩) (by simp only [Act.put, ea, eb, ec, zm, zk]; rfl) ?_
           refine pv 4 45 (fm 24 5) rfl rfl (zj HT_.out (by kernel_rfl)) (fun _ _ _ h => h) (Or.inl ⟨by rfl, by intro w'; go_simp; with_reducible rfl⟩) (by simp only [Act.put, ea, eb, ec, zm, zk]; rfl) ?_
           refine pv 5 46 (fm 24 6) rfl rfl (zj HT_.out (by kernel_rfl)) (fun _ _ _ h => h) (Or.inl ⟨by rfl, by intro w'; go_simp; with_reducible rfl⟩) (by simp only [Act.put, ea, eb, ec, zm, zk]; rfl) ?_
           refine pv 6 47 (fm 24 7) rfl rfl (zj HT_.out (by kernel_rfl)) (fun _ _ _ h => h) (Or.inl ⟨by rfl, by intro w'; go_simp; with_reducible rfl⟩) (by simp only [Act.put, ea, eb, ec, zm, zk]; rfl) ?_
           refine pv 8 49 #[T, T, T, T, T, T, T, F, T, F, F, F, F, F, F, F, F, F, F, F, F, F, F, F] rfl rfl (zj HT_.out (by kernel_rfl)) (fun _ _ _ h => h) (Or.inl ⟨by rfl, by intro w'; go_simp; with_reducible rfl⟩) (by simp only [Act.put, ea, eb, ec, zm, zk]; rfl) ?_
           refine pv 9 50 #[T, T, T, T, T, T, T, F, T, T, F, F, F, F, F, F, F, F, F, F, F, F, F, F] rfl rfl (zj HT_.out (by kernel_rfl)) (fun _ _ _ h => h) (Or.inl ⟨by rfl, by intro w'; go_simp; with_reducible rfl⟩) (by simp only [Act.put, ea, eb, ec, zm, zk]; rfl) ?_
           refine pv 10 51 #[T, T, T, T, T, T, T, F, T, T, T, F, F, F, F, F, F, F, F, F, F, F, F, F] rfl rfl (zj HT_.out (by kernel_rfl)) (fun _ _ _ h => h) (Or.inl ⟨by rfl, by intro w'; go_simp; with_reducible rfl⟩) (by simp only [Act.put, ea, eb, ec, zm, zk]; rfl) ?_
           refine pv 11 52 #[T, T, T, T, T, T, T, F, T, T, T, T, F, F, F, F, F, F, F, F, F, F, F, F] rfl rfl (zj HT_.out (by kernel_rfl)) (fun _ _ _ h => h) (Or.inl ⟨by rfl, by intro w'; go_simp; with_reducible rfl⟩) (by simp only [Act.put, ea, eb, ec, zm, zk]; rfl) ?_
           refine pv 12 53 #[T, T, T, T, T, T, T, F, T, T, T, T, T, F, F, F, F, F, F, F, F, F, F, F] rfl rfl (zj HT_.out (by kernel_rfl)) (fun _ _ _ h => h) (Or.inl ⟨by rfl, by intro w'; go_simp; with_reducible rfl⟩) (by simp only [Act.put, ea, eb, ec, zm, zk]; rfl) ?_
           refine pv 14 55 #[T, T, T, T, T, T, T, F, T, T, T, T, T, F, T, F, F, F, F, F, F, F, F, F] rfl rfl (zj HT_.out (by kernel_rfl)) (fun _ _ _ h => h) (Or.inl ⟨by rfl, by intro w'; go_simp; with_reducible rfl⟩) (by simp only [Act.put, ea, eb, ec, zm, zk]; rfl) ?_
           refine pv 15 56 #[T, T, T, T, T, T, T, F, T, T, T, T, T, F, T, T, F, F, F, F, F, F, F, F] rfl rfl (zj HT_.out (by kernel_rfl)) (fun _ _ _ h => h) (Or.inl ⟨by rfl, by intro w'; go_simp; with_reducible rfl⟩) (by simp only [Act.put, ea, eb, ec, zm, zk]; rfl) ?_
           refine pv 16 57 #[T, T, T, T, T, T, T, F, T, T, T, T, T, F, T, T, T, F, F, F, F, F, F, F] rfl rfl (zj HT_.out (by kernel_rfl)) (fun _ _ _ h => h) (Or.inl ⟨by rfl, by intro w'; go_simp; with_reducible rfl⟩) (by simp only [Act.put, ea, eb, ec, zm, zk]; rfl) ?_
           refine pv 17 58 #[T, T, T, T, T, T, T, F, T, T, T, T, T, F, T, T, T, T, F, F, F, F, F, F] rfl rfl (zj HT_.out (by kernel_rfl)) (fun _ _ _ h => h) (Or.inl ⟨by rfl, by intro w'; go_simp; with_reducible rfl⟩) (by simp only [Act.put, ea, eb, ec, zm, zk]; rfl) ?_
           refine pv 18 59 #[T, T, T, T, T, T, T, F, T, T, T, T, T, F, T, T, T, T, T, F, F, F, F, F] rfl rfl (zj HT_.out (by kernel_rfl)) (fun _ _ _ h => h) (Or.inl ⟨by rfl, by intro w'; go_simp; with_reducible rfl⟩) (by simp only [Act.put, ea, eb, ec, zm, zk]; rfl) ?_
           refine take_ (i := 7) (N := some 48) (v := ?_) (a' := ?_) #[T, T, T, T, T, T, T, T, T, T, T, T, T, F, T, T, T, T, T, F, F, F, F, F] rfl rfl (zca HT_.out HW_.out (by kernel_rfl)) (fun _ _ _ h => h) (Or.inl ⟨by rfl, ?_⟩) hHeld ?_ ?_
           rotate_left
           ·rintro w' ⟨s0, s1, s2, s3, s4, s5, s6, s7, s8, s9, s10, s11, s12, s13, s14, s15, s16, s17, s18, s19, s20, s21, s22, s23, s24, s25, s26, s27, s28, s29, s30, s31, s32, s33, s34, s35, s36, s37, s38, s39, s40, s41, s42, s43, s44, s45, s46, s47, s48, s49, s50, s51, s52, s53, s54, s55, s56, s57, s58, s59⟩
            go_simp
            with_reducible rfl
           rotate_left
           ·simp only [Act.put, List.setIfInBounds_toArray, List.set_cons_zero, List.set_cons_succ, zm, zk]
            rfl
           refine take_ (i := 13) (N := some 54) (v := ?_) (a' := ?_) (fm 24 19) rfl rfl (zca HT_.out HW_.out (by kernel_rfl)) (fun _ _ _ h => h) (Or.inl ⟨by rfl, ?_⟩) hHeld ?_ ?_
           rotate_left
           ·rintro w' ⟨s0, s1, s2, s3, s4, s5, s6, s7, s8, s9, s10, s11, s12, s13, s14, s15, s16, s17, s18, s19, s20, s21, s22, s23, s24, s25, s26, s27, s28, s29, s30, s31, s32, s33, s34, s35, s36, s37, s38, s39, s40, s41, s42, s43, s44, s45, s46, s47, s48, s49, s50, s51, s52, s53, s54, s55, s56, s57, s58, s59⟩
            go_simp
            with_reducible rfl
           rotate_left
           ·simp only [Act.put, List.setIfInBounds_toArray, List.set_cons_zero, List.set_cons_succ, zm, zk]
            rfl
           refine take_ (i := 19) (N := some 60) (v := ?_) (a' := ?_) (fm 24 20) rfl rfl (zca HT_.out HW_.out (by kernel_rfl)) (fun _ _ _ h => h) (Or.inl ⟨by rfl, ?_⟩) hHeld ?_ ?_
           rotate_left
           ·rintro w' ⟨s0, s1, s2, s3, s4, s5, s6, s7, s8, s9, s10, s11, s12, s13, s14, s15, s16, s17, s18, s19, s20, s21, s22, s23, s24, s25, s26, s27, s28, s29, s30, s31, s32, s33, s34, s35, s36, s37, s38, s39, s40, s41, s42, s43, s44, s45, s46, s47, s48, s49, s50, s51, s52, s53, s54, s55, s56, s57, s58, s59⟩
            go_simp
            with_reducible rfl
           rotate_left
           ·simp only [Act.put, List.setIfInBounds_toArray, List.set_cons_zero, List.set_cons_succ, zm, zk]
            rfl
           refine pv 20 61 (fm 24 21) rfl rfl (zj HT_.out (by kernel_rfl)) (fun _ _ _ h => h) (Or.inl ⟨by rfl, by intro w'; go_simp; with_reducible rfl⟩) (by simp only [Act.put, ea, eb, ec, zm, zk]; rfl) ?_
           refine pv 21 62 (fm 24 22) rfl rfl (zj HT_.out (by kernel_rfl)) (fun _ _ _ h => h) (Or.inl ⟨by rfl, by intro w'; go_simp; with_reducible rfl⟩) (by simp only [Act.put, ea, eb, ec, zm, zk]; rfl) ?_
           refine pv 22 63 (fm 24 23) rfl rfl (zj HT_.out (by kernel_rfl)) (fun _ _ _ h => h) (Or.inl ⟨by rfl, by intro w'; go_simp; with_reducible rfl⟩) (by simp only [Act.put, ea, eb, ec, zm, zk]; rfl) ?_
           refine last_ (i := 23) (N := none) (fm 24 24) rfl rfl (one_of HT_.out (by kernel_rfl)) (by decide) (fun K hK => ?_)
           refine skip_ (w1 := ?_) (by rfl) rfl ?_ ?_
           rotate_left
           ·go_simp
            rfl
           refine hK.out _ _ ?_
           clear hK K
           refine done_ (done_of HT_.out (by kernel_rfl)) ?_
           try go_wp2
           (try simp only [← hl6_2])
           go_roundg k2
           case measure => have := HK1.out; have := HK2.out; omega
           case rel => exact ⟨(y265), (wrap64 (x7_1 + 1)), (by first | rfl | (simp; done) | (simp [*]; done)), H', ⟨by have := HK1.out; have := HK2.out; omega⟩, ⟨by (try simp only [hl6_2]); (with_reducible repeat (first | apply Kd.R_alloc | apply Kd.R_drewN | apply Kd.R_drew)); exact HQ30.out⟩, ⟨by (try simp only [hl6_2]); (with_reducible repeat (first | refine zf ?_ _ | refine zh ?_ | refine zg ?_ _)); refine zla ?_ (by have h_ := Kd.R_ne HO_6.out BK247.out (by decide); intro e_; exact h_ (by rw [e_]; rfl)) _; (with_reducible repeat (first | refine zf ?_ _ | refine zh ?_ | refine zg ?_ _)); refine zla ?_ (by have h_ := Kd.R_ne HO_6.out BK247.out (by decide); intro e_; exact h_ (by rw [e_]; rfl)) _; (with_reducible repeat (first | refine zf ?_ _ | refine zh ?_ | refine zg ?_ _)); refine zla ?_ (by have h_ := Kd.R_ne HO_6.out BK247.out (by decide); intro e_; exact h_ (by rw [e_]; rfl)) _; (with_reducible repeat (first | refine zf ?_ _ | refine zh ?_ | refine zg ?_ _)); exact BK247.out⟩, ⟨by repeat (first | (with_reducible first | exact HB.out | apply zd | apply za | apply zb | refine ze ?_ GB28.out | refine ze ?_ GB28.out | refine ze ?_ GB28.out | refine ze ?_ GE247.out) | exact HB.out)⟩⟩
          rw [if_neg c27] at H
          exact absurd H (by simp)
         rw [if_neg c26] at H
         exact absurd H (by simp)
        rw [if_neg c25] at H
        exact absurd H (by simp)
     rw [if_neg c12] at H
     have c12b0 : decide (x7_1 < (x6_1.length : Int)) = false := decide_eq_false c12
     clear c12
     simp only [Option.some.injEq, Prod.mk.injEq] at H
     obtain ⟨rfl, rfl⟩ := H
     obtain ⟨Ao31, co31, eo31⟩ := Kd.R_slice HO_6.out
     subst eo31
     go_wp2
     go_ret2
     exact ⟨_, by first | rfl | (simp [errW_none, errW_some] <;> rfl) | (simp [*, errW_none, errW_some] <;> rfl), by (with_reducible repeat (first | apply Kd.R_alloc | apply Kd.R_drewN | apply Kd.R_drew)); exact HO_6.out, by repeat (first | (with_reducible first | exact HB.out | apply zd | apply za | apply zb | refine ze ?_ GE247.out) | exact HB.out)⟩
  rw [if_neg c5] at H
  exact absurd H (by simp)
 replace c4 := Bool.eq_false_iff.mpr c4
 subst c4
 have H1 : (some ((([] : List (S54))), 1)) = some (r1, r2) := by rw [if_neg (show ¬ (false = true) by decide)] at H; exact H
 clear H
 have H := H1
 clear H1
 obtain ⟨y249, hy249⟩ : ∃ y_ : List (S54), y_ = (([] : List (S54))) := ⟨_, rfl⟩
 replace H : (some (y249, 1)) = some (r1, r2) := by first | (rw [hy249]; with_reducible exact H) | (have H2_ := (Option.bind_some _ _).symm.trans H; rw [hy249]; with_reducible exact H2_) | (have H2_ := (Option.bind_some _ _).symm.trans H; with_reducible exact H2_) | with_reducible exact H | (rw [hy249]; exact H) | exact H
 have Ny249 := zc.mk hy249
 clear hy249
 simp only [Option.some.injEq, Prod.mk.injEq] at H
 obtain ⟨rfl, rfl⟩ := H
 go_enter Try.func18, Try.ntmps18
 go_wp2_with (first | ((with_reducible refine zn (N := 2) rfl ?_); refine zo ?hg (N := 2) ?hd (cs := #[.int .i8 a0_0, .int .i8 a0_1, .bool a0_2, .bool a0_3]) (t := 29) ?hr ?_; (case hd => rfl); (case hg => rfl); (case hr => first | (go_simp; done) | (go_simp; rfl)); intro gb247 hg w32 hbox hb; obtain ⟨n0_, n2_⟩ := bx (by repeat (first | (with_reducible first | exact HB.out | apply zd | apply za | apply zb) | exact HB.out)) hb hg; have n1_ := zc.mk (hbox); have n3_ := n2_; clear HB; have HB := n0_; have BK247 := n1_; have GW247 := n2_; have GE247 := n3_; clear n0_ n1_ n2_ n3_; clear hb hbox hg; have hcz33_0 : w32.cell? ⟨gb247, 0, none⟩ = some (.int .i8 a0_0) := (zr BK247.out 0).trans rfl; have hcz33_1 : w32.cell? ⟨gb247, 1, none⟩ = some (.int .i8 a0_1) := (zr BK247.out 1).trans rfl; have hcz33_2 : w32.cell? ⟨gb247, 2, none⟩ = some (.bool a0_2) := (zr BK247.out 2).trans rfl; have hcz33_3 : w32.cell? ⟨gb247, 3, none⟩ = some (.bool a0_3) := (zr BK247.out 3).trans rfl; obtain ⟨hfz33_0, hfz33_1, hfz33_2, hfz33_3⟩ := fz4 BK247.out) | ((with_reducible refine zl (f := 24) rfl ?_); refine zw (some 11) rfl rfl Try.func24 (by kernel_rfl) rfl #[.agg #[.int .i8 a0_0, .int .i8 a0_1, .bool a0_2, .bool a0_3], .slice A1 l1.length c1] rfl (by (try simp only [List.map_toArray, List.map_cons, List.map_nil]); first | done | rfl | (simp only [List.length_drop, List.length_take]; rfl)) ?_; (with_reducible refine (spec_ValidPlan.calls k a0_0 a0_1 a0_2 a0_3 _ _ l1 false _ ?side1 ?side2 A3.out).mono ?_); (case side1 => repeat (first | exact (Kd.C_below HR1.out HB.out) | (with_reducible refine Kd.C_alloc ?_ _) | (with_reducible refine Kd.C_drewN ?_ _) | (with_reducible refine Kd.C_drew ?_))); (case side2 => exact HC1.out); rintro e w34 ⟨rfl, hb⟩; refine ⟨_, rfl, ?_⟩; have n0_ := zc.mk (zi (by (with_reducible repeat (first | refine zf ?_ _ | refine zh ?_ | refine zg ?_ _)); exact BK247.out) hb); have n1_ := zc.mk (zp (by repeat (first | (with_reducible first | exact HB.out | apply zd | apply za | apply zb | refine ze ?_ GE247.out) | exact HB.out)) hb); clear BK247; clear HB; have BK247 := n0_; have HB := n1_; clear n0_ n1_; (try clear hb); (try clear hb2); (try clear hk); (try clear hi)) | ((with_reducible refine zn (N := 13) rfl ?_); refine Kd.R_lit k54 _ 54 ?hg (N := 13) ?hd (xs := ([] : List (S54))) (inner := []) (ok := fun _ => True) (okp := fun _ => True) ?hr ?hp (fun _ hk => hk) trivial (Below.refl _ _) (Nat.le_refl _) (by simp) ?_; (case hd => rfl); (case hg => rfl); (case hr => first | (go_simp; done) | (go_simp; rfl)); (case hp => exact (Reps.none _ _)); intro v250 w35 ho36 hb hg_ hnew_; clear hg_ hnew_; (first | rw [← Ny249.out] at ho36 | (simp only [Int.reduceToNat] at ho36; rw [← Ny249.out] at ho36)); have n0_ := zc.mk (Kd.R_lower ho36 (zv (by repeat (first | (with_reducible first | exact HB.out | apply zd | apply za | apply zb | refine ze ?_ GE247.out) | exact HB.out)))); have n1_ := zc.mk (zi (by (with_reducible repeat (first | refine zf ?_ _ | refine zh ?_ | refine zg ?_ _)); exact BK247.out) hb); have n2_ := zc.mk (zp (by repeat (first | (with_reducible first | exact HB.out | apply zd | apply za | apply zb | refine ze ?_ GE247.out) | exact HB.out)) hb); clear BK247; clear HB; have HO251 := n0_; have BK247 := n1_; have HB := n2_; clear n0_ n1_ n2_; clear hb ho36))
 go_ret2
 exact ⟨_, by first | rfl | (simp [errW_none, errW_some] <;> rfl) | (simp [*, errW_none, errW_some] <;> rfl), by (with_reducible repeat (first | apply Kd.R_alloc | apply Kd.R_drewN | apply Kd.R_drew)); exact HO251.out, by repeat (first | (with_reducible first | exact HB.out | apply zd | apply za | apply zb | refine ze ?_ GE247.out) | exact HB.out)⟩

end Go.Proofs.Ytmmonhpjjjdnjaa.Y
