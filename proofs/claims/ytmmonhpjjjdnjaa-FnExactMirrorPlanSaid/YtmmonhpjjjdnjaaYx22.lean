-- Written by wip/tools/myprint.py, a program of this session, by way of the kit's print.
import Derived.Test.YtmmonhpjjjdnjaaYx0
import Derived.Test.YtmmonhpjjjdnjaaLLoadY
import Derived.Test.YtmmonhpjjjdnjaaYx20
import Derived.Test.YtmmonhpjjjdnjaaYx21
namespace Go.Proofs.Ytmmonhpjjjdnjaa.Y
open Go.RowKit Go.Proofs.YtmmonhpjjjdnjaaW.PrintWords Go.Proofs.YtmmonhpjjjdnjaaW.PrintLast Go.Proofs.YtmmonhpjjjdnjaaW.PrintMore
attribute [local go_sem] zha zga zka zja zba zaa zea zfa   -- for this text's walks alone
set_option linter.unusedVariables false
set_option linter.unusedSimpArgs false

/-! ### impl_MirrorPlan: function 19 -/
mutual
def impl_MirrorPlan.l0 : Nat → List (S54) → Int → Int → Option ((List (S54)) × Int)
 | 0, _, _, _ => none
 | k + 1, x6, x16, x17 => if x17 < x16 then (impl_MirrorPlan.l1 k x6 x17 x16 x17 0) else (some (x6, 0))
def impl_MirrorPlan.l1 : Nat → List (S54) → Int → Int → Int → Int → Option ((List (S54)) × Int)
 | 0, _, _, _, _, _ => none
 | k + 1, x6, x7, x16, x17, x20 => if x20 < 14 then (if 0 ≤ x7 then (if x7 < (x6.length : Int) then (if 0 ≤ x20 then (impl_MirrorPlan.l1 k (x6.set (x7 : Int).toNat (⟨(⟨(pickA x20 0 (IntKind.i8.wrap (-(rd [(rd_T54 x6 x7).f0.f0, (rd_T54 x6 x7).f0.f1, (rd_T54 x6 x7).f0.f2, (rd_T54 x6 x7).f0.f3, (rd_T54 x6 x7).f0.f4, (rd_T54 x6 x7).f0.f5, (rd_T54 x6 x7).f0.f6, (rd_T54 x6 x7).f0.f7, (rd_T54 x6 x7).f0.f8, (rd_T54 x6 x7).f0.f9, (rd_T54 x6 x7).f0.f10, (rd_T54 x6 x7).f0.f11, (rd_T54 x6 x7).f0.f12, (rd_T54 x6 x7).f0.f13] x20))) ((rd_T54 x6 x7).f0.f0)), (pickA x20 1 (IntKind.i8.wrap (-(rd [(rd_T54 x6 x7).f0.f0, (rd_T54 x6 x7).f0.f1, (rd_T54 x6 x7).f0.f2, (rd_T54 x6 x7).f0.f3, (rd_T54 x6 x7).f0.f4, (rd_T54 x6 x7).f0.f5, (rd_T54 x6 x7).f0.f6, (rd_T54 x6 x7).f0.f7, (rd_T54 x6 x7).f0.f8, (rd_T54 x6 x7).f0.f9, (rd_T54 x6 x7).f0.f10, (rd_T54 x6 x7).f0.f11, (rd_T54 x6 x7).f0.f12, (rd_T54 x6 x7).f0.f13] x20))) ((rd_T54 x6 x7).f0.f1)), (pickA x20 2 (IntKind.i8.wrap (-(rd [(rd_T54 x6 x7).f0.f0, (rd_T54 x6 x7).f0.f1, (rd_T54 x6 x7).f0.f2, (rd_T54 x6 x7).f0.f3, (rd_T54 x6 x7).f0.f4, (rd_T54 x6 x7).f0.f5, (rd_T54 x6 x7).f0.f6, (rd_T54 x6 x7).f0.f7, (rd_T54 x6 x7).f0.f8, (rd_T54 x6 x7).f0.f9, (rd_T54 x6 x7).f0.f10, (rd_T54 x6 x7).f0.f11, (rd_T54 x6 x7).f0.f12, (rd_T54 x6 x7).f0.f13] x20))) ((rd_T54 x6 x7).f0.f2)), (pickA x20 3 (IntKind.i8.wrap (-(rd [(rd_T54 x6 x7).f0.f0, (rd_T54 x6 x7).f0.f1, (rd_T54 x6 x7).f0.f2, (rd_T54 x6 x7).f0.f3, (rd_T54 x6 x7).f0.f4, (rd_T54 x6 x7).f0.f5, (rd_T54 x6 x7).f0.f6, (rd_T54 x6 x7).f0.f7, (rd_T54 x6 x7).f0.f8, (rd_T54 x6 x7).f0.f9, (rd_T54 x6 x7).f0.f10, (rd_T54 x6 x7).f0.f11, (rd_T54 x6 x7).f0.f12, (rd_T54 x6 x7).f0.f13] x20))) ((rd_T54 x6 x7).f0.f3)), (pickA x20 4 (IntKind.i8.wrap (-(rd [(rd_T54 x6 x7).f0.f0, (rd_T54 x6 x7).f0.f1, (rd_T54 x6 x7).f0.f2, (rd_T54 x6 x7).f0.f3, (rd_T54 x6 x7).f0.f4, (rd_T54 x6 x7).f0.f5, (rd_T54 x6 x7).f0.f6, (rd_T54 x6 x7).f0.f7, (rd_T54 x6 x7).f0.f8, (rd_T54 x6 x7).f0.f9, (rd_T54 x6 x7).f0.f10, (rd_T54 x6 x7).f0.f11, (rd_T54 x6 x7).f0.f12, (rd_T54 x6 x7).f0.f13] x20))) ((rd_T54 x6 x7).f0.f4)), (pickA x20 5 (IntKind.i8.wrap (-(rd [(rd_T54 x6 x7).f0.f0, (rd_T54 x6 x7).f0.f1, (rd_T54 x6 x7).f0.f2, (rd_T54 x6 x7).f0.f3, (rd_T54 x6 x7).f0.f4, (rd_T54 x6 x7).f0.f5, (rd_T54 x6 x7).f0.f6, (rd_T54 x6 x7).f0.f7, (rd_T54 x6 x7).f0.f8, (rd_T54 x6 x7).f0.f9, (rd_T54 x6 x7).f0.f10, (rd_T54 x6 x7).f0.f11, (rd_T54 x6 x7).f0.f12, (rd_T54 x6 x7).f0.f13] x20))) ((rd_T54 x6 x7).f0.f5)), (pickA x20 6 (IntKind.i8.wrap (-(rd [(rd_T54 x6 x7).f0.f0, (rd_T54 x6 x7).f0.f1, (rd_T54 x6 x7).f0.f2, (rd_T54 x6 x7).f0.f3, (rd_T54 x6 x7).f0.f4, (rd_T54 x6 x7).f0.f5, (rd_T54 x6 x7).f0.f6, (rd_T54 x6 x7).f0.f7, (rd_T54 x6 x7).f0.f8, (rd_T54 x6 x7).f0.f9, (rd_T54 x6 x7).f0.f10, (rd_T54 x6 x7).f0.f11, (rd_T54 x6 x7).f0.f12, (rd_T54 x6 x7).f0.f13] x20))) ((rd_T54 x6 x7).f0.f6)), (pickA x20 7 (IntKind.i8.wrap (-(rd [(rd_T54 x6 x7).f0.f0, (rd_T54 x6 x7).f0.f1, (rd_T54 x6 x7).f0.f2, (rd_T54 x6 x7).f0.f3, (rd_T54 x6 x7).f0.f4, (rd_T54 x6 x7).f0.f5, (rd_T54 x6 x7).f0.f6, (rd_T54 x6 x7).f0.f7, (rd_T54 x6 x7).f0.f8, (rd_T54 x6 x7).f0.f9, (rd_T54 x6 x7).f0.f10, (rd_T54 x6 x7).f0.f11, (rd_T54 x6 x7).f0.f12, (rd_T54 x6 x7).f0.f13] x20))) ((rd_T54 x6 x7).f0.f7)), (pickA x20 8 (IntKind.i8.wrap (-(rd [(rd_T54 x6 x7).f0.f0, (rd_T54 x6 x7).f0.f1, (rd_T54 x6 x7).f0.f2, (rd_T54 x6 x7).f0.f3, (rd_T54 x6 x7).f0.f4, (rd_T54 x6 x7).f0.f5, (rd_T54 x6 x7).f0.f6, (rd_T54 x6 x7).f0.f7, (rd_T54 x6 x7).f0.f8, (rd_T54 x6 x7).f0.f9, (rd_T54 x6 x7).f0.f10, (rd_T54 x6 x7).f0.f11, (rd_T54 x6 x7).f0.f12, (rd_T54 x6 x7).f0.f13] x20))) ((rd_T54 x6 x7).f0.f8)), (pickA x20 9 (IntKind.i8.wrap (-(rd [(rd_T54 x6 x7).f0.f0, (rd_T54 x6 x7).f0.f1, (rd_T54 x6 x7).f0.f2, (rd_T54 x6 x7).f0.f3, (rd_T54 x6 x7).f0.f4, (rd_T54 x6 x7).f0.f5, (rd_T54 x6 x7).f0.f6, (rd_T54 x6 x7).f0.f7, (rd_T54 x6 x7).f0.f8, (rd_T54 x6 x7).f0.f9, (rd_T54 x6 x7).f0.f10, (rd_T54 x6 x7).f0.f11, (rd_T54 x6 x7).f0.f12, (rd_T54 x6 x7).f0.f13] x20))) ((rd_T54 x6 x7).f0.f9)), (pickA x20 10 (IntKind.i8.wrap (-(rd [(rd_T54 x6 x7).f0.f0, (rd_T54 x6 x7).f0.f1, (rd_T54 x6 x7).f0.f2, (rd_T54 x6 x7).f0.f3, (rd_T54 x6 x7).f0.f4, (rd_T54 x6 x7).f0.f5, (rd_T54 x6 x7).f0.f6, (rd_T54 x6 x7).f0.f7, (rd_T54 x6 x7).f0.f8, (rd_T54 x6 x7).f0.f9, (rd_T54 x6 x7).f0.f10, (rd_T54 x6 x7).f0.f11, (rd_T54 x6 x7).f0.f12, (rd_T54 x6 x7).f0.f13] x20))) ((rd_T54 x6 x7).f0.f10)), (pickA x20 11 (IntKind.i8.wrap (-(rd [(rd_T54 x6 x7).f0.f0, (rd_T54 x6 x7).f0.f1, (rd_T54 x6 x7).f0.f2, (rd_T54 x6 x7).f0.f3, (rd_T54 x6 x7).f0.f4, (rd_T54 x6 x7).f0.f5, (rd_T54 x6 x7).f0.f6, (rd_T54 x6 x7).f0.f7, (rd_T54 x6 x7).f0.f8, (rd_T54 x6 x7).f0.f9, (rd_T54 x6 x7).f0.f10, (rd_T54 x6 x7).f0.f11, (rd_T54 x6 x7).f0.f12, (rd_T54 x6 x7).f0.f13] x20))) ((rd_T54 x6 x7).f0.f11)), (pickA x20 12 (IntKind.i8.wrap (-(rd [(rd_T54 x6 x7).f0.f0, (rd_T54 x6 x7).f0.f1, (rd_T54 x6 x7).f0.f2, (rd_T54 x6 x7).f0.f3, (rd_T54 x6 x7).f0.f4, (rd_T54 x6 x7).f0.f5, (rd_T54 x6 x7).f0.f6, (rd_T54 x6 x7).f0.f7, (rd_T54 x6 x7).f0.f8, (rd_T54 x6 x7).f0.f9, (rd_T54 x6 x7).f0.f10, (rd_T54 x6 x7).f0.f11, (rd_T54 x6 x7).f0.f12, (rd_T54 x6 x7).f0.f13] x20))) ((rd_T54 x6 x7).f0.f12)), (pickA x20 13 (IntKind.i8.wrap (-(rd [(rd_T54 x6 x7).f0.f0, (rd_T54 x6 x7).f0.f1, (rd_T54 x6 x7).f0.f2, (rd_T54 x6 x7).f0.f3, (rd_T54 x6 x7).f0.f4, (rd_T54 x6 x7).f0.f5, (rd_T54 x6 x7).f0.f6, (rd_T54 x6 x7).f0.f7, (rd_T54 x6 x7).f0.f8, (rd_T54 x6 x7).f0.f9, (rd_T54 x6 x7).f0.f10, (rd_T54 x6 x7).f0.f11, (rd_T54 x6 x7).f0.f12, (rd_T54 x6 x7).f0.f13] x20))) ((rd_T54 x6 x7).f0.f13))⟩ : S50), (⟨(rd_T54 x6 x7).f1.f0, (rd_T54 x6 x7).f1.f1, (rd_T54 x6 x7).f1.f2⟩ : S52), (⟨(rd_T54 x6 x7).f2.f0, (rd_T54 x6 x7).f2.f1⟩ : S46), (rd_T54 x6 x7).f3⟩ : S54)) x7 x16 x17 (wrap64 (x20 + 1))) else (none)) else (none)) else (none)) else (if 0 ≤ x7 then (if x7 < (x6.length : Int) then ((some (x6.set (x7 : Int).toNat (⟨(⟨(rd_T54 x6 x7).f0.f0, (rd_T54 x6 x7).f0.f1, (rd_T54 x6 x7).f0.f2, (rd_T54 x6 x7).f0.f3, (rd_T54 x6 x7).f0.f4, (rd_T54 x6 x7).f0.f5, (rd_T54 x6 x7).f0.f6, (rd_T54 x6 x7).f0.f7, (rd_T54 x6 x7).f0.f8, (rd_T54 x6 x7).f0.f9, (rd_T54 x6 x7).f0.f10, (rd_T54 x6 x7).f0.f11, (rd_T54 x6 x7).f0.f12, (rd_T54 x6 x7).f0.f13⟩ : S50), (⟨(rd_T54 x6 x7).f1.f2, (rd_T54 x6 x7).f1.f1, (rd_T54 x6 x7).f1.f2⟩ : S52), (⟨(rd_T54 x6 x7).f2.f0, (rd_T54 x6 x7).f2.f1⟩ : S46), (rd_T54 x6 x7).f3⟩ : S54) : List (S54))).bind fun y330 => (impl_MirrorPlan.l0 k (y330.set (x7 : Int).toNat (⟨(⟨(rd_T54 y330 x7).f0.f0, (rd_T54 y330 x7).f0.f1, (rd_T54 y330 x7).f0.f2, (rd_T54 y330 x7).f0.f3, (rd_T54 y330 x7).f0.f4, (rd_T54 y330 x7).f0.f5, (rd_T54 y330 x7).f0.f6, (rd_T54 y330 x7).f0.f7, (rd_T54 y330 x7).f0.f8, (rd_T54 y330 x7).f0.f9, (rd_T54 y330 x7).f0.f10, (rd_T54 y330 x7).f0.f11, (rd_T54 y330 x7).f0.f12, (rd_T54 y330 x7).f0.f13⟩ : S50), (⟨(rd_T54 y330 x7).f1.f0, (rd_T54 y330 x7).f1.f1, (rd_T54 x6 x7).f1.f0⟩ : S52), (⟨(rd_T54 y330 x7).f2.f0, (rd_T54 y330 x7).f2.f1⟩ : S46), (rd_T54 y330 x7).f3⟩ : S54)) x16 (wrap64 (x17 + 1)))) else (none)) else (none))
end
def impl_MirrorPlan.f (k : Nat) (a0_0 : Int) (a0_1 : Int) (a0_2 : Bool) (a0_3 : Bool) (l1 : List (S54)) : Option ((List (S54)) × Int) := (impl_ValidPlan.f k a0_0 a0_1 a0_2 a0_3 l1).bind fun t320 => (if t320 = true then ((impl_Node_36.f l1).bind fun t321 => (impl_MirrorPlan.l0 k t321 (t321.length : Int) 0)) else (some (([] : List (S54)), 1)))
def impl_MirrorPlan.T10 : Bool × List (List Nat × List Nat) := (true, [([], []), ([], []), ([], []), ([0, 1], [0, 1]), ([3], [3]), ([4, 2], [2, 4]), ([5], [5]), ([6], [6]), ([0, 1], [0, 1]), ([8], [8]), ([9, 2, 0, 1, 2, 3, 4, 5, 6, 7], [2, 9]), ([10, 7, 0, 1, 2, 3, 4, 5, 6, 7], [7, 10])])
def impl_MirrorPlan.B10 : List Nat := [0, 0, 0, 3, 11, 31, 63, 127, 3, 259, 1023, 2047]
theorem impl_MirrorPlan.tab10 : rtab .any (opsOf Try.f19 10) = impl_MirrorPlan.T10 := by kernel_rfl
theorem impl_MirrorPlan.bits10 : waitsOk impl_MirrorPlan.T10.2 impl_MirrorPlan.B10 = true := by kernel_rfl
def impl_MirrorPlan.T12 : Bool × List (List Nat × List Nat) := (true, [([], []), ([], []), ([], []), ([], []), ([], []), ([], []), ([4, 5], [4, 5]), ([6], [6]), ([7], [7]), ([8], [8]), ([], []), ([], []), ([10, 11], [10, 11]), ([12], [12]), ([13], [13]), ([14], [14]), ([0, 1], [0, 1]), ([16], [16]), ([17, 0, 1, 4, 5, 6, 7, 8, 9, 15], [17]), ([18, 9, 0, 1, 4, 5, 6, 7, 8, 9, 15], [9, 18]), ([2, 3], [2, 3]), ([20], [20]), ([21, 0, 1, 2, 3, 4, 5, 6, 7, 8, 9, 10, 11, 12, 13, 14, 15, 16, 17, 18, 19], [21]), ([22, 15, 19, 0, 1, 2, 3, 4, 5, 6, 7, 8, 9, 10, 11, 12, 13, 14, 15, 16, 17, 18, 19], [15, 22])])
def impl_MirrorPlan.B12 : List Nat := [0, 0, 0, 0, 0, 0, 48, 112, 240, 496, 0, 0, 3072, 7168, 15360, 31744, 3, 65539, 262131, 524275, 12, 1048588, 4194303, 8388607]
theorem impl_MirrorPlan.tab12 : rtab .any (opsOf Try.f19 12) = impl_MirrorPlan.T12 := by kernel_rfl
theorem impl_MirrorPlan.bits12 : waitsOk impl_MirrorPlan.T12.2 impl_MirrorPlan.B12 = true := by kernel_rfl
set_option maxHeartbeats 8000000 in
set_option maxRecDepth 100000 in
theorem impl_MirrorPlan.calls (k : Nat) (a0_0 : Int) (a0_1 : Int) (a0_2 : Bool) (a0_3 : Bool) (A1 : Option Addr) (c1 : Nat) (l1 : List (S54)) (r1 : List (S54)) (r2 : Int) (w : World) (hr1 : Kd.C k54 w A1 l1.length l1) (hc1 : l1.length ≤ c1) (h : impl_MirrorPlan.f k a0_0 a0_1 a0_2 a0_3 l1 = some (r1, r2)) :
  Calls Try.prog 19 #[.agg #[.int .i8 a0_0, .int .i8 a0_1, .bool a0_2, .bool a0_3], .slice A1 l1.length c1] w fun e w' => ∃ v0_ : Value, e = .returned (.tuple #[v0_, .int .i64 r2]) ∧ Kd.R k54 54 w' w.heap.size (fun _ => True) v0_ r1 ∧ Below w.heap.size w w' := by
 have hu29 := Try.underlying29
 have HR1 := zc.mk hr1
 have HC1 := zc.mk hc1
 clear hr1 hc1
 have HB := zc.mk (Below.refl w.heap.size w)
 have H : ((impl_ValidPlan.f k a0_0 a0_1 a0_2 a0_3 l1).bind fun t320 => (if t320 = true then ((impl_Node_36.f l1).bind fun t321 => (impl_MirrorPlan.l0 k t321 (t321.length : Int) 0)) else (some (([] : List (S54)), 1)))) = some (r1, r2) := h
 clear h
 replace H := Option.bind_eq_some_iff.mp H
 obtain ⟨t320, A30, H⟩ := H
 replace H : (if t320 = true then ((impl_Node_36.f l1).bind fun t321 => (impl_MirrorPlan.l0 k t321 (t321.length : Int) 0)) else (some (([] : List (S54)), 1))) = some (r1, r2) := H
 have A3 := zc.mk A30
 clear A30
 by_cases c4 : t320 = true
 ·subst c4
  have H1 : ((impl_Node_36.f l1).bind fun t321 => (impl_MirrorPlan.l0 k t321 (t321.length : Int) 0)) = some (r1, r2) := by rw [if_pos rfl] at H; exact H
  clear H
  have H := H1
  clear H1
  replace H := Option.bind_eq_some_iff.mp H
  obtain ⟨t321, A50, H⟩ := H
  replace H : (impl_MirrorPlan.l0 k t321 (t321.length : Int) 0) = some (r1, r2) := H
  have A5 := zc.mk A50
  clear A50
  have H' := zc.mk H
  clear H
  go_enter Try.func19, Try.ntmps19
  go_wp2_with (first | ((with_reducible refine zn (N := 2) rfl ?_); refine zo ?hg (N := 2) ?hd (cs := #[.int .i8 a0_0, .int .i8 a0_1, .bool a0_2, .bool a0_3]) (t := 29) ?hr ?_; (case hd => rfl); (case hg => rfl); (case hr => first | (go_simp; done) | (go_simp; rfl)); intro gb319 hg w6 hbox hb; obtain ⟨n0_, n2_⟩ := bx (by repeat (first | (with_reducible first | exact HB.out | apply zd | apply za | apply zb) | exact HB.out)) hb hg; have n1_ := zc.mk (hbox); have n3_ := n2_; clear HB; have HB := n0_; have BK319 := n1_; have GW319 := n2_; have GE319 := n3_; clear n0_ n1_ n2_ n3_; clear hb hbox hg; have hcz7_0 : w6.cell? ⟨gb319, 0, none⟩ = some (.int .i8 a0_0) := (zr BK319.out 0).trans rfl; have hcz7_1 : w6.cell? ⟨gb319, 1, none⟩ = some (.int .i8 a0_1) := (zr BK319.out 1).trans rfl; have hcz7_2 : w6.cell? ⟨gb319, 2, none⟩ = some (.bool a0_2) := (zr BK319.out 2).trans rfl; have hcz7_3 : w6.cell? ⟨gb319, 3, none⟩ = some (.bool a0_3) := (zr BK319.out 3).trans rfl; obtain ⟨hfz7_0, hfz7_1, hfz7_2, hfz7_3⟩ := fz4 BK319.out) | ((with_reducible refine zl (f := 28) rfl ?_); refine zw (some 11) rfl rfl Try.func28 (by kernel_rfl) rfl #[.agg #[.int .i8 a0_0, .int .i8 a0_1, .bool a0_2, .bool a0_3], .slice A1 l1.length c1] rfl (by (try simp only [List.map_toArray, List.map_cons, List.map_nil]); first | done | rfl | (simp only [List.length_drop, List.length_take]; rfl)) ?_; (with_reducible refine (impl_ValidPlan.calls k a0_0 a0_1 a0_2 a0_3 _ _ l1 true _ ?side1 ?side2 A3.out).mono ?_); (case side1 => repeat (first | exact (Kd.C_below HR1.out HB.out) | (with_reducible refine Kd.C_alloc ?_ _) | (with_reducible refine Kd.C_drewN ?_ _) | (with_reducible refine Kd.C_drew ?_))); (case side2 => exact HC1.out); rintro e w8 ⟨rfl, hb⟩; refine ⟨_, rfl, ?_⟩; have n0_ := zc.mk (zi (by (with_reducible repeat (first | refine zf ?_ _ | refine zh ?_ | refine zg ?_ _)); exact BK319.out) hb); have n1_ := zc.mk (zp (by repeat (first | (with_reducible first | exact HB.out | apply zd | apply za | apply zb | refine ze ?_ GE319.out) | exact HB.out)) hb); clear BK319; clear HB; have BK319 := n0_; have HB := n1_; clear n0_ n1_; (try clear hb); (try clear hb2); (try clear hk); (try clear hi)) | ((with_reducible refine zl (f := 36) rfl ?_); refine zw (some 14) rfl rfl Try.func36 (by kernel_rfl) rfl #[.slice A1 l1.length c1] rfl (by (try simp only [List.map_toArray, List.map_cons, List.map_nil]); first | done | rfl | (simp only [List.length_drop, List.length_take]; rfl)) ?_; (with_reducible refine (impl_Node_36.calls _ _ l1 t321 _ ?side1 ?side2 A5.out).mono ?_); (case side1 => repeat (first | exact (Kd.C_below HR1.out HB.out) | (with_reducible refine Kd.C_alloc ?_ _) | (with_reducible refine Kd.C_drewN ?_ _) | (with_reducible refine Kd.C_drew ?_))); (case side2 => exact HC1.out); rintro e w9 ⟨v322, rfl, ho0, hb⟩; refine ⟨_, rfl, ?_⟩; have n0_ := zc.mk (Kd.R_lower ho0 (zv (by repeat (first | (with_reducible first | exact HB.out | apply zd | apply za | apply zb | refine ze ?_ GE319.out) | exact HB.out)))); have n1_ := zc.mk (zi (by (with_reducible repeat (first | refine zf ?_ _ | refine zh ?_ | refine zg ?_ _)); exact BK319.out) hb); have n2_ := zc.mk (zp (by repeat (first | (with_reducible first | exact HB.out | apply zd | apply za | apply zb | refine ze ?_ GE319.out) | exact HB.out)) hb); clear BK319; clear HB; have HO323 := n0_; have BK319 := n1_; have HB := n2_; clear n0_ n1_ n2_; (try clear hb); (try clear hb2); (try clear hk); (try clear hi); (try clear ho0); obtain ⟨Ao10, co10, eo10⟩ := Kd.R_slice HO323.out; subst eo10))
  go_loopg [17] k (fun kq v17 w' => ∃ (x6_1 : List (S54)) (x17_1 : Int), v17 = .int .i64 x17_1 ∧ zc (impl_MirrorPlan.l0 kq x6_1 (t321.length : Int) x17_1 = some (r1, r2)) ∧ zc (kq ≤ k) ∧ zc (Kd.R k54 54 w' w.heap.size (fun _ => True) (.slice Ao10 t321.length co10) x6_1) ∧ zc (w'.heap[gb319]? = some (.cells #[.int .i8 a0_0, .int .i8 a0_1, .bool a0_2, .bool a0_3] 29 (0, 0))) ∧ zc (Below w.heap.size w w'))
  case atStart => exact ⟨(t321), (0), (by first | rfl | (simp; done) | (simp [*]; done)), H', ⟨Nat.le_refl _⟩, ⟨by (with_reducible repeat (first | apply Kd.R_alloc | apply Kd.R_drewN | apply Kd.R_drew)); exact HO323.out⟩, ⟨by (with_reducible repeat (first | refine zf ?_ _ | refine zh ?_ | refine zg ?_ _)); exact BK319.out⟩, ⟨by repeat (first | (with_reducible first | exact HB.out | apply zd | apply za | apply zb | refine ze ?_ GE319.out) | exact HB.out)⟩⟩
  case round =>
   clear H'
   try clear c1
   try clear c2
   try clear p2
   try clear c3
   try clear c4
   try clear hcz7_0 hcz7_1 hcz7_2 hcz7_3
   try clear hfz7_0 hfz7_1 hfz7_2 hfz7_3
   obtain ⟨x6_1, x17_1, rfl, HA, HK1, HO_6, BK319, HB⟩ := hrel
   have hl6_1 := (Kd.R_reads' HO_6.out).1
   rw [hl6_1] at HO_6
   (try simp only [hl6_1])
   (try simp only [hl6_1] at BK319)
   cases gk with
   | zero => exact absurd HA.out (by simp [impl_MirrorPlan.l0])
   | succ k1 =>
    have H := HA.out
    clear HA
    simp only [impl_MirrorPlan.l0] at H
    by_cases c11 : x17_1 < (t321.length : Int)
    ·rw [if_pos c11] at H
     have c11b0 : decide (x17_1 < (t321.length : Int)) = true := decide_eq_true c11
     (try rw [hl6_1] at c11b0)
     clear c11
     have H' := zc.mk H
     clear H
     go_wp2
     go_loopg [20] k1 (fun kq v20 w' => ∃ (x6_2 : List (S54)) (x20_2 : Int), v20 = .int .i64 x20_2 ∧ zc (impl_MirrorPlan.l1 kq x6_2 x17_1 (t321.length : Int) x17_1 x20_2 = some (r1, r2)) ∧ zc (kq ≤ k1) ∧ zc (Kd.R k54 54 w' w.heap.size (fun _ => True) (.slice Ao10 x6_1.length co10) x6_2) ∧ zc (w'.heap[gb319]? = some (.cells #[.int .i8 a0_0, .int .i8 a0_1, .bool a0_2, .bool a0_3] 29 (0, 0))) ∧ zc (Below w.heap.size w w'))
     case atStart => exact ⟨(x6_1), (0), (by first | rfl | (simp; done) | (simp [*]; done)), H', ⟨Nat.le_refl _⟩, ⟨by (try simp only [hl6_1]); (with_reducible repeat (first | apply Kd.R_alloc | apply Kd.R_drewN | apply Kd.R_drew)); exact HO_6.out⟩, ⟨by (try simp only [hl6_1]); (with_reducible repeat (first | refine zf ?_ _ | refine zh ?_ | refine zg ?_ _)); exact BK319.out⟩, ⟨by repeat (first | (with_reducible first | exact HB.out | apply zd | apply za | apply zb | refine ze ?_ GE319.out) | exact HB.out)⟩⟩
     case round =>
      clear H'
      try clear c1
      try clear c2
      try clear p2
      try clear c3
      try clear c4
      try clear c11
      try clear c11b0
      try clear hcz7_0 hcz7_1 hcz7_2 hcz7_3
      try clear hfz7_0 hfz7_1 hfz7_2 hfz7_3
      try clear p2
      obtain ⟨x6_2, x20_2, rfl, HA, HK2, HO_6, BK319, HB⟩ := hrel
      have hl6_2 := (Kd.R_reads' HO_6.out).1
      rw [hl6_2] at HO_6
      (try simp only [hl6_2])
      (try simp only [hl6_2] at BK319)
      cases gk with
      | zero => exact absurd HA.out (by simp [impl_MirrorPlan.l1])
      | succ k2 =>
       have H := HA.out
       clear HA
       simp only [impl_MirrorPlan.l1] at H
       by_cases c12 : x20_2 < 14
       ·rw [if_pos c12] at H
        have c12b0 : decide (x20_2 < 14) = true := decide_eq_true c12
        clear c12
        by_cases c13 : 0 ≤ x17_1
        ·rw [if_pos c13] at H
         have c13b0 : decide (0 ≤ x17_1) = true := decide_eq_true c13
         clear c13
         by_cases c14 : x17_1 < (x6_2.length : Int)
         ·rw [if_pos c14] at H
          have c14b0 : decide (x17_1 < (x6_2.length : Int)) = true := decide_eq_true c14
          clear c14
          by_cases c15 : 0 ≤ x20_2
          ·rw [if_pos c15] at H
           have c15b0 : decide (0 ≤ x20_2) = true := decide_eq_true c15
           clear c15
           obtain ⟨y327, hy327⟩ : ∃ y_ : List (S54), y_ = (x6_2.set (x17_1 : Int).toNat (⟨(⟨(pickA x20_2 0 (IntKind.i8.wrap (-(rd [(rd_T54 x6_2 x17_1).f0.f0, (rd_T54 x6_2 x17_1).f0.f1, (rd_T54 x6_2 x17_1).f0.f2, (rd_T54 x6_2 x17_1).f0.f3, (rd_T54 x6_2 x17_1).f0.f4, (rd_T54 x6_2 x17_1).f0.f5, (rd_T54 x6_2 x17_1).f0.f6, (rd_T54 x6_2 x17_1).f0.f7, (rd_T54 x6_2 x17_1).f0.f8, (rd_T54 x6_2 x17_1).f0.f9, (rd_T54 x6_2 x17_1).f0.f10, (rd_T54 x6_2 x17_1).f0.f11, (rd_T54 x6_2 x17_1).f0.f12, (rd_T54 x6_2 x17_1).f0.f13] x20_2))) ((rd_T54 x6_2 x17_1).f0.f0)), (pickA x20_2 1 (IntKind.i8.wrap (-(rd [(rd_T54 x6_2 x17_1).f0.f0, (rd_T54 x6_2 x17_1).f0.f1, (rd_T54 x6_2 x17_1).f0.f2, (rd_T54 x6_2 x17_1).f0.f3, (rd_T54 x6_2 x17_1).f0.f4, (rd_T54 x6_2 x17_1).f0.f5, (rd_T54 x6_2 x17_1).f0.f6, (rd_T54 x6_2 x17_1).f0.f7, (rd_T54 x6_2 x17_1).f0.f8, (rd_T54 x6_2 x17_1).f0.f9, (rd_T54 x6_2 x17_1).f0.f10, (rd_T54 x6_2 x17_1).f0.f11, (rd_T54 x6_2 x17_1).f0.f12, (rd_T54 x6_2 x17_1).f0.f13] x20_2))) ((rd_T54 x6_2 x17_1).f0.f1)), (pickA x20_2 2 (IntKind.i8.wrap (-(rd [(rd_T54 x6_2 x17_1).f0.f0, (rd_T54 x6_2 x17_1).f0.f1, (rd_T54 x6_2 x17_1).f0.f2, (rd_T54 x6_2 x17_1).f0.f3, (rd_T54 x6_2 x17_1).f0.f4, (rd_T54 x6_2 x17_1).f0.f5, (rd_T54 x6_2 x17_1).f0.f6, (rd_T54 x6_2 x17_1).f0.f7, (rd_T54 x6_2 x17_1).f0.f8, (rd_T54 x6_2 x17_1).f0.f9, (rd_T54 x6_2 x17_1).f0.f10, (rd_T54 x6_2 x17_1).f0.f11, (rd_T54 x6_2 x17_1).f0.f12, (rd_T54 x6_2 x17_1).f0.f13] x20_2))) ((rd_T54 x6_2 x17_1).f0.f2)), (pickA x20_2 3 (IntKind.i8.wrap (-(rd [(rd_T54 x6_2 x17_1).f0.f0, (rd_T54 x6_2 x17_1).f0.f1, (rd_T54 x6_2 x17_1).f0.f2, (rd_T54 x6_2 x17_1).f0.f3, (rd_T54 x6_2 x17_1).f0.f4, (rd_T54 x6_2 x17_1).f0.f5, (rd_T54 x6_2 x17_1).f0.f6, (rd_T54 x6_2 x17_1).f0.f7, (rd_T54 x6_2 x17_1).f0.f8, (rd_T54 x6_2 x17_1).f0.f9, (rd_T54 x6_2 x17_1).f0.f10, (rd_T54 x6_2 x17_1).f0.f11, (rd_T54 x6_2 x17_1).f0.f12, (rd_T54 x6_2 x17_1).f0.f13] x20_2))) ((rd_T54 x6_2 x17_1).f0.f3)), (pickA x20_2 4 (IntKind.i8.wrap (-(rd [(rd_T54 x6_2 x17_1).f0.f0, (rd_T54 x6_2 x17_1).f0.f1, (rd_T54 x6_2 x17_1).f0.f2, (rd_T54 x6_2 x17_1).f0.f3, (rd_T54 x6_2 x17_1).f0.f4, (rd_T54 x6_2 x17_1).f0.f5, (rd_T54 x6_2 x17_1).f0.f6, (rd_T54 x6_2 x17_1).f0.f7, (rd_T54 x6_2 x17_1).f0.f8, (rd_T54 x6_2 x17_1).f0.f9, (rd_T54 x6_2 x17_1).f0.f10, (rd_T54 x6_2 x17_1).f0.f11, (rd_T54 x6_2 x17_1).f0.f12, (rd_T54 x6_2 x17_1).f0.f13] x20_2))) ((rd_T54 x6_2 x17_1).f0.f4)), (pickA x20_2 5 (IntKind.i8.wrap (-(rd [(rd_T54 x6_2 x17_1).f0.f0, (rd_T54 x6_2 x17_1).f0.f1, (rd_T54 x6_2 x17_1).f0.f2, (rd_T54 x6_2 x17_1).f0.f3, (rd_T54 x6_2 x17_1).f0.f4, (rd_T54 x6_2 x17_1).f0.f5, (rd_T54 x6_2 x17_1).f0.f6, (rd_T54 x6_2 x17_1).f0.f7, (rd_T54 x6_2 x17_1).f0.f8, (rd_T54 x6_2 x17_1).f0.f9, (rd_T54 x6_2 x17_1).f0.f10, (rd_T54 x6_2 x17_1).f0.f11, (rd_T54 x6_2 x17_1).f0.f12, (rd_T54 x6_2 x17_1).f0.f13] x20_2))) ((rd_T54 x6_2 x17_1).f0.f5)), (pickA x20_2 6 (IntKind.i8.wrap (-(rd [(rd_T54 x6_2 x17_1).f0.f0, (rd_T54 x6_2 x17_1).f0.f1, (rd_T54 x6_2 x17_1).f0.f2, (rd_T54 x6_2 x17_1).f0.f3, (rd_T54 x6_2 x17_1).f0.f4, (rd_T54 x6_2 x17_1).f0.f5, (rd_T54 x6_2 x17_1).f0.f6, (rd_T54 x6_2 x17_1).f0.f7, (rd_T54 x6_2 x17_1).f0.f8, (rd_T54 x6_2 x17_1).f0.f9, (rd_T54 x6_2 x17_1).f0.f10, (rd_T54 x6_2 x17_1).f0.f11, (rd_T54 x6_2 x17_1).f0.f12, (rd_T54 x6_2 x17_1).f0.f13] x20_2))) ((rd_T54 x6_2 x17_1).f0.f6)), (pickA x20_2 7 (IntKind.i8.wrap (-(rd [(rd_T54 x6_2 x17_1).f0.f0, (rd_T54 x6_2 x17_1).f0.f1, (rd_T54 x6_2 x17_1).f0.f2, (rd_T54 x6_2 x17_1).f0.f3, (rd_T54 x6_2 x17_1).f0.f4, (rd_T54 x6_2 x17_1).f0.f5, (rd_T54 x6_2 x17_1).f0.f6, (rd_T54 x6_2 x17_1).f0.f7, (rd_T54 x6_2 x17_1).f0.f8, (rd_T54 x6_2 x17_1).f0.f9, (rd_T54 x6_2 x17_1).f0.f10, (rd_T54 x6_2 x17_1).f0.f11, (rd_T54 x6_2 x17_1).f0.f12, (rd_T54 x6_2 x17_1).f0.f13] x20_2))) ((rd_T54 x6_2 x17_1).f0.f7)), (pickA x20_2 8 (IntKind.i8.wrap (-(rd [(rd_T54 x6_2 x17_1).f0.f0, (rd_T54 x6_2 x17_1).f0.f1, (rd_T54 x6_2 x17_1).f0.f2, (rd_T54 x6_2 x17_1).f0.f3, (rd_T54 x6_2 x17_1).f0.f4, (rd_T54 x6_2 x17_1).f0.f5, (rd_T54 x6_2 x17_1).f0.f6, (rd_T54 x6_2 x17_1).f0.f7, (rd_T54 x6_2 x17_1).f0.f8, (rd_T54 x6_2 x17_1).f0.f9, (rd_T54 x6_2 x17_1).f0.f10, (rd_T54 x6_2 x17_1).f0.f11, (rd_T54 x6_2 x17_1).f0.f12, (rd_T54 x6_2 x17_1).f0.f13] x20_2))) ((rd_T54 x6_2 x17_1).f0.f8)), (pickA x20_2 9 (IntKind.i8.wrap (-(rd [(rd_T54 x6_2 x17_1).f0.f0, (rd_T54 x6_2 x17_1).f0.f1, (rd_T54 x6_2 x17_1).f0.f2, (rd_T54 x6_2 x17_1).f0.f3, (rd_T54 x6_2 x17_1).f0.f4, (rd_T54 x6_2 x17_1).f0.f5, (rd_T54 x6_2 x17_1).f0.f6, (rd_T54 x6_2 x17_1).f0.f7, (rd_T54 x6_2 x17_1).f0.f8, (rd_T54 x6_2 x17_1).f0.f9, (rd_T54 x6_2 x17_1).f0.f10, (rd_T54 x6_2 x17_1).f0.f11, (rd_T54 x6_2 x17_1).f0.f12, (rd_T54 x6_2 x17_1).f0.f13] x20_2))) ((rd_T54 x6_2 x17_1).f0.f9)), (pickA x20_2 10 (IntKind.i8.wrap (-(rd [(rd_T54 x6_2 x17_1).f0.f0, (rd_T54 x6_2 x17_1).f0.f1, (rd_T54 x6_2 x17_1).f0.f2, (rd_T54 x6_2 x17_1).f0.f3, (rd_T54 x6_2 x17_1).f0.f4, (rd_T54 x6_2 x17_1).f0.f5, (rd_T54 x6_2 x17_1).f0.f6, (rd_T54 x6_2 x17_1).f0.f7, (rd_T54 x6_2 x17_1).f0.f8, (rd_T54 x6_2 x17_1).f0.f9, (rd_T54 x6_2 x17_1).f0.f10, (rd_T54 x6_2 x17_1).f0.f11, (rd_T54 x6_2 x17_1).f0.f12, (rd_T54 x6_2 x17_1).f0.f13] x20_2))) ((rd_T54 x6_2 x17_1).f0.f10)), (pickA x20_2 11 (IntKind.i8.wrap (-(rd [(rd_T54 x6_2 x17_1).f0.f0, (rd_T54 x6_2 x17_1).f0.f1, (rd_T54 x6_2 x17_1).f0.f2, (rd_T54 x6_2 x17_1).f0.f3, (rd_T54 x6_2 x17_1).f0.f4, (rd_T54 x6_2 x17_1).f0.f5, (rd_T54 x6_2 x17_1).f0.f6, (rd_T54 x6_2 x17_1).f0.f7, (rd_T54 x6_2 x17_1).f0.f8, (rd_T54 x6_2 x17_1).f0.f9, (rd_T54 x6_2 x17_1).f0.f10, (rd_T54 x6_2 x17_1).f0.f11, (rd_T54 x6_2 x17_1).f0.f12, (rd_T54 x6_2 x17_1).f0.f13] x20_2))) ((rd_T54 x6_2 x17_1).f0.f11)), (pickA x20_2 12 (IntKind.i8.wrap (-(rd [(rd_T54 x6_2 x17_1).f0.f0, (rd_T54 x6_2 x17_1).f0.f1, (rd_T54 x6_2 x17_1).f0.f2, (rd_T54 x6_2 x17_1).f0.f3, (rd_T54 x6_2 x17_1).f0.f4, (rd_T54 x6_2 x17_1).f0.f5, (rd_T54 x6_2 x17_1).f0.f6, (rd_T54 x6_2 x17_1).f0.f7, (rd_T54 x6_2 x17_1).f0.f8, (rd_T54 x6_2 x17_1).f0.f9, (rd_T54 x6_2 x17_1).f0.f10, (rd_T54 x6_2 x17_1).f0.f11, (rd_T54 x6_2 x17_1).f0.f12, (rd_T54 x6_2 x17_1).f0.f13] x20_2))) ((rd_T54 x6_2 x17_1).f0.f12)), (pickA x20_2 13 (IntKind.i8.wrap (-(rd [(rd_T54 x6_2 x17_1).f0.f0, (rd_T54 x6_2 x17_1).f0.f1, (rd_T54 x6_2 x17_1).f0.f2, (rd_T54 x6_2 x17_1).f0.f3, (rd_T54 x6_2 x17_1).f0.f4, (rd_T54 x6_2 x17_1).f0.f5, (rd_T54 x6_2 x17_1).f0.f6, (rd_T54 x6_2 x17_1).f0.f7, (rd_T54 x6_2 x17_1).f0.f8, (rd_T54 x6_2 x17_1).f0.f9, (rd_T54 x6_2 x17_1).f0.f10, (rd_T54 x6_2 x17_1).f0.f11, (rd_T54 x6_2 x17_1).f0.f12, (rd_T54 x6_2 x17_1).f0.f13] x20_2))) ((rd_T54 x6_2 x17_1).f0.f13))⟩ : S50), (⟨(rd_T54 x6_2 x17_1).f1.f0, (rd_T54 x6_2 x17_1).f1.f1, (rd_T54 x6_2 x17_1).f1.f2⟩ : S52), (⟨(rd_T54 x6_2 x17_1).f2.f0, (rd_T54 x6_2 x17_1).f2.f1⟩ : S46), (rd_T54 x6_2 x17_1).f3⟩ : S54)) := ⟨_, rfl⟩
           replace H : (impl_MirrorPlan.l1 k2 y327 x17_1 (t321.length : Int) x17_1 (wrap64 (x20_2 + 1))) = some (r1, r2) := by first | (rw [hy327]; with_reducible exact H) | (have H2_ := (Option.bind_some _ _).symm.trans H; rw [hy327]; with_reducible exact H2_) | (have H2_ := (Option.bind_some _ _).symm.trans H; with_reducible exact H2_) | with_reducible exact H | (rw [hy327]; exact H) | exact H
           have Ny327 := zc.mk hy327
           clear hy327
           have H' := zc.mk H
           clear H
           try go_wp2
           have n0_ := zc.mk (Kd.R_drew HO_6.out)
           have n1_ := zc.mk (zh BK319.out)
           have n2_ := zc.mk (zb HB.out)
           clear HO_6
           clear BK319
           clear HB
           have HO_6 := n0_
           have BK319 := n1_
           have HB := n2_
           clear n0_ n1_ n2_
           have p324 : 0 ≤ (x17_1 : Int) := of_decide_eq_true (by first | (with_reducible assumption) | assumption)
           have q324 : x17_1 < (x6_2.length : Int) := of_decide_eq_true (by first | (with_reducible assumption) | assumption)
           obtain ⟨ad324, e324, hx324_0, hx324_1, hx324_2, hx324_3, hx324_4, hx324_5, hx324_6, hx324_7, hx324_8, hx324_9, hx324_10, hx324_11, hx324_12, hx324_13, hx324_14, hx324_15, hx324_16, hx324_17, hx324_18, hx324_19⟩ := at_T54 (Kd.R_reads' HO_6.out).2.2 x17_1 p324 q324
           cases e324
           replace p324 := eq_true p324
           replace q324 := eq_true q324
           have pf19 : 0 ≤ (x17_1 : Int) := of_decide_eq_true (by first | (with_reducible assumption) | assumption)
           have qf19 : (x17_1 : Int) < ((x6_2.length : Int) : Int) := of_decide_eq_true (by first | (with_reducible assumption) | assumption)
           obtain ⟨go20, co20, eo20, gb20, gl20, cl20, HG20⟩ := Kd.R_form HO_6.out (by omega)
           (first | cases eo20 | (injection eo20 with ea_ en_ ec_; (first | subst ea_ | (injection ea_ with ea_; subst ea_)); subst ec_; clear en_))
           have GB20 := zc.mk gb20
           have GG20 := zc.mk HG20
           clear gb20 gl20 HG20
           (first | simp only [zq] at hx324_0 | skip)
           (first | simp only [zq] at hx324_1 | skip)
           (first | simp only [zq] at hx324_2 | skip)
           (first | simp only [zq] at hx324_3 | skip)
           (first | simp only [zq] at hx324_4 | skip)
           (first | simp only [zq] at hx324_5 | skip)
           (first | simp only [zq] at hx324_6 | skip)
           (first | simp only [zq] at hx324_7 | skip)
           (first | simp only [zq] at hx324_8 | skip)
           (first | simp only [zq] at hx324_9 | skip)
           (first | simp only [zq] at hx324_10 | skip)
           (first | simp only [zq] at hx324_11 | skip)
           (first | simp only [zq] at hx324_12 | skip)
           (first | simp only [zq] at hx324_13 | skip)
           (first | simp only [zq] at hx324_14 | skip)
           (first | simp only [zq] at hx324_15 | skip)
           (first | simp only [zq] at hx324_16 | skip)
           (first | simp only [zq] at hx324_17 | skip)
           (first | simp only [zq] at hx324_18 | skip)
           (first | simp only [zq] at hx324_19 | skip)
           clear pf19 qf19
           have hx18_0 := rdc14 (a := fun z_ : Int => ⟨go20, ((x17_1).toNat * 20) + z_.toNat, none⟩) (j := x20_2) (of_decide_eq_true (by first | (with_reducible assumption) | assumption)) (of_decide_eq_true (by first | (with_reducible assumption) | assumption)) hx324_0 hx324_1 hx324_2 hx324_3 hx324_4 hx324_5 hx324_6 hx324_7 hx324_8 hx324_9 hx324_10 hx324_11 hx324_12 hx324_13
           (try dsimp only at hx18_0)
           have p18 : 0 ≤ (x20_2 : Int) := of_decide_eq_true (by first | (with_reducible assumption) | assumption)
           have q18 : x20_2 < (14 : Int) := of_decide_eq_true (by first | (with_reducible assumption) | assumption)
           replace p18 := eq_true p18
           replace q18 := eq_true q18
           have p16 : 0 ≤ (x17_1 : Int) := of_decide_eq_true (by first | (with_reducible assumption) | assumption)
           have q16 : (x17_1 : Int) < ((x6_2.length : Int) : Int) := of_decide_eq_true (by first | (with_reducible assumption) | assumption)
           obtain ⟨ce16, hcl16, hM16, hcc16, hfr16⟩ := Kd.R_elem HO_6.out z54 (x17_1 : Int) p16 q16
           obtain rfl := k54_openM hM16
           have hx16_0 : World.cell? _ ⟨go20, (x17_1 : Int).toNat * 20, none⟩ = some (.int .i8 ((rd_T54 x6_2 x17_1).f0.f0)) := hcc16 0 _ rfl
           have hx16_1 : World.cell? _ ⟨go20, (x17_1 : Int).toNat * 20 + 1, none⟩ = some (.int .i8 ((rd_T54 x6_2 x17_1).f0.f1)) := hcc16 1 _ rfl
           have hx16_2 : World.cell? _ ⟨go20, (x17_1 : Int).toNat * 20 + 2, none⟩ = some (.int .i8 ((rd_T54 x6_2 x17_1).f0.f2)) := hcc16 2 _ rfl
           have hx16_3 : World.cell? _ ⟨go20, (x17_1 : Int).toNat * 20 + 3, none⟩ = some (.int .i8 ((rd_T54 x6_2 x17_1).f0.f3)) := hcc16 3 _ rfl
           have hx16_4 : World.cell? _ ⟨go20, (x17_1 : Int).toNat * 20 + 4, none⟩ = some (.int .i8 ((rd_T54 x6_2 x17_1).f0.f4)) := hcc16 4 _ rfl
           have hx16_5 : World.cell? _ ⟨go20, (x17_1 : Int).toNat * 20 + 5, none⟩ = some (.int .i8 ((rd_T54 x6_2 x17_1).f0.f5)) := hcc16 5 _ rfl
           have hx16_6 : World.cell? _ ⟨go20, (x17_1 : Int).toNat * 20 + 6, none⟩ = some (.int .i8 ((rd_T54 x6_2 x17_1).f0.f6)) := hcc16 6 _ rfl
           have hx16_7 : World.cell? _ ⟨go20, (x17_1 : Int).toNat * 20 + 7, none⟩ = some (.int .i8 ((rd_T54 x6_2 x17_1).f0.f7)) := hcc16 7 _ rfl
           have hx16_8 : World.cell? _ ⟨go20, (x17_1 : Int).toNat * 20 + 8, none⟩ = some (.int .i8 ((rd_T54 x6_2 x17_1).f0.f8)) := hcc16 8 _ rfl
           have hx16_9 : World.cell? _ ⟨go20, (x17_1 : Int).toNat * 20 + 9, none⟩ = some (.int .i8 ((rd_T54 x6_2 x17_1).f0.f9)) := hcc16 9 _ rfl
           have hx16_10 : World.cell? _ ⟨go20, (x17_1 : Int).toNat * 20 + 10, none⟩ = some (.int .i8 ((rd_T54 x6_2 x17_1).f0.f10)) := hcc16 10 _ rfl
           have hx16_11 : World.cell? _ ⟨go20, (x17_1 : Int).toNat * 20 + 11, none⟩ = some (.int .i8 ((rd_T54 x6_2 x17_1).f0.f11)) := hcc16 11 _ rfl
           have hx16_12 : World.cell? _ ⟨go20, (x17_1 : Int).toNat * 20 + 12, none⟩ = some (.int .i8 ((rd_T54 x6_2 x17_1).f0.f12)) := hcc16 12 _ rfl
           have hx16_13 : World.cell? _ ⟨go20, (x17_1 : Int).toNat * 20 + 13, none⟩ = some (.int .i8 ((rd_T54 x6_2 x17_1).f0.f13)) := hcc16 13 _ rfl
           have hx16_14 : World.cell? _ ⟨go20, (x17_1 : Int).toNat * 20 + 14, none⟩ = some (.int .i16 ((rd_T54 x6_2 x17_1).f1.f0)) := hcc16 14 _ rfl
           have hx16_15 : World.cell? _ ⟨go20, (x17_1 : Int).toNat * 20 + 15, none⟩ = some (.int .i16 ((rd_T54 x6_2 x17_1).f1.f1)) := hcc16 15 _ rfl
           have hx16_16 : World.cell? _ ⟨go20, (x17_1 : Int).toNat * 20 + 16, none⟩ = some (.int .i16 ((rd_T54 x6_2 x17_1).f1.f2)) := hcc16 16 _ rfl
           have hx16_17 : World.cell? _ ⟨go20, (x17_1 : Int).toNat * 20 + 17, none⟩ = some (.int .i8 ((rd_T54 x6_2 x17_1).f2.f0)) := hcc16 17 _ rfl
           have hx16_18 : World.cell? _ ⟨go20, (x17_1 : Int).toNat * 20 + 18, none⟩ = some (.bool ((rd_T54 x6_2 x17_1).f2.f1)) := hcc16 18 _ rfl
           have hx16_19 : World.cell? _ ⟨go20, (x17_1 : Int).toNat * 20 + 19, none⟩ = some (.bool ((rd_T54 x6_2 x17_1).f3)) := hcc16 19 _ rfl
           have hf16_0 : World.frozen? _ ⟨go20, (x17_1 : Int).toNat * 20, none⟩ = false := hfr16 0
           have hf16_1 : World.frozen? _ ⟨go20, (x17_1 : Int).toNat * 20 + 1, none⟩ = false := hfr16 1
           have hf16_2 : World.frozen? _ ⟨go20, (x17_1 : Int).toNat * 20 + 2, none⟩ = false := hfr16 2
           have hf16_3 : World.frozen? _ ⟨go20, (x17_1 : Int).toNat * 20 + 3, none⟩ = false := hfr16 3
           have hf16_4 : World.frozen? _ ⟨go20, (x17_1 : Int).toNat * 20 + 4, none⟩ = false := hfr16 4
           have hf16_5 : World.frozen? _ ⟨go20, (x17_1 : Int).toNat * 20 + 5, none⟩ = false := hfr16 5
           have hf16_6 : World.frozen? _ ⟨go20, (x17_1 : Int).toNat * 20 + 6, none⟩ = false := hfr16 6
           have hf16_7 : World.frozen? _ ⟨go20, (x17_1 : Int).toNat * 20 + 7, none⟩ = false := hfr16 7
           have hf16_8 : World.frozen? _ ⟨go20, (x17_1 : Int).toNat * 20 + 8, none⟩ = false := hfr16 8
           have hf16_9 : World.frozen? _ ⟨go20, (x17_1 : Int).toNat * 20 + 9, none⟩ = false := hfr16 9
           have hf16_10 : World.frozen? _ ⟨go20, (x17_1 : Int).toNat * 20 + 10, none⟩ = false := hfr16 10
           have hf16_11 : World.frozen? _ ⟨go20, (x17_1 : Int).toNat * 20 + 11, none⟩ = false := hfr16 11
           have hf16_12 : World.frozen? _ ⟨go20, (x17_1 : Int).toNat * 20 + 12, none⟩ = false := hfr16 12
           have hf16_13 : World.frozen? _ ⟨go20, (x17_1 : Int).toNat * 20 + 13, none⟩ = false := hfr16 13
           have hf16_14 : World.frozen? _ ⟨go20, (x17_1 : Int).toNat * 20 + 14, none⟩ = false := hfr16 14
           have hf16_15 : World.frozen? _ ⟨go20, (x17_1 : Int).toNat * 20 + 15, none⟩ = false := hfr16 15
           have hf16_16 : World.frozen? _ ⟨go20, (x17_1 : Int).toNat * 20 + 16, none⟩ = false := hfr16 16
           have hf16_17 : World.frozen? _ ⟨go20, (x17_1 : Int).toNat * 20 + 17, none⟩ = false := hfr16 17
           have hf16_18 : World.frozen? _ ⟨go20, (x17_1 : Int).toNat * 20 + 18, none⟩ = false := hfr16 18
           have hf16_19 : World.frozen? _ ⟨go20, (x17_1 : Int).toNat * 20 + 19, none⟩ = false := hfr16 19
           clear hcl16 hcc16 hfr16 hM16
           replace p16 := eq_true p16
           replace q16 := eq_true q16
           have hx21_0 := rdc14 (a := fun z_ : Int => ⟨go20, (x17_1 : Int).toNat * 20 + z_.toNat, none⟩) (j := x20_2) (of_decide_eq_true (by first | (with_reducible assumption) | assumption)) (of_decide_eq_true (by first | (with_reducible assumption) | assumption)) hx16_0 hx16_1 hx16_2 hx16_3 hx16_4 hx16_5 hx16_6 hx16_7 hx16_8 hx16_9 hx16_10 hx16_11 hx16_12 hx16_13
           (try dsimp only at hx21_0)
           have hf21_0 := rfz14 (a := fun z_ : Int => ⟨go20, (x17_1 : Int).toNat * 20 + z_.toNat, none⟩) (j := x20_2) (of_decide_eq_true (by first | (with_reducible assumption) | assumption)) (of_decide_eq_true (by first | (with_reducible assumption) | assumption)) hf16_0 hf16_1 hf16_2 hf16_3 hf16_4 hf16_5 hf16_6 hf16_7 hf16_8 hf16_9 hf16_10 hf16_11 hf16_12 hf16_13
           (try dsimp only at hf21_0)
           have p21 : 0 ≤ (x20_2 : Int) := of_decide_eq_true (by first | (with_reducible assumption) | assumption)
           have q21 : x20_2 < (14 : Int) := of_decide_eq_true (by first | (with_reducible assumption) | assumption)
           replace p21 := eq_true p21
           replace q21 := eq_true q21
           obtain ⟨ce22, hcl22, hM22, hcc22, hfr22⟩ := Kd.R_elem HO_6.out z54 (x17_1 : Int) (of_decide_eq_true (by first | (with_reducible assumption) | assumption)) (by have h_ : (x17_1 : Int) < ((x6_2.length : Int) : Int) := of_decide_eq_true (by first | (with_reducible assumption) | assumption); first | exact h_ | (have e_ := (Kd.R_reads' HO_6.out).1; omega) | simpa using h_)
           obtain rfl := k54_openM hM22
           have HP22 := (Kd.R_seg HO_6.out (x17_1 : Int) (of_decide_eq_true (by first | (with_reducible assumption) | assumption)) (by have h_ : (x17_1 : Int) < ((x6_2.length : Int) : Int) := of_decide_eq_true (by first | (with_reducible assumption) | assumption); first | exact h_ | (have e_ := (Kd.R_reads' HO_6.out).1; omega) | simpa using h_) (seg := [.int .i8 (IntKind.i8.wrap (-(rd [(rd_T54 x6_2 x17_1).f0.f0, (rd_T54 x6_2 x17_1).f0.f1, (rd_T54 x6_2 x17_1).f0.f2, (rd_T54 x6_2 x17_1).f0.f3, (rd_T54 x6_2 x17_1).f0.f4, (rd_T54 x6_2 x17_1).f0.f5, (rd_T54 x6_2 x17_1).f0.f6, (rd_T54 x6_2 x17_1).f0.f7, (rd_T54 x6_2 x17_1).f0.f8, (rd_T54 x6_2 x17_1).f0.f9, (rd_T54 x6_2 x17_1).f0.f10, (rd_T54 x6_2 x17_1).f0.f11, (rd_T54 x6_2 x17_1).f0.f12, (rd_T54 x6_2 x17_1).f0.f13] x20_2)))]) (j := (x20_2).toNat) hcl22 hcc22 (show (x20_2).toNat + 1 ≤ 20 from by have hp_ : 0 ≤ (x20_2 : Int) := of_decide_eq_true (by first | (with_reducible assumption) | assumption); have hq_ : x20_2 < (14 : Int) := of_decide_eq_true (by first | (with_reducible assumption) | assumption); omega) (x' := (⟨(⟨(pickA x20_2 0 (IntKind.i8.wrap (-(rd [(rd_T54 x6_2 x17_1).f0.f0, (rd_T54 x6_2 x17_1).f0.f1, (rd_T54 x6_2 x17_1).f0.f2, (rd_T54 x6_2 x17_1).f0.f3, (rd_T54 x6_2 x17_1).f0.f4, (rd_T54 x6_2 x17_1).f0.f5, (rd_T54 x6_2 x17_1).f0.f6, (rd_T54 x6_2 x17_1).f0.f7, (rd_T54 x6_2 x17_1).f0.f8, (rd_T54 x6_2 x17_1).f0.f9, (rd_T54 x6_2 x17_1).f0.f10, (rd_T54 x6_2 x17_1).f0.f11, (rd_T54 x6_2 x17_1).f0.f12, (rd_T54 x6_2 x17_1).f0.f13] x20_2))) ((rd_T54 x6_2 x17_1).f0.f0)), (pickA x20_2 1 (IntKind.i8.wrap (-(rd [(rd_T54 x6_2 x17_1).f0.f0, (rd_T54 x6_2 x17_1).f0.f1, (rd_T54 x6_2 x17_1).f0.f2, (rd_T54 x6_2 x17_1).f0.f3, (rd_T54 x6_2 x17_1).f0.f4, (rd_T54 x6_2 x17_1).f0.f5, (rd_T54 x6_2 x17_1).f0.f6, (rd_T54 x6_2 x17_1).f0.f7, (rd_T54 x6_2 x17_1).f0.f8, (rd_T54 x6_2 x17_1).f0.f9, (rd_T54 x6_2 x17_1).f0.f10, (rd_T54 x6_2 x17_1).f0.f11, (rd_T54 x6_2 x17_1).f0.f12, (rd_T54 x6_2 x17_1).f0.f13] x20_2))) ((rd_T54 x6_2 x17_1).f0.f1)), (pickA x20_2 2 (IntKind.i8.wrap (-(rd [(rd_T54 x6_2 x17_1).f0.f0, (rd_T54 x6_2 x17_1).f0.f1, (rd_T54 x6_2 x17_1).f0.f2, (rd_T54 x6_2 x17_1).f0.f3, (rd_T54 x6_2 x17_1).f0.f4, (rd_T54 x6_2 x17_1).f0.f5, (rd_T54 x6_2 x17_1).f0.f6, (rd_T54 x6_2 x17_1).f0.f7, (rd_T54 x6_2 x17_1).f0.f8, (rd_T54 x6_2 x17_1).f0.f9, (rd_T54 x6_2 x17_1).f0.f10, (rd_T54 x6_2 x17_1).f0.f11, (rd_T54 x6_2 x17_1).f0.f12, (rd_T54 x6_2 x17_1).f0.f13] x20_2))) ((rd_T54 x6_2 x17_1).f0.f2)), (pickA x20_2 3 (IntKind.i8.wrap (-(rd [(rd_T54 x6_2 x17_1).f0.f0, (rd_T54 x6_2 x17_1).f0.f1, (rd_T54 x6_2 x17_1).f0.f2, (rd_T54 x6_2 x17_1).f0.f3, (rd_T54 x6_2 x17_1).f0.f4, (rd_T54 x6_2 x17_1).f0.f5, (rd_T54 x6_2 x17_1).f0.f6, (rd_T54 x6_2 x17_1).f0.f7, (rd_T54 x6_2 x17_1).f0.f8, (rd_T54 x6_2 x17_1).f0.f9, (rd_T54 x6_2 x17_1).f0.f10, (rd_T54 x6_2 x17_1).f0.f11, (rd_T54 x6_2 x17_1).f0.f12, (rd_T54 x6_2 x17_1).f0.f13] x20_2))) ((rd_T54 x6_2 x17_1).f0.f3)), (pickA x20_2 4 (IntKind.i8.wrap (-(rd [(rd_T54 x6_2 x17_1).f0.f0, (rd_T54 x6_2 x17_1).f0.f1, (rd_T54 x6_2 x17_1).f0.f2, (rd_T54 x6_2 x17_1).f0.f3, (rd_T54 x6_2 x17_1).f0.f4, (rd_T54 x6_2 x17_1).f0.f5, (rd_T54 x6_2 x17_1).f0.f6, (rd_T54 x6_2 x17_1).f0.f7, (rd_T54 x6_2 x17_1).f0.f8, (rd_T54 x6_2 x17_1).f0.f9, (rd_T54 x6_2 x17_1).f0.f10, (rd_T54 x6_2 x17_1).f0.f11, (rd_T54 x6_2 x17_1).f0.f12, (rd_T54 x6_2 x17_1).f0.f13] x20_2))) ((rd_T54 x6_2 x17_1).f0.f4)), (pickA x20_2 5 (IntKind.i8.wrap (-(rd [(rd_T54 x6_2 x17_1).f0.f0, (rd_T54 x6_2 x17_1).f0.f1, (rd_T54 x6_2 x17_1).f0.f2, (rd_T54 x6_2 x17_1).f0.f3, (rd_T54 x6_2 x17_1).f0.f4, (rd_T54 x6_2 x17_1).f0.f5, (rd_T54 x6_2 x17_1).f0.f6, (rd_T54 x6_2 x17_1).f0.f7, (rd_T54 x6_2 x17_1).f0.f8, (rd_T54 x6_2 x17_1).f0.f9, (rd_T54 x6_2 x17_1).f0.f10, (rd_T54 x6_2 x17_1).f0.f11, (rd_T54 x6_2 x17_1).f0.f12, (rd_T54 x6_2 x17_1).f0.f13] x20_2))) ((rd_T54 x6_2 x17_1).f0.f5)), (pickA x20_2 6 (IntKind.i8.wrap (-(rd [(rd_T54 x6_2 x17_1).f0.f0, (rd_T54 x6_2 x17_1).f0.f1, (rd_T54 x6_2 x17_1).f0.f2, (rd_T54 x6_2 x17_1).f0.f3, (rd_T54 x6_2 x17_1).f0.f4, (rd_T54 x6_2 x17_1).f0.f5, (rd_T54 x6_2 x17_1).f0.f6, (rd_T54 x6_2 x17_1).f0.f7, (rd_T54 x6_2 x17_1).f0.f8, (rd_T54 x6_2 x17_1).f0.f9, (rd_T54 x6_2 x17_1).f0.f10, (rd_T54 x6_2 x17_1).f0.f11, (rd_T54 x6_2 x17_1).f0.f12, (rd_T54 x6_2 x17_1).f0.f13] x20_2))) ((rd_T54 x6_2 x17_1).f0.f6)), (pickA x20_2 7 (IntKind.i8.wrap (-(rd [(rd_T54 x6_2 x17_1).f0.f0, (rd_T54 x6_2 x17_1).f0.f1, (rd_T54 x6_2 x17_1).f0.f2, (rd_T54 x6_2 x17_1).f0.f3, (rd_T54 x6_2 x17_1).f0.f4, (rd_T54 x6_2 x17_1).f0.f5, (rd_T54 x6_2 x17_1).f0.f6, (rd_T54 x6_2 x17_1).f0.f7, (rd_T54 x6_2 x17_1).f0.f8, (rd_T54 x6_2 x17_1).f0.f9, (rd_T54 x6_2 x17_1).f0.f10, (rd_T54 x6_2 x17_1).f0.f11, (rd_T54 x6_2 x17_1).f0.f12, (rd_T54 x6_2 x17_1).f0.f13] x20_2))) ((rd_T54 x6_2 x17_1).f0.f7)), (pickA x20_2 8 (IntKind.i8.wrap (-(rd [(rd_T54 x6_2 x17_1).f0.f0, (rd_T54 x6_2 x17_1).f0.f1, (rd_T54 x6_2 x17_1).f0.f2, (rd_T54 x6_2 x17_1).f0.f3, (rd_T54 x6_2 x17_1).f0.f4, (rd_T54 x6_2 x17_1).f0.f5, (rd_T54 x6_2 x17_1).f0.f6, (rd_T54 x6_2 x17_1).f0.f7, (rd_T54 x6_2 x17_1).f0.f8, (rd_T54 x6_2 x17_1).f0.f9, (rd_T54 x6_2 x17_1).f0.f10, (rd_T54 x6_2 x17_1).f0.f11, (rd_T54 x6_2 x17_1).f0.f12, (rd_T54 x6_2 x17_1).f0.f13] x20_2))) ((rd_T54 x6_2 x17_1).f0.f8)), (pickA x20_2 9 (IntKind.i8.wrap (-(rd [(rd_T54 x6_2 x17_1).f0.f0, (rd_T54 x6_2 x17_1).f0.f1, (rd_T54 x6_2 x17_1).f0.f2, (rd_T54 x6_2 x17_1).f0.f3, (rd_T54 x6_2 x17_1).f0.f4, (rd_T54 x6_2 x17_1).f0.f5, (rd_T54 x6_2 x17_1).f0.f6, (rd_T54 x6_2 x17_1).f0.f7, (rd_T54 x6_2 x17_1).f0.f8, (rd_T54 x6_2 x17_1).f0.f9, (rd_T54 x6_2 x17_1).f0.f10, (rd_T54 x6_2 x17_1).f0.f11, (rd_T54 x6_2 x17_1).f0.f12, (rd_T54 x6_2 x17_1).f0.f13] x20_2))) ((rd_T54 x6_2 x17_1).f0.f9)), (pickA x20_2 10 (IntKind.i8.wrap (-(rd [(rd_T54 x6_2 x17_1).f0.f0, (rd_T54 x6_2 x17_1).f0.f1, (rd_T54 x6_2 x17_1).f0.f2, (rd_T54 x6_2 x17_1).f0.f3, (rd_T54 x6_2 x17_1).f0.f4, (rd_T54 x6_2 x17_1).f0.f5, (rd_T54 x6_2 x17_1).f0.f6, (rd_T54 x6_2 x17_1).f0.f7, (rd_T54 x6_2 x17_1).f0.f8, (rd_T54 x6_2 x17_1).f0.f9, (rd_T54 x6_2 x17_1).f0.f10, (rd_T54 x6_2 x17_1).f0.f11, (rd_T54 x6_2 x17_1).f0.f12, (rd_T54 x6_2 x17_1).f0.f13] x20_2))) ((rd_T54 x6_2 x17_1).f0.f10)), (pickA x20_2 11 (IntKind.i8.wrap (-(rd [(rd_T54 x6_2 x17_1).f0.f0, (rd_T54 x6_2 x17_1).f0.f1, (rd_T54 x6_2 x17_1).f0.f2, (rd_T54 x6_2 x17_1).f0.f3, (rd_T54 x6_2 x17_1).f0.f4, (rd_T54 x6_2 x17_1).f0.f5, (rd_T54 x6_2 x17_1).f0.f6, (rd_T54 x6_2 x17_1).f0.f7, (rd_T54 x6_2 x17_1).f0.f8, (rd_T54 x6_2 x17_1).f0.f9, (rd_T54 x6_2 x17_1).f0.f10, (rd_T54 x6_2 x17_1).f0.f11, (rd_T54 x6_2 x17_1).f0.f12, (rd_T54 x6_2 x17_1).f0.f13] x20_2))) ((rd_T54 x6_2 x17_1).f0.f11)), (pickA x20_2 12 (IntKind.i8.wrap (-(rd [(rd_T54 x6_2 x17_1).f0.f0, (rd_T54 x6_2 x17_1).f0.f1, (rd_T54 x6_2 x17_1).f0.f2, (rd_T54 x6_2 x17_1).f0.f3, (rd_T54 x6_2 x17_1).f0.f4, (rd_T54 x6_2 x17_1).f0.f5, (rd_T54 x6_2 x17_1).f0.f6, (rd_T54 x6_2 x17_1).f0.f7, (rd_T54 x6_2 x17_1).f0.f8, (rd_T54 x6_2 x17_1).f0.f9, (rd_T54 x6_2 x17_1).f0.f10, (rd_T54 x6_2 x17_1).f0.f11, (rd_T54 x6_2 x17_1).f0.f12, (rd_T54 x6_2 x17_1).f0.f13] x20_2))) ((rd_T54 x6_2 x17_1).f0.f12)), (pickA x20_2 13 (IntKind.i8.wrap (-(rd [(rd_T54 x6_2 x17_1).f0.f0, (rd_T54 x6_2 x17_1).f0.f1, (rd_T54 x6_2 x17_1).f0.f2, (rd_T54 x6_2 x17_1).f0.f3, (rd_T54 x6_2 x17_1).f0.f4, (rd_T54 x6_2 x17_1).f0.f5, (rd_T54 x6_2 x17_1).f0.f6, (rd_T54 x6_2 x17_1).f0.f7, (rd_T54 x6_2 x17_1).f0.f8, (rd_T54 x6_2 x17_1).f0.f9, (rd_T54 x6_2 x17_1).f0.f10, (rd_T54 x6_2 x17_1).f0.f11, (rd_T54 x6_2 x17_1).f0.f12, (rd_T54 x6_2 x17_1).f0.f13] x20_2))) ((rd_T54 x6_2 x17_1).f0.f13))⟩ : S50), (⟨(rd_T54 x6_2 x17_1).f1.f0, (rd_T54 x6_2 x17_1).f1.f1, (rd_T54 x6_2 x17_1).f1.f2⟩ : S52), (⟨(rd_T54 x6_2 x17_1).f2.f0, (rd_T54 x6_2 x17_1).f2.f1⟩ : S46), (rd_T54 x6_2 x17_1).f3⟩ : S54)) (by rcases (show (x20_2 : Int) = 0 ∨ (x20_2 : Int) = 1 ∨ (x20_2 : Int) = 2 ∨ (x20_2 : Int) = 3 ∨ (x20_2 : Int) = 4 ∨ (x20_2 : Int) = 5 ∨ (x20_2 : Int) = 6 ∨ (x20_2 : Int) = 7 ∨ (x20_2 : Int) = 8 ∨ (x20_2 : Int) = 9 ∨ (x20_2 : Int) = 10 ∨ (x20_2 : Int) = 11 ∨ (x20_2 : Int) = 12 ∨ (x20_2 : Int) = 13 by have hp_ : 0 ≤ (x20_2 : Int) := of_decide_eq_true (by first | (with_reducible assumption) | assumption); have hq_ : x20_2 < (14 : Int) := of_decide_eq_true (by first | (with_reducible assumption) | assumption); omega) with h_ | h_ | h_ | h_ | h_ | h_ | h_ | h_ | h_ | h_ | h_ | h_ | h_ | h_ <;> rw [h_] <;> exact k54_mkM _ _ _ _) (fun _ hk => hk)).1
           rw [← Ny327.out] at HP22
           have HQ22 := zc.mk HP22
           clear hcl22 hcc22 hfr22 hM22 HP22
           refine start_ (n := 12) (S := fun w' => w'.cell? ⟨go20, ((x17_1).toNat * 20), none⟩ = some (.int .i8 ((rd_T54 x6_2 x17_1).f0.f0)) ∧ w'.cell? ⟨go20, ((x17_1).toNat * 20) + 1, none⟩ = some (.int .i8 ((rd_T54 x6_2 x17_1).f0.f1)) ∧ w'.cell? ⟨go20, ((x17_1).toNat * 20) + 2, none⟩ = some (.int .i8 ((rd_T54 x6_2 x17_1).f0.f2)) ∧ w'.cell? ⟨go20, ((x17_1).toNat * 20) + 3, none⟩ = some (.int .i8 ((rd_T54 x6_2 x17_1).f0.f3)) ∧ w'.cell? ⟨go20, ((x17_1).toNat * 20) + 4, none⟩ = some (.int .i8 ((rd_T54 x6_2 x17_1).f0.f4)) ∧ w'.cell? ⟨go20, ((x17_1).toNat * 20) + 5, none⟩ = some (.int .i8 ((rd_T54 x6_2 x17_1).f0.f5)) ∧ w'.cell? ⟨go20, ((x17_1).toNat * 20) + 6, none⟩ = some (.int .i8 ((rd_T54 x6_2 x17_1).f0.f6)) ∧ w'.cell? ⟨go20, ((x17_1).toNat * 20) + 7, none⟩ = some (.int .i8 ((rd_T54 x6_2 x17_1).f0.f7)) ∧ w'.cell? ⟨go20, ((x17_1).toNat * 20) + 8, none⟩ = some (.int .i8 ((rd_T54 x6_2 x17_1).f0.f8)) ∧ w'.cell? ⟨go20, ((x17_1).toNat * 20) + 9, none⟩ = some (.int .i8 ((rd_T54 x6_2 x17_1).f0.f9)) ∧ w'.cell? ⟨go20, ((x17_1).toNat * 20) + 10, none⟩ = some (.int .i8 ((rd_T54 x6_2 x17_1).f0.f10)) ∧ w'.cell? ⟨go20, ((x17_1).toNat * 20) + 11, none⟩ = some (.int .i8 ((rd_T54 x6_2 x17_1).f0.f11)) ∧ w'.cell? ⟨go20, ((x17_1).toNat * 20) + 12, none⟩ = some (.int .i8 ((rd_T54 x6_2 x17_1).f0.f12)) ∧ w'.cell? ⟨go20, ((x17_1).toNat * 20) + 13, none⟩ = some (.int .i8 ((rd_T54 x6_2 x17_1).f0.f13)) ∧ w'.cell? ⟨go20, ((x17_1).toNat * 20) + 14, none⟩ = some (.int .i16 ((rd_T54 x6_2 x17_1).f1.f0)) ∧ w'.cell? ⟨go20, ((x17_1).toNat * 20) + 15, none⟩ = some (.int .i16 ((rd_T54 x6_2 x17_1).f1.f1)) ∧ w'.cell? ⟨go20, ((x17_1).toNat * 20) + 16, none⟩ = some (.int .i16 ((rd_T54 x6_2 x17_1).f1.f2)) ∧ w'.cell? ⟨go20, ((x17_1).toNat * 20) + 17, none⟩ = some (.int .i8 ((rd_T54 x6_2 x17_1).f2.f0)) ∧ w'.cell? ⟨go20, ((x17_1).toNat * 20) + 18, none⟩ = some (.bool ((rd_T54 x6_2 x17_1).f2.f1)) ∧ w'.cell? ⟨go20, ((x17_1).toNat * 20) + 19, none⟩ = some (.bool ((rd_T54 x6_2 x17_1).f3)) ∧ w'.cell? ⟨go20, ((x17_1).toNat * 20) + (x20_2).toNat, none⟩ = some (.int .i8 (rd [(rd_T54 x6_2 x17_1).f0.f0, (rd_T54 x6_2 x17_1).f0.f1, (rd_T54 x6_2 x17_1).f0.f2, (rd_T54 x6_2 x17_1).f0.f3, (rd_T54 x6_2 x17_1).f0.f4, (rd_T54 x6_2 x17_1).f0.f5, (rd_T54 x6_2 x17_1).f0.f6, (rd_T54 x6_2 x17_1).f0.f7, (rd_T54 x6_2 x17_1).f0.f8, (rd_T54 x6_2 x17_1).f0.f9, (rd_T54 x6_2 x17_1).f0.f10, (rd_T54 x6_2 x17_1).f0.f11, (rd_T54 x6_2 x17_1).f0.f12, (rd_T54 x6_2 x17_1).f0.f13] x20_2))) (ds := [11]) (fm 12 0) (by kernel_rfl) rfl rfl ⟨hx324_0, hx324_1, hx324_2, hx324_3, hx324_4, hx324_5, hx324_6, hx324_7, hx324_8, hx324_9, hx324_10, hx324_11, hx324_12, hx324_13, hx324_14, hx324_15, hx324_16, hx324_17, hx324_18, hx324_19, hx18_0⟩ (fun hHeld => ?_); refine zma impl_MirrorPlan.tab10 impl_MirrorPlan.bits10 (fun HT_ HW_ => ?_)
           generalize wr.drew = w17 at HO_6 BK319 HB GG20 HQ22 hf16_0 hf16_1 hf16_10 hf16_11 hf16_12 hf16_13 hf16_14 hf16_15 hf16_16 hf16_17 hf16_18 hf16_19 hf16_2 hf16_3 hf16_4 hf16_5 hf16_6 hf16_7 hf16_8 hf16_9 hf21_0 hx16_0 hx16_1 hx16_10 hx16_11 hx16_12 hx16_13 hx16_14 hx16_15 hx16_16 hx16_17 hx16_18 hx16_19 hx16_2 hx16_3 hx16_4 hx16_5 hx16_6 hx16_7 hx16_8 hx16_9 hx18_0 hx21_0 hx324_0 hx324_1 hx324_10 hx324_11 hx324_12 hx324_13 hx324_14 hx324_15 hx324_16 hx324_17 hx324_18 hx324_19 hx324_2 hx324_3 hx324_4 hx324_5 hx324_6 hx324_7 hx324_8 hx324_9 hHeld ⊢
           refine pv 0 23 (fm 12 1) rfl rfl (zj HT_.out (by kernel_rfl)) (fun _ _ _ h => h) (Or.inl ⟨by rfl, by intro w'; go_simp; with_reducible rfl⟩) (by simp only [Act.put, ea, eb, ec, zm, zk]; rfl) ?_
           refine pv 1 24 (fm 12 2) rfl rfl (zj HT_.out (by kernel_rfl)) (fun _ _ _ h => h) (Or.inl ⟨by rfl, by intro w'; go_simp; with_reducible rfl⟩) (by simp only [Act.put, ea, eb, ec, zm, zk]; rfl) ?_
           refine pv 2 25 (fm 12 3) rfl rfl (zj HT_.out (by kernel_rfl)) (fun _ _ _ h => h) (Or.inl ⟨by rfl, by intro w'; go_simp; with_reducible rfl⟩) (by simp only [Act.put, ea, eb, ec, zm, zk]; rfl) ?_
           refine pv 3 26 (fm 12 4) rfl rfl (zj HT_.out (by kernel_rfl)) (fun _ _ _ h => h) (Or.inl ⟨by rfl, by intro w'; go_simp; with_reducible rfl⟩) (by simp only [Act.put, ea, eb, ec, zm, zk]; rfl) ?_
           refine pv 4 27 (fm 12 5) rfl rfl (zj HT_.out (by kernel_rfl)) (fun _ _ _ h => h) (Or.inl ⟨by rfl, by intro w'; go_simp; with_reducible rfl⟩) (by simp only [Act.put, ea, eb, ec, zm, zk]; rfl) ?_
           refine pv 5 28 (fm 12 6) rfl rfl (zj HT_.out (by kernel_rfl)) (fun _ _ _ h => h) (Or.inl ⟨by rfl, by intro w'; go_simp; with_reducible rfl⟩) (by simp only [Act.put, ea, eb, ec, zm, zk]; rfl) ?_
           refine pv 8 31 #[T, T, T, T, T, T, F, F, T, F, F, F] rfl rfl (zj HT_.out (by kernel_rfl)) (fun _ _ _ h => h) (Or.inl ⟨by rfl, by intro w'; go_simp; with_reducible rfl⟩) (by simp only [Act.put, ea, eb, ec, zm, zk]; rfl) ?_
           refine pv 9 32 #[T, T, T, T, T, T, F, F, T, T, F, F] rfl rfl (zj HT_.out (by kernel_rfl)) (fun _ _ _ h => h) (Or.inl ⟨by rfl, by intro w'; go_simp; with_reducible rfl⟩) (by simp only [Act.put, ea, eb, ec, zm, zk]; rfl) ?_
           refine take_ (i := 6) (N := some 29) (v := ?_) (a' := ?_) #[T, T, T, T, T, T, T, F, T, T, F, F] rfl rfl (zca HT_.out HW_.out (by kernel_rfl)) (fun _ _ _ h => h) (Or.inl ⟨by rfl, ?_⟩) hHeld ?_ ?_
           rotate_left
           ·rintro w' ⟨s0, s1, s2, s3, s4, s5, s6, s7, s8, s9, s10, s11, s12, s13, s14, s15, s16, s17, s18, s19, s20⟩
            go_simp
            with_reducible rfl
           rotate_left
           ·simp only [Act.put, List.setIfInBounds_toArray, List.set_cons_zero, List.set_cons_succ, zm, zk]
            rfl
           refine pv 7 30 (fm 12 10) rfl rfl (zj HT_.out (by kernel_rfl)) (fun _ _ _ h => h) (Or.inl ⟨by rfl, by intro w'; go_simp; with_reducible rfl⟩) (by simp only [Act.put, ea, eb, ec, zm, zk]; rfl) ?_
           refine pv 10 33 (fm 12 11) rfl rfl (zj HT_.out (by kernel_rfl)) (fun _ _ _ h => h) (Or.inl ⟨by rfl, by intro w'; go_simp; with_reducible rfl⟩) (by simp only [Act.put, ea, eb, ec, zm, zk]; rfl) ?_
           refine last_ (i := 11) (N := none) (fm 12 12) rfl rfl (one_of HT_.out (by kernel_rfl)) (by decide) (fun K hK => ?_)
           refine skip_ (w1 := ?_) (by rfl) rfl ?_ ?_
           rotate_left
           ·go_simp
            rfl
           refine hK.out _ _ ?_
           clear hK K
           refine done_ (done_of HT_.out (by kernel_rfl)) ?_
           try go_wp2
           (try simp only [← hl6_2])
           go_roundg k2
           case measure => have := HK1.out; have := HK2.out; omega
           case rel => exact ⟨(y327), (wrap64 (x20_2 + 1)), (by first | rfl | (simp; done) | (simp [*]; done)), H', ⟨by have := HK1.out; have := HK2.out; omega⟩, ⟨by (try simp only [hl6_1]); (try simp only [hl6_2]); (with_reducible repeat (first | apply Kd.R_alloc | apply Kd.R_drewN | apply Kd.R_drew)); exact HQ22.out⟩, ⟨by (try simp only [hl6_1]); (try simp only [hl6_2]); (with_reducible repeat (first | refine zf ?_ _ | refine zh ?_ | refine zg ?_ _)); refine zla ?_ (by have h_ := Kd.R_ne HO_6.out BK319.out (by decide); intro e_; exact h_ (by rw [e_]; rfl)) _; (with_reducible repeat (first | refine zf ?_ _ | refine zh ?_ | refine zg ?_ _)); exact BK319.out⟩, ⟨by repeat (first | (with_reducible first | exact HB.out | apply zd | apply za | apply zb | refine ze ?_ GB20.out | refine ze ?_ GE319.out) | exact HB.out)⟩⟩
          rw [if_neg c15] at H
          exact absurd H (by simp)
         rw [if_neg c14] at H
         exact absurd H (by simp)
        rw [if_neg c13] at H
        exact absurd H (by simp)
       rw [if_neg c12] at H
       have c12b0 : decide (x20_2 < 14) = false := decide_eq_false c12
       clear c12
       by_cases c23 : 0 ≤ x17_1
       ·rw [if_pos c23] at H
        have c23b0 : decide (0 ≤ x17_1) = true := decide_eq_true c23
        clear c23
        by_cases c24 : x17_1 < (x6_2.length : Int)
        ·rw [if_pos c24] at H
         have c24b0 : decide (x17_1 < (x6_2.length : Int)) = true := decide_eq_true c24
         clear c24
         obtain ⟨y330, hy330⟩ : ∃ y_ : List (S54), y_ = (x6_2.set (x17_1 : Int).toNat (⟨(⟨(rd_T54 x6_2 x17_1).f0.f0, (rd_T54 x6_2 x17_1).f0.f1, (rd_T54 x6_2 x17_1).f0.f2, (rd_T54 x6_2 x17_1).f0.f3, (rd_T54 x6_2 x17_1).f0.f4, (rd_T54 x6_2 x17_1).f0.f5, (rd_T54 x6_2 x17_1).f0.f6, (rd_T54 x6_2 x17_1).f0.f7, (rd_T54 x6_2 x17_1).f0.f8, (rd_T54 x6_2 x17_1).f0.f9, (rd_T54 x6_2 x17_1).f0.f10, (rd_T54 x6_2 x17_1).f0.f11, (rd_T54 x6_2 x17_1).f0.f12, (rd_T54 x6_2 x17_1).f0.f13⟩ : S50), (⟨(rd_T54 x6_2 x17_1).f1.f2, (rd_T54 x6_2 x17_1).f1.f1, (rd_T54 x6_2 x17_1).f1.f2⟩ : S52), (⟨(rd_T54 x6_2 x17_1).f2.f0, (rd_T54 x6_2 x17_1).f2.f1⟩ : S46), (rd_T54 x6_2 x17_1).f3⟩ : S54)) := ⟨_, rfl⟩
         replace H : (impl_MirrorPlan.l0 k2 (y330.set (x17_1 : Int).toNat (⟨(⟨(rd_T54 y330 x17_1).f0.f0, (rd_T54 y330 x17_1).f0.f1, (rd_T54 y330 x17_1).f0.f2, (rd_T54 y330 x17_1).f0.f3, (rd_T54 y330 x17_1).f0.f4, (rd_T54 y330 x17_1).f0.f5, (rd_T54 y330 x17_1).f0.f6, (rd_T54 y330 x17_1).f0.f7, (rd_T54 y330 x17_1).f0.f8, (rd_T54 y330 x17_1).f0.f9, (rd_T54 y330 x17_1).f0.f10, (rd_T54 y330 x17_1).f0.f11, (rd_T54 y330 x17_1).f0.f12, (rd_T54 y330 x17_1).f0.f13⟩ : S50), (⟨(rd_T54 y330 x17_1).f1.f0, (rd_T54 y330 x17_1).f1.f1, (rd_T54 x6_2 x17_1).f1.f0⟩ : S52), (⟨(rd_T54 y330 x17_1).f2.f0, (rd_T54 y330 x17_1).f2.f1⟩ : S46), (rd_T54 y330 x17_1).f3⟩ : S54)) (t321.length : Int) (wrap64 (x17_1 + 1))) = some (r1, r2) := by first | (rw [hy330]; with_reducible exact H) | (have H2_ := (Option.bind_some _ _).symm.trans H; rw [hy330]; with_reducible exact H2_) | (have H2_ := (Option.bind_some _ _).symm.trans H; with_reducible exact H2_) | with_reducible exact H | (rw [hy330]; exact H) | exact H
         have Ny330 := zc.mk hy330
         clear hy330
         obtain ⟨y331, hy331⟩ : ∃ y_ : List (S54), y_ = (y330.set (x17_1 : Int).toNat (⟨(⟨(rd_T54 y330 x17_1).f0.f0, (rd_T54 y330 x17_1).f0.f1, (rd_T54 y330 x17_1).f0.f2, (rd_T54 y330 x17_1).f0.f3, (rd_T54 y330 x17_1).f0.f4, (rd_T54 y330 x17_1).f0.f5, (rd_T54 y330 x17_1).f0.f6, (rd_T54 y330 x17_1).f0.f7, (rd_T54 y330 x17_1).f0.f8, (rd_T54 y330 x17_1).f0.f9, (rd_T54 y330 x17_1).f0.f10, (rd_T54 y330 x17_1).f0.f11, (rd_T54 y330 x17_1).f0.f12, (rd_T54 y330 x17_1).f0.f13⟩ : S50), (⟨(rd_T54 y330 x17_1).f1.f0, (rd_T54 y330 x17_1).f1.f1, (rd_T54 x6_2 x17_1).f1.f0⟩ : S52), (⟨(rd_T54 y330 x17_1).f2.f0, (rd_T54 y330 x17_1).f2.f1⟩ : S46), (rd_T54 y330 x17_1).f3⟩ : S54)) := ⟨_, rfl⟩
         replace H : (impl_MirrorPlan.l0 k2 y331 (t321.length : Int) (wrap64 (x17_1 + 1))) = some (r1, r2) := by first | (rw [hy331]; with_reducible exact H) | (have H2_ := (Option.bind_some _ _).symm.trans H; rw [hy331]; with_reducible exact H2_) | (have H2_ := (Option.bind_some _ _).symm.trans H; with_reducible exact H2_) | with_reducible exact H | (rw [hy331]; exact H) | exact H
         have Ny331 := zc.mk hy331
         clear hy331
         have H' := zc.mk H
         clear H
         try go_wp2
         have n0_ := zc.mk (Kd.R_drew HO_6.out)
         have n1_ := zc.mk (zh BK319.out)
         have n2_ := zc.mk (zb HB.out)
         clear HO_6
         clear BK319
         clear HB
         have HO_6 := n0_
         have BK319 := n1_
         have HB := n2_
         clear n0_ n1_ n2_
         have p328 : 0 ≤ (x17_1 : Int) := of_decide_eq_true (by first | (with_reducible assumption) | assumption)
         have q328 : x17_1 < (x6_2.length : Int) := of_decide_eq_true (by first | (with_reducible assumption) | assumption)
         obtain ⟨ad328, e328, hx328_0, hx328_1, hx328_2, hx328_3, hx328_4, hx328_5, hx328_6, hx328_7, hx328_8, hx328_9, hx328_10, hx328_11, hx328_12, hx328_13, hx328_14, hx328_15, hx328_16, hx328_17, hx328_18, hx328_19⟩ := at_T54 (Kd.R_reads' HO_6.out).2.2 x17_1 p328 q328
         cases e328
         replace p328 := eq_true p328
         replace q328 := eq_true q328
         have p329 : 0 ≤ (x17_1 : Int) := of_decide_eq_true (by first | (with_reducible assumption) | assumption)
         have q329 : x17_1 < (x6_2.length : Int) := of_decide_eq_true (by first | (with_reducible assumption) | assumption)
         obtain ⟨ad329, e329, hx329_0, hx329_1, hx329_2, hx329_3, hx329_4, hx329_5, hx329_6, hx329_7, hx329_8, hx329_9, hx329_10, hx329_11, hx329_12, hx329_13, hx329_14, hx329_15, hx329_16, hx329_17, hx329_18, hx329_19⟩ := at_T54 (Kd.R_reads' HO_6.out).2.2 x17_1 p329 q329
         obtain rfl : ad328 = ad329 := (by injection e329)
         replace p329 := eq_true p329
         replace q329 := eq_true q329
         have p25 : 0 ≤ (x17_1 : Int) := of_decide_eq_true (by first | (with_reducible assumption) | assumption)
         have q25 : (x17_1 : Int) < ((x6_2.length : Int) : Int) := of_decide_eq_true (by first | (with_reducible assumption) | assumption)
         obtain ⟨go25, co25, eo25, gb25, gl25, cl25, HG25⟩ := Kd.R_form HO_6.out (by omega)
         (first | cases eo25 | (injection eo25 with ea_ en_ ec_; (first | subst ea_ | (injection ea_ with ea_; subst ea_)); subst ec_; clear en_))
         have GB25 := zc.mk gb25
         have GG25 := zc.mk HG25
         clear gb25 gl25 HG25
         (first | simp only [zq] at hx328_0 | skip)
         (first | simp only [zq] at hx328_1 | skip)
         (first | simp only [zq] at hx328_2 | skip)
         (first | simp only [zq] at hx328_3 | skip)
         (first | simp only [zq] at hx328_4 | skip)
         (first | simp only [zq] at hx328_5 | skip)
         (first | simp only [zq] at hx328_6 | skip)
         (first | simp only [zq] at hx328_7 | skip)
         (first | simp only [zq] at hx328_8 | skip)
         (first | simp only [zq] at hx328_9 | skip)
         (first | simp only [zq] at hx328_10 | skip)
         (first | simp only [zq] at hx328_11 | skip)
         (first | simp only [zq] at hx328_12 | skip)
         (first | simp only [zq] at hx328_13 | skip)
         (first | simp only [zq] at hx328_14 | skip)
         (first | simp only [zq] at hx328_15 | skip)
         (first | simp only [zq] at hx328_16 | skip)
         (first | simp only [zq] at hx328_17 | skip)
         (first | simp only [zq] at hx328_18 | skip)
         (first | simp only [zq] at hx328_19 | skip)
         (first | simp only [zq] at hx329_0 | skip)
         (first | simp only [zq] at hx329_1 | skip)
         (first | simp only [zq] at hx329_2 | skip)
         (first | simp only [zq] at hx329_3 | skip)
         (first | simp only [zq] at hx329_4 | skip)
         (first | simp only [zq] at hx329_5 | skip)
         (first | simp only [zq] at hx329_6 | skip)
         (first | simp only [zq] at hx329_7 | skip)
         (first | simp only [zq] at hx329_8 | skip)
         (first | simp only [zq] at hx329_9 | skip)
         (first | simp only [zq] at hx329_10 | skip)
         (first | simp only [zq] at hx329_11 | skip)
         (first | simp only [zq] at hx329_12 | skip)
         (first | simp only [zq] at hx329_13 | skip)
         (first | simp only [zq] at hx329_14 | skip)
         (first | simp only [zq] at hx329_15 | skip)
         (first | simp only [zq] at hx329_16 | skip)
         (first | simp only [zq] at hx329_17 | skip)
         (first | simp only [zq] at hx329_18 | skip)
         (first | simp only [zq] at hx329_19 | skip)
         obtain ⟨ce25, hcl25, hM25, hcc25, hfr25⟩ := Kd.R_elem HO_6.out z54 (x17_1 : Int) p25 q25
         obtain rfl := k54_openM hM25
         have hx25_0 : World.cell? _ ⟨go25, (x17_1 : Int).toNat * 20, none⟩ = some (.int .i8 ((rd_T54 x6_2 x17_1).f0.f0)) := hcc25 0 _ rfl
         have hx25_1 : World.cell? _ ⟨go25, (x17_1 : Int).toNat * 20 + 1, none⟩ = some (.int .i8 ((rd_T54 x6_2 x17_1).f0.f1)) := hcc25 1 _ rfl
         have hx25_2 : World.cell? _ ⟨go25, (x17_1 : Int).toNat * 20 + 2, none⟩ = some (.int .i8 ((rd_T54 x6_2 x17_1).f0.f2)) := hcc25 2 _ rfl
         have hx25_3 : World.cell? _ ⟨go25, (x17_1 : Int).toNat * 20 + 3, none⟩ = some (.int .i8 ((rd_T54 x6_2 x17_1).f0.f3)) := hcc25 3 _ rfl
         have hx25_4 : World.cell? _ ⟨go25, (x17_1 : Int).toNat * 20 + 4, none⟩ = some (.int .i8 ((rd_T54 x6_2 x17_1).f0.f4)) := hcc25 4 _ rfl
         have hx25_5 : World.cell? _ ⟨go25, (x17_1 : Int).toNat * 20 + 5, none⟩ = some (.int .i8 ((rd_T54 x6_2 x17_1).f0.f5)) := hcc25 5 _ rfl
         have hx25_6 : World.cell? _ ⟨go25, (x17_1 : Int).toNat * 20 + 6, none⟩ = some (.int .i8 ((rd_T54 x6_2 x17_1).f0.f6)) := hcc25 6 _ rfl
         have hx25_7 : World.cell? _ ⟨go25, (x17_1 : Int).toNat * 20 + 7, none⟩ = some (.int .i8 ((rd_T54 x6_2 x17_1).f0.f7)) := hcc25 7 _ rfl
         have hx25_8 : World.cell? _ ⟨go25, (x17_1 : Int).toNat * 20 + 8, none⟩ = some (.int .i8 ((rd_T54 x6_2 x17_1).f0.f8)) := hcc25 8 _ rfl
         have hx25_9 : World.cell? _ ⟨go25, (x17_1 : Int).toNat * 20 + 9, none⟩ = some (.int .i8 ((rd_T54 x6_2 x17_1).f0.f9)) := hcc25 9 _ rfl
         have hx25_10 : World.cell? _ ⟨go25, (x17_1 : Int).toNat * 20 + 10, none⟩ = some (.int .i8 ((rd_T54 x6_2 x17_1).f0.f10)) := hcc25 10 _ rfl
         have hx25_11 : World.cell? _ ⟨go25, (x17_1 : Int).toNat * 20 + 11, none⟩ = some (.int .i8 ((rd_T54 x6_2 x17_1).f0.f11)) := hcc25 11 _ rfl
         have hx25_12 : World.cell? _ ⟨go25, (x17_1 : Int).toNat * 20 + 12, none⟩ = some (.int .i8 ((rd_T54 x6_2 x17_1).f0.f12)) := hcc25 12 _ rfl
         have hx25_13 : World.cell? _ ⟨go25, (x17_1 : Int).toNat * 20 + 13, none⟩ = some (.int .i8 ((rd_T54 x6_2 x17_1).f0.f13)) := hcc25 13 _ rfl
         have hx25_14 : World.cell? _ ⟨go25, (x17_1 : Int).toNat * 20 + 14, none⟩ = some (.int .i16 ((rd_T54 x6_2 x17_1).f1.f0)) := hcc25 14 _ rfl
         have hx25_15 : World.cell? _ ⟨go25, (x17_1 : Int).toNat * 20 + 15, none⟩ = some (.int .i16 ((rd_T54 x6_2 x17_1).f1.f1)) := hcc25 15 _ rfl
         have hx25_16 : World.cell? _ ⟨go25, (x17_1 : Int).toNat * 20 + 16, none⟩ = some (.int .i16 ((rd_T54 x6_2 x17_1).f1.f2)) := hcc25 16 _ rfl
         have hx25_17 : World.cell? _ ⟨go25, (x17_1 : Int).toNat * 20 + 17, none⟩ = some (.int .i8 ((rd_T54 x6_2 x17_1).f2.f0)) := hcc25 17 _ rfl
         have hx25_18 : World.cell? _ ⟨go25, (x17_1 : Int).toNat * 20 + 18, none⟩ = some (.bool ((rd_T54 x6_2 x17_1).f2.f1)) := hcc25 18 _ rfl
         have hx25_19 : World.cell? _ ⟨go25, (x17_1 : Int).toNat * 20 + 19, none⟩ = some (.bool ((rd_T54 x6_2 x17_1).f3)) := hcc25 19 _ rfl
         have hf25_0 : World.frozen? _ ⟨go25, (x17_1 : Int).toNat * 20, none⟩ = false := hfr25 0
         have hf25_1 : World.frozen? _ ⟨go25, (x17_1 : Int).toNat * 20 + 1, none⟩ = false := hfr25 1
         have hf25_2 : World.frozen? _ ⟨go25, (x17_1 : Int).toNat * 20 + 2, none⟩ = false := hfr25 2
         have hf25_3 : World.frozen? _ ⟨go25, (x17_1 : Int).toNat * 20 + 3, none⟩ = false := hfr25 3
         have hf25_4 : World.frozen? _ ⟨go25, (x17_1 : Int).toNat * 20 + 4, none⟩ = false := hfr25 4
         have hf25_5 : World.frozen? _ ⟨go25, (x17_1 : Int).toNat * 20 + 5, none⟩ = false := hfr25 5
         have hf25_6 : World.frozen? _ ⟨go25, (x17_1 : Int).toNat * 20 + 6, none⟩ = false := hfr25 6
         have hf25_7 : World.frozen? _ ⟨go25, (x17_1 : Int).toNat * 20 + 7, none⟩ = false := hfr25 7
         have hf25_8 : World.frozen? _ ⟨go25, (x17_1 : Int).toNat * 20 + 8, none⟩ = false := hfr25 8
         have hf25_9 : World.frozen? _ ⟨go25, (x17_1 : Int).toNat * 20 + 9, none⟩ = false := hfr25 9
         have hf25_10 : World.frozen? _ ⟨go25, (x17_1 : Int).toNat * 20 + 10, none⟩ = false := hfr25 10
         have hf25_11 : World.frozen? _ ⟨go25, (x17_1 : Int).toNat * 20 + 11, none⟩ = false := hfr25 11
         have hf25_12 : World.frozen? _ ⟨go25, (x17_1 : Int).toNat * 20 + 12, none⟩ = false := hfr25 12
         have hf25_13 : World.frozen? _ ⟨go25, (x17_1 : Int).toNat * 20 + 13, none⟩ = false := hfr25 13
         have hf25_14 : World.frozen? _ ⟨go25, (x17_1 : Int).toNat * 20 + 14, none⟩ = false := hfr25 14
         have hf25_15 : World.frozen? _ ⟨go25, (x17_1 : Int).toNat * 20 + 15, none⟩ = false := hfr25 15
         have hf25_16 : World.frozen? _ ⟨go25, (x17_1 : Int).toNat * 20 + 16, none⟩ = false := hfr25 16
         have hf25_17 : World.frozen? _ ⟨go25, (x17_1 : Int).toNat * 20 + 17, none⟩ = false := hfr25 17
         have hf25_18 : World.frozen? _ ⟨go25, (x17_1 : Int).toNat * 20 + 18, none⟩ = false := hfr25 18
         have hf25_19 : World.frozen? _ ⟨go25, (x17_1 : Int).toNat * 20 + 19, none⟩ = false := hfr25 19
         clear hcl25 hcc25 hfr25 hM25
         replace p25 := eq_true p25
         replace q25 := eq_true q25
         obtain ⟨ce28, hcl28, hM28, hcc28, hfr28⟩ := Kd.R_elem HO_6.out z54 (x17_1 : Int) (of_decide_eq_true (by first | (with_reducible assumption) | assumption)) (by have h_ : (x17_1 : Int) < ((x6_2.length : Int) : Int) := of_decide_eq_true (by first | (with_reducible assumption) | assumption); first | exact h_ | (have e_ := (Kd.R_reads' HO_6.out).1; omega) | simpa using h_)
         obtain rfl := k54_openM hM28
         have HP28 := (Kd.R_seg HO_6.out (x17_1 : Int) (of_decide_eq_true (by first | (with_reducible assumption) | assumption)) (by have h_ : (x17_1 : Int) < ((x6_2.length : Int) : Int) := of_decide_eq_true (by first | (with_reducible assumption) | assumption); first | exact h_ | (have e_ := (Kd.R_reads' HO_6.out).1; omega) | simpa using h_) (seg := [.int .i16 ((rd_T54 x6_2 x17_1).f1.f2)]) (j := 14) hcl28 hcc28 (show 15 ≤ 20 from by decide) (x' := (⟨(⟨(rd_T54 x6_2 x17_1).f0.f0, (rd_T54 x6_2 x17_1).f0.f1, (rd_T54 x6_2 x17_1).f0.f2, (rd_T54 x6_2 x17_1).f0.f3, (rd_T54 x6_2 x17_1).f0.f4, (rd_T54 x6_2 x17_1).f0.f5, (rd_T54 x6_2 x17_1).f0.f6, (rd_T54 x6_2 x17_1).f0.f7, (rd_T54 x6_2 x17_1).f0.f8, (rd_T54 x6_2 x17_1).f0.f9, (rd_T54 x6_2 x17_1).f0.f10, (rd_T54 x6_2 x17_1).f0.f11, (rd_T54 x6_2 x17_1).f0.f12, (rd_T54 x6_2 x17_1).f0.f13⟩ : S50), (⟨(rd_T54 x6_2 x17_1).f1.f2, (rd_T54 x6_2 x17_1).f1.f1, (rd_T54 x6_2 x17_1).f1.f2⟩ : S52), (⟨(rd_T54 x6_2 x17_1).f2.f0, (rd_T54 x6_2 x17_1).f2.f1⟩ : S46), (rd_T54 x6_2 x17_1).f3⟩ : S54)) (k54_mkM _ _ _ (⟨(⟨(rd_T54 x6_2 x17_1).f0.f0, (rd_T54 x6_2 x17_1).f0.f1, (rd_T54 x6_2 x17_1).f0.f2, (rd_T54 x6_2 x17_1).f0.f3, (rd_T54 x6_2 x17_1).f0.f4, (rd_T54 x6_2 x17_1).f0.f5, (rd_T54 x6_2 x17_1).f0.f6, (rd_T54 x6_2 x17_1).f0.f7, (rd_T54 x6_2 x17_1).f0.f8, (rd_T54 x6_2 x17_1).f0.f9, (rd_T54 x6_2 x17_1).f0.f10, (rd_T54 x6_2 x17_1).f0.f11, (rd_T54 x6_2 x17_1).f0.f12, (rd_T54 x6_2 x17_1).f0.f13⟩ : S50), (⟨(rd_T54 x6_2 x17_1).f1.f2, (rd_T54 x6_2 x17_1).f1.f1, (rd_T54 x6_2 x17_1).f1.f2⟩ : S52), (⟨(rd_T54 x6_2 x17_1).f2.f0, (rd_T54 x6_2 x17_1).f2.f1⟩ : S46), (rd_T54 x6_2 x17_1).f3⟩ : S54) ) (fun _ hk => hk)).1
         rw [← Ny330.out] at HP28
         have HQ28 := zc.mk HP28
         clear hcl28 hcc28 hfr28 hM28 HP28
         have p26 : 0 ≤ (x17_1 : Int) := of_decide_eq_true (by first | (with_reducible assumption) | assumption)
         have q26 : (x17_1 : Int) < ((x6_2.length : Int) : Int) := of_decide_eq_true (by first | (with_reducible assumption) | assumption)
         replace p26 := eq_true p26
         replace q26 := eq_true q26
         obtain ⟨ce29, hcl29, hM29, hcc29, hfr29⟩ := Kd.R_elem HQ28.out z54 (x17_1 : Int) (of_decide_eq_true (by first | (with_reducible assumption) | assumption)) (by have h_ : (x17_1 : Int) < ((x6_2.length : Int) : Int) := of_decide_eq_true (by first | (with_reducible assumption) | assumption); first | exact h_ | (have e_ := (Kd.R_reads' HO_6.out).1; omega) | simpa using h_)
         obtain rfl := k54_openM hM29
         have HP29 := (Kd.R_seg HQ28.out (x17_1 : Int) (of_decide_eq_true (by first | (with_reducible assumption) | assumption)) (by have h_ : (x17_1 : Int) < ((x6_2.length : Int) : Int) := of_decide_eq_true (by first | (with_reducible assumption) | assumption); first | exact h_ | (have e_ := (Kd.R_reads' HO_6.out).1; omega) | simpa using h_) (seg := [.int .i16 ((rd_T54 x6_2 x17_1).f1.f0)]) (j := 16) hcl29 hcc29 (show 17 ≤ 20 from by decide) (x' := (⟨(⟨(rd_T54 y330 x17_1).f0.f0, (rd_T54 y330 x17_1).f0.f1, (rd_T54 y330 x17_1).f0.f2, (rd_T54 y330 x17_1).f0.f3, (rd_T54 y330 x17_1).f0.f4, (rd_T54 y330 x17_1).f0.f5, (rd_T54 y330 x17_1).f0.f6, (rd_T54 y330 x17_1).f0.f7, (rd_T54 y330 x17_1).f0.f8, (rd_T54 y330 x17_1).f0.f9, (rd_T54 y330 x17_1).f0.f10, (rd_T54 y330 x17_1).f0.f11, (rd_T54 y330 x17_1).f0.f12, (rd_T54 y330 x17_1).f0.f13⟩ : S50), (⟨(rd_T54 y330 x17_1).f1.f0, (rd_T54 y330 x17_1).f1.f1, (rd_T54 x6_2 x17_1).f1.f0⟩ : S52), (⟨(rd_T54 y330 x17_1).f2.f0, (rd_T54 y330 x17_1).f2.f1⟩ : S46), (rd_T54 y330 x17_1).f3⟩ : S54)) (k54_mkM _ _ _ (⟨(⟨(rd_T54 y330 x17_1).f0.f0, (rd_T54 y330 x17_1).f0.f1, (rd_T54 y330 x17_1).f0.f2, (rd_T54 y330 x17_1).f0.f3, (rd_T54 y330 x17_1).f0.f4, (rd_T54 y330 x17_1).f0.f5, (rd_T54 y330 x17_1).f0.f6, (rd_T54 y330 x17_1).f0.f7, (rd_T54 y330 x17_1).f0.f8, (rd_T54 y330 x17_1).f0.f9, (rd_T54 y330 x17_1).f0.f10, (rd_T54 y330 x17_1).f0.f11, (rd_T54 y330 x17_1).f0.f12, (rd_T54 y330 x17_1).f0.f13⟩ : S50), (⟨(rd_T54 y330 x17_1).f1.f0, (rd_T54 y330 x17_1).f1.f1, (rd_T54 x6_2 x17_1).f1.f0⟩ : S52), (⟨(rd_T54 y330 x17_1).f2.f0, (rd_T54 y330 x17_1).f2.f1⟩ : S46), (rd_T54 y330 x17_1).f3⟩ : S54) ) (fun _ hk => hk)).1
         rw [← Ny331.out] at HP29
         have HQ29 := zc.mk HP29
         clear hcl29 hcc29 hfr29 hM29 HP29
         refine start_ (n := 24) (S := fun w' => w'.cell? ⟨go25, ((x17_1).toNat * 20), none⟩ = some (.int .i8 ((rd_T54 x6_2 x17_1).f0.f0)) ∧ w'.cell? ⟨go25, ((x17_1).toNat * 20) + 1, none⟩ = some (.int .i8 ((rd_T54 x6_2 x17_1).f0.f1)) ∧ w'.cell? ⟨go25, ((x17_1).toNat * 20) + 2, none⟩ = some (.int .i8 ((rd_T54 x6_2 x17_1).f0.f2)) ∧ w'.cell? ⟨go25, ((x17_1).toNat * 20) + 3, none⟩ = some (.int .i8 ((rd_T54 x6_2 x17_1).f0.f3)) ∧ w'.cell? ⟨go25, ((x17_1).toNat * 20) + 4, none⟩ = some (.int .i8 ((rd_T54 x6_2 x17_1).f0.f4)) ∧ w'.cell? ⟨go25, ((x17_1).toNat * 20) + 5, none⟩ = some (.int .i8 ((rd_T54 x6_2 x17_1).f0.f5)) ∧ w'.cell? ⟨go25, ((x17_1).toNat * 20) + 6, none⟩ = some (.int .i8 ((rd_T54 x6_2 x17_1).f0.f6)) ∧ w'.cell? ⟨go25, ((x17_1).toNat * 20) + 7, none⟩ = some (.int .i8 ((rd_T54 x6_2 x17_1).f0.f7)) ∧ w'.cell? ⟨go25, ((x17_1).toNat * 20) + 8, none⟩ = some (.int .i8 ((rd_T54 x6_2 x17_1).f0.f8)) ∧ w'.cell? ⟨go25, ((x17_1).toNat * 20) + 9, none⟩ = some (.int .i8 ((rd_T54 x6_2 x17_1).f0.f9)) ∧ w'.cell? ⟨go25, ((x17_1).toNat * 20) + 10, none⟩ = some (.int .i8 ((rd_T54 x6_2 x17_1).f0.f10)) ∧ w'.cell? ⟨go25, ((x17_1).toNat * 20) + 11, none⟩ = some (.int .i8 ((rd_T54 x6_2 x17_1).f0.f11)) ∧ w'.cell? ⟨go25, ((x17_1).toNat * 20) + 12, none⟩ = some (.int .i8 ((rd_T54 x6_2 x17_1).f0.f12)) ∧ w'.cell? ⟨go25, ((x17_1).toNat * 20) + 13, none⟩ = some (.int .i8 ((rd_T54 x6_2 x17_1).f0.f13)) ∧ w'.cell? ⟨go25, ((x17_1).toNat * 20) + 14, none⟩ = some (.int .i16 ((rd_T54 x6_2 x17_1).f1.f0)) ∧ w'.cell? ⟨go25, ((x17_1).toNat * 20) + 15, none⟩ = some (.int .i16 ((rd_T54 x6_2 x17_1).f1.f1)) ∧ w'.cell? ⟨go25, ((x17_1).toNat * 20) + 16, none⟩ = some (.int .i16 ((rd_T54 x6_2 x17_1).f1.f2)) ∧ w'.cell? ⟨go25, ((x17_1).toNat * 20) + 17, none⟩ = some (.int .i8 ((rd_T54 x6_2 x17_1).f2.f0)) ∧ w'.cell? ⟨go25, ((x17_1).toNat * 20) + 18, none⟩ = some (.bool ((rd_T54 x6_2 x17_1).f2.f1)) ∧ w'.cell? ⟨go25, ((x17_1).toNat * 20) + 19, none⟩ = some (.bool ((rd_T54 x6_2 x17_1).f3)) ∧ w'.cell? ⟨go25, ((x17_1).toNat * 20), none⟩ = some (.int .i8 ((rd_T54 x6_2 x17_1).f0.f0)) ∧ w'.cell? ⟨go25, ((x17_1).toNat * 20) + 1, none⟩ = some (.int .i8 ((rd_T54 x6_2 x17_1).f0.f1)) ∧ w'.cell? ⟨go25, ((x17_1).toNat * 20) + 2, none⟩ = some (.int .i8 ((rd_T54 x6_2 x17_1).f0.f2)) ∧ w'.cell? ⟨go25, ((x17_1).toNat * 20) + 3, none⟩ = some (.int .i8 ((rd_T54 x6_2 x17_1).f0.f3)) ∧ w'.cell? ⟨go25, ((x17_1).toNat * 20) + 4, none⟩ = some (.int .i8 ((rd_T54 x6_2 x17_1).f0.f4)) ∧ w'.cell? ⟨go25, ((x17_1).toNat * 20) + 5, none⟩ = some (.int .i8 ((rd_T54 x6_2 x17_1).f0.f5)) ∧ w'.cell? ⟨go25, ((x17_1).toNat * 20) + 6, none⟩ = some (.int .i8 ((rd_T54 x6_2 x17_1).f0.f6)) ∧ w'.cell? ⟨go25, ((x17_1).toNat * 20) + 7, none⟩ = some (.int .i8 ((rd_T54 x6_2 x17_1).f0.f7)) ∧ w'.cell? ⟨go25, ((x17_1).toNat * 20) + 8, none⟩ = some (.int .i8 ((rd_T54 x6_2 x17_1).f0.f8)) ∧ w'.cell? ⟨go25, ((x17_1).toNat * 20) + 9, none⟩ = some (.int .i8 ((rd_T54 x6_2 x17_1).f0.f9)) ∧ w'.cell? ⟨go25, ((x17_1).toNat * 20) + 10, none⟩ = some (.int .i8 ((rd_T54 x6_2 x17_1).f0.f10)) ∧ w'.cell? ⟨go25, ((x17_1).toNat * 20) + 11, none⟩ = some (.int .i8 ((rd_T54 x6_2 x17_1).f0.f11)) ∧ w'.cell? ⟨go25, ((x17_1).toNat * 20) + 12, none⟩ = some (.int .i8 ((rd_T54 x6_2 x17_1).f0.f12)) ∧ w'.cell? ⟨go25, ((x17_1).toNat * 20) + 13, none⟩ = some (.int .i8 ((rd_T54 x6_2 x17_1).f0.f13)) ∧ w'.cell? ⟨go25, ((x17_1).toNat * 20) + 14, none⟩ = some (.int .i16 ((rd_T54 x6_2 x17_1).f1.f0)) ∧ w'.cell? ⟨go25, ((x17_1).toNat * 20) + 15, none⟩ = some (.int .i16 ((rd_T54 x6_2 x17_1).f1.f1)) ∧ w'.cell? ⟨go25, ((x17_1).toNat * 20) + 16, none⟩ = some (.int .i16 ((rd_T54 x6_2 x17_1).f1.f2)) ∧ w'.cell? ⟨go25, ((x17_1).toNat * 20) + 17, none⟩ = some (.int .i8 ((rd_T54 x6_2 x17_1).f2.f0)) ∧ w'.cell? ⟨go25, ((x17_1).toNat * 20) + 18, none⟩ = some (.bool ((rd_T54 x6_2 x17_1).f2.f1)) ∧ w'.cell? ⟨go25, ((x17_1).toNat * 20) + 19, none⟩ = some (.bool ((rd_T54 x6_2 x17_1).f3))) (ds := [19, 23]) (fm 24 0) (by kernel_rfl) rfl rfl ⟨hx328_0, hx328_1, hx328_2, hx328_3, hx328_4, hx328_5, hx328_6, hx328_7, hx328_8, hx328_9, hx328_10, hx328_11, hx328_12, hx328_13, hx328_14, hx328_15, hx328_16, hx328_17, hx328_18, hx328_19, hx329_0, hx329_1, hx329_2, hx329_3, hx329_4, hx329_5, hx329_6, hx329_7, hx329_8, hx329_9, hx329_10, hx329_11, hx329_12, hx329_13, hx329_14, hx329_15, hx329_16, hx329_17, hx329_18, hx329_19⟩ (fun hHeld => ?_); refine zma impl_MirrorPlan.tab12 impl_MirrorPlan.bits12 (fun HT_ HW_ => ?_)
         generalize wr.drew = w27 at HO_6 BK319 HB GG25 HQ28 HQ29 hf25_0 hf25_1 hf25_10 hf25_11 hf25_12 hf25_13 hf25_14 hf25_15 hf25_16 hf25_17 hf25_18 hf25_19 hf25_2 hf25_3 hf25_4 hf25_5 hf25_6 hf25_7 hf25_8 hf25_9 hx25_0 hx25_1 hx25_10 hx25_11 hx25_12 hx25_13 hx25_14 hx25_15 hx25_16 hx25_17 hx25_18 hx25_19 hx25_2 hx25_3 hx25_4 hx25_5 hx25_6 hx25_7 hx25_8 hx25_9 hx328_0 hx328_1 hx328_10 hx328_11 hx328_12 hx328_13 hx328_14 hx328_15 hx328_16 hx328_17 hx328_18 hx328_19 hx328_2 hx328_3 hx328_4 hx328_5 hx328_6 hx328_7 hx328_8 hx328_9 hx329_0 hx329_1 hx329_10 hx329_11 hx329_12 hx329_13 hx329_14 hx329_15 hx329_16 hx329_17 hx329_18 hx329_19 hx329_2 hx329_3 hx329_4 hx329_5 hx329_6 hx329_7 hx329_8 hx329_9 hHeld ⊢
         refine pv 0 35 (fm 24 1) rfl rfl (zj HT_.out (by kernel_rfl)) (fun _ _ _ h => h) (Or.inl ⟨by rfl, by intro w'; go_simp; with_reducible rfl⟩) (by simp only [Act.put, ea, eb, ec, zm, zk]; rfl) ?_
         refine pv 1 36 (fm 24 2) rfl rfl (zj HT_.out (by kernel_rfl)) (fun _ _ _ h => h) (Or.inl ⟨by rfl, by intro w'; go_simp; with_reducible rfl⟩) (by simp only [Act.put, ea, eb, ec, zm, zk]; rfl) ?_
         refine pv 2 37 (fm 24 3) rfl rfl (zj HT_.out (by kernel_rfl)) (fun _ _ _ h => h) (Or.inl ⟨by rfl, by intro w'; go_simp; with_reducible rfl⟩) (by simp only [Act.put, ea, eb, ec, zm, zk]; rfl) ?_
         refine pv 3 38 (fm 24 4) rfl rfl (zj HT_.out (by kernel_rfl)) (fun _ _ _ h => h) (Or.inl ⟨by rfl, by intro w'; go_simp; with_reducible rfl⟩) (by simp only [Act.put, ea, eb, ec, zm, zk]; rfl) ?_
         refine pv 4 39 (fm 24 5) rfl rfl (zj HT_.out (by kernel_rfl)) (fun _ _ _ h => h) (Or.inl ⟨by rfl, by intro w'; go_simp; with_reducible rfl⟩) (by simp only [Act.put, ea, eb, ec, zm, zk]; rfl) ?_
         refine pv 5 40 (fm 24 6) rfl rfl (zj HT_.out (by kernel_rfl)) (fun _ _ _ h => h) (Or.inl ⟨by rfl, by intro w'; go_simp; with_reducible rfl⟩) (by simp only [Act.put, ea, eb, ec, zm, zk]; rfl) ?_
         refine pv 6 41 (fm 24 7) rfl rfl (zj HT_.out (by kernel_rfl)) (fun _ _ _ h => h) (Or.inl ⟨by rfl, by intro w'; go_simp; with_reducible rfl⟩) (by simp only [Act.put, ea, eb, ec, zm, zk]; rfl) ?_
         refine pv 7 42 (fm 24 8) rfl rfl (zj HT_.out (by kernel_rfl)) (fun _ _ _ h => h) (Or.inl ⟨by rfl, by intro w'; go_simp; with_reducible rfl⟩) (by simp only [Act.put, ea, eb, ec, zm, zk]; rfl) ?_
         refine pv 8 43 (fm 24 9) rfl rfl (zj HT_.out (by kernel_rfl)) (fun _ _ _ h => h) (Or.inl ⟨by rfl, by intro w'; go_simp; with_reducible rfl⟩) (by simp only [Act.put, ea, eb, ec, zm, zk]; rfl) ?_
         refine pv 10 45 #[T, T, T, T, T, T, T, T, T, F, T, F, F, F, F, F, F, F, F, F, F, F, F, F] rfl rfl (zj HT_.out (by kernel_rfl)) (fun _ _ _ h => h) (Or.inl ⟨by rfl, by intro w'; go_simp; with_reducible rfl⟩) (by simp only [Act.put, ea, eb, ec, zm, zk]; rfl) ?_
         refine pv 11 46 #[T, T, T, T, T, T, T, T, T, F, T, T, F, F, F, F, F, F, F, F, F, F, F, F] rfl rfl (zj HT_.out (by kernel_rfl)) (fun _ _ _ h => h) (Or.inl ⟨by rfl, by intro w'; go_simp; with_reducible rfl⟩) (by simp only [Act.put, ea, eb, ec, zm, zk]; rfl) ?_
         refine pv 12 47 #[T, T, T, T, T, T, T, T, T, F, T, T, T, F, F, F, F, F, F, F, F, F, F, F] rfl rfl (zj HT_.out (by kernel_rfl)) (fun _ _ _ h => h) (Or.inl ⟨by rfl, by intro w'; go_simp; with_reducible rfl⟩) (by simp only [Act.put, ea, eb, ec, zm, zk]; rfl) ?_
         refine pv 13 48 #[T, T, T, T, T, T, T, T, T, F, T, T, T, T, F, F, F, F, F, F, F, F, F, F] rfl rfl (zj HT_.out (by kernel_rfl)) (fun _ _ _ h => h) (Or.inl ⟨by rfl, by intro w'; go_simp; with_reducible rfl⟩) (by simp only [Act.put, ea, eb, ec, zm, zk]; rfl) ?_
         refine pv 14 49 #[T, T, T, T, T, T, T, T, T, F, T, T, T, T, T, F, F, F, F, F, F, F, F, F] rfl rfl (zj HT_.out (by kernel_rfl)) (fun _ _ _ h => h) (Or.inl ⟨by rfl, by intro w'; go_simp; with_reducible rfl⟩) (by simp only [Act.put, ea, eb, ec, zm, zk]; rfl) ?_
         refine pv 16 51 #[T, T, T, T, T, T, T, T, T, F, T, T, T, T, T, F, T, F, F, F, F, F, F, F] rfl rfl (zj HT_.out (by kernel_rfl)) (fun _ _ _ h => h) (Or.inl ⟨by rfl, by intro w'; go_simp; with_reducible rfl⟩) (by simp only [Act.put, ea, eb, ec, zm, zk]; rfl) ?_
         refine pv 17 52 #[T, T, T, T, T, T, T, T, T, F, T, T, T, T, T, F, T, T, F, F, F, F, F, F] rfl rfl (zj HT_.out (by kernel_rfl)) (fun _ _ _ h => h) (Or.inl ⟨by rfl, by intro w'; go_simp; with_reducible rfl⟩) (by simp only [Act.put, ea, eb, ec, zm, zk]; rfl) ?_
         refine pv 20 54 #[T, T, T, T, T, T, T, T, T, F, T, T, T, T, T, F, T, T, F, F, T, F, F, F] rfl rfl (zj HT_.out (by kernel_rfl)) (fun _ _ _ h => h) (Or.inl ⟨by rfl, by intro w'; go_simp; with_reducible rfl⟩) (by simp only [Act.put, ea, eb, ec, zm, zk]; rfl) ?_
         refine pv 21 55 #[T, T, T, T, T, T, T, T, T, F, T, T, T, T, T, F, T, T, F, F, T, T, F, F] rfl rfl (zj HT_.out (by kernel_rfl)) (fun _ _ _ h => h) (Or.inl ⟨by rfl, by intro w'; go_simp; with_reducible rfl⟩) (by simp only [Act.put, ea, eb, ec, zm, zk]; rfl) ?_
         refine take_ (i := 9) (N := some 44) (v := ?_) (a' := ?_) #[T, T, T, T, T, T, T, T, T, T, T, T, T, T, T, F, T, T, F, F, T, T, F, F] rfl rfl (zca HT_.out HW_.out (by kernel_rfl)) (fun _ _ _ h => h) (Or.inl ⟨by rfl, ?_⟩) hHeld ?_ ?_
         rotate_left
         ·rintro w' ⟨s0, s1, s2, s3, s4, s5, s6, s7, s8, s9, s10, s11, s12, s13, s14, s15, s16, s17, s18, s19, s20, s21, s22, s23, s24, s25, s26, s27, s28, s29, s30, s31, s32, s33, s34, s35, s36, s37, s38, s39⟩
          go_simp
          with_reducible rfl
         rotate_left
         ·simp only [Act.put, List.setIfInBounds_toArray, List.set_cons_zero, List.set_cons_succ, zm, zk]
          rfl
         refine take_ (i := 15) (N := some 50) (v := ?_) (a' := ?_) #[T, T, T, T, T, T, T, T, T, T, T, T, T, T, T, T, T, T, F, F, T, T, F, F] rfl rfl (zca HT_.out HW_.out (by kernel_rfl)) (fun _ _ _ h => h) (Or.inl ⟨by rfl, ?_⟩) hHeld ?_ ?_
         rotate_left
         ·rintro w' ⟨s0, s1, s2, s3, s4, s5, s6, s7, s8, s9, s10, s11, s12, s13, s14, s15, s16, s17, s18, s19, s20, s21, s22, s23, s24, s25, s26, s27, s28, s29, s30, s31, s32, s33, s34, s35, s36, s37, s38, s39⟩
          go_simp
          with_reducible rfl
         rotate_left
         ·simp only [Act.put, List.setIfInBounds_toArray, List.set_cons_zero, List.set_cons_succ, zm, zk]
          rfl
         refine pv 18 53 #[T, T, T, T, T, T, T, T, T, T, T, T, T, T, T, T, T, T, T, F, T, T, F, F] rfl rfl (zj HT_.out (by kernel_rfl)) (fun _ _ _ h => h) (Or.inl ⟨by rfl, by intro w'; go_simp; with_reducible rfl⟩) (by simp only [Act.put, ea, eb, ec, zm, zk]; rfl) ?_
         refine last_ (i := 19) (N := none) (fm 24 22) rfl rfl (one_of HT_.out (by kernel_rfl)) (by decide) (fun K hK => ?_)
         refine skip_ (w1 := ?_) (by rfl) rfl ?_ ?_
         rotate_left
         ·go_simp
          rfl
         refine hK.out _ _ ?_
         clear hK K
         refine pv 22 56 (fm 24 23) rfl rfl (zj HT_.out (by kernel_rfl)) (fun _ _ _ h => h) (Or.inl ⟨by rfl, by intro w'; go_simp; with_reducible rfl⟩) (by simp only [Act.put, ea, eb, ec, zm, zk]; rfl) ?_
         refine last_ (i := 23) (N := none) (fm 24 24) rfl rfl (one_of HT_.out (by kernel_rfl)) (by decide) (fun K hK => ?_)
         refine skip_ (w1 := ?_) (by rfl) rfl ?_ ?_
         rotate_left
         ·go_simp
          rfl
         refine hK.out _ _ ?_
         clear hK K
         refine done_ (done_of HT_.out (by kernel_rfl)) ?_
         try go_wp2
         (try simp only [← hl6_1, ← hl6_2])
         go_roundg k2
         case measure => have := HK1.out; have := HK2.out; omega
         case rel => exact ⟨(y331), (wrap64 (x17_1 + 1)), (by first | rfl | (simp; done) | (simp [*]; done)), H', ⟨by have := HK1.out; have := HK2.out; omega⟩, ⟨by (try simp only [hl6_1]); (try simp only [hl6_2]); (with_reducible repeat (first | apply Kd.R_alloc | apply Kd.R_drewN | apply Kd.R_drew)); exact HQ29.out⟩, ⟨by (try simp only [hl6_1]); (try simp only [hl6_2]); (with_reducible repeat (first | refine zf ?_ _ | refine zh ?_ | refine zg ?_ _)); refine zla ?_ (by have h_ := Kd.R_ne HO_6.out BK319.out (by decide); intro e_; exact h_ (by rw [e_]; rfl)) _; (with_reducible repeat (first | refine zf ?_ _ | refine zh ?_ | refine zg ?_ _)); refine zla ?_ (by have h_ := Kd.R_ne HO_6.out BK319.out (by decide); intro e_; exact h_ (by rw [e_]; rfl)) _; (with_reducible repeat (first | refine zf ?_ _ | refine zh ?_ | refine zg ?_ _)); exact BK319.out⟩, ⟨by repeat (first | (with_reducible first | exact HB.out | apply zd | apply za | apply zb | refine ze ?_ GB25.out | refine ze ?_ GB25.out | refine ze ?_ GE319.out) | exact HB.out)⟩⟩
        rw [if_neg c24] at H
        exact absurd H (by simp)
       rw [if_neg c23] at H
       exact absurd H (by simp)
    rw [if_neg c11] at H
    have c11b0 : decide (x17_1 < (t321.length : Int)) = false := decide_eq_false c11
    (try rw [hl6_1] at c11b0)
    clear c11
    simp only [Option.some.injEq, Prod.mk.injEq] at H
    obtain ⟨rfl, rfl⟩ := H
    go_wp2
    go_ret2
    exact ⟨_, by first | rfl | (simp [errW_none, errW_some] <;> rfl) | (simp [*, errW_none, errW_some] <;> rfl), by (with_reducible repeat (first | apply Kd.R_alloc | apply Kd.R_drewN | apply Kd.R_drew)); exact HO_6.out, by repeat (first | (with_reducible first | exact HB.out | apply zd | apply za | apply zb | refine ze ?_ GE319.out) | exact HB.out)⟩
 replace c4 := Bool.eq_false_iff.mpr c4
 subst c4
 have H1 : (some (([] : List (S54)), 1)) = some (r1, r2) := by rw [if_neg (show ¬ (false = true) by decide)] at H; exact H
 clear H
 have H := H1
 clear H1
 simp only [Option.some.injEq, Prod.mk.injEq] at H
 obtain ⟨rfl, rfl⟩ := H
 go_enter Try.func19, Try.ntmps19
 go_wp2_with (first | ((with_reducible refine zn (N := 2) rfl ?_); refine zo ?hg (N := 2) ?hd (cs := #[.int .i8 a0_0, .int .i8 a0_1, .bool a0_2, .bool a0_3]) (t := 29) ?hr ?_; (case hd => rfl); (case hg => rfl); (case hr => first | (go_simp; done) | (go_simp; rfl)); intro gb319 hg w30 hbox hb; obtain ⟨n0_, n2_⟩ := bx (by repeat (first | (with_reducible first | exact HB.out | apply zd | apply za | apply zb) | exact HB.out)) hb hg; have n1_ := zc.mk (hbox); have n3_ := n2_; clear HB; have HB := n0_; have BK319 := n1_; have GW319 := n2_; have GE319 := n3_; clear n0_ n1_ n2_ n3_; clear hb hbox hg; have hcz31_0 : w30.cell? ⟨gb319, 0, none⟩ = some (.int .i8 a0_0) := (zr BK319.out 0).trans rfl; have hcz31_1 : w30.cell? ⟨gb319, 1, none⟩ = some (.int .i8 a0_1) := (zr BK319.out 1).trans rfl; have hcz31_2 : w30.cell? ⟨gb319, 2, none⟩ = some (.bool a0_2) := (zr BK319.out 2).trans rfl; have hcz31_3 : w30.cell? ⟨gb319, 3, none⟩ = some (.bool a0_3) := (zr BK319.out 3).trans rfl; obtain ⟨hfz31_0, hfz31_1, hfz31_2, hfz31_3⟩ := fz4 BK319.out) | ((with_reducible refine zl (f := 28) rfl ?_); refine zw (some 11) rfl rfl Try.func28 (by kernel_rfl) rfl #[.agg #[.int .i8 a0_0, .int .i8 a0_1, .bool a0_2, .bool a0_3], .slice A1 l1.length c1] rfl (by (try simp only [List.map_toArray, List.map_cons, List.map_nil]); first | done | rfl | (simp only [List.length_drop, List.length_take]; rfl)) ?_; (with_reducible refine (impl_ValidPlan.calls k a0_0 a0_1 a0_2 a0_3 _ _ l1 false _ ?side1 ?side2 A3.out).mono ?_); (case side1 => repeat (first | exact (Kd.C_below HR1.out HB.out) | (with_reducible refine Kd.C_alloc ?_ _) | (with_reducible refine Kd.C_drewN ?_ _) | (with_reducible refine Kd.C_drew ?_))); (case side2 => exact HC1.out); rintro e w32 ⟨rfl, hb⟩; refine ⟨_, rfl, ?_⟩; have n0_ := zc.mk (zi (by (with_reducible repeat (first | refine zf ?_ _ | refine zh ?_ | refine zg ?_ _)); exact BK319.out) hb); have n1_ := zc.mk (zp (by repeat (first | (with_reducible first | exact HB.out | apply zd | apply za | apply zb | refine ze ?_ GE319.out) | exact HB.out)) hb); clear BK319; clear HB; have BK319 := n0_; have HB := n1_; clear n0_ n1_; (try clear hb); (try clear hb2); (try clear hk); (try clear hi)))
 go_ret2
 exact ⟨_, by first | rfl | (simp [errW_none, errW_some] <;> rfl) | (simp [*, errW_none, errW_some] <;> rfl), by first | exact Kd.R_nil _ _ _ _ _ | exact Kd.N_nil _ _ _ _ _ | exact Kd.V_nil _ _ _ _ _ | exact Kd.Q_nil _ _ _ _ _ | exact Kd.S_nil _ _ _ _ _, by repeat (first | (with_reducible first | exact HB.out | apply zd | apply za | apply zb | refine ze ?_ GE319.out) | exact HB.out)⟩

end Go.Proofs.Ytmmonhpjjjdnjaa.Y
