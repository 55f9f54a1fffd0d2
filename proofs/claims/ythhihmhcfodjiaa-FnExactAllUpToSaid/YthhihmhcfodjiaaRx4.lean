-- Written by wip/tools/myprint.py, a program of this session, by way of the kit's print.
import Derived.Test.YthhihmhcfodjiaaRx0
import Derived.Test.YthhihmhcfodjiaaRx1
import Derived.Test.YthhihmhcfodjiaaRx3
namespace Go.Proofs.Ythhihmhcfodjiaa.R
open Go.RowKit Go.Proofs.YthhihmhcfodjiaaW.PrintWords Go.Proofs.YthhihmhcfodjiaaW.PrintLast Go.Proofs.YthhihmhcfodjiaaW.PrintMore
attribute [local go_sem] max2_int min2_int max_two min_two max_three min_three max_four min_four   -- for this text's walks alone
set_option linter.unusedVariables false
set_option linter.unusedSimpArgs false

/-! ### spec_l01Fewest: function 53 -/
mutual
def spec_l01Fewest.l0 : Nat → List Int → Bool → Int → List (List Int) → Int → Option ((List (List Int)))
 | 0, _, _, _, _, _ => none
 | k + 1, x0, x1, x5, x6, x7 => if x7 ≤ (x0.length : Int) then (if 0 ≤ x5 then (if (x5 : Int).toNat ≤ 35184372088832 then (if 0 ≤ x7 then (if x7 < (x6.length : Int) then (spec_l01Fewest.l1 k x0 x1 x5 (x6.set (x7 : Int).toNat (List.replicate (x5 : Int).toNat 0)) x7 0) else (none)) else (none)) else (none)) else (none)) else (if 0 ≤ (x0.length : Int) then (if (x0.length : Int) < (x6.length : Int) then (if 2000 < ((rd_L2 x6 (x0.length : Int)).length : Int) then (spec_l01Fewest.l2 k x0 x1 x5 (x6.set ((x0.length : Int) : Int).toNat ((rd_L2 x6 (x0.length : Int)).set (2000 : Int).toNat 0)) (wrap64 ((x0.length : Int) - 1))) else (none)) else (none)) else (none))
def spec_l01Fewest.l1 : Nat → List Int → Bool → Int → List (List Int) → Int → Int → Option ((List (List Int)))
 | 0, _, _, _, _, _, _ => none
 | k + 1, x0, x1, x5, x6, x7, x8 => if x8 < x5 then (if 0 ≤ x7 then (if x7 < (x6.length : Int) then (if 0 ≤ x8 then (if x8 < ((rd_L2 x6 x7).length : Int) then (spec_l01Fewest.l1 k x0 x1 x5 (x6.set (x7 : Int).toNat ((rd_L2 x6 x7).set (x8 : Int).toNat (-1))) x7 (wrap64 (x8 + 1))) else (none)) else (none)) else (none)) else (none)) else (spec_l01Fewest.l0 k x0 x1 x5 x6 (wrap64 (x7 + 1)))
def spec_l01Fewest.l2 : Nat → List Int → Bool → Int → List (List Int) → Int → Option ((List (List Int)))
 | 0, _, _, _, _, _ => none
 | k + 1, x0, x1, x5, x6, x9 => if x9 ≥ 0 then (spec_l01Fewest.l3 k x0 x1 x5 x6 x9 0) else (some x6)
def spec_l01Fewest.l3 : Nat → List Int → Bool → Int → List (List Int) → Int → Int → Option ((List (List Int)))
 | 0, _, _, _, _, _, _ => none
 | k + 1, x0, x1, x5, x6, x9, x10 => if x10 < x5 then ((spec_l01Least.f x1).bind fun t131 => (spec_l01Fewest.l4 k x0 x1 x5 x6 x9 x10 t131)) else (spec_l01Fewest.l2 k x0 x1 x5 x6 (wrap64 (x9 - 1)))
def spec_l01Fewest.l4 : Nat → List Int → Bool → Int → List (List Int) → Int → Int → Int → Option ((List (List Int)))
 | 0, _, _, _, _, _, _, _ => none
 | k + 1, x0, x1, x5, x6, x9, x10, x11 => if x11 ≤ 1 then (if 0 ≤ x9 then (if x9 < (x0.length : Int) then ((spec_l00In.f (wrap64 (x10 - (wrap64 (x11 * (wrap64 (rd x0 x9)))))) 0 (wrap64 (x5 - 1))).bind fun t133 => (if t133 = true then (if 0 ≤ (wrap64 (x9 + 1)) then (if (wrap64 (x9 + 1)) < (x6.length : Int) then (if 0 ≤ (wrap64 (x10 - (wrap64 (x11 * (wrap64 (rd x0 x9)))))) then (if (wrap64 (x10 - (wrap64 (x11 * (wrap64 (rd x0 x9)))))) < ((rd_L2 x6 (wrap64 (x9 + 1))).length : Int) then (spec_l01Fewest.j5 k x0 x1 x5 x6 x9 x10 x11 (wrap64 (x10 - (wrap64 (x11 * (wrap64 (rd x0 x9)))))) (decide ((rd (rd_L2 x6 (wrap64 (x9 + 1))) (wrap64 (x10 - (wrap64 (x11 * (wrap64 (rd x0 x9))))))) < 0))) else (none)) else (none)) else (none)) else (none)) else (spec_l01Fewest.j5 k x0 x1 x5 x6 x9 x10 x11 (wrap64 (x10 - (wrap64 (x11 * (wrap64 (rd x0 x9)))))) true))) else (none)) else (none)) else (spec_l01Fewest.l3 k x0 x1 x5 x6 x9 (wrap64 (x10 + 1)))
def spec_l01Fewest.j5 : Nat → List Int → Bool → Int → List (List Int) → Int → Int → Int → Int → Bool → Option ((List (List Int)))
 | 0, _, _, _, _, _, _, _, _, _ => none
 | k + 1, x0, x1, x5, x6, x9, x10, x11, x12, x88 => if x88 = true then (spec_l01Fewest.l4 k x0 x1 x5 x6 x9 x10 (wrap64 (x11 + 1))) else (if 0 ≤ (wrap64 (x9 + 1)) then (if (wrap64 (x9 + 1)) < (x6.length : Int) then (if 0 ≤ x12 then (if x12 < ((rd_L2 x6 (wrap64 (x9 + 1))).length : Int) then (if 0 ≤ x9 then (if x9 < (x6.length : Int) then (if 0 ≤ x10 then (if x10 < ((rd_L2 x6 x9).length : Int) then (if (rd (rd_L2 x6 x9) x10) < 0 then (spec_l01Fewest.l4 k x0 x1 x5 (x6.set (x9 : Int).toNat ((rd_L2 x6 x9).set (x10 : Int).toNat (wrap64 ((rd (rd_L2 x6 (wrap64 (x9 + 1))) x12) + (wrap64 (x11 * x11)))))) x9 x10 (wrap64 (x11 + 1))) else (if (wrap64 ((rd (rd_L2 x6 (wrap64 (x9 + 1))) x12) + (wrap64 (x11 * x11)))) < (rd (rd_L2 x6 x9) x10) then (spec_l01Fewest.l4 k x0 x1 x5 (x6.set (x9 : Int).toNat ((rd_L2 x6 x9).set (x10 : Int).toNat (wrap64 ((rd (rd_L2 x6 (wrap64 (x9 + 1))) x12) + (wrap64 (x11 * x11)))))) x9 x10 (wrap64 (x11 + 1))) else (spec_l01Fewest.l4 k x0 x1 x5 x6 x9 x10 (wrap64 (x11 + 1))))) else (none)) else (none)) else (none)) else (none)) else (none)) else (none)) else (none)) else (none))
end
def spec_l01Fewest.f (k : Nat) (l0 : List Int) (a1 : Bool) : Option ((List (List Int))) := if 0 ≤ (wrap64 ((l0.length : Int) + 1)) then (if (wrap64 ((l0.length : Int) + 1) : Int).toNat ≤ 11728124029610 then (spec_l01Fewest.l0 k l0 a1 4001 (List.replicate (wrap64 ((l0.length : Int) + 1) : Int).toNat []) 0) else (none)) else (none)
theorem spec_l01Fewest.mono_l : ∀ k, (∀ y0 y1 y2 y3 y4, LeO (spec_l01Fewest.l0 k y0 y1 y2 y3 y4) (spec_l01Fewest.l0 (k + 1) y0 y1 y2 y3 y4)) ∧ (∀ y0 y1 y2 y3 y4 y5, LeO (spec_l01Fewest.l1 k y0 y1 y2 y3 y4 y5) (spec_l01Fewest.l1 (k + 1) y0 y1 y2 y3 y4 y5)) ∧ (∀ y0 y1 y2 y3 y4, LeO (spec_l01Fewest.l2 k y0 y1 y2 y3 y4) (spec_l01Fewest.l2 (k + 1) y0 y1 y2 y3 y4)) ∧ (∀ y0 y1 y2 y3 y4 y5, LeO (spec_l01Fewest.l3 k y0 y1 y2 y3 y4 y5) (spec_l01Fewest.l3 (k + 1) y0 y1 y2 y3 y4 y5)) ∧ (∀ y0 y1 y2 y3 y4 y5 y6, LeO (spec_l01Fewest.l4 k y0 y1 y2 y3 y4 y5 y6) (spec_l01Fewest.l4 (k + 1) y0 y1 y2 y3 y4 y5 y6)) ∧ (∀ y0 y1 y2 y3 y4 y5 y6 y7 y8, LeO (spec_l01Fewest.j5 k y0 y1 y2 y3 y4 y5 y6 y7 y8) (spec_l01Fewest.j5 (k + 1) y0 y1 y2 y3 y4 y5 y6 y7 y8))
 | 0 => ⟨fun _ _ _ _ _ r h => by simp [spec_l01Fewest.l0] at h, fun _ _ _ _ _ _ r h => by simp [spec_l01Fewest.l1] at h, fun _ _ _ _ _ r h => by simp [spec_l01Fewest.l2] at h, fun _ _ _ _ _ _ r h => by simp [spec_l01Fewest.l3] at h, fun _ _ _ _ _ _ _ r h => by simp [spec_l01Fewest.l4] at h, fun _ _ _ _ _ _ _ _ _ r h => by simp [spec_l01Fewest.j5] at h⟩
 | k + 1 => by
  obtain ⟨ih0, ih1, ih2, ih3, ih4, ih5⟩ := spec_l01Fewest.mono_l k
  refine ⟨?_, ?_, ?_, ?_, ?_, ?_⟩
  ·intro y0 y1 y2 y3 y4
   unfold spec_l01Fewest.l0
   repeat' first
   | (with_reducible exact ih0 _ _ _ _ _)
   | (with_reducible exact ih1 _ _ _ _ _ _)
   | (with_reducible exact ih2 _ _ _ _ _)
   | (with_reducible exact ih3 _ _ _ _ _ _)
   | (with_reducible exact ih4 _ _ _ _ _ _ _)
   | (with_reducible exact ih5 _ _ _ _ _ _ _ _ _)
   | (with_reducible exact LeO.refl _)
   | (with_reducible exact LeO.none _)
   | (with_reducible refine LeO.ite ?_ ?_)
   | (with_reducible refine LeO.bind ?_ (fun _ => ?_))
   | exact ih0 _ _ _ _ _
   | exact ih1 _ _ _ _ _ _
   | exact ih2 _ _ _ _ _
   | exact ih3 _ _ _ _ _ _
   | exact ih4 _ _ _ _ _ _ _
   | exact ih5 _ _ _ _ _ _ _ _ _
   | exact LeO.none _
   | refine LeO.ite ?_ ?_
   | refine LeO.bind ?_ (fun _ => ?_)
  ·intro y0 y1 y2 y3 y4 y5
   unfold spec_l01Fewest.l1
   repeat' first
   | (with_reducible exact ih0 _ _ _ _ _)
   | (with_reducible exact ih1 _ _ _ _ _ _)
   | (with_reducible exact ih2 _ _ _ _ _)
   | (with_reducible exact ih3 _ _ _ _ _ _)
   | (with_reducible exact ih4 _ _ _ _ _ _ _)
   | (with_reducible exact ih5 _ _ _ _ _ _ _ _ _)
   | (with_reducible exact LeO.refl _)
   | (with_reducible exact LeO.none _)
   | (with_reducible refine LeO.ite ?_ ?_)
   | (with_reducible refine LeO.bind ?_ (fun _ => ?_))
   | exact ih0 _ _ _ _ _
   | exact ih1 _ _ _ _ _ _
   | exact ih2 _ _ _ _ _
   | exact ih3 _ _ _ _ _ _
   | exact ih4 _ _ _ _ _ _ _
   | exact ih5 _ _ _ _ _ _ _ _ _
   | exact LeO.none _
   | refine LeO.ite ?_ ?_
   | refine LeO.bind ?_ (fun _ => ?_)
  ·intro y0 y1 y2 y3 y4
   unfold spec_l01Fewest.l2
   repeat' first
   | (with_reducible exact ih0 _ _ _ _ _)
   | (with_reducible exact ih1 _ _ _ _ _ _)
   | (with_reducible exact ih2 _ _ _ _ _)
   | (with_reducible exact ih3 _ _ _ _ _ _)
   | (with_reducible exact ih4 _ _ _ _ _ _ _)
   | (with_reducible exact ih5 _ _ _ _ _ _ _ _ _)
   | (with_reducible exact LeO.refl _)
   | (with_reducible exact LeO.none _)
   | (with_reducible refine LeO.ite ?_ ?_)
   | (with_reducible refine LeO.bind ?_ (fun _ => ?_))
   | exact ih0 _ _ _ _ _
   | exact ih1 _ _ _ _ _ _
   | exact ih2 _ _ _ _ _
   | exact ih3 _ _ _ _ _ _
   | exact ih4 _ _ _ _ _ _ _
   | exact ih5 _ _ _ _ _ _ _ _ _
   | exact LeO.none _
   | refine LeO.ite ?_ ?_
   | refine LeO.bind ?_ (fun _ => ?_)
  ·intro y0 y1 y2 y3 y4 y5
   unfold spec_l01Fewest.l3
   repeat' first
   | (with_reducible exact ih0 _ _ _ _ _)
   | (with_reducible exact ih1 _ _ _ _ _ _)
   | (with_reducible exact ih2 _ _ _ _ _)
   | (with_reducible exact ih3 _ _ _ _ _ _)
   | (with_reducible exact ih4 _ _ _ _ _ _ _)
   | (with_reducible exact ih5 _ _ _ _ _ _ _ _ _)
   | (with_reducible exact LeO.refl _)
   | (with_reducible exact LeO.none _)
   | (with_reducible refine LeO.ite ?_ ?_)
   | (with_reducible refine LeO.bind ?_ (fun _ => ?_))
   | exact ih0 _ _ _ _ _
   | exact ih1 _ _ _ _ _ _
   | exact ih2 _ _ _ _ _
   | exact ih3 _ _ _ _ _ _
   | exact ih4 _ _ _ _ _ _ _
   | exact ih5 _ _ _ _ _ _ _ _ _
   | exact LeO.none _
   | refine LeO.ite ?_ ?_
   | refine LeO.bind ?_ (fun _ => ?_)
  ·intro y0 y1 y2 y3 y4 y5 y6
   unfold spec_l01Fewest.l4
   repeat' first
   | (with_reducible exact ih0 _ _ _ _ _)
   | (with_reducible exact ih1 _ _ _ _ _ _)
   | (with_reducible exact ih2 _ _ _ _ _)
   | (with_reducible exact ih3 _ _ _ _ _ _)
   | (with_reducible exact ih4 _ _ _ _ _ _ _)
   | (with_reducible exact ih5 _ _ _ _ _ _ _ _ _)
   | (with_reducible exact LeO.refl _)
   | (with_reducible exact LeO.none _)
   | (with_reducible refine LeO.ite ?_ ?_)
   | (with_reducible refine LeO.bind ?_ (fun _ => ?_))
   | exact ih0 _ _ _ _ _
   | exact ih1 _ _ _ _ _ _
   | exact ih2 _ _ _ _ _
   | exact ih3 _ _ _ _ _ _
   | exact ih4 _ _ _ _ _ _ _
   | exact ih5 _ _ _ _ _ _ _ _ _
   | exact LeO.none _
   | refine LeO.ite ?_ ?_
   | refine LeO.bind ?_ (fun _ => ?_)
  ·intro y0 y1 y2 y3 y4 y5 y6 y7 y8
   unfold spec_l01Fewest.j5
   repeat' first
   | (with_reducible exact ih0 _ _ _ _ _)
   | (with_reducible exact ih1 _ _ _ _ _ _)
   | (with_reducible exact ih2 _ _ _ _ _)
   | (with_reducible exact ih3 _ _ _ _ _ _)
   | (with_reducible exact ih4 _ _ _ _ _ _ _)
   | (with_reducible exact ih5 _ _ _ _ _ _ _ _ _)
   | (with_reducible exact LeO.refl _)
   | (with_reducible exact LeO.none _)
   | (with_reducible refine LeO.ite ?_ ?_)
   | (with_reducible refine LeO.bind ?_ (fun _ => ?_))
   | exact ih0 _ _ _ _ _
   | exact ih1 _ _ _ _ _ _
   | exact ih2 _ _ _ _ _
   | exact ih3 _ _ _ _ _ _
   | exact ih4 _ _ _ _ _ _ _
   | exact ih5 _ _ _ _ _ _ _ _ _
   | exact LeO.none _
   | refine LeO.ite ?_ ?_
   | refine LeO.bind ?_ (fun _ => ?_)
theorem spec_l01Fewest.mono : ∀ a0 a1 k, LeO (spec_l01Fewest.f k a0 a1) (spec_l01Fewest.f (k + 1) a0 a1) := by
 intro a0 a1 k
 obtain ⟨ih0, ih1, ih2, ih3, ih4, ih5⟩ := spec_l01Fewest.mono_l k
 unfold spec_l01Fewest.f
 repeat' first
   | (with_reducible exact ih0 _ _ _ _ _)
   | (with_reducible exact ih1 _ _ _ _ _ _)
   | (with_reducible exact ih2 _ _ _ _ _)
   | (with_reducible exact ih3 _ _ _ _ _ _)
   | (with_reducible exact ih4 _ _ _ _ _ _ _)
   | (with_reducible exact ih5 _ _ _ _ _ _ _ _ _)
   | (with_reducible exact LeO.refl _)
   | (with_reducible exact LeO.none _)
   | (with_reducible refine LeO.ite ?_ ?_)
   | (with_reducible refine LeO.bind ?_ (fun _ => ?_))
   | exact ih0 _ _ _ _ _
   | exact ih1 _ _ _ _ _ _
   | exact ih2 _ _ _ _ _
   | exact ih3 _ _ _ _ _ _
   | exact ih4 _ _ _ _ _ _ _
   | exact ih5 _ _ _ _ _ _ _ _ _
   | exact LeO.none _
   | refine LeO.ite ?_ ?_
   | refine LeO.bind ?_ (fun _ => ?_)
set_option maxHeartbeats 8000000 in
set_option maxRecDepth 100000 in
theorem spec_l01Fewest.calls (k : Nat) (A0 : Option Addr) (c0 : Nat) (l0 : List Int) (a1 : Bool) (r : List (List Int)) (w : World) (hr0 : Kd.C (Kd.int .i16) w A0 l0.length l0) (hc0 : l0.length ≤ c0) (h : spec_l01Fewest.f k l0 a1 = some r) :
  Calls Try.prog 53 #[.slice A0 l0.length c0, .bool a1] w fun e w' => ∃ v0_ : Value, e = .returned (v0_) ∧ Kd.S (Kd.slice 2 (Kd.int .i64)) 44 w' w.heap.size (fun _ => True) v0_ r ∧ Below w.heap.size w w' := by
 have HR0 := Aside0.mk hr0
 have HC0 := Aside0.mk hc0
 clear hr0 hc0
 have HB := Aside0.mk (Below.refl w.heap.size w)
 have H : (if 0 ≤ (wrap64 ((l0.length : Int) + 1)) then (if (wrap64 ((l0.length : Int) + 1) : Int).toNat ≤ 11728124029610 then (spec_l01Fewest.l0 k l0 a1 4001 (List.replicate (wrap64 ((l0.length : Int) + 1) : Int).toNat []) 0) else (none)) else (none)) = some r := h
 clear h
 obtain ⟨ji3, hji3⟩ : ∃ j_ : Int, (wrap64 ((l0.length : Int) + 1)) = j_ := ⟨_, rfl⟩
 replace H : (if 0 ≤ (ji3) then (if (ji3 : Int).toNat ≤ 11728124029610 then (spec_l01Fewest.l0 k l0 a1 4001 (List.replicate (ji3 : Int).toNat []) 0) else (none)) else (none)) = some r := by first | (rw [hji3] at H; exact H) | (simp only [hji3] at H ⊢; exact H)
 have hji3w : (IntKind.i64.wrap ((l0.length : Int) + 1)) = ji3 := (i64_w _).trans hji3
 by_cases c4 : 0 ≤ (ji3)
 ·rw [if_pos c4] at H
  have c4b0 := eq_true c4
  have c4b1 : decide (0 ≤ (ji3)) = true := decide_eq_true c4
  clear c4
  by_cases c5 : (ji3 : Int).toNat ≤ 11728124029610
  ·rw [if_pos c5] at H
   have c5b0 := eq_true c5
   have c5b1 : decide ((ji3 : Int).toNat ≤ 11728124029610) = true := decide_eq_true c5
   clear c5
   obtain ⟨y116, hy116⟩ : ∃ y_ : List (List Int), y_ = (List.replicate (ji3 : Int).toNat []) := ⟨_, rfl⟩
   replace H : (spec_l01Fewest.l0 k l0 a1 4001 y116 0) = some r := by first | (rw [hy116]; with_reducible exact H) | (have H2_ := (Option.bind_some _ _).symm.trans H; rw [hy116]; with_reducible exact H2_) | (have H2_ := (Option.bind_some _ _).symm.trans H; with_reducible exact H2_) | with_reducible exact H | (rw [hy116]; exact H) | exact H
   have Ny116 := Aside0.mk hy116
   clear hy116
   have H' := Aside0.mk H
   clear H
   go_enter Try.func53, Try.ntmps53
   go_wp2_with (first | ((with_reducible refine gate_dst (N := 17) rfl ?_); refine Kd.S_make (Kd.slice 2 (Kd.int .i64)) _ 44 rfl (N := 17) rfl 67 _ _ rfl ji3 rfl rfl Try.underlying67 (.slice none 0 0) 24 info44 rfl (by decide) (by omega) [] (ok := fun _ => True) (okp := fun _ => True) ⟨_, rfl, Kd.R_nil _ _ _ _ _⟩ (fun _ hk => hk) trivial (of_decide_eq_true (by first | (with_reducible assumption) | assumption)) (Nat.le_trans (Nat.mul_le_mul_right _ (of_decide_eq_true (by first | (with_reducible assumption) | assumption) : ji3.toNat ≤ 11728124029610)) (by omega)) (Below.refl _ _) (Nat.le_refl _) ?_; intro v117 w6 ho7 hb hg_ hnew_; clear hg_ hnew_; (first | rw [← Ny116.out] at ho7 | (simp only [Int.reduceToNat] at ho7; rw [← Ny116.out] at ho7)); have n0_ := Aside0.mk (Kd.S_lower ho7 (below_size (by repeat (first | (with_reducible first | exact HB.out | apply below_alloc | apply pw_below_drewN | apply below_drew1) | exact HB.out)))); have n1_ := Aside0.mk (below_step (by repeat (first | (with_reducible first | exact HB.out | apply below_alloc | apply pw_below_drewN | apply below_drew1) | exact HB.out)) hb); clear HB; have HO118 := n0_; have HB := n1_; clear n0_ n1_; clear hb ho7))
   go_loopg [7] k (fun kq v7 w' => ∃ (x6_1 : List (List Int)) (x7_1 : Int), v7 = .int .i64 x7_1 ∧ Aside0 (spec_l01Fewest.l0 kq l0 a1 4001 x6_1 x7_1 = some r) ∧ Aside0 (kq ≤ k) ∧ Aside0 (Kd.S (Kd.slice 2 (Kd.int .i64)) 44 w' w.heap.size (fun _ => True) v117 x6_1) ∧ Aside0 (Below w.heap.size w w'))
   case atStart => exact ⟨(y116), (0), (by first | rfl | (simp; done) | (simp [*]; done)), H', ⟨Nat.le_refl _⟩, ⟨by (with_reducible repeat (first | apply Kd.S_alloc | apply Kd.S_drewN | apply Kd.S_drew)); exact HO118.out⟩, ⟨by repeat (first | (with_reducible first | exact HB.out | apply below_alloc | apply pw_below_drewN | apply below_drew1) | exact HB.out)⟩⟩
   case round =>
    clear H'
    try clear p2
    try clear c4
    try clear c4b0
    try clear c4b1
    try clear c5
    try clear c5b0
    try clear c5b1
    try clear p6
    obtain ⟨x6_1, x7_1, rfl, HA, HK1, HO_6, HB⟩ := hrel
    cases gk with
    | zero => exact absurd HA.out (by simp [spec_l01Fewest.l0])
    | succ k1 =>
     have H := HA.out
     clear HA
     simp only [spec_l01Fewest.l0] at H
     by_cases c8 : x7_1 ≤ (l0.length : Int)
     ·rw [if_pos c8] at H
      have c8b0 : decide (x7_1 ≤ (l0.length : Int)) = true := decide_eq_true c8
      clear c8
      by_cases c9 : (0 : Int) ≤ 4001
      ·rw [if_pos c9] at H
       have c9b0 := eq_true c9
       have c9b1 : decide ((0 : Int) ≤ 4001) = true := decide_eq_true c9
       clear c9
       by_cases c10 : (4001 : Int).toNat ≤ 35184372088832
       ·rw [if_pos c10] at H
        have c10b0 := eq_true c10
        have c10b1 : decide ((4001 : Int).toNat ≤ 35184372088832) = true := decide_eq_true c10
        clear c10
        obtain ⟨y119, hy119⟩ : ∃ y_ : List Int, y_ = (List.replicate (4001 : Int).toNat 0) := ⟨_, rfl⟩
        replace H : (if 0 ≤ x7_1 then (if x7_1 < (x6_1.length : Int) then (spec_l01Fewest.l1 k1 l0 a1 4001 (x6_1.set (x7_1 : Int).toNat y119) x7_1 0) else (none)) else (none)) = some r := by first | (rw [hy119]; with_reducible exact H) | (have H2_ := (Option.bind_some _ _).symm.trans H; rw [hy119]; with_reducible exact H2_) | (have H2_ := (Option.bind_some _ _).symm.trans H; with_reducible exact H2_) | with_reducible exact H | (rw [hy119]; exact H) | exact H
        have Ny119 := Aside0.mk hy119
        clear hy119
        by_cases c11 : 0 ≤ x7_1
        ·rw [if_pos c11] at H
         have c11b0 : decide (0 ≤ x7_1) = true := decide_eq_true c11
         clear c11
         by_cases c12 : x7_1 < (x6_1.length : Int)
         ·rw [if_pos c12] at H
          have c12b0 : decide (x7_1 < (x6_1.length : Int)) = true := decide_eq_true c12
          clear c12
          obtain ⟨y122, hy122⟩ : ∃ y_ : List (List Int), y_ = (x6_1.set (x7_1 : Int).toNat y119) := ⟨_, rfl⟩
          replace H : (spec_l01Fewest.l1 k1 l0 a1 4001 y122 x7_1 0) = some r := by first | (rw [hy122]; with_reducible exact H) | (have H2_ := (Option.bind_some _ _).symm.trans H; rw [hy122]; with_reducible exact H2_) | (have H2_ := (Option.bind_some _ _).symm.trans H; with_reducible exact H2_) | with_reducible exact H | (rw [hy122]; exact H) | exact H
          have Ny122 := Aside0.mk hy122
          clear hy122
          have H' := Aside0.mk H
          clear H
          go_wp2_with (first | ((with_reducible refine gate_dst (N := 27) rfl ?_); refine Kd.R_make (Kd.int .i64) _ 2 rfl (N := 27) rfl 44 _ _ rfl 4001 rfl rfl Try.underlying44 (.int .i64 0) 8 info2 rfl (by decide) (by omega) 0 (ok := fun _ => True) (okp := fun _ => True) rfl (fun _ hk => hk) trivial (by omega) (by omega) (Below.refl _ _) (Nat.le_refl _) ?_; intro v120 w14 ho15 hb hg_ hnew_; clear hg_ hnew_; (first | rw [← Ny119.out] at ho15 | (simp only [Int.reduceToNat] at ho15; rw [← Ny119.out] at ho15)); have n0_ := Aside0.mk (Kd.S_elder' (by (with_reducible repeat (first | apply Kd.S_alloc | apply Kd.S_drewN | apply Kd.S_drew)); exact HO_6.out) (Kd.R_base ho15) hb); have n1_ := Aside0.mk (Kd.R_lower ho15 (below_size (by repeat (first | (with_reducible first | exact HB.out | apply below_alloc | apply pw_below_drewN | apply below_drew1) | exact HB.out)))); have n2_ := Aside0.mk (below_step (by repeat (first | (with_reducible first | exact HB.out | apply below_alloc | apply pw_below_drewN | apply below_drew1) | exact HB.out)) hb); clear HO_6; clear HB; have HO_6 := n0_; have HO121 := n1_; have HB := n2_; clear n0_ n1_ n2_; clear hb ho15; have p13 : 0 ≤ (x7_1 : Int) := of_decide_eq_true (by first | (with_reducible assumption) | assumption); have q13 : (x7_1 : Int) < ((x6_1.length : Int) : Int) := of_decide_eq_true (by first | (with_reducible assumption) | assumption); obtain ⟨go13, co13, eo13, gb13, gl13, cl13, HG13⟩ := Kd.S_form HO_6.out (by omega); (first | cases eo13 | (injection eo13 with ea_ en_ ec_; (first | subst ea_ | (injection ea_ with ea_; subst ea_)); subst ec_; clear en_)); have GB13 := Aside0.mk gb13; have GG13 := Aside0.mk HG13; clear gb13 gl13 HG13; obtain ⟨_, ce13, hcl13, hM13, hcc13, hfr13, _, _⟩ := Kd.S_elem HO_6.out [] (x7_1 : Int) p13 q13; obtain ⟨ve13_0, rfl, ge13_0⟩ := hM13; have hx13_0 := hcc13 0 _ rfl; have hf13_0 := hfr13 0; (try simp only [show ((Kd.slice 2 (Kd.int .i64))).sz = 1 from rfl, Nat.mul_one, Nat.add_zero] at hx13_0); (try simp only [show ((Kd.slice 2 (Kd.int .i64))).sz = 1 from rfl, Nat.mul_one, Nat.add_zero] at hf13_0); clear hcl13 hcc13 hfr13; (try clear hM13); replace p13 := eq_true p13; replace q13 := eq_true q13; have n_ := Aside0.mk (Kd.S_mono (ok' := (fun k_ => some k_ ≠ (v120 : Value).ownBlock)) HO_6.out (fun k_ hk => hk.2)); clear HO_6; have HO_6 := n_; clear n_; have HX16 := Aside0.mk (show Kd.S (Kd.slice 2 (Kd.int .i64)) 44 w14 w.heap.size (fun k_ => ((fun _ => True)) k_ ∧ ¬ ((fun k_ => some k_ = (v120 : Value).ownBlock)) k_) (.slice (some ⟨go13, 0, none⟩) x6_1.length co13) x6_1 from (by (with_reducible repeat (first | apply Kd.S_alloc | apply Kd.S_drewN | apply Kd.S_drew)); exact Kd.S_mono HO_6.out (fun k_ hk => ⟨trivial, fun e_ => hk e_⟩))); obtain ⟨oki16, ce16, hcl16, hM16, hcc16, hfr16, hoki16, hH16⟩ := Kd.S_elem HX16.out [] (x7_1 : Int) (of_decide_eq_true (by first | (with_reducible assumption) | assumption)) (by have h_ : (x7_1 : Int) < ((x6_1.length : Int) : Int) := of_decide_eq_true (by first | (with_reducible assumption) | assumption); first | exact h_ | (have e_ := (Kd.S_reads' HO_6.out).1; omega) | simpa using h_); obtain ⟨ve16_0, rfl, ge16_0⟩ := hM16; have HP16 := Kd.S_seg hH16 (of_decide_eq_true (by first | (with_reducible assumption) | assumption)) (by have h_ : (x7_1 : Int) < ((x6_1.length : Int) : Int) := of_decide_eq_true (by first | (with_reducible assumption) | assumption); first | exact h_ | (have e_ := (Kd.S_reads' HO_6.out).1; omega) | simpa using h_) (seg := [v120]) (j := 0) (show 1 ≤ 1 from by decide) (x' := y119) (Kd.M_row (Kd.R_mono (Kd.R_tight rfl (Kd.R_mono (ok' := fun k_ => ((fun _ => True)) k_ ∧ k_ ≠ go13) (Kd.R_apart' (HO121.out) (Kd.S_typed HO_6.out) (by decide)) (fun k_ hk => ⟨trivial, fun e_ => (hk.2) (by rw [e_]; rfl)⟩))) (fun _ h_ => Or.inr (h_)))) (fun _ hk => hk) (fun k_ hk_ => ((Kd.R_mono (ok' := fun k_ => ((fun _ => True)) k_ ∧ k_ ≠ go13) (Kd.R_apart' (HO121.out) (Kd.S_typed HO_6.out) (by decide)) (fun k_ hk => ⟨trivial, fun e_ => (hk.2) (by rw [e_]; rfl)⟩))).1 k_ hk_.symm); have hx16_0 := hcc16 0 _ rfl; (try simp only [show ((Kd.slice 2 (Kd.int .i64))).sz = 1 from rfl, Nat.mul_one, Nat.add_zero] at hx16_0); have hf16_0 := hfr16 0; (try simp only [show ((Kd.slice 2 (Kd.int .i64))).sz = 1 from rfl, Nat.mul_one, Nat.add_zero] at hf16_0); clear hcl16 hcc16 hfr16 hoki16 hH16; (try clear hM16); (try simp only [show ((Kd.slice 2 (Kd.int .i64))).sz = 1 from rfl, Nat.mul_one, Nat.add_zero] at HP16)) | ((with_reducible refine gate_store (t := 44) (p := 28) rfl ?_); refine store_event (t := 44) (p := 28) (v := ?vo_w17) (w1 := (w14.setCell ⟨go13, (x7_1 : Int).toNat, none⟩ (v120))) ?hg ?ho ?hn ?hr ?_; (case ho => rfl); (case hg => rfl); (case hn => rfl); (case hr => first | (go_simp; done) | (go_simp; rfl) | (obtain ⟨A_, c_, e_⟩ := Kd.R_slice HO121.out; subst e_; first | (go_simp; done) | (go_simp; rfl))); intro w17 hw; have hg : w14.grownBy w17 (some go13) := (by rw [hw]; exact HP16.2); have hp_ : Kd.S (Kd.slice 2 (Kd.int .i64)) 44 w17 w.heap.size (fun _ => True) (.slice (some ⟨go13, 0, none⟩) x6_1.length co13) y122 := (by rw [hw, Ny122.out]; exact HP16.1); clear HP16; have n0_ := Aside0.mk (hp_); have n1_ := Aside0.mk ((by rw [hw]; exact below_set (HB.out) GB13.out : Below w.heap.size w w17)); clear HO_6; clear HB; clear HO121; have HO_6 := n0_; have HB := n1_; clear n0_ n1_; clear hg hw hp_))
          go_loopg [8] k1 (fun kq v8 w' => ∃ (x6_2 : List (List Int)) (x8_2 : Int), v8 = .int .i64 x8_2 ∧ Aside0 (spec_l01Fewest.l1 kq l0 a1 4001 x6_2 x7_1 x8_2 = some r) ∧ Aside0 (kq ≤ k1) ∧ Aside0 (Kd.S (Kd.slice 2 (Kd.int .i64)) 44 w' w.heap.size (fun _ => True) (.slice (some ⟨go13, 0, none⟩) x6_1.length co13) x6_2) ∧ Aside0 (Below w.heap.size w w'))
          case atStart => exact ⟨(y122), (0), (by first | rfl | (simp; done) | (simp [*]; done)), H', ⟨Nat.le_refl _⟩, ⟨by (with_reducible repeat (first | apply Kd.S_alloc | apply Kd.S_drewN | apply Kd.S_drew)); exact HO_6.out⟩, ⟨by repeat (first | (with_reducible first | exact HB.out | apply below_alloc | apply pw_below_drewN | apply below_drew1) | exact HB.out)⟩⟩
          case round =>
           clear H'
           try clear c1
           try clear p1
           try clear q1
           try clear hx1
           try clear p2
           try clear c4
           try clear c4b0
           try clear c4b1
           try clear c5
           try clear c5b0
           try clear c5b1
           try clear p6
           try clear c8
           try clear c8b0
           try clear c9
           try clear c9b0
           try clear c9b1
           try clear c10
           try clear c10b0
           try clear c10b1
           try clear c11
           try clear c11b0
           try clear c12
           try clear c12b0
           try clear c13
           try clear p13
           try clear q13
           try clear hx13
           try clear hf13
           try clear c16
           try clear hx16
           try clear hf16
           try clear hx13_0
           try clear hx16_0
           try clear p13
           try clear p2
           try clear p6
           try clear q13
           obtain ⟨x6_2, x8_2, rfl, HA, HK2, HO_6, HB⟩ := hrel
           have hl6_2 := (Kd.S_reads' HO_6.out).1
           rw [hl6_2] at HO_6
           (try simp only [hl6_2])
           cases gk with
           | zero => exact absurd HA.out (by simp [spec_l01Fewest.l1])
           | succ k2 =>
            have H := HA.out
            clear HA
            simp only [spec_l01Fewest.l1] at H
            by_cases c18 : x8_2 < 4001
            ·rw [if_pos c18] at H
             have c18b0 : decide (x8_2 < 4001) = true := decide_eq_true c18
             clear c18
             by_cases c19 : 0 ≤ x7_1
             ·rw [if_pos c19] at H
              have c19b0 : decide (0 ≤ x7_1) = true := decide_eq_true c19
              clear c19
              by_cases c20 : x7_1 < (x6_2.length : Int)
              ·rw [if_pos c20] at H
               have c20b0 : decide (x7_1 < (x6_2.length : Int)) = true := decide_eq_true c20
               clear c20
               by_cases c21 : 0 ≤ x8_2
               ·rw [if_pos c21] at H
                have c21b0 : decide (0 ≤ x8_2) = true := decide_eq_true c21
                clear c21
                by_cases c22 : x8_2 < ((rd_L2 x6_2 x7_1).length : Int)
                ·rw [if_pos c22] at H
                 have c22b0 : decide (x8_2 < ((rd_L2 x6_2 x7_1).length : Int)) = true := decide_eq_true c22
                 clear c22
                 obtain ⟨y124, hy124⟩ : ∃ y_ : List Int, y_ = ((rd_L2 x6_2 x7_1).set (x8_2 : Int).toNat (-1)) := ⟨_, rfl⟩
                 replace H : (spec_l01Fewest.l1 k2 l0 a1 4001 (x6_2.set (x7_1 : Int).toNat y124) x7_1 (wrap64 (x8_2 + 1))) = some r := by first | (rw [hy124]; with_reducible exact H) | (have H2_ := (Option.bind_some _ _).symm.trans H; rw [hy124]; with_reducible exact H2_) | (have H2_ := (Option.bind_some _ _).symm.trans H; with_reducible exact H2_) | with_reducible exact H | (rw [hy124]; exact H) | exact H
                 have Ny124 := Aside0.mk hy124
                 clear hy124
                 obtain ⟨y126, hy126⟩ : ∃ y_ : List (List Int), y_ = (x6_2.set (x7_1 : Int).toNat y124) := ⟨_, rfl⟩
                 replace H : (spec_l01Fewest.l1 k2 l0 a1 4001 y126 x7_1 (wrap64 (x8_2 + 1))) = some r := by first | (rw [hy126]; with_reducible exact H) | (have H2_ := (Option.bind_some _ _).symm.trans H; rw [hy126]; with_reducible exact H2_) | (have H2_ := (Option.bind_some _ _).symm.trans H; with_reducible exact H2_) | with_reducible exact H | (rw [hy126]; exact H) | exact H
                 have Ny126 := Aside0.mk hy126
                 clear hy126
                 have H' := Aside0.mk H
                 clear H
                 have p123 : 0 ≤ (x7_1 : Int) := of_decide_eq_true (by first | (with_reducible assumption) | assumption)
                 have q123 : x7_1 < (x6_2.length : Int) := of_decide_eq_true (by first | (with_reducible assumption) | assumption)
                 obtain ⟨ad123, A123_0, c123_0, e123, hx123_0, hl123_0, hi123_0⟩ := at_L2 (Kd.S_reads' HO_6.out).2.2 x7_1 p123 q123
                 obtain rfl : (⟨go13, 0, none⟩ : Addr) = ad123 := (by injection e123)
                 obtain ⟨ce123, hce123, hMe123, hcc123⟩ := Kd.S_get HO_6.out [] x7_1 p123 (by first | exact q123 | exact of_decide_eq_true (by first | (with_reducible assumption) | assumption) | (have e_ := (Kd.S_reads' HO_6.out).1; omega))
                 obtain ⟨ve123_0, rfl, ge123_0⟩ := hMe123
                 have hv123_0 := hcc123 0 _ rfl
                 rw [Nat.add_zero, show ((Kd.slice 2 (Kd.int .i64))).sz = 1 from rfl, Nat.mul_one] at hv123_0
                 replace hv123_0 := Option.some.inj (hv123_0.symm.trans hx123_0)
                 rw [hv123_0] at ge123_0
                 have HL123_0 := Aside0.mk (show Kd.R (Kd.int .i64) 2 _ _ _ _ (rd_L2 x6_2 x7_1) from ge123_0)
                 clear hv123_0 ge123_0
                 have HX123_0 := Aside0.mk hx123_0
                 clear hcc123 hce123
                 (first | simp only [add_plain] at hx123_0 | simp only [add_at] at hx123_0 | simp only [Addr.add, Nat.zero_add] at hx123_0 | skip)
                 have HR123_0 := Aside0.mk hi123_0
                 have HC123_0 := Aside0.mk hl123_0
                 clear hi123_0 hl123_0
                 replace p123 := eq_true p123
                 replace q123 := eq_true q123
                 have p23 : 0 ≤ (x8_2 : Int) := of_decide_eq_true (by first | (with_reducible assumption) | assumption)
                 have q23 : (x8_2 : Int) < (((rd_L2 x6_2 x7_1).length : Int) : Int) := of_decide_eq_true (by first | (with_reducible assumption) | assumption)
                 obtain ⟨go23, co23, eo23, gb23, gl23, cl23, HG23⟩ := Kd.R_form HL123_0.out (by omega)
                 (first | cases eo23 | (injection eo23 with ea_ en_ ec_; (first | subst ea_ | (injection ea_ with ea_; subst ea_)); subst ec_; clear en_))
                 have GB23 := Aside0.mk gb23
                 have GG23 := Aside0.mk HG23
                 clear gb23 gl23 HG23
                 obtain ⟨hx23_0, hf23_0⟩ := Kd.R_celln 0 HL123_0.out (x8_2 : Int) p23 q23
                 replace p23 := eq_true p23
                 replace q23 := eq_true q23
                 have hq24 : (x7_1 : Int) < (x6_2.length : Int) := (by have h_ : (x7_1 : Int) < ((x6_2.length : Int) : Int) := of_decide_eq_true (by first | (with_reducible assumption) | assumption); first | exact h_ | (have e_ := (Kd.S_reads' HO_6.out).1; omega) | simpa only [List.length_set, List.length_set] using h_)
                 obtain ⟨oki24, ce24, hcl24, hM24, hcc24, hok24, hbk24⟩ := Kd.S_borrow HO_6.out [] (x7_1 : Int) (of_decide_eq_true (by first | (with_reducible assumption) | assumption)) hq24
                 obtain ⟨ve24_0, rfl, ge24_0⟩ := hM24
                 have hv24 := hcc24 0 _ rfl
                 rw [Nat.add_zero, show ((Kd.slice 2 (Kd.int .i64))).sz = 1 from rfl, Nat.mul_one] at hv24
                 replace hv24 := Option.some.inj (hv24.symm.trans HX123_0.out)
                 subst hv24
                 clear hcc24 hcl24
                 replace ge24_0 := (show Kd.R (Kd.int .i64) 2 _ _ _ _ (rd_L2 x6_2 x7_1) from ge24_0)
                 have HP24 := Kd.R_putg ge24_0 (x8_2 : Int) (-1)
                 go_wp2_with (first | ((with_reducible refine gate_store (t := 2) (p := 39) rfl ?_); refine store_event (t := 2) (p := 39) (v := ?vo_w25) (w1 := (wr.setCell ⟨go23, (x8_2 : Int).toNat, none⟩ (.int .i64 (-1)))) ?hg ?ho ?hn ?hr ?_; (case ho => rfl); (case hg => rfl); (case hn => rfl); (case hr => first | (go_simp; done) | (go_simp; rfl)); intro w25 hw; have hg : wr.grownBy w25 (some go23) := (by rw [hw]; exact HP24.2); have hz_ : Kd.R (Kd.int .i64) 2 w25 w.heap.size oki24 (.slice (some ⟨go23, 0, none⟩) (rd_L2 x6_2 x7_1).length c123_0) y124 := (by rw [hw, Ny124.out]; exact HP24.1); have hp_ : Kd.S (Kd.slice 2 (Kd.int .i64)) 44 w25 w.heap.size (fun _ => True) (.slice (some ⟨go13, 0, none⟩) x6_2.length co13) y126 := (by rw [Ny126.out]; exact hbk24 hg (fun k_ e_ => by injection e_ with e_; subst e_; exact ge24_0.1 _ rfl) (Kd.M_row hz_)); have hm_ := Kd.R_mono hz_ hok24; clear HP24 hbk24; have n0_ := Aside0.mk (hp_); have n1_ := Aside0.mk ((by rw [hw]; exact below_set (HB.out) GB23.out : Below w.heap.size w w25)); have n2_ := Aside0.mk (hm_); have n3_ := Aside0.mk ((Kd.R_reads' hm_).2.1); clear HO_6; clear HB; clear HL123_0; have HO_6 := n0_; have HB := n1_; have HL150 := n2_; have HC125 := n3_; clear n0_ n1_ n2_ n3_; clear hg hw hp_ hz_ hm_ hok24))
                 (try simp only [← hl6_2])
                 go_roundg k2
                 case measure => have := HK1.out; have := HK2.out; omega
                 case rel => exact ⟨(y126), (wrap64 (x8_2 + 1)), (by first | rfl | (simp; done) | (simp [*]; done)), H', ⟨by have := HK1.out; have := HK2.out; omega⟩, ⟨by (try simp only [hl6_2]); (with_reducible repeat (first | apply Kd.S_alloc | apply Kd.S_drewN | apply Kd.S_drew)); exact HO_6.out⟩, ⟨by repeat (first | (with_reducible first | exact HB.out | apply below_alloc | apply pw_below_drewN | apply below_drew1) | exact HB.out)⟩⟩
                ·rw [if_neg c22] at H
                 exact absurd H (by simp)
               ·rw [if_neg c21] at H
                exact absurd H (by simp)
              ·rw [if_neg c20] at H
               exact absurd H (by simp)
             ·rw [if_neg c19] at H
              exact absurd H (by simp)
            ·rw [if_neg c18] at H
             have c18b0 : decide (x8_2 < 4001) = false := decide_eq_false c18
             clear c18
             have H' := Aside0.mk H
             clear H
             go_wp2
             (try simp only [← hl6_2])
             go_roundg k2
             case measure => have := HK1.out; have := HK2.out; omega
             case rel => exact ⟨(x6_2), (wrap64 (x7_1 + 1)), (by first | rfl | (simp; done) | (simp [*]; done)), H', ⟨by have := HK1.out; have := HK2.out; omega⟩, ⟨by (try simp only [hl6_2]); (with_reducible repeat (first | apply Kd.S_alloc | apply Kd.S_drewN | apply Kd.S_drew)); exact HO_6.out⟩, ⟨by repeat (first | (with_reducible first | exact HB.out | apply below_alloc | apply pw_below_drewN | apply below_drew1) | exact HB.out)⟩⟩
         ·rw [if_neg c12] at H
          exact absurd H (by simp)
        ·rw [if_neg c11] at H
         exact absurd H (by simp)
       ·rw [if_neg c10] at H
        exact absurd H (by simp)
      ·rw [if_neg c9] at H
       exact absurd H (by simp)
     ·rw [if_neg c8] at H
      have c8b0 : decide (x7_1 ≤ (l0.length : Int)) = false := decide_eq_false c8
      clear c8
      by_cases c26 : 0 ≤ (l0.length : Int)
      ·rw [if_pos c26] at H
       have c26b0 : decide (0 ≤ (l0.length : Int)) = true := decide_eq_true c26
       have c26b1 : decide (0 ≤ l0.length) = true := decide_eq_true (by omega)
       clear c26
       by_cases c27 : (l0.length : Int) < (x6_1.length : Int)
       ·rw [if_pos c27] at H
        have c27b0 : decide ((l0.length : Int) < (x6_1.length : Int)) = true := decide_eq_true c27
        have c27b1 : decide (l0.length < x6_1.length) = true := decide_eq_true (Int.ofNat_lt.mp c27)
        clear c27
        by_cases c28 : 2000 < ((rd_L2 x6_1 (l0.length : Int)).length : Int)
        ·rw [if_pos c28] at H
         have c28b0 : decide (2000 < ((rd_L2 x6_1 (l0.length : Int)).length : Int)) = true := decide_eq_true c28
         have c28b1 : decide (2000 < (rd_L2 x6_1 (l0.length : Int)).length) = true := decide_eq_true (by omega)
         clear c28
         obtain ⟨y128, hy128⟩ : ∃ y_ : List Int, y_ = ((rd_L2 x6_1 (l0.length : Int)).set (2000 : Int).toNat 0) := ⟨_, rfl⟩
         replace H : (spec_l01Fewest.l2 k1 l0 a1 4001 (x6_1.set ((l0.length : Int) : Int).toNat y128) (wrap64 ((l0.length : Int) - 1))) = some r := by first | (rw [hy128]; with_reducible exact H) | (have H2_ := (Option.bind_some _ _).symm.trans H; rw [hy128]; with_reducible exact H2_) | (have H2_ := (Option.bind_some _ _).symm.trans H; with_reducible exact H2_) | with_reducible exact H | (rw [hy128]; exact H) | exact H
         have Ny128 := Aside0.mk hy128
         clear hy128
         obtain ⟨y130, hy130⟩ : ∃ y_ : List (List Int), y_ = (x6_1.set ((l0.length : Int) : Int).toNat y128) := ⟨_, rfl⟩
         replace H : (spec_l01Fewest.l2 k1 l0 a1 4001 y130 (wrap64 ((l0.length : Int) - 1))) = some r := by first | (rw [hy130]; with_reducible exact H) | (have H2_ := (Option.bind_some _ _).symm.trans H; rw [hy130]; with_reducible exact H2_) | (have H2_ := (Option.bind_some _ _).symm.trans H; with_reducible exact H2_) | with_reducible exact H | (rw [hy130]; exact H) | exact H
         have Ny130 := Aside0.mk hy130
         clear hy130
         have H' := Aside0.mk H
         clear H
         obtain ⟨Ao30, co30, eo30⟩ := Kd.S_slice HO_6.out
         subst eo30
         have p127 : 0 ≤ ((l0.length : Int) : Int) := of_decide_eq_true (by first | (with_reducible assumption) | assumption)
         have q127 : (l0.length : Int) < (x6_1.length : Int) := of_decide_eq_true (by first | (with_reducible assumption) | assumption)
         obtain ⟨ad127, A127_0, c127_0, e127, hx127_0, hl127_0, hi127_0⟩ := at_L2 (Kd.S_reads' HO_6.out).2.2 (l0.length : Int) p127 q127
         cases e127
         obtain ⟨ce127, hce127, hMe127, hcc127⟩ := Kd.S_get HO_6.out [] (l0.length : Int) p127 (by first | exact q127 | exact of_decide_eq_true (by first | (with_reducible assumption) | assumption) | (have e_ := (Kd.S_reads' HO_6.out).1; omega))
         obtain ⟨ve127_0, rfl, ge127_0⟩ := hMe127
         have hv127_0 := hcc127 0 _ rfl
         rw [Nat.add_zero, show ((Kd.slice 2 (Kd.int .i64))).sz = 1 from rfl, Nat.mul_one] at hv127_0
         replace hv127_0 := Option.some.inj (hv127_0.symm.trans hx127_0)
         rw [hv127_0] at ge127_0
         have HL127_0 := Aside0.mk (show Kd.R (Kd.int .i64) 2 _ _ _ _ (rd_L2 x6_1 (l0.length : Int)) from ge127_0)
         clear hv127_0 ge127_0
         have HX127_0 := Aside0.mk hx127_0
         clear hcc127 hce127
         have HR127_0 := Aside0.mk hi127_0
         have HC127_0 := Aside0.mk hl127_0
         clear hi127_0 hl127_0
         (try simp only [Go.IntWalk.toNatUp] at hx127_0)
         replace p127 := eq_true p127
         replace q127 := eq_true q127
         have p29 : 0 ≤ (2000 : Int) := (by omega)
         have q29 : (2000 : Int) < (((rd_L2 x6_1 (l0.length : Int)).length : Int) : Int) := of_decide_eq_true (by first | (with_reducible assumption) | assumption)
         have qi29 : (2000 < (rd_L2 x6_1 (l0.length : Int)).length) = True := eq_true (by omega)
         obtain ⟨go29, co29, eo29, gb29, gl29, cl29, HG29⟩ := Kd.R_form HL127_0.out (by omega)
         (first | cases eo29 | (injection eo29 with ea_ en_ ec_; (first | subst ea_ | (injection ea_ with ea_; subst ea_)); subst ec_; clear en_))
         have GB29 := Aside0.mk gb29
         have GG29 := Aside0.mk HG29
         clear gb29 gl29 HG29
         obtain ⟨hx29_0, hf29_0⟩ := Kd.R_celln 0 HL127_0.out (2000 : Int) p29 q29
         (try rw [show ((2000 : Int)).toNat = 2000 from rfl] at hx29_0)
         (try simp only [Nat.reduceMul, Nat.zero_mul, Nat.zero_add, Nat.reduceAdd] at hx29_0)
         (try rw [show ((2000 : Int)).toNat = 2000 from rfl] at hf29_0)
         (try simp only [Nat.reduceMul, Nat.zero_mul, Nat.zero_add, Nat.reduceAdd] at hf29_0)
         replace p29 := eq_true p29
         replace q29 := eq_true q29
         have hq31 : ((l0.length : Int) : Int) < (x6_1.length : Int) := (by have h_ : ((l0.length : Int) : Int) < ((x6_1.length : Int) : Int) := of_decide_eq_true (by first | (with_reducible assumption) | assumption); first | exact h_ | (have e_ := (Kd.S_reads' HO_6.out).1; omega) | simpa only [List.length_set, List.length_set] using h_)
         obtain ⟨oki31, ce31, hcl31, hM31, hcc31, hok31, hbk31⟩ := Kd.S_borrow HO_6.out [] ((l0.length : Int) : Int) (of_decide_eq_true (by first | (with_reducible assumption) | assumption)) hq31
         obtain ⟨ve31_0, rfl, ge31_0⟩ := hM31
         have hv31 := hcc31 0 _ rfl
         rw [Nat.add_zero, show ((Kd.slice 2 (Kd.int .i64))).sz = 1 from rfl, Nat.mul_one] at hv31
         replace hv31 := Option.some.inj (hv31.symm.trans HX127_0.out)
         subst hv31
         clear hcc31 hcl31
         replace ge31_0 := (show Kd.R (Kd.int .i64) 2 _ _ _ _ (rd_L2 x6_1 (l0.length : Int)) from ge31_0)
         have HP31 := Kd.R_putg ge31_0 (2000 : Int) 0
         go_wp2_with (first | ((with_reducible refine gate_store (t := 2) (p := 45) rfl ?_); refine store_event (t := 2) (p := 45) (v := ?vo_w32) (w1 := (wr.setCell ⟨go29, 2000, none⟩ (.int .i64 0))) ?hg ?ho ?hn ?hr ?_; (case ho => rfl); (case hg => rfl); (case hn => rfl); (case hr => first | (go_simp; done) | (go_simp; rfl)); intro w32 hw; have hg : wr.grownBy w32 (some go29) := (by rw [hw]; exact HP31.2); have hz_ : Kd.R (Kd.int .i64) 2 w32 w.heap.size oki31 (.slice (some ⟨go29, 0, none⟩) (rd_L2 x6_1 (l0.length : Int)).length c127_0) y128 := (by rw [hw, Ny128.out]; exact HP31.1); have hp_ : Kd.S (Kd.slice 2 (Kd.int .i64)) 44 w32 w.heap.size (fun _ => True) (.slice (some ad127) x6_1.length co30) y130 := (by rw [Ny130.out]; exact hbk31 hg (fun k_ e_ => by injection e_ with e_; subst e_; exact ge31_0.1 _ rfl) (Kd.M_row hz_)); have hm_ := Kd.R_mono hz_ hok31; clear HP31 hbk31; have n0_ := Aside0.mk (hp_); have n1_ := Aside0.mk ((by rw [hw]; exact below_set (HB.out) GB29.out : Below w.heap.size w w32)); have n2_ := Aside0.mk (hm_); have n3_ := Aside0.mk ((Kd.R_reads' hm_).2.1); clear HO_6; clear HB; clear HL127_0; have HO_6 := n0_; have HB := n1_; have HL151 := n2_; have HC129 := n3_; clear n0_ n1_ n2_ n3_; clear hg hw hp_ hz_ hm_ hok31))
         go_loopg [9] k1 (fun kq v9 w' => ∃ (x6_2 : List (List Int)) (x9_2 : Int), v9 = .int .i64 x9_2 ∧ Aside0 (spec_l01Fewest.l2 kq l0 a1 4001 x6_2 x9_2 = some r) ∧ Aside0 (kq ≤ k1) ∧ Aside0 (Kd.S (Kd.slice 2 (Kd.int .i64)) 44 w' w.heap.size (fun _ => True) (.slice (some ad127) x6_1.length co30) x6_2) ∧ Aside0 (Below w.heap.size w w'))
         case atStart => exact ⟨(y130), (wrap64 ((l0.length : Int) - 1)), (by first | rfl | (simp; done) | (simp [*]; done)), H', ⟨Nat.le_refl _⟩, ⟨by (with_reducible repeat (first | apply Kd.S_alloc | apply Kd.S_drewN | apply Kd.S_drew)); exact HO_6.out⟩, ⟨by repeat (first | (with_reducible first | exact HB.out | apply below_alloc | apply pw_below_drewN | apply below_drew1) | exact HB.out)⟩⟩
         case round =>
          clear H'
          try clear c1
          try clear p1
          try clear q1
          try clear hx1
          try clear c2
          try clear p2
          try clear q2
          try clear hx2
          try clear qi2
          try clear hf2
          try clear c3
          try clear q3
          try clear c4
          try clear c4b0
          try clear c4b1
          try clear c5
          try clear c5b0
          try clear c5b1
          try clear p6
          try clear c8
          try clear c8b0
          try clear c9
          try clear c9b0
          try clear c9b1
          try clear c10
          try clear c10b0
          try clear c10b1
          try clear c11
          try clear c11b0
          try clear c12
          try clear c12b0
          try clear p12
          try clear q12
          try clear hx12
          try clear c13
          try clear p13
          try clear q13
          try clear hx13
          try clear hf13
          try clear c16
          try clear hx16
          try clear hf16
          try clear c18
          try clear c18b0
          try clear c19
          try clear c19b0
          try clear c20
          try clear c20b0
          try clear c21
          try clear c21b0
          try clear c22
          try clear c22b0
          try clear p23
          try clear q23
          try clear hx23
          try clear hf23
          try clear c24
          try clear q24
          try clear c26
          try clear c26b0
          try clear c26b1
          try clear c27
          try clear c27b0
          try clear c27b1
          try clear c28
          try clear c28b0
          try clear c28b1
          try clear p29
          try clear q29
          try clear hx29
          try clear qi29
          try clear hf29
          try clear c31
          try clear q31
          try clear hx123_0
          try clear hx127_0
          try clear hx13_0
          try clear hx16_0
          try clear hx23_0
          try clear hx29_0
          try clear p1
          try clear p123
          try clear p127
          try clear p13
          try clear p2
          try clear p23
          try clear p29
          try clear p6
          try clear q1
          try clear q123
          try clear q127
          try clear q13
          try clear q23
          try clear q29
          obtain ⟨x6_2, x9_2, rfl, HA, HK2, HO_6, HB⟩ := hrel
          have hl6_2 := (Kd.S_reads' HO_6.out).1
          rw [hl6_2] at HO_6
          (try simp only [hl6_2])
          cases gk with
          | zero => exact absurd HA.out (by simp [spec_l01Fewest.l2])
          | succ k2 =>
           have H := HA.out
           clear HA
           simp only [spec_l01Fewest.l2] at H
           by_cases c33 : x9_2 ≥ 0
           ·rw [if_pos c33] at H
            have c33b0 : decide (0 ≤ x9_2) = true := decide_eq_true c33
            clear c33
            have H' := Aside0.mk H
            clear H
            go_wp2
            go_loopg [10] k2 (fun kq v10 w' => ∃ (x6_3 : List (List Int)) (x10_3 : Int), v10 = .int .i64 x10_3 ∧ Aside0 (spec_l01Fewest.l3 kq l0 a1 4001 x6_3 x9_2 x10_3 = some r) ∧ Aside0 (kq ≤ k2) ∧ Aside0 (Kd.S (Kd.slice 2 (Kd.int .i64)) 44 w' w.heap.size (fun _ => True) (.slice (some ad127) x6_2.length co30) x6_3) ∧ Aside0 (Below w.heap.size w w'))
            case atStart => exact ⟨(x6_2), (0), (by first | rfl | (simp; done) | (simp [*]; done)), H', ⟨Nat.le_refl _⟩, ⟨by (try simp only [hl6_2]); (with_reducible repeat (first | apply Kd.S_alloc | apply Kd.S_drewN | apply Kd.S_drew)); exact HO_6.out⟩, ⟨by repeat (first | (with_reducible first | exact HB.out | apply below_alloc | apply pw_below_drewN | apply below_drew1) | exact HB.out)⟩⟩
            case round =>
             clear H'
             try clear c1
             try clear p1
             try clear q1
             try clear hx1
             try clear c2
             try clear p2
             try clear q2
             try clear hx2
             try clear qi2
             try clear hf2
             try clear c3
             try clear q3
             try clear c4
             try clear c4b0
             try clear c4b1
             try clear c5
             try clear c5b0
             try clear c5b1
             try clear p6
             try clear c8
             try clear c8b0
             try clear c9
             try clear c9b0
             try clear c9b1
             try clear c10
             try clear c10b0
             try clear c10b1
             try clear c11
             try clear c11b0
             try clear c12
             try clear c12b0
             try clear p12
             try clear q12
             try clear hx12
             try clear c13
             try clear p13
             try clear q13
             try clear hx13
             try clear hf13
             try clear c16
             try clear hx16
             try clear hf16
             try clear c18
             try clear c18b0
             try clear c19
             try clear c19b0
             try clear c20
             try clear c20b0
             try clear c21
             try clear c21b0
             try clear c22
             try clear c22b0
             try clear p23
             try clear q23
             try clear hx23
             try clear hf23
             try clear c24
             try clear q24
             try clear c26
             try clear c26b0
             try clear c26b1
             try clear c27
             try clear c27b0
             try clear c27b1
             try clear c28
             try clear c28b0
             try clear c28b1
             try clear p29
             try clear q29
             try clear hx29
             try clear qi29
             try clear hf29
             try clear c31
             try clear q31
             try clear c33
             try clear c33b0
             try clear hx123_0
             try clear hx127_0
             try clear hx13_0
             try clear hx16_0
             try clear hx23_0
             try clear hx29_0
             try clear p1
             try clear p12
             try clear p123
             try clear p127
             try clear p13
             try clear p2
             try clear p23
             try clear p29
             try clear p6
             try clear q1
             try clear q12
             try clear q123
             try clear q127
             try clear q13
             try clear q2
             try clear q23
             try clear q24
             try clear q29
             try clear q3
             try clear q31
             obtain ⟨x6_3, x10_3, rfl, HA, HK3, HO_6, HB⟩ := hrel
             have hl6_3 := (Kd.S_reads' HO_6.out).1
             rw [hl6_3] at HO_6
             (try simp only [hl6_3])
             cases gk with
             | zero => exact absurd HA.out (by simp [spec_l01Fewest.l3])
             | succ k3 =>
              have H := HA.out
              clear HA
              simp only [spec_l01Fewest.l3] at H
              by_cases c34 : x10_3 < 4001
              ·rw [if_pos c34] at H
               have c34b0 : decide (x10_3 < 4001) = true := decide_eq_true c34
               clear c34
               replace H := Option.bind_eq_some_iff.mp H
               obtain ⟨t131, A350, H⟩ := H
               replace H : (spec_l01Fewest.l4 k3 l0 a1 4001 x6_3 x9_2 x10_3 t131) = some r := H
               have A35 := Aside0.mk A350
               clear A350
               have H' := Aside0.mk H
               clear H
               go_wp2_with (first | ((with_reducible refine gate_callee (f := 45) rfl ?_); refine goesL_ (some 59) rfl rfl Try.func45 (by kernel_rfl) rfl #[.bool a1] rfl (by (try simp only [List.map_toArray, List.map_cons, List.map_nil]); first | done | rfl | (simp only [List.length_drop, List.length_take]; rfl)) ?_; (with_reducible refine (spec_l01Least.calls a1 t131 _ A35.out).mono ?_); rintro e w' ⟨rfl, ⟨nd, rfl⟩⟩; refine ⟨_, rfl, ?_⟩))
               go_loopg [11] k3 (fun kq v11 w' => ∃ (x6_4 : List (List Int)) (x11_4 : Int), v11 = .int .i64 x11_4 ∧ Aside0 (spec_l01Fewest.l4 kq l0 a1 4001 x6_4 x9_2 x10_3 x11_4 = some r) ∧ Aside0 (kq ≤ k3) ∧ Aside0 (Kd.S (Kd.slice 2 (Kd.int .i64)) 44 w' w.heap.size (fun _ => True) (.slice (some ad127) x6_3.length co30) x6_4) ∧ Aside0 (Below w.heap.size w w'))
               case atStart => exact ⟨(x6_3), (t131), (by first | rfl | (simp; done) | (simp [*]; done)), H', ⟨Nat.le_refl _⟩, ⟨by (try simp only [hl6_2]); (try simp only [hl6_3]); (with_reducible repeat (first | apply Kd.S_alloc | apply Kd.S_drewN | apply Kd.S_drew)); exact HO_6.out⟩, ⟨by repeat (first | (with_reducible first | exact HB.out | apply below_alloc | apply pw_below_drewN | apply below_drew1) | exact HB.out)⟩⟩
               case round =>
                clear H'
                try clear c1
                try clear p1
                try clear q1
                try clear hx1
                try clear c2
                try clear p2
                try clear q2
                try clear hx2
                try clear qi2
                try clear hf2
                try clear c3
                try clear q3
                try clear c4
                try clear c4b0
                try clear c4b1
                try clear c5
                try clear c5b0
                try clear c5b1
                try clear p6
                try clear c8
                try clear c8b0
                try clear c9
                try clear c9b0
                try clear c9b1
                try clear c10
                try clear c10b0
                try clear c10b1
                try clear c11
                try clear c11b0
                try clear c12
                try clear c12b0
                try clear p12
                try clear q12
                try clear hx12
                try clear c13
                try clear p13
                try clear q13
                try clear hx13
                try clear hf13
                try clear c16
                try clear hx16
                try clear hf16
                try clear c18
                try clear c18b0
                try clear c19
                try clear c19b0
                try clear c20
                try clear c20b0
                try clear c21
                try clear c21b0
                try clear c22
                try clear c22b0
                try clear p23
                try clear q23
                try clear hx23
                try clear hf23
                try clear c24
                try clear q24
                try clear c26
                try clear c26b0
                try clear c26b1
                try clear c27
                try clear c27b0
                try clear c27b1
                try clear c28
                try clear c28b0
                try clear c28b1
                try clear p29
                try clear q29
                try clear hx29
                try clear qi29
                try clear hf29
                try clear c31
                try clear q31
                try clear c33
                try clear c33b0
                try clear c34
                try clear c34b0
                try clear hx123_0
                try clear hx127_0
                try clear hx13_0
                try clear hx16_0
                try clear hx23_0
                try clear hx29_0
                try clear p1
                try clear p12
                try clear p123
                try clear p127
                try clear p13
                try clear p2
                try clear p23
                try clear p29
                try clear p6
                try clear q1
                try clear q12
                try clear q123
                try clear q127
                try clear q13
                try clear q2
                try clear q23
                try clear q24
                try clear q29
                try clear q3
                try clear q31
                obtain ⟨x6_4, x11_4, rfl, HA, HK4, HO_6, HB⟩ := hrel
                have hl6_4 := (Kd.S_reads' HO_6.out).1
                rw [hl6_4] at HO_6
                (try simp only [hl6_4])
                cases gk with
                | zero => exact absurd HA.out (by simp [spec_l01Fewest.l4])
                | succ k4 =>
                 have H := HA.out
                 clear HA
                 simp only [spec_l01Fewest.l4] at H
                 by_cases c36 : x11_4 ≤ 1
                 ·rw [if_pos c36] at H
                  have c36b0 : decide (x11_4 ≤ 1) = true := decide_eq_true c36
                  clear c36
                  by_cases c37 : 0 ≤ x9_2
                  ·rw [if_pos c37] at H
                   have c37b0 : decide (0 ≤ x9_2) = true := decide_eq_true c37
                   clear c37
                   by_cases c38 : x9_2 < (l0.length : Int)
                   ·rw [if_pos c38] at H
                    have c38b0 : decide (x9_2 < (l0.length : Int)) = true := decide_eq_true c38
                    clear c38
                    have HC39 := Aside0.mk H
                    clear H
                    have p132 : 0 ≤ (x9_2 : Int) := of_decide_eq_true (by first | (with_reducible assumption) | assumption)
                    have q132 : x9_2 < (l0.length : Int) := of_decide_eq_true (by first | (with_reducible assumption) | assumption)
                    obtain ⟨ad132, e132, hx132_0⟩ := Kd.at_int HR0.out x9_2 p132 q132
                    cases e132
                    replace hx132_0 := (HB.out.cell (World.block_lt_of_cell? w _ hx132_0)).trans hx132_0
                    replace p132 := eq_true p132
                    replace q132 := eq_true q132
                    go_upto_region 22 with (fail)
                    go_cut [88] (fun v88 wc => ∃ (kq : Nat) (x88_38 : Bool), v88 = .bool x88_38 ∧ Aside0 (spec_l01Fewest.j5 kq l0 a1 4001 x6_4 x9_2 x10_3 x11_4 (wrap64 (x10_3 - (wrap64 (x11_4 * (wrap64 (rd l0 x9_2)))))) x88_38 = some r) ∧ Aside0 (kq ≤ k4) ∧ Aside0 (Kd.S (Kd.slice 2 (Kd.int .i64)) 44 wc w.heap.size (fun _ => True) (.slice (some ad127) x6_4.length co30) x6_4) ∧ Aside0 (Below w.heap.size w wc))
                    case first =>
                     have H := HC39.out
                     clear HC39
                     replace H := Option.bind_eq_some_iff.mp H
                     obtain ⟨t133, A400, H⟩ := H
                     replace H : (if t133 = true then (if 0 ≤ (wrap64 (x9_2 + 1)) then (if (wrap64 (x9_2 + 1)) < (x6_4.length : Int) then (if 0 ≤ (wrap64 (x10_3 - (wrap64 (x11_4 * (wrap64 (rd l0 x9_2)))))) then (if (wrap64 (x10_3 - (wrap64 (x11_4 * (wrap64 (rd l0 x9_2)))))) < ((rd_L2 x6_4 (wrap64 (x9_2 + 1))).length : Int) then (spec_l01Fewest.j5 k4 l0 a1 4001 x6_4 x9_2 x10_3 x11_4 (wrap64 (x10_3 - (wrap64 (x11_4 * (wrap64 (rd l0 x9_2)))))) (decide ((rd (rd_L2 x6_4 (wrap64 (x9_2 + 1))) (wrap64 (x10_3 - (wrap64 (x11_4 * (wrap64 (rd l0 x9_2))))))) < 0))) else (none)) else (none)) else (none)) else (none)) else (spec_l01Fewest.j5 k4 l0 a1 4001 x6_4 x9_2 x10_3 x11_4 (wrap64 (x10_3 - (wrap64 (x11_4 * (wrap64 (rd l0 x9_2)))))) true)) = some r := H
                     have A40 := Aside0.mk (by rw [show wrap64 (4001 - 1) = 4000 from by (unfold wrap64; omega)] at A400; exact A400)
                     clear A400
                     by_cases c41 : t133 = true
                     ·subst c41
                      have H1 : (if 0 ≤ (wrap64 (x9_2 + 1)) then (if (wrap64 (x9_2 + 1)) < (x6_4.length : Int) then (if 0 ≤ (wrap64 (x10_3 - (wrap64 (x11_4 * (wrap64 (rd l0 x9_2)))))) then (if (wrap64 (x10_3 - (wrap64 (x11_4 * (wrap64 (rd l0 x9_2)))))) < ((rd_L2 x6_4 (wrap64 (x9_2 + 1))).length : Int) then (spec_l01Fewest.j5 k4 l0 a1 4001 x6_4 x9_2 x10_3 x11_4 (wrap64 (x10_3 - (wrap64 (x11_4 * (wrap64 (rd l0 x9_2)))))) (decide ((rd (rd_L2 x6_4 (wrap64 (x9_2 + 1))) (wrap64 (x10_3 - (wrap64 (x11_4 * (wrap64 (rd l0 x9_2))))))) < 0))) else (none)) else (none)) else (none)) else (none)) = some r := by rw [if_pos rfl] at H; exact H
                      clear H
                      have H := H1
                      clear H1
                      obtain ⟨ji42, hji42⟩ : ∃ j_ : Int, (wrap64 (x9_2 + 1)) = j_ := ⟨_, rfl⟩
                      replace H : (if 0 ≤ (ji42) then (if (ji42) < (x6_4.length : Int) then (if 0 ≤ (wrap64 (x10_3 - (wrap64 (x11_4 * (wrap64 (rd l0 x9_2)))))) then (if (wrap64 (x10_3 - (wrap64 (x11_4 * (wrap64 (rd l0 x9_2)))))) < ((rd_L2 x6_4 (ji42)).length : Int) then (spec_l01Fewest.j5 k4 l0 a1 4001 x6_4 x9_2 x10_3 x11_4 (wrap64 (x10_3 - (wrap64 (x11_4 * (wrap64 (rd l0 x9_2)))))) (decide ((rd (rd_L2 x6_4 (ji42)) (wrap64 (x10_3 - (wrap64 (x11_4 * (wrap64 (rd l0 x9_2))))))) < 0))) else (none)) else (none)) else (none)) else (none)) = some r := by first | (rw [hji42] at H; exact H) | (simp only [hji42] at H ⊢; exact H)
                      (try rw [hji42] at A40)
                      have hji42w : (IntKind.i64.wrap (x9_2 + 1)) = ji42 := (i64_w _).trans hji42
                      by_cases c43 : 0 ≤ (ji42)
                      ·rw [if_pos c43] at H
                       have c43b0 : decide (0 ≤ (ji42)) = true := decide_eq_true c43
                       clear c43
                       (first | rw [c43b0] | (simp only [i64_w, i32_w]; rw [c43b0]) | skip)
                       by_cases c44 : (ji42) < (x6_4.length : Int)
                       ·rw [if_pos c44] at H
                        have c44b0 : decide ((ji42) < (x6_4.length : Int)) = true := decide_eq_true c44
                        clear c44
                        obtain ⟨ji45, hji45⟩ : ∃ j_ : Int, (wrap64 (x10_3 - (wrap64 (x11_4 * (wrap64 (rd l0 x9_2)))))) = j_ := ⟨_, rfl⟩
                        replace H : (if 0 ≤ (ji45) then (if (ji45) < ((rd_L2 x6_4 (ji42)).length : Int) then (spec_l01Fewest.j5 k4 l0 a1 4001 x6_4 x9_2 x10_3 x11_4 ji45 (decide ((rd (rd_L2 x6_4 (ji42)) (ji45)) < 0))) else (none)) else (none)) = some r := by first | (rw [hji45] at H; exact H) | (simp only [hji45] at H ⊢; exact H)
                        (try rw [hji45] at A40)
                        have hji45w : (IntKind.i64.wrap (x10_3 - (wrap64 (x11_4 * (wrap64 (rd l0 x9_2)))))) = ji45 := (i64_w _).trans hji45
                        by_cases c46 : 0 ≤ (ji45)
                        ·rw [if_pos c46] at H
                         have c46b0 : decide (0 ≤ (ji45)) = true := decide_eq_true c46
                         clear c46
                         by_cases c47 : (ji45) < ((rd_L2 x6_4 (ji42)).length : Int)
                         ·rw [if_pos c47] at H
                          have c47b0 : decide ((ji45) < ((rd_L2 x6_4 (ji42)).length : Int)) = true := decide_eq_true c47
                          clear c47
                          have H' := Aside0.mk H
                          clear H
                          go_wp2_with (first | ((with_reducible refine gate_callee (f := 46) rfl ?_); refine goesL_ (some 76) rfl rfl Try.func46 (by kernel_rfl) rfl #[.int .i64 ji45, .int .i64 0, .int .i64 4000] rfl (by (try simp only [List.map_toArray, List.map_cons, List.map_nil]); first | done | (simp only [hji45]; rfl) | rfl | (simp only [List.length_drop, List.length_take]; rfl)) ?_; (with_reducible refine (spec_l00In.calls ji45 0 4000 true _ A40.out).mono ?_); rintro e w' ⟨rfl, ⟨nd, rfl⟩⟩; refine ⟨_, rfl, ?_⟩; have p134 : 0 ≤ ((ji42) : Int) := of_decide_eq_true (by first | (with_reducible assumption) | assumption); have q134 : (ji42) < (x6_4.length : Int) := of_decide_eq_true (by first | (with_reducible assumption) | assumption); obtain ⟨ad134, A134_0, c134_0, e134, hx134_0, hl134_0, hi134_0⟩ := at_L2 (Kd.S_reads' HO_6.out).2.2 (ji42) p134 q134; obtain rfl : ad127 = ad134 := (by injection e134); obtain ⟨ce134, hce134, hMe134, hcc134⟩ := Kd.S_get HO_6.out [] (ji42) p134 (by first | exact q134 | exact of_decide_eq_true (by first | (with_reducible assumption) | assumption) | (have e_ := (Kd.S_reads' HO_6.out).1; omega)); obtain ⟨ve134_0, rfl, ge134_0⟩ := hMe134; have hv134_0 := hcc134 0 _ rfl; rw [Nat.add_zero, show ((Kd.slice 2 (Kd.int .i64))).sz = 1 from rfl, Nat.mul_one] at hv134_0; replace hv134_0 := Option.some.inj (hv134_0.symm.trans hx134_0); rw [hv134_0] at ge134_0; have HL134_0 := Aside0.mk (show Kd.R (Kd.int .i64) 2 _ _ _ _ (rd_L2 x6_4 (ji42)) from ge134_0); clear hv134_0 ge134_0; have HX134_0 := Aside0.mk hx134_0; clear hcc134 hce134; have HR134_0 := Aside0.mk hi134_0; have HC134_0 := Aside0.mk hl134_0; clear hi134_0 hl134_0; replace p134 := eq_true p134; replace q134 := eq_true q134; have p135 : 0 ≤ ((ji45) : Int) := of_decide_eq_true (by first | (with_reducible assumption) | assumption); have q135 : (ji45) < ((rd_L2 x6_4 (ji42)).length : Int) := of_decide_eq_true (by first | (with_reducible assumption) | assumption); obtain ⟨ad135, e135, hx135_0⟩ := Kd.at_int (by repeat (first | (with_reducible exact HR134_0.out) | (with_reducible refine Kd.C_alloc ?_ _) | (with_reducible refine Kd.C_drewN ?_ _) | (with_reducible refine Kd.C_drew ?_) | exact HR134_0.out)) (ji45) p135 q135; cases e135; replace p135 := eq_true p135; replace q135 := eq_true q135))
                          rw [← hji45]
                          go_meet
                          case rel => exact ⟨_, (decide ((rd (rd_L2 x6_4 (ji42)) (ji45)) < 0)), (by first | rfl | (simp; done) | (simp only [← hji42, ← hji45] <;> (first | rfl | simp)) | (simp [*]; done)), (by rw [hji45]; exact H'), ⟨by have := HK1.out; have := HK2.out; have := HK3.out; have := HK4.out; first | omega | exact Nat.le_refl _⟩, ⟨by (try simp only [hl6_2]); (try simp only [hl6_3]); (try simp only [hl6_4]); (with_reducible repeat (first | apply Kd.S_alloc | apply Kd.S_drewN | apply Kd.S_drew)); exact HO_6.out⟩, ⟨by repeat (first | (with_reducible first | exact HB.out | apply below_alloc | apply pw_below_drewN | apply below_drew1) | exact HB.out)⟩⟩
                         ·rw [if_neg c47] at H
                          exact absurd H (by simp)
                        ·rw [if_neg c46] at H
                         exact absurd H (by simp)
                       ·rw [if_neg c44] at H
                        exact absurd H (by simp)
                      ·rw [if_neg c43] at H
                       exact absurd H (by simp)
                     ·replace c41 := Bool.eq_false_iff.mpr c41
                      subst c41
                      have H1 : (spec_l01Fewest.j5 k4 l0 a1 4001 x6_4 x9_2 x10_3 x11_4 (wrap64 (x10_3 - (wrap64 (x11_4 * (wrap64 (rd l0 x9_2)))))) true) = some r := by rw [if_neg (show ¬ (false = true) by decide)] at H; exact H
                      clear H
                      have H := H1
                      clear H1
                      have H' := Aside0.mk H
                      clear H
                      go_wp2_with (first | ((with_reducible refine gate_callee (f := 46) rfl ?_); refine goesL_ (some 76) rfl rfl Try.func46 (by kernel_rfl) rfl #[.int .i64 (wrap64 (x10_3 - (wrap64 (x11_4 * (wrap64 (rd l0 x9_2)))))), .int .i64 0, .int .i64 4000] rfl (by (try simp only [List.map_toArray, List.map_cons, List.map_nil]); first | done | rfl | (simp only [List.length_drop, List.length_take]; rfl)) ?_; (with_reducible refine (spec_l00In.calls (wrap64 (x10_3 - (wrap64 (x11_4 * (wrap64 (rd l0 x9_2)))))) 0 4000 false _ A40.out).mono ?_); rintro e w' ⟨rfl, ⟨nd, rfl⟩⟩; refine ⟨_, rfl, ?_⟩))
                      go_meet
                      case rel => exact ⟨_, (true), (by first | rfl | (simp; done) | (simp [*]; done)), H', ⟨by have := HK1.out; have := HK2.out; have := HK3.out; have := HK4.out; first | omega | exact Nat.le_refl _⟩, ⟨by (try simp only [hl6_2]); (try simp only [hl6_3]); (try simp only [hl6_4]); (with_reducible repeat (first | apply Kd.S_alloc | apply Kd.S_drewN | apply Kd.S_drew)); exact HO_6.out⟩, ⟨by repeat (first | (with_reducible first | exact HB.out | apply below_alloc | apply pw_below_drewN | apply below_drew1) | exact HB.out)⟩⟩
                    case rest =>
                     clear HC39
                     try clear c1
                     try clear p1
                     try clear q1
                     try clear hx1
                     try clear c2
                     try clear p2
                     try clear q2
                     try clear hx2
                     try clear qi2
                     try clear hf2
                     try clear c3
                     try clear q3
                     try clear c4
                     try clear c4b0
                     try clear c4b1
                     try clear c5
                     try clear c5b0
                     try clear c5b1
                     try clear p6
                     try clear c8
                     try clear c8b0
                     try clear c9
                     try clear c9b0
                     try clear c9b1
                     try clear c10
                     try clear c10b0
                     try clear c10b1
                     try clear c11
                     try clear c11b0
                     try clear c12
                     try clear c12b0
                     try clear p12
                     try clear q12
                     try clear hx12
                     try clear c13
                     try clear p13
                     try clear q13
                     try clear hx13
                     try clear hf13
                     try clear c16
                     try clear hx16
                     try clear hf16
                     try clear c18
                     try clear c18b0
                     try clear c19
                     try clear c19b0
                     try clear c20
                     try clear c20b0
                     try clear c21
                     try clear c21b0
                     try clear c22
                     try clear c22b0
                     try clear p23
                     try clear q23
                     try clear hx23
                     try clear hf23
                     try clear c24
                     try clear q24
                     try clear c26
                     try clear c26b0
                     try clear c26b1
                     try clear c27
                     try clear c27b0
                     try clear c27b1
                     try clear c28
                     try clear c28b0
                     try clear c28b1
                     try clear p29
                     try clear q29
                     try clear hx29
                     try clear qi29
                     try clear hf29
                     try clear c31
                     try clear q31
                     try clear c33
                     try clear c33b0
                     try clear c34
                     try clear c34b0
                     try clear c36
                     try clear c36b0
                     try clear c37
                     try clear c37b0
                     try clear c38
                     try clear c38b0
                     try clear c41
                     try clear c43
                     try clear c43b0
                     try clear c44
                     try clear c44b0
                     try clear c45
                     try clear c46
                     try clear c46b0
                     try clear c47
                     try clear c47b0
                     try clear hx123_0
                     try clear hx127_0
                     try clear hx132_0
                     try clear hx134_0
                     try clear hx135_0
                     try clear hx13_0
                     try clear hx16_0
                     try clear hx23_0
                     try clear hx29_0
                     try clear p1
                     try clear p12
                     try clear p123
                     try clear p127
                     try clear p13
                     try clear p132
                     try clear p134
                     try clear p135
                     try clear p2
                     try clear p23
                     try clear p29
                     try clear p6
                     try clear q1
                     try clear q12
                     try clear q123
                     try clear q127
                     try clear q13
                     try clear q132
                     try clear q134
                     try clear q135
                     try clear q2
                     try clear q23
                     try clear q24
                     try clear q29
                     try clear q3
                     try clear q31
                     obtain ⟨kq, x88_38, rfl, HA, HJ38, HO_6, HB⟩ := hcut
                     cases kq with
                     | zero => exact absurd HA.out (by simp [spec_l01Fewest.j5])
                     | succ kj38 =>
                      have H := HA.out
                      clear HA
                      simp only [spec_l01Fewest.j5] at H
                      by_cases c48 : x88_38 = true
                      ·subst c48
                       have H1 : (spec_l01Fewest.l4 kj38 l0 a1 4001 x6_4 x9_2 x10_3 (wrap64 (x11_4 + 1))) = some r := by rw [if_pos rfl] at H; exact H
                       clear H
                       have H := H1
                       clear H1
                       have H' := Aside0.mk H
                       clear H
                       go_wp2
                       (try simp only [← hl6_4])
                       go_roundg kj38
                       case measure => have := HK1.out; have := HK2.out; have := HK3.out; have := HK4.out; have := HJ38.out; omega
                       case rel => exact ⟨(x6_4), (wrap64 (x11_4 + 1)), (by first | rfl | (simp; done) | (simp [*]; done)), H', ⟨by have := HK1.out; have := HK2.out; have := HK3.out; have := HK4.out; have := HJ38.out; omega⟩, ⟨by (try simp only [hl6_2]); (try simp only [hl6_3]); (try simp only [hl6_4]); (with_reducible repeat (first | apply Kd.S_alloc | apply Kd.S_drewN | apply Kd.S_drew)); exact HO_6.out⟩, ⟨by repeat (first | (with_reducible first | exact HB.out | apply below_alloc | apply pw_below_drewN | apply below_drew1) | exact HB.out)⟩⟩
                      ·replace c48 := Bool.eq_false_iff.mpr c48
                       subst c48
                       have H1 : (if 0 ≤ (wrap64 (x9_2 + 1)) then (if (wrap64 (x9_2 + 1)) < (x6_4.length : Int) then (if 0 ≤ (wrap64 (x10_3 - (wrap64 (x11_4 * (wrap64 (rd l0 x9_2)))))) then (if (wrap64 (x10_3 - (wrap64 (x11_4 * (wrap64 (rd l0 x9_2)))))) < ((rd_L2 x6_4 (wrap64 (x9_2 + 1))).length : Int) then (if 0 ≤ x9_2 then (if x9_2 < (x6_4.length : Int) then (if 0 ≤ x10_3 then (if x10_3 < ((rd_L2 x6_4 x9_2).length : Int) then (if (rd (rd_L2 x6_4 x9_2) x10_3) < 0 then (spec_l01Fewest.l4 kj38 l0 a1 4001 (x6_4.set (x9_2 : Int).toNat ((rd_L2 x6_4 x9_2).set (x10_3 : Int).toNat (wrap64 ((rd (rd_L2 x6_4 (wrap64 (x9_2 + 1))) (wrap64 (x10_3 - (wrap64 (x11_4 * (wrap64 (rd l0 x9_2))))))) + (wrap64 (x11_4 * x11_4)))))) x9_2 x10_3 (wrap64 (x11_4 + 1))) else (if (wrap64 ((rd (rd_L2 x6_4 (wrap64 (x9_2 + 1))) (wrap64 (x10_3 - (wrap64 (x11_4 * (wrap64 (rd l0 x9_2))))))) + (wrap64 (x11_4 * x11_4)))) < (rd (rd_L2 x6_4 x9_2) x10_3) then (spec_l01Fewest.l4 kj38 l0 a1 4001 (x6_4.set (x9_2 : Int).toNat ((rd_L2 x6_4 x9_2).set (x10_3 : Int).toNat (wrap64 ((rd (rd_L2 x6_4 (wrap64 (x9_2 + 1))) (wrap64 (x10_3 - (wrap64 (x11_4 * (wrap64 (rd l0 x9_2))))))) + (wrap64 (x11_4 * x11_4)))))) x9_2 x10_3 (wrap64 (x11_4 + 1))) else (spec_l01Fewest.l4 kj38 l0 a1 4001 x6_4 x9_2 x10_3 (wrap64 (x11_4 + 1))))) else (none)) else (none)) else (none)) else (none)) else (none)) else (none)) else (none)) else (none)) = some r := by rw [if_neg (show ¬ (false = true) by decide)] at H; exact H
                       clear H
                       have H := H1
                       clear H1
                       obtain ⟨ji49, hji49⟩ : ∃ j_ : Int, (wrap64 (x9_2 + 1)) = j_ := ⟨_, rfl⟩
                       replace H : (if 0 ≤ (ji49) then (if (ji49) < (x6_4.length : Int) then (if 0 ≤ (wrap64 (x10_3 - (wrap64 (x11_4 * (wrap64 (rd l0 x9_2)))))) then (if (wrap64 (x10_3 - (wrap64 (x11_4 * (wrap64 (rd l0 x9_2)))))) < ((rd_L2 x6_4 (ji49)).length : Int) then (if 0 ≤ x9_2 then (if x9_2 < (x6_4.length : Int) then (if 0 ≤ x10_3 then (if x10_3 < ((rd_L2 x6_4 x9_2).length : Int) then (if (rd (rd_L2 x6_4 x9_2) x10_3) < 0 then (spec_l01Fewest.l4 kj38 l0 a1 4001 (x6_4.set (x9_2 : Int).toNat ((rd_L2 x6_4 x9_2).set (x10_3 : Int).toNat (wrap64 ((rd (rd_L2 x6_4 (ji49)) (wrap64 (x10_3 - (wrap64 (x11_4 * (wrap64 (rd l0 x9_2))))))) + (wrap64 (x11_4 * x11_4)))))) x9_2 x10_3 (wrap64 (x11_4 + 1))) else (if (wrap64 ((rd (rd_L2 x6_4 (ji49)) (wrap64 (x10_3 - (wrap64 (x11_4 * (wrap64 (rd l0 x9_2))))))) + (wrap64 (x11_4 * x11_4)))) < (rd (rd_L2 x6_4 x9_2) x10_3) then (spec_l01Fewest.l4 kj38 l0 a1 4001 (x6_4.set (x9_2 : Int).toNat ((rd_L2 x6_4 x9_2).set (x10_3 : Int).toNat (wrap64 ((rd (rd_L2 x6_4 (ji49)) (wrap64 (x10_3 - (wrap64 (x11_4 * (wrap64 (rd l0 x9_2))))))) + (wrap64 (x11_4 * x11_4)))))) x9_2 x10_3 (wrap64 (x11_4 + 1))) else (spec_l01Fewest.l4 kj38 l0 a1 4001 x6_4 x9_2 x10_3 (wrap64 (x11_4 + 1))))) else (none)) else (none)) else (none)) else (none)) else (none)) else (none)) else (none)) else (none)) = some r := by first | (rw [hji49] at H; exact H) | (simp only [hji49] at H ⊢; exact H)
                       have hji49w : (IntKind.i64.wrap (x9_2 + 1)) = ji49 := (i64_w _).trans hji49
                       by_cases c50 : 0 ≤ (ji49)
                       ·rw [if_pos c50] at H
                        have c50b0 : decide (0 ≤ (ji49)) = true := decide_eq_true c50
                        clear c50
                        by_cases c51 : (ji49) < (x6_4.length : Int)
                        ·rw [if_pos c51] at H
                         have c51b0 : decide ((ji49) < (x6_4.length : Int)) = true := decide_eq_true c51
                         clear c51
                         obtain ⟨ji52, hji52⟩ : ∃ j_ : Int, (wrap64 (x10_3 - (wrap64 (x11_4 * (wrap64 (rd l0 x9_2)))))) = j_ := ⟨_, rfl⟩
                         replace H : (if 0 ≤ (ji52) then (if (ji52) < ((rd_L2 x6_4 (ji49)).length : Int) then (if 0 ≤ x9_2 then (if x9_2 < (x6_4.length : Int) then (if 0 ≤ x10_3 then (if x10_3 < ((rd_L2 x6_4 x9_2).length : Int) then (if (rd (rd_L2 x6_4 x9_2) x10_3) < 0 then (spec_l01Fewest.l4 kj38 l0 a1 4001 (x6_4.set (x9_2 : Int).toNat ((rd_L2 x6_4 x9_2).set (x10_3 : Int).toNat (wrap64 ((rd (rd_L2 x6_4 (ji49)) (ji52)) + (wrap64 (x11_4 * x11_4)))))) x9_2 x10_3 (wrap64 (x11_4 + 1))) else (if (wrap64 ((rd (rd_L2 x6_4 (ji49)) (ji52)) + (wrap64 (x11_4 * x11_4)))) < (rd (rd_L2 x6_4 x9_2) x10_3) then (spec_l01Fewest.l4 kj38 l0 a1 4001 (x6_4.set (x9_2 : Int).toNat ((rd_L2 x6_4 x9_2).set (x10_3 : Int).toNat (wrap64 ((rd (rd_L2 x6_4 (ji49)) (ji52)) + (wrap64 (x11_4 * x11_4)))))) x9_2 x10_3 (wrap64 (x11_4 + 1))) else (spec_l01Fewest.l4 kj38 l0 a1 4001 x6_4 x9_2 x10_3 (wrap64 (x11_4 + 1))))) else (none)) else (none)) else (none)) else (none)) else (none)) else (none)) = some r := by first | (rw [hji52] at H; exact H) | (simp only [hji52] at H ⊢; exact H)
                         have hji52w : (IntKind.i64.wrap (x10_3 - (wrap64 (x11_4 * (wrap64 (rd l0 x9_2)))))) = ji52 := (i64_w _).trans hji52
                         by_cases c53 : 0 ≤ (ji52)
                         ·rw [if_pos c53] at H
                          have c53b0 : decide (0 ≤ (ji52)) = true := decide_eq_true c53
                          clear c53
                          by_cases c54 : (ji52) < ((rd_L2 x6_4 (ji49)).length : Int)
                          ·rw [if_pos c54] at H
                           have c54b0 : decide ((ji52) < ((rd_L2 x6_4 (ji49)).length : Int)) = true := decide_eq_true c54
                           clear c54
                           by_cases c55 : 0 ≤ x9_2
                           ·rw [if_pos c55] at H
                            have c55b0 : decide (0 ≤ x9_2) = true := decide_eq_true c55
                            clear c55
                            by_cases c56 : x9_2 < (x6_4.length : Int)
                            ·rw [if_pos c56] at H
                             have c56b0 : decide (x9_2 < (x6_4.length : Int)) = true := decide_eq_true c56
                             clear c56
                             by_cases c57 : 0 ≤ x10_3
                             ·rw [if_pos c57] at H
                              have c57b0 : decide (0 ≤ x10_3) = true := decide_eq_true c57
                              clear c57
                              by_cases c58 : x10_3 < ((rd_L2 x6_4 x9_2).length : Int)
                              ·rw [if_pos c58] at H
                               have c58b0 : decide (x10_3 < ((rd_L2 x6_4 x9_2).length : Int)) = true := decide_eq_true c58
                               clear c58
                               by_cases c59 : (rd (rd_L2 x6_4 x9_2) x10_3) < 0
                               ·rw [if_pos c59] at H
                                have c59b0 : decide ((rd (rd_L2 x6_4 x9_2) x10_3) < 0) = true := decide_eq_true c59
                                clear c59
                                obtain ⟨y141, hy141⟩ : ∃ y_ : List Int, y_ = ((rd_L2 x6_4 x9_2).set (x10_3 : Int).toNat (wrap64 ((rd (rd_L2 x6_4 (ji49)) (ji52)) + (wrap64 (x11_4 * x11_4))))) := ⟨_, rfl⟩
                                replace H : (spec_l01Fewest.l4 kj38 l0 a1 4001 (x6_4.set (x9_2 : Int).toNat y141) x9_2 x10_3 (wrap64 (x11_4 + 1))) = some r := by first | (rw [hy141]; with_reducible exact H) | (have H2_ := (Option.bind_some _ _).symm.trans H; rw [hy141]; with_reducible exact H2_) | (have H2_ := (Option.bind_some _ _).symm.trans H; with_reducible exact H2_) | with_reducible exact H | (rw [hy141]; exact H) | exact H
                                have Ny141 := Aside0.mk hy141
                                clear hy141
                                obtain ⟨y143, hy143⟩ : ∃ y_ : List (List Int), y_ = (x6_4.set (x9_2 : Int).toNat y141) := ⟨_, rfl⟩
                                replace H : (spec_l01Fewest.l4 kj38 l0 a1 4001 y143 x9_2 x10_3 (wrap64 (x11_4 + 1))) = some r := by first | (rw [hy143]; with_reducible exact H) | (have H2_ := (Option.bind_some _ _).symm.trans H; rw [hy143]; with_reducible exact H2_) | (have H2_ := (Option.bind_some _ _).symm.trans H; with_reducible exact H2_) | with_reducible exact H | (rw [hy143]; exact H) | exact H
                                have Ny143 := Aside0.mk hy143
                                clear hy143
                                have H' := Aside0.mk H
                                clear H
                                have p136 : 0 ≤ ((ji49) : Int) := of_decide_eq_true (by first | (with_reducible assumption) | assumption)
                                have q136 : (ji49) < (x6_4.length : Int) := of_decide_eq_true (by first | (with_reducible assumption) | assumption)
                                obtain ⟨ad136, A136_0, c136_0, e136, hx136_0, hl136_0, hi136_0⟩ := at_L2 (Kd.S_reads' HO_6.out).2.2 (ji49) p136 q136
                                obtain rfl : ad127 = ad136 := (by injection e136)
                                obtain ⟨ce136, hce136, hMe136, hcc136⟩ := Kd.S_get HO_6.out [] (ji49) p136 (by first | exact q136 | exact of_decide_eq_true (by first | (with_reducible assumption) | assumption) | (have e_ := (Kd.S_reads' HO_6.out).1; omega))
                                obtain ⟨ve136_0, rfl, ge136_0⟩ := hMe136
                                have hv136_0 := hcc136 0 _ rfl
                                rw [Nat.add_zero, show ((Kd.slice 2 (Kd.int .i64))).sz = 1 from rfl, Nat.mul_one] at hv136_0
                                replace hv136_0 := Option.some.inj (hv136_0.symm.trans hx136_0)
                                rw [hv136_0] at ge136_0
                                have HL136_0 := Aside0.mk (show Kd.R (Kd.int .i64) 2 _ _ _ _ (rd_L2 x6_4 (ji49)) from ge136_0)
                                clear hv136_0 ge136_0
                                have HX136_0 := Aside0.mk hx136_0
                                clear hcc136 hce136
                                have HR136_0 := Aside0.mk hi136_0
                                have HC136_0 := Aside0.mk hl136_0
                                clear hi136_0 hl136_0
                                replace p136 := eq_true p136
                                replace q136 := eq_true q136
                                have p137 : 0 ≤ ((ji52) : Int) := of_decide_eq_true (by first | (with_reducible assumption) | assumption)
                                have q137 : (ji52) < ((rd_L2 x6_4 (ji49)).length : Int) := of_decide_eq_true (by first | (with_reducible assumption) | assumption)
                                obtain ⟨ad137, e137, hx137_0⟩ := Kd.at_int (by repeat (first | (with_reducible exact HR136_0.out) | (with_reducible refine Kd.C_alloc ?_ _) | (with_reducible refine Kd.C_drewN ?_ _) | (with_reducible refine Kd.C_drew ?_) | exact HR136_0.out)) (ji52) p137 q137
                                cases e137
                                replace p137 := eq_true p137
                                replace q137 := eq_true q137
                                have p138 : 0 ≤ (x9_2 : Int) := of_decide_eq_true (by first | (with_reducible assumption) | assumption)
                                have q138 : x9_2 < (x6_4.length : Int) := of_decide_eq_true (by first | (with_reducible assumption) | assumption)
                                obtain ⟨ad138, A138_0, c138_0, e138, hx138_0, hl138_0, hi138_0⟩ := at_L2 (Kd.S_reads' HO_6.out).2.2 x9_2 p138 q138
                                obtain rfl : ad127 = ad138 := (by injection e138)
                                obtain ⟨ce138, hce138, hMe138, hcc138⟩ := Kd.S_get HO_6.out [] x9_2 p138 (by first | exact q138 | exact of_decide_eq_true (by first | (with_reducible assumption) | assumption) | (have e_ := (Kd.S_reads' HO_6.out).1; omega))
                                obtain ⟨ve138_0, rfl, ge138_0⟩ := hMe138
                                have hv138_0 := hcc138 0 _ rfl
                                rw [Nat.add_zero, show ((Kd.slice 2 (Kd.int .i64))).sz = 1 from rfl, Nat.mul_one] at hv138_0
                                replace hv138_0 := Option.some.inj (hv138_0.symm.trans hx138_0)
                                rw [hv138_0] at ge138_0
                                have HL138_0 := Aside0.mk (show Kd.R (Kd.int .i64) 2 _ _ _ _ (rd_L2 x6_4 x9_2) from ge138_0)
                                clear hv138_0 ge138_0
                                have HX138_0 := Aside0.mk hx138_0
                                clear hcc138 hce138
                                have HR138_0 := Aside0.mk hi138_0
                                have HC138_0 := Aside0.mk hl138_0
                                clear hi138_0 hl138_0
                                replace p138 := eq_true p138
                                replace q138 := eq_true q138
                                have p139 : 0 ≤ (x10_3 : Int) := of_decide_eq_true (by first | (with_reducible assumption) | assumption)
                                have q139 : x10_3 < ((rd_L2 x6_4 x9_2).length : Int) := of_decide_eq_true (by first | (with_reducible assumption) | assumption)
                                obtain ⟨ad139, e139, hx139_0⟩ := Kd.at_int (by repeat (first | (with_reducible exact HR138_0.out) | (with_reducible refine Kd.C_alloc ?_ _) | (with_reducible refine Kd.C_drewN ?_ _) | (with_reducible refine Kd.C_drew ?_) | exact HR138_0.out)) x10_3 p139 q139
                                cases e139
                                replace p139 := eq_true p139
                                replace q139 := eq_true q139
                                have p140 : 0 ≤ (x9_2 : Int) := of_decide_eq_true (by first | (with_reducible assumption) | assumption)
                                have q140 : x9_2 < (x6_4.length : Int) := of_decide_eq_true (by first | (with_reducible assumption) | assumption)
                                obtain ⟨ad140, A140_0, c140_0, e140, hx140_0, hl140_0, hi140_0⟩ := at_L2 (Kd.S_reads' HO_6.out).2.2 x9_2 p140 q140
                                obtain rfl : ad127 = ad140 := (by injection e140)
                                obtain ⟨ce140, hce140, hMe140, hcc140⟩ := Kd.S_get HO_6.out [] x9_2 p140 (by first | exact q140 | exact of_decide_eq_true (by first | (with_reducible assumption) | assumption) | (have e_ := (Kd.S_reads' HO_6.out).1; omega))
                                obtain ⟨ve140_0, rfl, ge140_0⟩ := hMe140
                                have hv140_0 := hcc140 0 _ rfl
                                rw [Nat.add_zero, show ((Kd.slice 2 (Kd.int .i64))).sz = 1 from rfl, Nat.mul_one] at hv140_0
                                replace hv140_0 := Option.some.inj (hv140_0.symm.trans hx140_0)
                                rw [hv140_0] at ge140_0
                                have HL140_0 := Aside0.mk (show Kd.R (Kd.int .i64) 2 _ _ _ _ (rd_L2 x6_4 x9_2) from ge140_0)
                                clear hv140_0 ge140_0
                                have HX140_0 := Aside0.mk hx140_0
                                clear hcc140 hce140
                                have HR140_0 := Aside0.mk hi140_0
                                have HC140_0 := Aside0.mk hl140_0
                                clear hi140_0 hl140_0
                                replace p140 := eq_true p140
                                replace q140 := eq_true q140
                                have ea_ := Option.some.inj (hx138_0.symm.trans hx140_0)
                                injection ea_ with ea_ en_ ec_
                                subst ea_
                                subst ec_
                                clear en_
                                have p60 : 0 ≤ (x10_3 : Int) := of_decide_eq_true (by first | (with_reducible assumption) | assumption)
                                have q60 : (x10_3 : Int) < (((rd_L2 x6_4 x9_2).length : Int) : Int) := of_decide_eq_true (by first | (with_reducible assumption) | assumption)
                                obtain ⟨go60, co60, eo60, gb60, gl60, cl60, HG60⟩ := Kd.R_form HL140_0.out (by omega)
                                (first | cases eo60 | (injection eo60 with ea_ en_ ec_; (first | subst ea_ | (injection ea_ with ea_; subst ea_)); subst ec_; clear en_))
                                have GB60 := Aside0.mk gb60
                                have GG60 := Aside0.mk HG60
                                clear gb60 gl60 HG60
                                (first | simp only [add_plain] at hx139_0 | skip)
                                obtain ⟨hx60_0, hf60_0⟩ := Kd.R_celln 0 HL140_0.out (x10_3 : Int) p60 q60
                                replace p60 := eq_true p60
                                replace q60 := eq_true q60
                                have hq61 : (x9_2 : Int) < (x6_4.length : Int) := (by have h_ : (x9_2 : Int) < ((x6_4.length : Int) : Int) := of_decide_eq_true (by first | (with_reducible assumption) | assumption); first | exact h_ | (have e_ := (Kd.S_reads' HO_6.out).1; omega) | simpa only [List.length_set, List.length_set] using h_)
                                obtain ⟨oki61, ce61, hcl61, hM61, hcc61, hok61, hbk61⟩ := Kd.S_borrow HO_6.out [] (x9_2 : Int) (of_decide_eq_true (by first | (with_reducible assumption) | assumption)) hq61
                                obtain ⟨ve61_0, rfl, ge61_0⟩ := hM61
                                have hv61 := hcc61 0 _ rfl
                                rw [Nat.add_zero, show ((Kd.slice 2 (Kd.int .i64))).sz = 1 from rfl, Nat.mul_one] at hv61
                                replace hv61 := Option.some.inj (hv61.symm.trans HX140_0.out)
                                subst hv61
                                clear hcc61 hcl61
                                replace ge61_0 := (show Kd.R (Kd.int .i64) 2 _ _ _ _ (rd_L2 x6_4 x9_2) from ge61_0)
                                have HP61 := Kd.R_putg ge61_0 (x10_3 : Int) (wrap64 ((rd (rd_L2 x6_4 (ji49)) (ji52)) + (wrap64 (x11_4 * x11_4))))
                                go_wp2_with (first | ((with_reducible refine gate_store (t := 2) (p := 126) rfl ?_); refine store_event (t := 2) (p := 126) (v := ?vo_w62) (w1 := (wc.setCell ⟨go60, (x10_3 : Int).toNat, none⟩ (.int .i64 (wrap64 ((rd (rd_L2 x6_4 (ji49)) (ji52)) + (wrap64 (x11_4 * x11_4))))))) ?hg ?ho ?hn ?hr ?_; (case ho => rfl); (case hg => rfl); (case hn => rfl); (case hr => first | (go_simp; done) | (go_simp; rfl)); intro w62 hw; have hg : wc.grownBy w62 (some go60) := (by rw [hw]; exact HP61.2); have hz_ : Kd.R (Kd.int .i64) 2 w62 w.heap.size oki61 (.slice (some ⟨go60, 0, none⟩) (rd_L2 x6_4 x9_2).length c138_0) y141 := (by rw [hw, Ny141.out]; exact HP61.1); have hp_ : Kd.S (Kd.slice 2 (Kd.int .i64)) 44 w62 w.heap.size (fun _ => True) (.slice (some ad127) x6_4.length co30) y143 := (by rw [Ny143.out]; exact hbk61 hg (fun k_ e_ => by injection e_ with e_; subst e_; exact ge61_0.1 _ rfl) (Kd.M_row hz_)); have hm_ := Kd.R_mono hz_ hok61; clear HP61 hbk61; have n0_ := Aside0.mk (hp_); have n1_ := Aside0.mk ((by rw [hw]; exact below_set (HB.out) GB60.out : Below w.heap.size w w62)); have n2_ := Aside0.mk (hm_); have n3_ := Aside0.mk ((Kd.R_reads' hm_).2.1); clear HO_6; clear HB; clear HL136_0; clear HL138_0; clear HL140_0; have HO_6 := n0_; have HB := n1_; have HL152 := n2_; have HC142 := n3_; clear n0_ n1_ n2_ n3_; clear hg hw hp_ hz_ hm_ hok61))
                                (try simp only [← hl6_4])
                                go_roundg kj38
                                case measure => have := HK1.out; have := HK2.out; have := HK3.out; have := HK4.out; have := HJ38.out; omega
                                case rel => exact ⟨(y143), (wrap64 (x11_4 + 1)), (by first | rfl | (simp; done) | (simp [*]; done)), H', ⟨by have := HK1.out; have := HK2.out; have := HK3.out; have := HK4.out; have := HJ38.out; omega⟩, ⟨by (try simp only [hl6_2]); (try simp only [hl6_3]); (try simp only [hl6_4]); (with_reducible repeat (first | apply Kd.S_alloc | apply Kd.S_drewN | apply Kd.S_drew)); exact HO_6.out⟩, ⟨by repeat (first | (with_reducible first | exact HB.out | apply below_alloc | apply pw_below_drewN | apply below_drew1) | exact HB.out)⟩⟩
                               ·rw [if_neg c59] at H
                                have c59b0 : decide ((rd (rd_L2 x6_4 x9_2) x10_3) < 0) = false := decide_eq_false c59
                                clear c59
                                by_cases c63 : (wrap64 ((rd (rd_L2 x6_4 (ji49)) (ji52)) + (wrap64 (x11_4 * x11_4)))) < (rd (rd_L2 x6_4 x9_2) x10_3)
                                ·rw [if_pos c63] at H
                                 have c63b0 : decide ((wrap64 ((rd (rd_L2 x6_4 (ji49)) (ji52)) + (wrap64 (x11_4 * x11_4)))) < (rd (rd_L2 x6_4 x9_2) x10_3)) = true := decide_eq_true c63
                                 (try (have c63b1 : decide ((IntKind.i64.wrap ((rd (rd_L2 x6_4 (ji49)) (ji52)) + (IntKind.i64.wrap (x11_4 * x11_4)))) < (rd (rd_L2 x6_4 x9_2) x10_3)) = true := by have h_ : decide ((wrap64 ((rd (rd_L2 x6_4 (ji49)) (ji52)) + (wrap64 (x11_4 * x11_4)))) < (rd (rd_L2 x6_4 x9_2) x10_3)) = true := decide_eq_true c63; simpa only [i64_w, i32_w] using h_))
                                 clear c63
                                 obtain ⟨y147, hy147⟩ : ∃ y_ : List Int, y_ = ((rd_L2 x6_4 x9_2).set (x10_3 : Int).toNat (wrap64 ((rd (rd_L2 x6_4 (ji49)) (ji52)) + (wrap64 (x11_4 * x11_4))))) := ⟨_, rfl⟩
                                 replace H : (spec_l01Fewest.l4 kj38 l0 a1 4001 (x6_4.set (x9_2 : Int).toNat y147) x9_2 x10_3 (wrap64 (x11_4 + 1))) = some r := by first | (rw [hy147]; with_reducible exact H) | (have H2_ := (Option.bind_some _ _).symm.trans H; rw [hy147]; with_reducible exact H2_) | (have H2_ := (Option.bind_some _ _).symm.trans H; with_reducible exact H2_) | with_reducible exact H | (rw [hy147]; exact H) | exact H
                                 have Ny147 := Aside0.mk hy147
                                 clear hy147
                                 obtain ⟨y149, hy149⟩ : ∃ y_ : List (List Int), y_ = (x6_4.set (x9_2 : Int).toNat y147) := ⟨_, rfl⟩
                                 replace H : (spec_l01Fewest.l4 kj38 l0 a1 4001 y149 x9_2 x10_3 (wrap64 (x11_4 + 1))) = some r := by first | (rw [hy149]; with_reducible exact H) | (have H2_ := (Option.bind_some _ _).symm.trans H; rw [hy149]; with_reducible exact H2_) | (have H2_ := (Option.bind_some _ _).symm.trans H; with_reducible exact H2_) | with_reducible exact H | (rw [hy149]; exact H) | exact H
                                 have Ny149 := Aside0.mk hy149
                                 clear hy149
                                 have H' := Aside0.mk H
                                 clear H
                                 have p136 : 0 ≤ ((ji49) : Int) := of_decide_eq_true (by first | (with_reducible assumption) | assumption)
                                 have q136 : (ji49) < (x6_4.length : Int) := of_decide_eq_true (by first | (with_reducible assumption) | assumption)
                                 obtain ⟨ad136, A136_0, c136_0, e136, hx136_0, hl136_0, hi136_0⟩ := at_L2 (Kd.S_reads' HO_6.out).2.2 (ji49) p136 q136
                                 obtain rfl : ad127 = ad136 := (by injection e136)
                                 obtain ⟨ce136, hce136, hMe136, hcc136⟩ := Kd.S_get HO_6.out [] (ji49) p136 (by first | exact q136 | exact of_decide_eq_true (by first | (with_reducible assumption) | assumption) | (have e_ := (Kd.S_reads' HO_6.out).1; omega))
                                 obtain ⟨ve136_0, rfl, ge136_0⟩ := hMe136
                                 have hv136_0 := hcc136 0 _ rfl
                                 rw [Nat.add_zero, show ((Kd.slice 2 (Kd.int .i64))).sz = 1 from rfl, Nat.mul_one] at hv136_0
                                 replace hv136_0 := Option.some.inj (hv136_0.symm.trans hx136_0)
                                 rw [hv136_0] at ge136_0
                                 have HL136_0 := Aside0.mk (show Kd.R (Kd.int .i64) 2 _ _ _ _ (rd_L2 x6_4 (ji49)) from ge136_0)
                                 clear hv136_0 ge136_0
                                 have HX136_0 := Aside0.mk hx136_0
                                 clear hcc136 hce136
                                 have HR136_0 := Aside0.mk hi136_0
                                 have HC136_0 := Aside0.mk hl136_0
                                 clear hi136_0 hl136_0
                                 replace p136 := eq_true p136
                                 replace q136 := eq_true q136
                                 have p137 : 0 ≤ ((ji52) : Int) := of_decide_eq_true (by first | (with_reducible assumption) | assumption)
                                 have q137 : (ji52) < ((rd_L2 x6_4 (ji49)).length : Int) := of_decide_eq_true (by first | (with_reducible assumption) | assumption)
                                 obtain ⟨ad137, e137, hx137_0⟩ := Kd.at_int (by repeat (first | (with_reducible exact HR136_0.out) | (with_reducible refine Kd.C_alloc ?_ _) | (with_reducible refine Kd.C_drewN ?_ _) | (with_reducible refine Kd.C_drew ?_) | exact HR136_0.out)) (ji52) p137 q137
                                 cases e137
                                 replace p137 := eq_true p137
                                 replace q137 := eq_true q137
                                 have p138 : 0 ≤ (x9_2 : Int) := of_decide_eq_true (by first | (with_reducible assumption) | assumption)
                                 have q138 : x9_2 < (x6_4.length : Int) := of_decide_eq_true (by first | (with_reducible assumption) | assumption)
                                 obtain ⟨ad138, A138_0, c138_0, e138, hx138_0, hl138_0, hi138_0⟩ := at_L2 (Kd.S_reads' HO_6.out).2.2 x9_2 p138 q138
                                 obtain rfl : ad127 = ad138 := (by injection e138)
                                 obtain ⟨ce138, hce138, hMe138, hcc138⟩ := Kd.S_get HO_6.out [] x9_2 p138 (by first | exact q138 | exact of_decide_eq_true (by first | (with_reducible assumption) | assumption) | (have e_ := (Kd.S_reads' HO_6.out).1; omega))
                                 obtain ⟨ve138_0, rfl, ge138_0⟩ := hMe138
                                 have hv138_0 := hcc138 0 _ rfl
                                 rw [Nat.add_zero, show ((Kd.slice 2 (Kd.int .i64))).sz = 1 from rfl, Nat.mul_one] at hv138_0
                                 replace hv138_0 := Option.some.inj (hv138_0.symm.trans hx138_0)
                                 rw [hv138_0] at ge138_0
                                 have HL138_0 := Aside0.mk (show Kd.R (Kd.int .i64) 2 _ _ _ _ (rd_L2 x6_4 x9_2) from ge138_0)
                                 clear hv138_0 ge138_0
                                 have HX138_0 := Aside0.mk hx138_0
                                 clear hcc138 hce138
                                 have HR138_0 := Aside0.mk hi138_0
                                 have HC138_0 := Aside0.mk hl138_0
                                 clear hi138_0 hl138_0
                                 replace p138 := eq_true p138
                                 replace q138 := eq_true q138
                                 have p139 : 0 ≤ (x10_3 : Int) := of_decide_eq_true (by first | (with_reducible assumption) | assumption)
                                 have q139 : x10_3 < ((rd_L2 x6_4 x9_2).length : Int) := of_decide_eq_true (by first | (with_reducible assumption) | assumption)
                                 obtain ⟨ad139, e139, hx139_0⟩ := Kd.at_int (by repeat (first | (with_reducible exact HR138_0.out) | (with_reducible refine Kd.C_alloc ?_ _) | (with_reducible refine Kd.C_drewN ?_ _) | (with_reducible refine Kd.C_drew ?_) | exact HR138_0.out)) x10_3 p139 q139
                                 cases e139
                                 replace p139 := eq_true p139
                                 replace q139 := eq_true q139
                                 have p144 : 0 ≤ (x9_2 : Int) := of_decide_eq_true (by first | (with_reducible assumption) | assumption)
                                 have q144 : x9_2 < (x6_4.length : Int) := of_decide_eq_true (by first | (with_reducible assumption) | assumption)
                                 obtain ⟨ad144, A144_0, c144_0, e144, hx144_0, hl144_0, hi144_0⟩ := at_L2 (Kd.S_reads' HO_6.out).2.2 x9_2 p144 q144
                                 obtain rfl : ad127 = ad144 := (by injection e144)
                                 obtain ⟨ce144, hce144, hMe144, hcc144⟩ := Kd.S_get HO_6.out [] x9_2 p144 (by first | exact q144 | exact of_decide_eq_true (by first | (with_reducible assumption) | assumption) | (have e_ := (Kd.S_reads' HO_6.out).1; omega))
                                 obtain ⟨ve144_0, rfl, ge144_0⟩ := hMe144
                                 have hv144_0 := hcc144 0 _ rfl
                                 rw [Nat.add_zero, show ((Kd.slice 2 (Kd.int .i64))).sz = 1 from rfl, Nat.mul_one] at hv144_0
                                 replace hv144_0 := Option.some.inj (hv144_0.symm.trans hx144_0)
                                 rw [hv144_0] at ge144_0
                                 have HL144_0 := Aside0.mk (show Kd.R (Kd.int .i64) 2 _ _ _ _ (rd_L2 x6_4 x9_2) from ge144_0)
                                 clear hv144_0 ge144_0
                                 have HX144_0 := Aside0.mk hx144_0
                                 clear hcc144 hce144
                                 have HR144_0 := Aside0.mk hi144_0
                                 have HC144_0 := Aside0.mk hl144_0
                                 clear hi144_0 hl144_0
                                 replace p144 := eq_true p144
                                 replace q144 := eq_true q144
                                 have ea_ := Option.some.inj (hx138_0.symm.trans hx144_0)
                                 injection ea_ with ea_ en_ ec_
                                 subst ea_
                                 subst ec_
                                 clear en_
                                 have p145 : 0 ≤ (x10_3 : Int) := of_decide_eq_true (by first | (with_reducible assumption) | assumption)
                                 have q145 : x10_3 < ((rd_L2 x6_4 x9_2).length : Int) := of_decide_eq_true (by first | (with_reducible assumption) | assumption)
                                 obtain ⟨ad145, e145, hx145_0⟩ := Kd.at_int (by repeat (first | (with_reducible exact HR144_0.out) | (with_reducible refine Kd.C_alloc ?_ _) | (with_reducible refine Kd.C_drewN ?_ _) | (with_reducible refine Kd.C_drew ?_) | exact HR144_0.out)) x10_3 p145 q145
                                 cases e145
                                 replace p145 := eq_true p145
                                 replace q145 := eq_true q145
                                 have p146 : 0 ≤ (x9_2 : Int) := of_decide_eq_true (by first | (with_reducible assumption) | assumption)
                                 have q146 : x9_2 < (x6_4.length : Int) := of_decide_eq_true (by first | (with_reducible assumption) | assumption)
                                 obtain ⟨ad146, A146_0, c146_0, e146, hx146_0, hl146_0, hi146_0⟩ := at_L2 (Kd.S_reads' HO_6.out).2.2 x9_2 p146 q146
                                 obtain rfl : ad127 = ad146 := (by injection e146)
                                 obtain ⟨ce146, hce146, hMe146, hcc146⟩ := Kd.S_get HO_6.out [] x9_2 p146 (by first | exact q146 | exact of_decide_eq_true (by first | (with_reducible assumption) | assumption) | (have e_ := (Kd.S_reads' HO_6.out).1; omega))
                                 obtain ⟨ve146_0, rfl, ge146_0⟩ := hMe146
                                 have hv146_0 := hcc146 0 _ rfl
                                 rw [Nat.add_zero, show ((Kd.slice 2 (Kd.int .i64))).sz = 1 from rfl, Nat.mul_one] at hv146_0
                                 replace hv146_0 := Option.some.inj (hv146_0.symm.trans hx146_0)
                                 rw [hv146_0] at ge146_0
                                 have HL146_0 := Aside0.mk (show Kd.R (Kd.int .i64) 2 _ _ _ _ (rd_L2 x6_4 x9_2) from ge146_0)
                                 clear hv146_0 ge146_0
                                 have HX146_0 := Aside0.mk hx146_0
                                 clear hcc146 hce146
                                 have HR146_0 := Aside0.mk hi146_0
                                 have HC146_0 := Aside0.mk hl146_0
                                 clear hi146_0 hl146_0
                                 replace p146 := eq_true p146
                                 replace q146 := eq_true q146
                                 have ea_ := Option.some.inj (hx138_0.symm.trans hx146_0)
                                 injection ea_ with ea_ en_ ec_
                                 subst ea_
                                 subst ec_
                                 clear en_
                                 have p64 : 0 ≤ (x10_3 : Int) := of_decide_eq_true (by first | (with_reducible assumption) | assumption)
                                 have q64 : (x10_3 : Int) < (((rd_L2 x6_4 x9_2).length : Int) : Int) := of_decide_eq_true (by first | (with_reducible assumption) | assumption)
                                 obtain ⟨go64, co64, eo64, gb64, gl64, cl64, HG64⟩ := Kd.R_form HL146_0.out (by omega)
                                 (first | cases eo64 | (injection eo64 with ea_ en_ ec_; (first | subst ea_ | (injection ea_ with ea_; subst ea_)); subst ec_; clear en_))
                                 have GB64 := Aside0.mk gb64
                                 have GG64 := Aside0.mk HG64
                                 clear gb64 gl64 HG64
                                 (first | simp only [add_plain] at hx145_0 | skip)
                                 obtain ⟨hx64_0, hf64_0⟩ := Kd.R_celln 0 HL146_0.out (x10_3 : Int) p64 q64
                                 replace p64 := eq_true p64
                                 replace q64 := eq_true q64
                                 have hq65 : (x9_2 : Int) < (x6_4.length : Int) := (by have h_ : (x9_2 : Int) < ((x6_4.length : Int) : Int) := of_decide_eq_true (by first | (with_reducible assumption) | assumption); first | exact h_ | (have e_ := (Kd.S_reads' HO_6.out).1; omega) | simpa only [List.length_set, List.length_set] using h_)
                                 obtain ⟨oki65, ce65, hcl65, hM65, hcc65, hok65, hbk65⟩ := Kd.S_borrow HO_6.out [] (x9_2 : Int) (of_decide_eq_true (by first | (with_reducible assumption) | assumption)) hq65
                                 obtain ⟨ve65_0, rfl, ge65_0⟩ := hM65
                                 have hv65 := hcc65 0 _ rfl
                                 rw [Nat.add_zero, show ((Kd.slice 2 (Kd.int .i64))).sz = 1 from rfl, Nat.mul_one] at hv65
                                 replace hv65 := Option.some.inj (hv65.symm.trans HX146_0.out)
                                 subst hv65
                                 clear hcc65 hcl65
                                 replace ge65_0 := (show Kd.R (Kd.int .i64) 2 _ _ _ _ (rd_L2 x6_4 x9_2) from ge65_0)
                                 have HP65 := Kd.R_putg ge65_0 (x10_3 : Int) (wrap64 ((rd (rd_L2 x6_4 (ji49)) (ji52)) + (wrap64 (x11_4 * x11_4))))
                                 go_wp2_with (first | ((with_reducible refine gate_store (t := 2) (p := 126) rfl ?_); refine store_event (t := 2) (p := 126) (v := ?vo_w66) (w1 := (wc.setCell ⟨go64, (x10_3 : Int).toNat, none⟩ (.int .i64 (wrap64 ((rd (rd_L2 x6_4 (ji49)) (ji52)) + (wrap64 (x11_4 * x11_4))))))) ?hg ?ho ?hn ?hr ?_; (case ho => rfl); (case hg => rfl); (case hn => rfl); (case hr => first | (go_simp; done) | (go_simp; rfl)); intro w66 hw; have hg : wc.grownBy w66 (some go64) := (by rw [hw]; exact HP65.2); have hz_ : Kd.R (Kd.int .i64) 2 w66 w.heap.size oki65 (.slice (some ⟨go64, 0, none⟩) (rd_L2 x6_4 x9_2).length c138_0) y147 := (by rw [hw, Ny147.out]; exact HP65.1); have hp_ : Kd.S (Kd.slice 2 (Kd.int .i64)) 44 w66 w.heap.size (fun _ => True) (.slice (some ad127) x6_4.length co30) y149 := (by rw [Ny149.out]; exact hbk65 hg (fun k_ e_ => by injection e_ with e_; subst e_; exact ge65_0.1 _ rfl) (Kd.M_row hz_)); have hm_ := Kd.R_mono hz_ hok65; clear HP65 hbk65; have n0_ := Aside0.mk (hp_); have n1_ := Aside0.mk ((by rw [hw]; exact below_set (HB.out) GB64.out : Below w.heap.size w w66)); have n2_ := Aside0.mk (hm_); have n3_ := Aside0.mk ((Kd.R_reads' hm_).2.1); clear HO_6; clear HB; clear HL136_0; clear HL138_0; clear HL144_0; clear HL146_0; have HO_6 := n0_; have HB := n1_; have HL153 := n2_; have HC148 := n3_; clear n0_ n1_ n2_ n3_; clear hg hw hp_ hz_ hm_ hok65))
                                 (try simp only [← hl6_4])
                                 go_roundg kj38
                                 case measure => have := HK1.out; have := HK2.out; have := HK3.out; have := HK4.out; have := HJ38.out; omega
                                 case rel => exact ⟨(y149), (wrap64 (x11_4 + 1)), (by first | rfl | (simp; done) | (simp [*]; done)), H', ⟨by have := HK1.out; have := HK2.out; have := HK3.out; have := HK4.out; have := HJ38.out; omega⟩, ⟨by (try simp only [hl6_2]); (try simp only [hl6_3]); (try simp only [hl6_4]); (with_reducible repeat (first | apply Kd.S_alloc | apply Kd.S_drewN | apply Kd.S_drew)); exact HO_6.out⟩, ⟨by repeat (first | (with_reducible first | exact HB.out | apply below_alloc | apply pw_below_drewN | apply below_drew1) | exact HB.out)⟩⟩
                                ·rw [if_neg c63] at H
                                 have c63b0 : decide ((wrap64 ((rd (rd_L2 x6_4 (ji49)) (ji52)) + (wrap64 (x11_4 * x11_4)))) < (rd (rd_L2 x6_4 x9_2) x10_3)) = false := decide_eq_false c63
                                 (try (have c63b1 : decide ((IntKind.i64.wrap ((rd (rd_L2 x6_4 (ji49)) (ji52)) + (IntKind.i64.wrap (x11_4 * x11_4)))) < (rd (rd_L2 x6_4 x9_2) x10_3)) = false := by have h_ : decide ((wrap64 ((rd (rd_L2 x6_4 (ji49)) (ji52)) + (wrap64 (x11_4 * x11_4)))) < (rd (rd_L2 x6_4 x9_2) x10_3)) = false := decide_eq_false c63; simpa only [i64_w, i32_w] using h_))
                                 clear c63
                                 have H' := Aside0.mk H
                                 clear H
                                 have p136 : 0 ≤ ((ji49) : Int) := of_decide_eq_true (by first | (with_reducible assumption) | assumption)
                                 have q136 : (ji49) < (x6_4.length : Int) := of_decide_eq_true (by first | (with_reducible assumption) | assumption)
                                 obtain ⟨ad136, A136_0, c136_0, e136, hx136_0, hl136_0, hi136_0⟩ := at_L2 (Kd.S_reads' HO_6.out).2.2 (ji49) p136 q136
                                 obtain rfl : ad127 = ad136 := (by injection e136)
                                 obtain ⟨ce136, hce136, hMe136, hcc136⟩ := Kd.S_get HO_6.out [] (ji49) p136 (by first | exact q136 | exact of_decide_eq_true (by first | (with_reducible assumption) | assumption) | (have e_ := (Kd.S_reads' HO_6.out).1; omega))
                                 obtain ⟨ve136_0, rfl, ge136_0⟩ := hMe136
                                 have hv136_0 := hcc136 0 _ rfl
                                 rw [Nat.add_zero, show ((Kd.slice 2 (Kd.int .i64))).sz = 1 from rfl, Nat.mul_one] at hv136_0
                                 replace hv136_0 := Option.some.inj (hv136_0.symm.trans hx136_0)
                                 rw [hv136_0] at ge136_0
                                 have HL136_0 := Aside0.mk (show Kd.R (Kd.int .i64) 2 _ _ _ _ (rd_L2 x6_4 (ji49)) from ge136_0)
                                 clear hv136_0 ge136_0
                                 have HX136_0 := Aside0.mk hx136_0
                                 clear hcc136 hce136
                                 have HR136_0 := Aside0.mk hi136_0
                                 have HC136_0 := Aside0.mk hl136_0
                                 clear hi136_0 hl136_0
                                 replace p136 := eq_true p136
                                 replace q136 := eq_true q136
                                 have p137 : 0 ≤ ((ji52) : Int) := of_decide_eq_true (by first | (with_reducible assumption) | assumption)
                                 have q137 : (ji52) < ((rd_L2 x6_4 (ji49)).length : Int) := of_decide_eq_true (by first | (with_reducible assumption) | assumption)
                                 obtain ⟨ad137, e137, hx137_0⟩ := Kd.at_int (by repeat (first | (with_reducible exact HR136_0.out) | (with_reducible refine Kd.C_alloc ?_ _) | (with_reducible refine Kd.C_drewN ?_ _) | (with_reducible refine Kd.C_drew ?_) | exact HR136_0.out)) (ji52) p137 q137
                                 cases e137
                                 replace p137 := eq_true p137
                                 replace q137 := eq_true q137
                                 have p138 : 0 ≤ (x9_2 : Int) := of_decide_eq_true (by first | (with_reducible assumption) | assumption)
                                 have q138 : x9_2 < (x6_4.length : Int) := of_decide_eq_true (by first | (with_reducible assumption) | assumption)
                                 obtain ⟨ad138, A138_0, c138_0, e138, hx138_0, hl138_0, hi138_0⟩ := at_L2 (Kd.S_reads' HO_6.out).2.2 x9_2 p138 q138
                                 obtain rfl : ad127 = ad138 := (by injection e138)
                                 obtain ⟨ce138, hce138, hMe138, hcc138⟩ := Kd.S_get HO_6.out [] x9_2 p138 (by first | exact q138 | exact of_decide_eq_true (by first | (with_reducible assumption) | assumption) | (have e_ := (Kd.S_reads' HO_6.out).1; omega))
                                 obtain ⟨ve138_0, rfl, ge138_0⟩ := hMe138
                                 have hv138_0 := hcc138 0 _ rfl
                                 rw [Nat.add_zero, show ((Kd.slice 2 (Kd.int .i64))).sz = 1 from rfl, Nat.mul_one] at hv138_0
                                 replace hv138_0 := Option.some.inj (hv138_0.symm.trans hx138_0)
                                 rw [hv138_0] at ge138_0
                                 have HL138_0 := Aside0.mk (show Kd.R (Kd.int .i64) 2 _ _ _ _ (rd_L2 x6_4 x9_2) from ge138_0)
                                 clear hv138_0 ge138_0
                                 have HX138_0 := Aside0.mk hx138_0
                                 clear hcc138 hce138
                                 have HR138_0 := Aside0.mk hi138_0
                                 have HC138_0 := Aside0.mk hl138_0
                                 clear hi138_0 hl138_0
                                 replace p138 := eq_true p138
                                 replace q138 := eq_true q138
                                 have p139 : 0 ≤ (x10_3 : Int) := of_decide_eq_true (by first | (with_reducible assumption) | assumption)
                                 have q139 : x10_3 < ((rd_L2 x6_4 x9_2).length : Int) := of_decide_eq_true (by first | (with_reducible assumption) | assumption)
                                 obtain ⟨ad139, e139, hx139_0⟩ := Kd.at_int (by repeat (first | (with_reducible exact HR138_0.out) | (with_reducible refine Kd.C_alloc ?_ _) | (with_reducible refine Kd.C_drewN ?_ _) | (with_reducible refine Kd.C_drew ?_) | exact HR138_0.out)) x10_3 p139 q139
                                 cases e139
                                 replace p139 := eq_true p139
                                 replace q139 := eq_true q139
                                 have p144 : 0 ≤ (x9_2 : Int) := of_decide_eq_true (by first | (with_reducible assumption) | assumption)
                                 have q144 : x9_2 < (x6_4.length : Int) := of_decide_eq_true (by first | (with_reducible assumption) | assumption)
                                 obtain ⟨ad144, A144_0, c144_0, e144, hx144_0, hl144_0, hi144_0⟩ := at_L2 (Kd.S_reads' HO_6.out).2.2 x9_2 p144 q144
                                 obtain rfl : ad127 = ad144 := (by injection e144)
                                 obtain ⟨ce144, hce144, hMe144, hcc144⟩ := Kd.S_get HO_6.out [] x9_2 p144 (by first | exact q144 | exact of_decide_eq_true (by first | (with_reducible assumption) | assumption) | (have e_ := (Kd.S_reads' HO_6.out).1; omega))
                                 obtain ⟨ve144_0, rfl, ge144_0⟩ := hMe144
                                 have hv144_0 := hcc144 0 _ rfl
                                 rw [Nat.add_zero, show ((Kd.slice 2 (Kd.int .i64))).sz = 1 from rfl, Nat.mul_one] at hv144_0
                                 replace hv144_0 := Option.some.inj (hv144_0.symm.trans hx144_0)
                                 rw [hv144_0] at ge144_0
                                 have HL144_0 := Aside0.mk (show Kd.R (Kd.int .i64) 2 _ _ _ _ (rd_L2 x6_4 x9_2) from ge144_0)
                                 clear hv144_0 ge144_0
                                 have HX144_0 := Aside0.mk hx144_0
                                 clear hcc144 hce144
                                 have HR144_0 := Aside0.mk hi144_0
                                 have HC144_0 := Aside0.mk hl144_0
                                 clear hi144_0 hl144_0
                                 replace p144 := eq_true p144
                                 replace q144 := eq_true q144
                                 have ea_ := Option.some.inj (hx138_0.symm.trans hx144_0)
                                 injection ea_ with ea_ en_ ec_
                                 subst ea_
                                 subst ec_
                                 clear en_
                                 have p145 : 0 ≤ (x10_3 : Int) := of_decide_eq_true (by first | (with_reducible assumption) | assumption)
                                 have q145 : x10_3 < ((rd_L2 x6_4 x9_2).length : Int) := of_decide_eq_true (by first | (with_reducible assumption) | assumption)
                                 obtain ⟨ad145, e145, hx145_0⟩ := Kd.at_int (by repeat (first | (with_reducible exact HR144_0.out) | (with_reducible refine Kd.C_alloc ?_ _) | (with_reducible refine Kd.C_drewN ?_ _) | (with_reducible refine Kd.C_drew ?_) | exact HR144_0.out)) x10_3 p145 q145
                                 cases e145
                                 replace p145 := eq_true p145
                                 replace q145 := eq_true q145
                                 go_wp2
                                 (try simp only [← hl6_4])
                                 go_roundg kj38
                                 case measure => have := HK1.out; have := HK2.out; have := HK3.out; have := HK4.out; have := HJ38.out; omega
                                 case rel => exact ⟨(x6_4), (wrap64 (x11_4 + 1)), (by first | rfl | (simp; done) | (simp [*]; done)), H', ⟨by have := HK1.out; have := HK2.out; have := HK3.out; have := HK4.out; have := HJ38.out; omega⟩, ⟨by (try simp only [hl6_2]); (try simp only [hl6_3]); (try simp only [hl6_4]); (with_reducible repeat (first | apply Kd.S_alloc | apply Kd.S_drewN | apply Kd.S_drew)); exact HO_6.out⟩, ⟨by repeat (first | (with_reducible first | exact HB.out | apply below_alloc | apply pw_below_drewN | apply below_drew1) | exact HB.out)⟩⟩
                              ·rw [if_neg c58] at H
                               exact absurd H (by simp)
                             ·rw [if_neg c57] at H
                              exact absurd H (by simp)
                            ·rw [if_neg c56] at H
                             exact absurd H (by simp)
                           ·rw [if_neg c55] at H
                            exact absurd H (by simp)
                          ·rw [if_neg c54] at H
                           exact absurd H (by simp)
                         ·rw [if_neg c53] at H
                          exact absurd H (by simp)
                        ·rw [if_neg c51] at H
                         exact absurd H (by simp)
                       ·rw [if_neg c50] at H
                        exact absurd H (by simp)
                   ·rw [if_neg c38] at H
                    exact absurd H (by simp)
                  ·rw [if_neg c37] at H
                   exact absurd H (by simp)
                 ·rw [if_neg c36] at H
                  have c36b0 : decide (x11_4 ≤ 1) = false := decide_eq_false c36
                  clear c36
                  have H' := Aside0.mk H
                  clear H
                  go_wp2
                  (try simp only [← hl6_3, ← hl6_4])
                  go_roundg k4
                  case measure => have := HK1.out; have := HK2.out; have := HK3.out; have := HK4.out; omega
                  case rel => exact ⟨(x6_4), (wrap64 (x10_3 + 1)), (by first | rfl | (simp; done) | (simp [*]; done)), H', ⟨by have := HK1.out; have := HK2.out; have := HK3.out; have := HK4.out; omega⟩, ⟨by (try simp only [hl6_2]); (try simp only [hl6_3]); (try simp only [hl6_4]); (with_reducible repeat (first | apply Kd.S_alloc | apply Kd.S_drewN | apply Kd.S_drew)); exact HO_6.out⟩, ⟨by repeat (first | (with_reducible first | exact HB.out | apply below_alloc | apply pw_below_drewN | apply below_drew1) | exact HB.out)⟩⟩
              ·rw [if_neg c34] at H
               have c34b0 : decide (x10_3 < 4001) = false := decide_eq_false c34
               clear c34
               have H' := Aside0.mk H
               clear H
               go_wp2
               (try simp only [← hl6_2, ← hl6_3])
               go_roundg k3
               case measure => have := HK1.out; have := HK2.out; have := HK3.out; omega
               case rel => exact ⟨(x6_3), (wrap64 (x9_2 - 1)), (by first | rfl | (simp; done) | (simp [*]; done)), H', ⟨by have := HK1.out; have := HK2.out; have := HK3.out; omega⟩, ⟨by (try simp only [hl6_2]); (try simp only [hl6_3]); (with_reducible repeat (first | apply Kd.S_alloc | apply Kd.S_drewN | apply Kd.S_drew)); exact HO_6.out⟩, ⟨by repeat (first | (with_reducible first | exact HB.out | apply below_alloc | apply pw_below_drewN | apply below_drew1) | exact HB.out)⟩⟩
           ·rw [if_neg c33] at H
            have c33b0 : decide (0 ≤ x9_2) = false := decide_eq_false c33
            clear c33
            obtain rfl := Option.some.inj H
            go_wp2
            go_ret
            exact ⟨_, by first | rfl | (simp [errW_none, errW_some] <;> rfl) | (simp only [← hji3]; first | rfl | (simp [errW_none, errW_some] <;> rfl)) | (simp [*, errW_none, errW_some] <;> rfl), by (with_reducible repeat (first | apply Kd.S_alloc | apply Kd.S_drewN | apply Kd.S_drew)); exact HO_6.out, by repeat (first | (with_reducible first | exact HB.out | apply below_alloc | apply pw_below_drewN | apply below_drew1) | exact HB.out)⟩
        ·rw [if_neg c28] at H
         exact absurd H (by simp)
       ·rw [if_neg c27] at H
        exact absurd H (by simp)
      ·rw [if_neg c26] at H
       exact absurd H (by simp)
  ·rw [if_neg c5] at H
   exact absurd H (by simp)
 ·rw [if_neg c4] at H
  exact absurd H (by simp)

end Go.Proofs.Ythhihmhcfodjiaa.R
