-- Written by wip/tools/myprint.py, a program of this session, by way of the kit's print.
import Derived.Test.YthhihmhcfodjiaaRx0
import Derived.Test.YthhihmhcfodjiaaRx1
import Derived.Test.YthhihmhcfodjiaaRx3
namespace Go.Proofs.Ythhihmhcfodjiaa.R
open Go.RowKit Go.Proofs.YthhihmhcfodjiaaW.PrintWords Go.Proofs.YthhihmhcfodjiaaW.PrintLast Go.Proofs.YthhihmhcfodjiaaW.PrintMore
attribute [local go_sem] max2_int min2_int max_two min_two max_three min_three max_four min_four   -- for this text's walks alone
set_option linter.unusedVariables false
set_option linter.unusedSimpArgs false

/-! ### spec_WaysToWeigh: function 22 -/
mutual
def spec_WaysToWeigh.l0 : Nat → List Int → Int → Bool → Int → List Int → Int → Option (Int × Int)
 | 0, _, _, _, _, _, _ => none
 | k + 1, x0, x1, x2, x9, x10, x11 => if x11 < (x0.length : Int) then (if 0 ≤ x9 then (if (x9 : Int).toNat ≤ 35184372088832 then (spec_WaysToWeigh.l1 k x0 x1 x2 x9 x10 x11 (List.replicate (x9 : Int).toNat 0) 0) else (none)) else (none)) else (if 0 ≤ (wrap64 (2000 + x1)) then (if (wrap64 (2000 + x1)) < (x10.length : Int) then (some (rd x10 (wrap64 (2000 + x1)), 0)) else (none)) else (none))
def spec_WaysToWeigh.l1 : Nat → List Int → Int → Bool → Int → List Int → Int → List Int → Int → Option (Int × Int)
 | 0, _, _, _, _, _, _, _, _ => none
 | k + 1, x0, x1, x2, x9, x10, x11, x12, x13 => if x13 < x9 then ((spec_l01Least.f x2).bind fun t301 => (spec_WaysToWeigh.l2 k x0 x1 x2 x9 x10 x11 x12 x13 t301)) else (spec_WaysToWeigh.l0 k x0 x1 x2 x9 x12 (wrap64 (x11 + 1)))
def spec_WaysToWeigh.l2 : Nat → List Int → Int → Bool → Int → List Int → Int → List Int → Int → Int → Option (Int × Int)
 | 0, _, _, _, _, _, _, _, _, _ => none
 | k + 1, x0, x1, x2, x9, x10, x11, x12, x13, x14 => if x14 ≤ 1 then (if 0 ≤ x11 then (if x11 < (x0.length : Int) then ((spec_l00In.f (wrap64 (x13 - (wrap64 (x14 * (wrap64 (rd x0 x11)))))) 0 (wrap64 (x9 - 1))).bind fun t303 => (if t303 = true then (if 0 ≤ x13 then (if x13 < (x12.length : Int) then (if 0 ≤ (wrap64 (x13 - (wrap64 (x14 * (wrap64 (rd x0 x11)))))) then (if (wrap64 (x13 - (wrap64 (x14 * (wrap64 (rd x0 x11)))))) < (x10.length : Int) then (spec_WaysToWeigh.l2 k x0 x1 x2 x9 x10 x11 (x12.set (x13 : Int).toNat (wrap64 ((rd x12 x13) + (rd x10 (wrap64 (x13 - (wrap64 (x14 * (wrap64 (rd x0 x11)))))))))) x13 (wrap64 (x14 + 1))) else (none)) else (none)) else (none)) else (none)) else (spec_WaysToWeigh.l2 k x0 x1 x2 x9 x10 x11 x12 x13 (wrap64 (x14 + 1))))) else (none)) else (none)) else (spec_WaysToWeigh.l1 k x0 x1 x2 x9 x10 x11 x12 (wrap64 (x13 + 1)))
end
def spec_WaysToWeigh.f (k : Nat) (l0 : List Int) (a1 : Int) (a2 : Bool) : Option (Int × Int) := (spec_l01Asked.f k l0 a1).bind fun t292 => (if t292 = 0 then ((some (List.replicate 4001 0 : List Int)).bind fun y293 => (if 2000 < (y293.length : Int) then (spec_WaysToWeigh.l0 k l0 a1 a2 4001 (y293.set (2000 : Int).toNat 1) 0) else (none))) else (some (0, t292)))
theorem spec_WaysToWeigh.mono_l : ∀ k, (∀ y0 y1 y2 y3 y4 y5, LeO (spec_WaysToWeigh.l0 k y0 y1 y2 y3 y4 y5) (spec_WaysToWeigh.l0 (k + 1) y0 y1 y2 y3 y4 y5)) ∧ (∀ y0 y1 y2 y3 y4 y5 y6 y7, LeO (spec_WaysToWeigh.l1 k y0 y1 y2 y3 y4 y5 y6 y7) (spec_WaysToWeigh.l1 (k + 1) y0 y1 y2 y3 y4 y5 y6 y7)) ∧ (∀ y0 y1 y2 y3 y4 y5 y6 y7 y8, LeO (spec_WaysToWeigh.l2 k y0 y1 y2 y3 y4 y5 y6 y7 y8) (spec_WaysToWeigh.l2 (k + 1) y0 y1 y2 y3 y4 y5 y6 y7 y8))
 | 0 => ⟨fun _ _ _ _ _ _ r h => by simp [spec_WaysToWeigh.l0] at h, fun _ _ _ _ _ _ _ _ r h => by simp [spec_WaysToWeigh.l1] at h, fun _ _ _ _ _ _ _ _ _ r h => by simp [spec_WaysToWeigh.l2] at h⟩
 | k + 1 => by
  obtain ⟨ih0, ih1, ih2⟩ := spec_WaysToWeigh.mono_l k
  refine ⟨?_, ?_, ?_⟩
  ·intro y0 y1 y2 y3 y4 y5
   unfold spec_WaysToWeigh.l0
   repeat' first
   | (with_reducible exact ih0 _ _ _ _ _ _)
   | (with_reducible exact ih1 _ _ _ _ _ _ _ _)
   | (with_reducible exact ih2 _ _ _ _ _ _ _ _ _)
   | (with_reducible exact spec_l01Asked.mono _ _ _)
   | (with_reducible exact LeO.refl _)
   | (with_reducible exact LeO.none _)
   | (with_reducible refine LeO.ite ?_ ?_)
   | (with_reducible refine LeO.bind ?_ (fun _ => ?_))
   | exact ih0 _ _ _ _ _ _
   | exact ih1 _ _ _ _ _ _ _ _
   | exact ih2 _ _ _ _ _ _ _ _ _
   | exact spec_l01Asked.mono _ _ _
   | exact LeO.none _
   | refine LeO.ite ?_ ?_
   | refine LeO.bind ?_ (fun _ => ?_)
  ·intro y0 y1 y2 y3 y4 y5 y6 y7
   unfold spec_WaysToWeigh.l1
   repeat' first
   | (with_reducible exact ih0 _ _ _ _ _ _)
   | (with_reducible exact ih1 _ _ _ _ _ _ _ _)
   | (with_reducible exact ih2 _ _ _ _ _ _ _ _ _)
   | (with_reducible exact spec_l01Asked.mono _ _ _)
   | (with_reducible exact LeO.refl _)
   | (with_reducible exact LeO.none _)
   | (with_reducible refine LeO.ite ?_ ?_)
   | (with_reducible refine LeO.bind ?_ (fun _ => ?_))
   | exact ih0 _ _ _ _ _ _
   | exact ih1 _ _ _ _ _ _ _ _
   | exact ih2 _ _ _ _ _ _ _ _ _
   | exact spec_l01Asked.mono _ _ _
   | exact LeO.none _
   | refine LeO.ite ?_ ?_
   | refine LeO.bind ?_ (fun _ => ?_)
  ·intro y0 y1 y2 y3 y4 y5 y6 y7 y8
   unfold spec_WaysToWeigh.l2
   repeat' first
   | (with_reducible exact ih0 _ _ _ _ _ _)
   | (with_reducible exact ih1 _ _ _ _ _ _ _ _)
   | (with_reducible exact ih2 _ _ _ _ _ _ _ _ _)
   | (with_reducible exact spec_l01Asked.mono _ _ _)
   | (with_reducible exact LeO.refl _)
   | (with_reducible exact LeO.none _)
   | (with_reducible refine LeO.ite ?_ ?_)
   | (with_reducible refine LeO.bind ?_ (fun _ => ?_))
   | exact ih0 _ _ _ _ _ _
   | exact ih1 _ _ _ _ _ _ _ _
   | exact ih2 _ _ _ _ _ _ _ _ _
   | exact spec_l01Asked.mono _ _ _
   | exact LeO.none _
   | refine LeO.ite ?_ ?_
   | refine LeO.bind ?_ (fun _ => ?_)
theorem spec_WaysToWeigh.mono : ∀ a0 a1 a2 k, LeO (spec_WaysToWeigh.f k a0 a1 a2) (spec_WaysToWeigh.f (k + 1) a0 a1 a2) := by
 intro a0 a1 a2 k
 obtain ⟨ih0, ih1, ih2⟩ := spec_WaysToWeigh.mono_l k
 unfold spec_WaysToWeigh.f
 repeat' first
   | (with_reducible exact ih0 _ _ _ _ _ _)
   | (with_reducible exact ih1 _ _ _ _ _ _ _ _)
   | (with_reducible exact ih2 _ _ _ _ _ _ _ _ _)
   | (with_reducible exact spec_l01Asked.mono _ _ _)
   | (with_reducible exact LeO.refl _)
   | (with_reducible exact LeO.none _)
   | (with_reducible refine LeO.ite ?_ ?_)
   | (with_reducible refine LeO.bind ?_ (fun _ => ?_))
   | exact ih0 _ _ _ _ _ _
   | exact ih1 _ _ _ _ _ _ _ _
   | exact ih2 _ _ _ _ _ _ _ _ _
   | exact spec_l01Asked.mono _ _ _
   | exact LeO.none _
   | refine LeO.ite ?_ ?_
   | refine LeO.bind ?_ (fun _ => ?_)
def spec_WaysToWeigh.T19 : Bool × List (List Nat × List Nat) := (true, [([], []), ([], []), ([0, 1], [0, 1]), ([2], [2]), ([], []), ([], []), ([4, 5], [4, 5]), ([6], [6]), ([3, 7], [3, 7]), ([0, 1, 0, 1, 2, 3, 4, 5, 6, 7, 8], [0, 1]), ([9, 8, 0, 1, 2, 3, 4, 5, 6, 7, 8], [8, 9])])
def spec_WaysToWeigh.B19 : List Nat := [0, 0, 3, 7, 0, 0, 48, 112, 255, 511, 1023]
theorem spec_WaysToWeigh.tab19 : rtab .any (opsOf Try.f22 19) = spec_WaysToWeigh.T19 := by kernel_rfl
theorem spec_WaysToWeigh.bits19 : waitsOk spec_WaysToWeigh.T19.2 spec_WaysToWeigh.B19 = true := by kernel_rfl
set_option maxHeartbeats 8000000 in
set_option maxRecDepth 100000 in
theorem spec_WaysToWeigh.calls (k : Nat) (A0 : Option Addr) (c0 : Nat) (l0 : List Int) (a1 : Int) (a2 : Bool) (r1 : Int) (r2 : Int) (w : World) (hr0 : Kd.C (Kd.int .i16) w A0 l0.length l0) (hc0 : l0.length ≤ c0) (h : spec_WaysToWeigh.f k l0 a1 a2 = some (r1, r2)) :
  Calls Try.prog 22 #[.slice A0 l0.length c0, .int .i64 a1, .bool a2] w fun e w' => e = .returned (.tuple #[.int .i64 r1, .int .i64 r2]) ∧ Below w.heap.size w w' := by
 have HR0 := Aside0.mk hr0
 have HC0 := Aside0.mk hc0
 clear hr0 hc0
 have HB := Aside0.mk (Below.refl w.heap.size w)
 have H : ((spec_l01Asked.f k l0 a1).bind fun t292 => (if t292 = 0 then ((some (List.replicate 4001 0 : List Int)).bind fun y293 => (if 2000 < (y293.length : Int) then (spec_WaysToWeigh.l0 k l0 a1 a2 4001 (y293.set (2000 : Int).toNat 1) 0) else (none))) else (some (0, t292)))) = some (r1, r2) := h
 clear h
 replace H := Option.bind_eq_some_iff.mp H
 obtain ⟨t292, A40, H⟩ := H
 replace H : (if t292 = 0 then ((some (List.replicate 4001 0 : List Int)).bind fun y293 => (if 2000 < (y293.length : Int) then (spec_WaysToWeigh.l0 k l0 a1 a2 4001 (y293.set (2000 : Int).toNat 1) 0) else (none))) else (some (0, t292))) = some (r1, r2) := H
 have A4 := Aside0.mk A40
 clear A40
 by_cases c5 : t292 = 0
 ·rw [if_pos c5] at H
  have c5b0 : (t292 == 0) = true := beq_iff_eq.mpr c5
  have c5b1 : (t292 != 0) = false := bne_eq_false_iff_eq.mpr c5
  clear c5
  obtain ⟨y293, hy293⟩ : ∃ y_ : List Int, y_ = (List.replicate 4001 0) := ⟨_, rfl⟩
  replace H : (if 2000 < (y293.length : Int) then (spec_WaysToWeigh.l0 k l0 a1 a2 4001 (y293.set (2000 : Int).toNat 1) 0) else (none)) = some (r1, r2) := by first | (rw [hy293]; with_reducible exact H) | (have H2_ := (Option.bind_some _ _).symm.trans H; rw [hy293]; with_reducible exact H2_) | (have H2_ := (Option.bind_some _ _).symm.trans H; with_reducible exact H2_) | with_reducible exact H | (rw [hy293]; exact H) | exact H
  have Ny293 := Aside0.mk hy293
  clear hy293
  by_cases c6 : 2000 < (y293.length : Int)
  ·rw [if_pos c6] at H
   have c6b0 : decide (2000 < (y293.length : Int)) = true := decide_eq_true c6
   have c6b1 : decide (2000 < y293.length) = true := decide_eq_true (by omega)
   clear c6
   obtain ⟨y296, hy296⟩ : ∃ y_ : List Int, y_ = (y293.set (2000 : Int).toNat 1) := ⟨_, rfl⟩
   replace H : (spec_WaysToWeigh.l0 k l0 a1 a2 4001 y296 0) = some (r1, r2) := by first | (rw [hy296]; with_reducible exact H) | (have H2_ := (Option.bind_some _ _).symm.trans H; rw [hy296]; with_reducible exact H2_) | (have H2_ := (Option.bind_some _ _).symm.trans H; with_reducible exact H2_) | with_reducible exact H | (rw [hy296]; exact H) | exact H
   have Ny296 := Aside0.mk hy296
   clear hy296
   have H' := Aside0.mk H
   clear H
   go_enter Try.func22, Try.ntmps22
   go_wp2_with (first | ((with_reducible refine gate_callee (f := 44) rfl ?_); refine goesL_ (some 18) rfl rfl Try.func44 (by kernel_rfl) rfl #[.slice A0 l0.length c0, .int .i64 a1] rfl (by (try simp only [List.map_toArray, List.map_cons, List.map_nil]); first | done | rfl | (simp only [List.length_drop, List.length_take]; rfl)) ?_; (with_reducible refine (spec_l01Asked.calls k _ _ l0 a1 t292 _ ?side1 ?side2 A4.out).mono ?_); (case side1 => repeat (first | exact HR0.out | (with_reducible refine Kd.C_alloc ?_ _) | (with_reducible refine Kd.C_drewN ?_ _) | (with_reducible refine Kd.C_drew ?_))); (case side2 => exact HC0.out); rintro e w' ⟨rfl, ⟨nd, rfl⟩⟩; refine ⟨_, rfl, ?_⟩) | ((with_reducible refine gate_dst (N := 23) rfl ?_); refine Kd.R_make (Kd.int .i64) _ 2 rfl (N := 23) rfl 44 _ _ rfl 4001 rfl rfl Try.underlying44 (.int .i64 0) 8 info2 rfl (by decide) (by omega) 0 (ok := fun _ => True) (okp := fun _ => True) rfl (fun _ hk => hk) trivial (by omega) (by omega) (Below.refl _ _) (Nat.le_refl _) ?_; intro v294 w8 ho9 hb hg_ hnew_; clear hg_ hnew_; (first | rw [← Ny293.out] at ho9 | (simp only [Int.reduceToNat] at ho9; rw [← Ny293.out] at ho9)); have n0_ := Aside0.mk (Kd.R_lower ho9 (below_size (by repeat (first | (with_reducible first | exact HB.out | apply below_alloc | apply pw_below_drewN | apply below_drew1) | exact HB.out)))); have n1_ := Aside0.mk (below_step (by repeat (first | (with_reducible first | exact HB.out | apply below_alloc | apply pw_below_drewN | apply below_drew1) | exact HB.out)) hb); clear HB; have HO295 := n0_; have HB := n1_; clear n0_ n1_; clear hb ho9; have p7 : 0 ≤ (2000 : Int) := (by omega); have q7 : (2000 : Int) < ((y293.length : Int) : Int) := of_decide_eq_true (by first | (with_reducible assumption) | assumption); have qi7 : (2000 < y293.length) = True := eq_true (by omega); obtain ⟨go7, co7, eo7, gb7, gl7, cl7, HG7⟩ := Kd.R_form HO295.out (by omega); (first | cases eo7 | (injection eo7 with ea_ en_ ec_; (first | subst ea_ | (injection ea_ with ea_; subst ea_)); subst ec_; clear en_)); have GB7 := Aside0.mk gb7; have GG7 := Aside0.mk HG7; clear gb7 gl7 HG7; obtain ⟨hx7_0, hf7_0⟩ := Kd.R_celln 0 HO295.out (2000 : Int) p7 q7; (try rw [show ((2000 : Int)).toNat = 2000 from rfl] at hx7_0); (try simp only [Nat.reduceMul, Nat.zero_mul, Nat.zero_add, Nat.reduceAdd] at hx7_0); (try rw [show ((2000 : Int)).toNat = 2000 from rfl] at hf7_0); (try simp only [Nat.reduceMul, Nat.zero_mul, Nat.zero_add, Nat.reduceAdd] at hf7_0); replace p7 := eq_true p7; replace q7 := eq_true q7; obtain ⟨hy10_, hz10_⟩ := Kd.R_celln 0 HO295.out (2000 : Int) (by omega) (of_decide_eq_true (by first | (with_reducible assumption) | assumption)); (try simp only [Int.reduceToNat, Int.toNat_zero, Int.toNat_ofNat, Nat.reduceMul, Nat.zero_mul, Nat.zero_add] at hy10_ hz10_); (try rw [show ((2000 : Int)).toNat = 2000 from rfl] at hy10_); (try rw [show ((2000 : Int)).toNat = 2000 from rfl] at hz10_); have HP10 := Kd.R_putg HO295.out (2000 : Int) 1) | ((with_reducible refine gate_store (t := 2) (p := 25) rfl ?_); refine store_event (t := 2) (p := 25) (v := ?vo_w11) (w1 := (w8.setCell ⟨go7, (2000 : Int).toNat, none⟩ (.int .i64 1))) ?hg ?ho ?hn ?hr ?_; (case ho => rfl); (case hg => rfl); (case hn => rfl); (case hr => first | (go_simp; done) | (go_simp; rfl)); intro w11 hw; have hg : w8.grownBy w11 (some go7) := (by rw [hw]; exact HP10.2); have hp_ : Kd.R (Kd.int .i64) 2 w11 w.heap.size (fun _ => True) (.slice (some ⟨go7, 0, none⟩) y293.length co7) y296 := (by rw [hw, Ny296.out]; exact HP10.1); clear HP10; have n0_ := Aside0.mk (hp_); have n1_ := Aside0.mk ((by rw [hw]; exact below_set (HB.out) GB7.out : Below w.heap.size w w11)); clear HO295; clear HB; have HO295 := n0_; have HB := n1_; clear n0_ n1_; clear hg hw hp_))
   go_loopg [10, 11] k (fun kq v10 v11 w' => ∃ (x10_1 : List Int) (x11_1 : Int), v11 = .int .i64 x11_1 ∧ Aside0 (spec_WaysToWeigh.l0 kq l0 a1 a2 4001 x10_1 x11_1 = some (r1, r2)) ∧ Aside0 (kq ≤ k) ∧ Aside0 (Kd.R (Kd.int .i64) 2 w' w.heap.size (fun _ => True) v10 x10_1) ∧ Aside0 (Below w.heap.size w w'))
   case atStart => exact ⟨(y296), (0), (by first | rfl | (simp; done) | (simp [*]; done)), H', ⟨Nat.le_refl _⟩, ⟨by (with_reducible repeat (first | apply Kd.R_alloc | apply Kd.R_drewN | apply Kd.R_drew)); exact HO295.out⟩, ⟨by repeat (first | (with_reducible first | exact HB.out | apply below_alloc | apply pw_below_drewN | apply below_drew1) | exact HB.out)⟩⟩
   case round =>
    clear H'
    try clear c2
    try clear p2
    try clear c4
    try clear c5
    try clear c5b0
    try clear c5b1
    try clear c6
    try clear c6b0
    try clear c6b1
    try clear p7
    try clear q7
    try clear hx7
    try clear qi7
    try clear hf7
    try clear hx7_0
    try clear p7
    try clear q7
    obtain ⟨x10_1, x11_1, rfl, HA, HK1, HO_10, HB⟩ := hrel
    cases gk with
    | zero => exact absurd HA.out (by simp [spec_WaysToWeigh.l0])
    | succ k1 =>
     have H := HA.out
     clear HA
     simp only [spec_WaysToWeigh.l0] at H
     by_cases c12 : x11_1 < (l0.length : Int)
     ·rw [if_pos c12] at H
      have c12b0 : decide (x11_1 < (l0.length : Int)) = true := decide_eq_true c12
      clear c12
      by_cases c13 : (0 : Int) ≤ 4001
      ·rw [if_pos c13] at H
       have c13b0 := eq_true c13
       have c13b1 : decide ((0 : Int) ≤ 4001) = true := decide_eq_true c13
       clear c13
       by_cases c14 : (4001 : Int).toNat ≤ 35184372088832
       ·rw [if_pos c14] at H
        have c14b0 := eq_true c14
        have c14b1 : decide ((4001 : Int).toNat ≤ 35184372088832) = true := decide_eq_true c14
        clear c14
        obtain ⟨y298, hy298⟩ : ∃ y_ : List Int, y_ = (List.replicate (4001 : Int).toNat 0) := ⟨_, rfl⟩
        replace H : (spec_WaysToWeigh.l1 k1 l0 a1 a2 4001 x10_1 x11_1 y298 0) = some (r1, r2) := by first | (rw [hy298]; with_reducible exact H) | (have H2_ := (Option.bind_some _ _).symm.trans H; rw [hy298]; with_reducible exact H2_) | (have H2_ := (Option.bind_some _ _).symm.trans H; with_reducible exact H2_) | with_reducible exact H | (rw [hy298]; exact H) | exact H
        have Ny298 := Aside0.mk hy298
        clear hy298
        have H' := Aside0.mk H
        clear H
        go_wp2_with (first | ((with_reducible refine gate_dst (N := 33) rfl ?_); refine Kd.R_make (Kd.int .i64) _ 2 rfl (N := 33) rfl 44 _ _ rfl 4001 rfl rfl Try.underlying44 (.int .i64 0) 8 info2 rfl (by decide) (by omega) 0 (ok := fun _ => True) (okp := fun _ => True) rfl (fun _ hk => hk) trivial (by omega) (by omega) (Below.refl _ _) (Nat.le_refl _) ?_; intro v299 w15 ho16 hb hg_ hnew_; clear hg_ hnew_; (first | rw [← Ny298.out] at ho16 | (simp only [Int.reduceToNat] at ho16; rw [← Ny298.out] at ho16)); have n0_ := Aside0.mk (Kd.R_elder' (by (with_reducible repeat (first | apply Kd.R_alloc | apply Kd.R_drewN | apply Kd.R_drew)); exact HO_10.out) (Kd.R_base ho16) hb); have n1_ := Aside0.mk (Kd.R_lower (Kd.R_new' ho16 (Kd.R_lt (by (with_reducible repeat (first | apply Kd.R_alloc | apply Kd.R_drewN | apply Kd.R_drew)); exact HO_10.out))) (below_size (by repeat (first | (with_reducible first | exact HB.out | apply below_alloc | apply pw_below_drewN | apply below_drew1) | exact HB.out)))); have n2_ := Aside0.mk (below_step (by repeat (first | (with_reducible first | exact HB.out | apply below_alloc | apply pw_below_drewN | apply below_drew1) | exact HB.out)) hb); clear HO_10; clear HB; have HO_10 := n0_; have HO300 := n1_; have HB := n2_; clear n0_ n1_ n2_; clear hb ho16))
        go_loopg [13] k1 (fun kq v13 w' => ∃ (x12_2 : List Int) (x13_2 : Int), v13 = .int .i64 x13_2 ∧ Aside0 (spec_WaysToWeigh.l1 kq l0 a1 a2 4001 x10_1 x11_1 x12_2 x13_2 = some (r1, r2)) ∧ Aside0 (kq ≤ k1) ∧ Aside0 (Kd.R (Kd.int .i64) 2 w' w.heap.size (fun k_ => some k_ ≠ (v299 : Value).ownBlock) u10 x10_1) ∧ Aside0 (Kd.R (Kd.int .i64) 2 w' w.heap.size (fun k_ => some k_ ≠ (u10 : Value).ownBlock) v299 x12_2) ∧ Aside0 (Below w.heap.size w w'))
        case atStart => exact ⟨(y298), (0), (by first | rfl | (simp; done) | (simp [*]; done)), H', ⟨Nat.le_refl _⟩, ⟨by (with_reducible repeat (first | apply Kd.R_alloc | apply Kd.R_drewN | apply Kd.R_drew)); exact Kd.R_mono HO_10.out (fun _ hk => hk.2)⟩, ⟨by (with_reducible repeat (first | apply Kd.R_alloc | apply Kd.R_drewN | apply Kd.R_drew)); exact Kd.R_mono HO300.out (fun _ hk => hk.2)⟩, ⟨by repeat (first | (with_reducible first | exact HB.out | apply below_alloc | apply pw_below_drewN | apply below_drew1) | exact HB.out)⟩⟩
        case round =>
         clear H'
         try clear c1
         try clear c2
         try clear p2
         try clear c4
         try clear c5
         try clear c5b0
         try clear c5b1
         try clear c6
         try clear c6b0
         try clear c6b1
         try clear p7
         try clear q7
         try clear hx7
         try clear qi7
         try clear hf7
         try clear c12
         try clear c12b0
         try clear c13
         try clear c13b0
         try clear c13b1
         try clear c14
         try clear c14b0
         try clear c14b1
         try clear hx7_0
         try clear p2
         try clear p7
         try clear q7
         obtain ⟨x12_2, x13_2, rfl, HA, HK2, HO_10, HO_12, HB⟩ := hrel
         cases gk with
         | zero => exact absurd HA.out (by simp [spec_WaysToWeigh.l1])
         | succ k2 =>
          have H := HA.out
          clear HA
          simp only [spec_WaysToWeigh.l1] at H
          by_cases c17 : x13_2 < 4001
          ·rw [if_pos c17] at H
           have c17b0 : decide (x13_2 < 4001) = true := decide_eq_true c17
           clear c17
           replace H := Option.bind_eq_some_iff.mp H
           obtain ⟨t301, A180, H⟩ := H
           replace H : (spec_WaysToWeigh.l2 k2 l0 a1 a2 4001 x10_1 x11_1 x12_2 x13_2 t301) = some (r1, r2) := H
           have A18 := Aside0.mk A180
           clear A180
           have H' := Aside0.mk H
           clear H
           go_wp2_with (first | ((with_reducible refine gate_callee (f := 45) rfl ?_); refine goesL_ (some 40) rfl rfl Try.func45 (by kernel_rfl) rfl #[.bool a2] rfl (by (try simp only [List.map_toArray, List.map_cons, List.map_nil]); first | done | rfl | (simp only [List.length_drop, List.length_take]; rfl)) ?_; (with_reducible refine (spec_l01Least.calls a2 t301 _ A18.out).mono ?_); rintro e w' ⟨rfl, ⟨nd, rfl⟩⟩; refine ⟨_, rfl, ?_⟩))
           go_loopg [14] k2 (fun kq v14 w' => ∃ (x12_3 : List Int) (x14_3 : Int), v14 = .int .i64 x14_3 ∧ Aside0 (spec_WaysToWeigh.l2 kq l0 a1 a2 4001 x10_1 x11_1 x12_3 x13_2 x14_3 = some (r1, r2)) ∧ Aside0 (kq ≤ k2) ∧ Aside0 (Kd.R (Kd.int .i64) 2 w' w.heap.size (fun k_ => some k_ ≠ (v299 : Value).ownBlock) u10 x10_1) ∧ Aside0 (Kd.R (Kd.int .i64) 2 w' w.heap.size (fun k_ => some k_ ≠ (u10 : Value).ownBlock) v299 x12_3) ∧ Aside0 (Below w.heap.size w w'))
           case atStart => exact ⟨(x12_2), (t301), (by first | rfl | (simp; done) | (simp [*]; done)), H', ⟨Nat.le_refl _⟩, ⟨by (with_reducible repeat (first | apply Kd.R_alloc | apply Kd.R_drewN | apply Kd.R_drew)); exact HO_10.out⟩, ⟨by (with_reducible repeat (first | apply Kd.R_alloc | apply Kd.R_drewN | apply Kd.R_drew)); exact HO_12.out⟩, ⟨by repeat (first | (with_reducible first | exact HB.out | apply below_alloc | apply pw_below_drewN | apply below_drew1) | exact HB.out)⟩⟩
           case round =>
            clear H'
            try clear c1
            try clear c2
            try clear p2
            try clear c4
            try clear c5
            try clear c5b0
            try clear c5b1
            try clear c6
            try clear c6b0
            try clear c6b1
            try clear p7
            try clear q7
            try clear hx7
            try clear qi7
            try clear hf7
            try clear c12
            try clear c12b0
            try clear c13
            try clear c13b0
            try clear c13b1
            try clear c14
            try clear c14b0
            try clear c14b1
            try clear c17
            try clear c17b0
            try clear hx7_0
            try clear p2
            try clear p7
            try clear q7
            obtain ⟨x12_3, x14_3, rfl, HA, HK3, HO_10, HO_12, HB⟩ := hrel
            cases gk with
            | zero => exact absurd HA.out (by simp [spec_WaysToWeigh.l2])
            | succ k3 =>
             have H := HA.out
             clear HA
             simp only [spec_WaysToWeigh.l2] at H
             by_cases c19 : x14_3 ≤ 1
             ·rw [if_pos c19] at H
              have c19b0 : decide (x14_3 ≤ 1) = true := decide_eq_true c19
              clear c19
              by_cases c20 : 0 ≤ x11_1
              ·rw [if_pos c20] at H
               have c20b0 : decide (0 ≤ x11_1) = true := decide_eq_true c20
               clear c20
               by_cases c21 : x11_1 < (l0.length : Int)
               ·rw [if_pos c21] at H
                have c21b0 : decide (x11_1 < (l0.length : Int)) = true := decide_eq_true c21
                clear c21
                replace H := Option.bind_eq_some_iff.mp H
                obtain ⟨t303, A220, H⟩ := H
                replace H : (if t303 = true then (if 0 ≤ x13_2 then (if x13_2 < (x12_3.length : Int) then (if 0 ≤ (wrap64 (x13_2 - (wrap64 (x14_3 * (wrap64 (rd l0 x11_1)))))) then (if (wrap64 (x13_2 - (wrap64 (x14_3 * (wrap64 (rd l0 x11_1)))))) < (x10_1.length : Int) then (spec_WaysToWeigh.l2 k3 l0 a1 a2 4001 x10_1 x11_1 (x12_3.set (x13_2 : Int).toNat (wrap64 ((rd x12_3 x13_2) + (rd x10_1 (wrap64 (x13_2 - (wrap64 (x14_3 * (wrap64 (rd l0 x11_1)))))))))) x13_2 (wrap64 (x14_3 + 1))) else (none)) else (none)) else (none)) else (none)) else (spec_WaysToWeigh.l2 k3 l0 a1 a2 4001 x10_1 x11_1 x12_3 x13_2 (wrap64 (x14_3 + 1)))) = some (r1, r2) := H
                have A22 := Aside0.mk (by rw [show wrap64 (4001 - 1) = 4000 from by (unfold wrap64; omega)] at A220; exact A220)
                clear A220
                by_cases c23 : t303 = true
                ·subst c23
                 have H1 : (if 0 ≤ x13_2 then (if x13_2 < (x12_3.length : Int) then (if 0 ≤ (wrap64 (x13_2 - (wrap64 (x14_3 * (wrap64 (rd l0 x11_1)))))) then (if (wrap64 (x13_2 - (wrap64 (x14_3 * (wrap64 (rd l0 x11_1)))))) < (x10_1.length : Int) then (spec_WaysToWeigh.l2 k3 l0 a1 a2 4001 x10_1 x11_1 (x12_3.set (x13_2 : Int).toNat (wrap64 ((rd x12_3 x13_2) + (rd x10_1 (wrap64 (x13_2 - (wrap64 (x14_3 * (wrap64 (rd l0 x11_1)))))))))) x13_2 (wrap64 (x14_3 + 1))) else (none)) else (none)) else (none)) else (none)) = some (r1, r2) := by rw [if_pos rfl] at H; exact H
                 clear H
                 have H := H1
                 clear H1
                 by_cases c24 : 0 ≤ x13_2
                 ·rw [if_pos c24] at H
                  have c24b0 : decide (0 ≤ x13_2) = true := decide_eq_true c24
                  clear c24
                  by_cases c25 : x13_2 < (x12_3.length : Int)
                  ·rw [if_pos c25] at H
                   have c25b0 : decide (x13_2 < (x12_3.length : Int)) = true := decide_eq_true c25
                   clear c25
                   obtain ⟨ji26, hji26⟩ : ∃ j_ : Int, (wrap64 (x13_2 - (wrap64 (x14_3 * (wrap64 (rd l0 x11_1)))))) = j_ := ⟨_, rfl⟩
                   replace H : (if 0 ≤ (ji26) then (if (ji26) < (x10_1.length : Int) then (spec_WaysToWeigh.l2 k3 l0 a1 a2 4001 x10_1 x11_1 (x12_3.set (x13_2 : Int).toNat (wrap64 ((rd x12_3 x13_2) + (rd x10_1 (ji26))))) x13_2 (wrap64 (x14_3 + 1))) else (none)) else (none)) = some (r1, r2) := by first | (rw [hji26] at H; exact H) | (simp only [hji26] at H ⊢; exact H)
                   (try rw [hji26] at A22)
                   have hji26w : (IntKind.i64.wrap (x13_2 - (wrap64 (x14_3 * (wrap64 (rd l0 x11_1)))))) = ji26 := (i64_w _).trans hji26
                   by_cases c27 : 0 ≤ (ji26)
                   ·rw [if_pos c27] at H
                    have c27b0 : decide (0 ≤ (ji26)) = true := decide_eq_true c27
                    clear c27
                    by_cases c28 : (ji26) < (x10_1.length : Int)
                    ·rw [if_pos c28] at H
                     have c28b0 : decide ((ji26) < (x10_1.length : Int)) = true := decide_eq_true c28
                     clear c28
                     obtain ⟨y306, hy306⟩ : ∃ y_ : List Int, y_ = (x12_3.set (x13_2 : Int).toNat (wrap64 ((rd x12_3 x13_2) + (rd x10_1 (ji26))))) := ⟨_, rfl⟩
                     replace H : (spec_WaysToWeigh.l2 k3 l0 a1 a2 4001 x10_1 x11_1 y306 x13_2 (wrap64 (x14_3 + 1))) = some (r1, r2) := by first | (rw [hy306]; with_reducible exact H) | (have H2_ := (Option.bind_some _ _).symm.trans H; rw [hy306]; with_reducible exact H2_) | (have H2_ := (Option.bind_some _ _).symm.trans H; with_reducible exact H2_) | with_reducible exact H | (rw [hy306]; exact H) | exact H
                     have Ny306 := Aside0.mk hy306
                     clear hy306
                     have H' := Aside0.mk H
                     clear H
                     have p302 : 0 ≤ (x11_1 : Int) := of_decide_eq_true (by first | (with_reducible assumption) | assumption)
                     have q302 : x11_1 < (l0.length : Int) := of_decide_eq_true (by first | (with_reducible assumption) | assumption)
                     obtain ⟨ad302, e302, hx302_0⟩ := Kd.at_int HR0.out x11_1 p302 q302
                     cases e302
                     replace hx302_0 := (HB.out.cell (World.block_lt_of_cell? w _ hx302_0)).trans hx302_0
                     replace p302 := eq_true p302
                     replace q302 := eq_true q302
                     try go_wp2_with (first | ((with_reducible refine gate_callee (f := 46) rfl ?_); refine goesL_ (some 57) rfl rfl Try.func46 (by kernel_rfl) rfl #[.int .i64 ji26, .int .i64 0, .int .i64 4000] rfl (by (try simp only [List.map_toArray, List.map_cons, List.map_nil]); first | done | (simp only [hji26]; rfl) | rfl | (simp only [List.length_drop, List.length_take]; rfl)) ?_; (with_reducible refine (spec_l00In.calls ji26 0 4000 true _ A22.out).mono ?_); rintro e w' ⟨rfl, ⟨nd, rfl⟩⟩; refine ⟨_, rfl, ?_⟩; (try (rw [drewN_self wr]; generalize hq_ : World.drewN wr _ = wr; have n0_ : Aside0 (Kd.R (Kd.int .i64) 2 wr w.heap.size (fun k_ => some k_ ≠ (v299 : Value).ownBlock) u10 x10_1) := ⟨by rw [← hq_]; exact (by (with_reducible repeat (first | apply Kd.R_alloc | apply Kd.R_drewN | apply Kd.R_drew)); exact HO_10.out)⟩; have n1_ : Aside0 (Kd.R (Kd.int .i64) 2 wr w.heap.size (fun k_ => some k_ ≠ (u10 : Value).ownBlock) v299 x12_3) := ⟨by rw [← hq_]; exact (by (with_reducible repeat (first | apply Kd.R_alloc | apply Kd.R_drewN | apply Kd.R_drew)); exact HO_12.out)⟩; have n2_ : Aside0 (Below w.heap.size w wr) := ⟨by rw [← hq_]; exact (by repeat (first | (with_reducible first | exact HB.out | apply below_alloc | apply pw_below_drewN | apply below_drew1) | exact HB.out))⟩; clear HO_10 HO_12 HB hq_; have HO_10 := n0_; have HO_12 := n1_; have HB := n2_; clear n0_ n1_ n2_))))
                     have n0_ := Aside0.mk (Kd.R_drew HO_10.out)
                     have n1_ := Aside0.mk (Kd.R_drew HO_12.out)
                     have n2_ := Aside0.mk (below_drew1 HB.out)
                     clear HO_10
                     clear HO_12
                     clear HB
                     have HO_10 := n0_
                     have HO_12 := n1_
                     have HB := n2_
                     clear n0_ n1_ n2_
                     obtain ⟨Ao31, co31, eo31⟩ := Kd.R_slice HO_12.out
                     (first | subst eo31 | (injection eo31 with f1_ f2_ f3_; have f4_ := f1_.symm; have f5_ := f3_.symm; clear f1_ f2_ f3_; subst f4_; subst f5_))
                     have p304 : 0 ≤ (x13_2 : Int) := of_decide_eq_true (by first | (with_reducible assumption) | assumption)
                     have q304 : x13_2 < (x12_3.length : Int) := of_decide_eq_true (by first | (with_reducible assumption) | assumption)
                     obtain ⟨ad304, e304, hx304_0⟩ := Kd.at_int (Kd.R_reads' HO_12.out).2.2 x13_2 p304 q304
                     cases e304
                     replace p304 := eq_true p304
                     replace q304 := eq_true q304
                     obtain ⟨Ao32, co32, eo32⟩ := Kd.R_slice HO_10.out
                     (first | subst eo32 | (injection eo32 with f1_ f2_ f3_; have f4_ := f1_.symm; have f5_ := f3_.symm; clear f1_ f2_ f3_; subst f4_; subst f5_))
                     have p305 : 0 ≤ ((ji26) : Int) := of_decide_eq_true (by first | (with_reducible assumption) | assumption)
                     have q305 : (ji26) < (x10_1.length : Int) := of_decide_eq_true (by first | (with_reducible assumption) | assumption)
                     obtain ⟨ad305, e305, hx305_0⟩ := Kd.at_int (Kd.R_reads' HO_10.out).2.2 (ji26) p305 q305
                     cases e305
                     replace p305 := eq_true p305
                     replace q305 := eq_true q305
                     have p29 : 0 ≤ (x13_2 : Int) := of_decide_eq_true (by first | (with_reducible assumption) | assumption)
                     have q29 : (x13_2 : Int) < ((x12_3.length : Int) : Int) := of_decide_eq_true (by first | (with_reducible assumption) | assumption)
                     obtain ⟨go29, co29, eo29, gb29, gl29, cl29, HG29⟩ := Kd.R_form HO_12.out (by omega)
                     (first | cases eo29 | (injection eo29 with ea_ en_ ec_; (first | subst ea_ | (injection ea_ with ea_; subst ea_)); subst ec_; clear en_))
                     have GB29 := Aside0.mk gb29
                     have GG29 := Aside0.mk HG29
                     clear gb29 gl29 HG29
                     (first | simp only [add_plain] at hx304_0 | skip)
                     obtain ⟨hx29_0, hf29_0⟩ := Kd.R_celln 0 HO_12.out (x13_2 : Int) p29 q29
                     replace p29 := eq_true p29
                     replace q29 := eq_true q29
                     have HP33 := Kd.R_putn HO_12.out (x13_2 : Int) (wrap64 ((rd x12_3 x13_2) + (rd x10_1 (ji26))))
                     rw [← Ny306.out] at HP33
                     have HQ33 := Aside0.mk HP33
                     clear HP33
                     refine start_ (n := 11) (S := fun w' => w'.cell? ⟨go29, (x13_2).toNat, none⟩ = some (.int .i64 (rd x12_3 x13_2)) ∧ w'.cell? (ad305.add ((ji26)).toNat) = some (.int .i64 (rd x10_1 (ji26)))) (ds := [10]) #[false, false, false, false, false, false, false, false, false, false, false] (by kernel_rfl) rfl rfl ⟨hx304_0, hx305_0⟩ (fun hHeld => ?_); refine with_tabW spec_WaysToWeigh.tab19 spec_WaysToWeigh.bits19 (fun HT_ HW_ => ?_)
                     generalize wr.drew = w30 at HO_10 HO_12 HB GG29 HQ33 hf29_0 hx29_0 hx304_0 hx305_0 hHeld ⊢
                     refine pure_ (i := 0) (N := some 58) (v := ?_) (a' := ?_) #[true, false, false, false, false, false, false, false, false, false, false] rfl rfl (any_of HT_.out (by kernel_rfl)) (fun _ _ _ h => h) (Or.inl ⟨by rfl, ?_⟩) ?_ ?_
                     rotate_left
                     ·intro w'
                      go_simp
                      with_reducible rfl
                     rotate_left
                     ·simp only [Act.put, List.setIfInBounds_toArray, List.set_cons_zero, List.set_cons_succ, i64_w, i32_w]
                      rfl
                     refine pure_ (i := 1) (N := some 59) (v := ?_) (a' := ?_) #[true, true, false, false, false, false, false, false, false, false, false] rfl rfl (any_of HT_.out (by kernel_rfl)) (fun _ _ _ h => h) (Or.inl ⟨by rfl, ?_⟩) ?_ ?_
                     rotate_left
                     ·intro w'
                      go_simp
                      with_reducible rfl
                     rotate_left
                     ·simp only [Act.put, List.setIfInBounds_toArray, List.set_cons_zero, List.set_cons_succ, i64_w, i32_w]
                      rfl
                     refine pure_ (i := 2) (N := some 60) (v := ?_) (a' := ?_) #[true, true, true, false, false, false, false, false, false, false, false] rfl rfl (any_of HT_.out (by kernel_rfl)) (fun _ _ _ h => h) (Or.inl ⟨by rfl, ?_⟩) ?_ ?_
                     rotate_left
                     ·intro w'
                      go_simp
                      with_reducible rfl
                     rotate_left
                     ·simp only [Act.put, List.setIfInBounds_toArray, List.set_cons_zero, List.set_cons_succ, i64_w, i32_w]
                      rfl
                     refine pure_ (i := 4) (N := some 62) (v := ?_) (a' := ?_) #[true, true, true, false, true, false, false, false, false, false, false] rfl rfl (any_of HT_.out (by kernel_rfl)) (fun _ _ _ h => h) (Or.inl ⟨by rfl, ?_⟩) ?_ ?_
                     rotate_left
                     ·intro w'
                      go_simp
                      with_reducible rfl
                     rotate_left
                     ·simp only [Act.put, List.setIfInBounds_toArray, List.set_cons_zero, List.set_cons_succ, i64_w, i32_w]
                      rfl
                     refine pure_ (i := 5) (N := some 63) (v := ?_) (a' := ?_) #[true, true, true, false, true, true, false, false, false, false, false] rfl rfl (any_of HT_.out (by kernel_rfl)) (fun _ _ _ h => h) (Or.inl ⟨by rfl, ?_⟩) ?_ ?_
                     rotate_left
                     ·intro w'
                      go_simp
                      with_reducible rfl
                     rotate_left
                     ·simp only [Act.put, List.setIfInBounds_toArray, List.set_cons_zero, List.set_cons_succ, i64_w, i32_w]
                      rfl
                     refine pure_ (i := 6) (N := some 64) (v := ?_) (a' := ?_) #[true, true, true, false, true, true, true, false, false, false, false] rfl rfl (any_of HT_.out (by kernel_rfl)) (fun _ _ _ h => h) (Or.inl ⟨by rfl, ?_⟩) ?_ ?_
                     rotate_left
                     ·intro w'
                      go_simp
                      with_reducible rfl
                     rotate_left
                     ·simp only [Act.put, List.setIfInBounds_toArray, List.set_cons_zero, List.set_cons_succ, i64_w, i32_w]
                      rfl
                     refine take_ (i := 3) (N := some 61) (v := ?_) (a' := ?_) #[true, true, true, true, true, true, true, false, false, false, false] rfl rfl (take_ofW HT_.out HW_.out (by kernel_rfl)) (fun _ _ _ h => h) (Or.inl ⟨by rfl, ?_⟩) hHeld ?_ ?_
                     rotate_left
                     ·rintro w' ⟨s0, s1⟩
                      go_simp
                      with_reducible rfl
                     rotate_left
                     ·simp only [Act.put, List.setIfInBounds_toArray, List.set_cons_zero, List.set_cons_succ, i64_w, i32_w]
                      rfl
                     refine take_ (i := 7) (N := some 65) (v := ?_) (a' := ?_) #[true, true, true, true, true, true, true, true, false, false, false] rfl rfl (take_ofW HT_.out HW_.out (by kernel_rfl)) (fun _ _ _ h => h) (Or.inl ⟨by rfl, ?_⟩) hHeld ?_ ?_
                     rotate_left
                     ·rintro w' ⟨s0, s1⟩
                      go_simp
                      with_reducible rfl
                     rotate_left
                     ·simp only [Act.put, List.setIfInBounds_toArray, List.set_cons_zero, List.set_cons_succ, i64_w, i32_w]
                      rfl
                     refine pure_ (i := 8) (N := some 66) (v := ?_) (a' := ?_) #[true, true, true, true, true, true, true, true, true, false, false] rfl rfl (any_of HT_.out (by kernel_rfl)) (fun _ _ _ h => h) (Or.inl ⟨by rfl, ?_⟩) ?_ ?_
                     rotate_left
                     ·intro w'
                      go_simp
                      with_reducible rfl
                     rotate_left
                     ·simp only [Act.put, List.setIfInBounds_toArray, List.set_cons_zero, List.set_cons_succ, i64_w, i32_w]
                      rfl
                     refine pure_ (i := 9) (N := some 67) (v := ?_) (a' := ?_) #[true, true, true, true, true, true, true, true, true, true, false] rfl rfl (any_of HT_.out (by kernel_rfl)) (fun _ _ _ h => h) (Or.inl ⟨by rfl, ?_⟩) ?_ ?_
                     rotate_left
                     ·intro w'
                      go_simp
                      with_reducible rfl
                     rotate_left
                     ·simp only [Act.put, List.setIfInBounds_toArray, List.set_cons_zero, List.set_cons_succ, i64_w, i32_w]
                      rfl
                     refine last_ (i := 10) (N := none) #[true, true, true, true, true, true, true, true, true, true, true] rfl rfl (one_of HT_.out (by kernel_rfl)) (by decide) (fun K hK => ?_)
                     refine skip_ (w1 := ?_) (by rfl) rfl ?_ ?_
                     rotate_left
                     ·go_simp
                      rfl
                     refine hK.out _ _ ?_
                     clear hK K
                     refine done_ (done_of HT_.out (by kernel_rfl)) ?_
                     try go_wp2
                     go_roundg k3
                     case measure => have := HK1.out; have := HK2.out; have := HK3.out; omega
                     case rel => exact ⟨(y306), (wrap64 (x14_3 + 1)), (by first | rfl | (simp; done) | (simp [*]; done)), H', ⟨by have := HK1.out; have := HK2.out; have := HK3.out; omega⟩, ⟨by (with_reducible repeat (first | apply Kd.R_alloc | apply Kd.R_drewN | apply Kd.R_drew)); exact Kd.R_mono (Kd.R_far (p := ⟨go29, (x13_2 : Int).toNat, none⟩) (Kd.R_mono HO_10.out (fun k_ hk => (⟨hk, fun e_ => hk (by rw [e_]; rfl)⟩ : _ ∧ k_ ≠ go29))) (fun _ hk => hk.2) (.int .i64 (wrap64 ((rd x12_3 x13_2) + (rd x10_1 (ji26)))))) (fun _ hk => hk.1)⟩, ⟨by (with_reducible repeat (first | apply Kd.R_alloc | apply Kd.R_drewN | apply Kd.R_drew)); exact HQ33.out⟩, ⟨by repeat (first | (with_reducible first | exact HB.out | apply below_alloc | apply pw_below_drewN | apply below_drew1 | refine below_set ?_ GB29.out) | exact HB.out)⟩⟩
                    ·rw [if_neg c28] at H
                     exact absurd H (by simp)
                   ·rw [if_neg c27] at H
                    exact absurd H (by simp)
                  ·rw [if_neg c25] at H
                   exact absurd H (by simp)
                 ·rw [if_neg c24] at H
                  exact absurd H (by simp)
                ·replace c23 := Bool.eq_false_iff.mpr c23
                 subst c23
                 have H1 : (spec_WaysToWeigh.l2 k3 l0 a1 a2 4001 x10_1 x11_1 x12_3 x13_2 (wrap64 (x14_3 + 1))) = some (r1, r2) := by rw [if_neg (show ¬ (false = true) by decide)] at H; exact H
                 clear H
                 have H := H1
                 clear H1
                 have H' := Aside0.mk H
                 clear H
                 have p302 : 0 ≤ (x11_1 : Int) := of_decide_eq_true (by first | (with_reducible assumption) | assumption)
                 have q302 : x11_1 < (l0.length : Int) := of_decide_eq_true (by first | (with_reducible assumption) | assumption)
                 obtain ⟨ad302, e302, hx302_0⟩ := Kd.at_int HR0.out x11_1 p302 q302
                 cases e302
                 replace hx302_0 := (HB.out.cell (World.block_lt_of_cell? w _ hx302_0)).trans hx302_0
                 replace p302 := eq_true p302
                 replace q302 := eq_true q302
                 go_wp2_with (first | ((with_reducible refine gate_callee (f := 46) rfl ?_); refine goesL_ (some 57) rfl rfl Try.func46 (by kernel_rfl) rfl #[.int .i64 (wrap64 (x13_2 - (wrap64 (x14_3 * (wrap64 (rd l0 x11_1)))))), .int .i64 0, .int .i64 4000] rfl (by (try simp only [List.map_toArray, List.map_cons, List.map_nil]); first | done | rfl | (simp only [List.length_drop, List.length_take]; rfl)) ?_; (with_reducible refine (spec_l00In.calls (wrap64 (x13_2 - (wrap64 (x14_3 * (wrap64 (rd l0 x11_1)))))) 0 4000 false _ A22.out).mono ?_); rintro e w' ⟨rfl, ⟨nd, rfl⟩⟩; refine ⟨_, rfl, ?_⟩))
                 go_roundg k3
                 case measure => have := HK1.out; have := HK2.out; have := HK3.out; omega
                 case rel => exact ⟨(x12_3), (wrap64 (x14_3 + 1)), (by first | rfl | (simp; done) | (simp [*]; done)), H', ⟨by have := HK1.out; have := HK2.out; have := HK3.out; omega⟩, ⟨by (with_reducible repeat (first | apply Kd.R_alloc | apply Kd.R_drewN | apply Kd.R_drew)); exact HO_10.out⟩, ⟨by (with_reducible repeat (first | apply Kd.R_alloc | apply Kd.R_drewN | apply Kd.R_drew)); exact HO_12.out⟩, ⟨by repeat (first | (with_reducible first | exact HB.out | apply below_alloc | apply pw_below_drewN | apply below_drew1) | exact HB.out)⟩⟩
               ·rw [if_neg c21] at H
                exact absurd H (by simp)
              ·rw [if_neg c20] at H
               exact absurd H (by simp)
             ·rw [if_neg c19] at H
              have c19b0 : decide (x14_3 ≤ 1) = false := decide_eq_false c19
              clear c19
              have H' := Aside0.mk H
              clear H
              go_wp2
              go_roundg k3
              case measure => have := HK1.out; have := HK2.out; have := HK3.out; omega
              case rel => exact ⟨(x12_3), (wrap64 (x13_2 + 1)), (by first | rfl | (simp; done) | (simp [*]; done)), H', ⟨by have := HK1.out; have := HK2.out; have := HK3.out; omega⟩, ⟨by (with_reducible repeat (first | apply Kd.R_alloc | apply Kd.R_drewN | apply Kd.R_drew)); exact HO_10.out⟩, ⟨by (with_reducible repeat (first | apply Kd.R_alloc | apply Kd.R_drewN | apply Kd.R_drew)); exact HO_12.out⟩, ⟨by repeat (first | (with_reducible first | exact HB.out | apply below_alloc | apply pw_below_drewN | apply below_drew1) | exact HB.out)⟩⟩
          ·rw [if_neg c17] at H
           have c17b0 : decide (x13_2 < 4001) = false := decide_eq_false c17
           clear c17
           have H' := Aside0.mk H
           clear H
           go_wp2
           go_roundg k2
           case measure => have := HK1.out; have := HK2.out; omega
           case rel => exact ⟨(x12_2), (wrap64 (x11_1 + 1)), (by first | rfl | (simp; done) | (simp [*]; done)), H', ⟨by have := HK1.out; have := HK2.out; omega⟩, ⟨by (with_reducible repeat (first | apply Kd.R_alloc | apply Kd.R_drewN | apply Kd.R_drew)); exact Kd.R_mono HO_12.out (fun _ hk => trivial)⟩, ⟨by repeat (first | (with_reducible first | exact HB.out | apply below_alloc | apply pw_below_drewN | apply below_drew1) | exact HB.out)⟩⟩
       ·rw [if_neg c14] at H
        exact absurd H (by simp)
      ·rw [if_neg c13] at H
       exact absurd H (by simp)
     ·rw [if_neg c12] at H
      have c12b0 : decide (x11_1 < (l0.length : Int)) = false := decide_eq_false c12
      clear c12
      obtain ⟨ji34, hji34⟩ : ∃ j_ : Int, (wrap64 (2000 + a1)) = j_ := ⟨_, rfl⟩
      replace H : (if 0 ≤ (ji34) then (if (ji34) < (x10_1.length : Int) then (some (rd x10_1 (ji34), 0)) else (none)) else (none)) = some (r1, r2) := by first | (rw [hji34] at H; exact H) | (simp only [hji34] at H ⊢; exact H)
      have hji34w : (IntKind.i64.wrap (2000 + a1)) = ji34 := (i64_w _).trans hji34
      by_cases c35 : 0 ≤ (ji34)
      ·rw [if_pos c35] at H
       have c35b0 : decide (0 ≤ (ji34)) = true := decide_eq_true c35
       clear c35
       by_cases c36 : (ji34) < (x10_1.length : Int)
       ·rw [if_pos c36] at H
        have c36b0 : decide ((ji34) < (x10_1.length : Int)) = true := decide_eq_true c36
        clear c36
        simp only [Option.some.injEq, Prod.mk.injEq] at H
        obtain ⟨rfl, rfl⟩ := H
        obtain ⟨Ao37, co37, eo37⟩ := Kd.R_slice HO_10.out
        subst eo37
        have p297 : 0 ≤ ((ji34) : Int) := of_decide_eq_true (by first | (with_reducible assumption) | assumption)
        have q297 : (ji34) < (x10_1.length : Int) := of_decide_eq_true (by first | (with_reducible assumption) | assumption)
        obtain ⟨ad297, e297, hx297_0⟩ := Kd.at_int (Kd.R_reads' HO_10.out).2.2 (ji34) p297 q297
        cases e297
        replace p297 := eq_true p297
        replace q297 := eq_true q297
        go_wp2
        go_ret2
        exact ⟨by first | rfl | (simp [errW_none, errW_some] <;> rfl) | (simp only [← hji34]; first | rfl | (simp [errW_none, errW_some] <;> rfl)) | (simp [*, errW_none, errW_some] <;> rfl), by repeat (first | (with_reducible first | exact HB.out | apply below_alloc | apply pw_below_drewN | apply below_drew1) | exact HB.out)⟩
       ·rw [if_neg c36] at H
        exact absurd H (by simp)
      ·rw [if_neg c35] at H
       exact absurd H (by simp)
  ·rw [if_neg c6] at H
   exact absurd H (by simp)
 ·rw [if_neg c5] at H
  have c5b0 : (t292 == 0) = false := beq_eq_false_iff_ne.mpr c5
  have c5b1 : (t292 != 0) = true := bne_iff_ne.mpr c5
  simp only [Option.some.injEq, Prod.mk.injEq] at H
  obtain ⟨rfl, rfl⟩ := H
  go_enter Try.func22, Try.ntmps22
  go_wp2_with (first | ((with_reducible refine gate_callee (f := 44) rfl ?_); refine goesL_ (some 18) rfl rfl Try.func44 (by kernel_rfl) rfl #[.slice A0 l0.length c0, .int .i64 a1] rfl (by (try simp only [List.map_toArray, List.map_cons, List.map_nil]); first | done | rfl | (simp only [List.length_drop, List.length_take]; rfl)) ?_; (with_reducible refine (spec_l01Asked.calls k _ _ l0 a1 t292 _ ?side1 ?side2 A4.out).mono ?_); (case side1 => repeat (first | exact HR0.out | (with_reducible refine Kd.C_alloc ?_ _) | (with_reducible refine Kd.C_drewN ?_ _) | (with_reducible refine Kd.C_drew ?_))); (case side2 => exact HC0.out); rintro e w' ⟨rfl, ⟨nd, rfl⟩⟩; refine ⟨_, rfl, ?_⟩))
  go_ret2
  exact ⟨by first | rfl | (simp [errW_none, errW_some] <;> rfl) | (simp [*, errW_none, errW_some] <;> rfl), by repeat (first | (with_reducible first | exact HB.out | apply below_alloc | apply pw_below_drewN | apply below_drew1) | exact HB.out)⟩

end Go.Proofs.Ythhihmhcfodjiaa.R
