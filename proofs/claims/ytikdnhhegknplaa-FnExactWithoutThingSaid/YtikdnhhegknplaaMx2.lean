-- Written by wip/tools/myprint.py, a program of this session, by way of the kit's print.
import Derived.Test.YtikdnhhegknplaaMx0
namespace Go.Proofs.Ytikdnhhegknplaa.M
open Go.RowKit Go.Proofs.YtikdnhhegknplaaW.PrintWords Go.Proofs.YtikdnhhegknplaaW.PrintLast Go.Proofs.YtikdnhhegknplaaW.PrintMore
attribute [local go_sem] max2_int min2_int max_two min_two max_three min_three max_four min_four   -- for this text's walks alone
set_option linter.unusedVariables false
set_option linter.unusedSimpArgs false

/-! ### spec_l05Same: function 38 -/
mutual
def spec_l05Same.j0 : Nat → Bool → Int → Int → List Int → Int → Int → List Int → Option (Bool)
  | 0, _, _, _, _, _, _, _ => none
  | k + 1, x38, x1000, x1001, x1002, x2000, x2001, x2002 => if x38 = true then (some false) else (spec_l05Same.l0 k 0 x1000 x1001 x1002 x2000 x2001 x2002)
def spec_l05Same.l0 : Nat → Int → Int → Int → List Int → Int → Int → List Int → Option (Bool)
  | 0, _, _, _, _, _, _, _ => none
  | k + 1, x5, x1000, x1001, x1002, x2000, x2001, x2002 => if x5 < (x1002.length : Int) then (if 0 ≤ x5 then (if x5 < (x2002.length : Int) then (if (rd x1002 x5) = (rd x2002 x5) then (spec_l05Same.l0 k (wrap64 (x5 + 1)) x1000 x1001 x1002 x2000 x2001 x2002) else (some false)) else (none)) else (none)) else (some true)
end
def spec_l05Same.f (k : Nat) (a0_0 : Int) (a0_1 : Int) (l0_2 : List Int) (a1_0 : Int) (a1_1 : Int) (l1_2 : List Int) : Option (Bool) := if a0_0 = a1_0 then (if a0_1 = a1_1 then (spec_l05Same.j0 k ((l0_2.length : Int) != (l1_2.length : Int)) a0_0 a0_1 l0_2 a1_0 a1_1 l1_2) else (spec_l05Same.j0 k true a0_0 a0_1 l0_2 a1_0 a1_1 l1_2)) else (spec_l05Same.j0 k true a0_0 a0_1 l0_2 a1_0 a1_1 l1_2)
theorem spec_l05Same.mono_l : ∀ k, (∀ y0 y1 y2 y3 y4 y5 y6, LeO (spec_l05Same.j0 k y0 y1 y2 y3 y4 y5 y6) (spec_l05Same.j0 (k + 1) y0 y1 y2 y3 y4 y5 y6)) ∧ (∀ y0 y1 y2 y3 y4 y5 y6, LeO (spec_l05Same.l0 k y0 y1 y2 y3 y4 y5 y6) (spec_l05Same.l0 (k + 1) y0 y1 y2 y3 y4 y5 y6))
  | 0 => ⟨fun _ _ _ _ _ _ _ r h => by simp [spec_l05Same.j0] at h, fun _ _ _ _ _ _ _ r h => by simp [spec_l05Same.l0] at h⟩
  | k + 1 => by
    obtain ⟨ih0, ih1⟩ := spec_l05Same.mono_l k
    refine ⟨?_, ?_⟩
    · intro y0 y1 y2 y3 y4 y5 y6
      unfold spec_l05Same.j0
      repeat' first
      | (with_reducible exact ih0 _ _ _ _ _ _ _)
      | (with_reducible exact ih1 _ _ _ _ _ _ _)
      | (with_reducible exact LeO.refl _)
      | (with_reducible exact LeO.none _)
      | (with_reducible refine LeO.ite ?_ ?_)
      | (with_reducible refine LeO.bind ?_ (fun _ => ?_))
      | exact ih0 _ _ _ _ _ _ _
      | exact ih1 _ _ _ _ _ _ _
      | exact LeO.none _
      | refine LeO.ite ?_ ?_
      | refine LeO.bind ?_ (fun _ => ?_)
    · intro y0 y1 y2 y3 y4 y5 y6
      unfold spec_l05Same.l0
      repeat' first
      | (with_reducible exact ih0 _ _ _ _ _ _ _)
      | (with_reducible exact ih1 _ _ _ _ _ _ _)
      | (with_reducible exact LeO.refl _)
      | (with_reducible exact LeO.none _)
      | (with_reducible refine LeO.ite ?_ ?_)
      | (with_reducible refine LeO.bind ?_ (fun _ => ?_))
      | exact ih0 _ _ _ _ _ _ _
      | exact ih1 _ _ _ _ _ _ _
      | exact LeO.none _
      | refine LeO.ite ?_ ?_
      | refine LeO.bind ?_ (fun _ => ?_)
theorem spec_l05Same.mono : ∀ a0 a1 a2 a3 a4 a5 k, LeO (spec_l05Same.f k a0 a1 a2 a3 a4 a5) (spec_l05Same.f (k + 1) a0 a1 a2 a3 a4 a5) := by
  intro a0 a1 a2 a3 a4 a5 k
  obtain ⟨ih0, ih1⟩ := spec_l05Same.mono_l k
  unfold spec_l05Same.f
  repeat' first
      | (with_reducible exact ih0 _ _ _ _ _ _ _)
      | (with_reducible exact ih1 _ _ _ _ _ _ _)
      | (with_reducible exact LeO.refl _)
      | (with_reducible exact LeO.none _)
      | (with_reducible refine LeO.ite ?_ ?_)
      | (with_reducible refine LeO.bind ?_ (fun _ => ?_))
      | exact ih0 _ _ _ _ _ _ _
      | exact ih1 _ _ _ _ _ _ _
      | exact LeO.none _
      | refine LeO.ite ?_ ?_
      | refine LeO.bind ?_ (fun _ => ?_)
set_option maxHeartbeats 8000000 in
set_option maxRecDepth 100000 in
theorem spec_l05Same.calls (k : Nat) (g0 : Nat) (a0_0 : Int) (a0_1 : Int) (A0_2 : Option Addr) (c0_2 : Nat) (l0_2 : List Int) (g1 : Nat) (a1_0 : Int) (a1_1 : Int) (A1_2 : Option Addr) (c1_2 : Nat) (l1_2 : List Int) (r : Bool) (w : World) (hb0 : w.heap[g0]? = some (.cells #[.int .i8 a0_0, .int .i8 a0_1, .slice A0_2 l0_2.length c0_2] 28 (0, 0))) (hr0_2 : Kd.C (Kd.int .u16) w A0_2 l0_2.length l0_2) (hc0_2 : l0_2.length ≤ c0_2) (hb1 : w.heap[g1]? = some (.cells #[.int .i8 a1_0, .int .i8 a1_1, .slice A1_2 l1_2.length c1_2] 28 (0, 0))) (hr1_2 : Kd.C (Kd.int .u16) w A1_2 l1_2.length l1_2) (hc1_2 : l1_2.length ≤ c1_2) (h : spec_l05Same.f k a0_0 a0_1 l0_2 a1_0 a1_1 l1_2 = some r) :
    Calls Try.prog 38 #[.pointer (some ⟨g0, 0, none⟩), .pointer (some ⟨g1, 0, none⟩)] w fun e w' => e = .returned (.bool r) ∧ Drawn0 w w' := by
  have HR0_2 := Aside0.mk hr0_2
  have HC0_2 := Aside0.mk hc0_2
  clear hr0_2 hc0_2
  have HR1_2 := Aside0.mk hr1_2
  have HC1_2 := Aside0.mk hc1_2
  clear hr1_2 hc1_2
  have BK0 := Aside0.mk hb0
  clear hb0
  have BK1 := Aside0.mk hb1
  clear hb1
  have H : (if a0_0 = a1_0 then (if a0_1 = a1_1 then (spec_l05Same.j0 k ((l0_2.length : Int) != (l1_2.length : Int)) a0_0 a0_1 l0_2 a1_0 a1_1 l1_2) else (spec_l05Same.j0 k true a0_0 a0_1 l0_2 a1_0 a1_1 l1_2)) else (spec_l05Same.j0 k true a0_0 a0_1 l0_2 a1_0 a1_1 l1_2)) = some r := h
  clear h
  have HC3 := Aside0.mk H
  clear H
  go_enter Try.func38, Try.ntmps38
  go_upto_region 1 with (fail)
  repeat (go_quiet (fail); go_upto_region 1 with (fail))
  go_cut [38] (fun v38 wc => ∃ (kq : Nat) (x38_2 : Bool), v38 = .bool x38_2 ∧ Aside0 (spec_l05Same.j0 kq x38_2 a0_0 a0_1 l0_2 a1_0 a1_1 l1_2 = some r) ∧ Aside0 (kq ≤ k) ∧ Aside0 (wc.heap[g0]? = some (.cells #[.int .i8 a0_0, .int .i8 a0_1, (.slice A0_2 l0_2.length c0_2)] 28 (0, 0))) ∧ Aside0 (wc.heap[g1]? = some (.cells #[.int .i8 a1_0, .int .i8 a1_1, (.slice A1_2 l1_2.length c1_2)] 28 (0, 0))) ∧ Drawn0 w wc)
  case first =>
    have H := HC3.out
    clear HC3
    by_cases c4 : a0_0 = a1_0
    · rw [if_pos c4] at H
      have c4b0 : (a0_0 == a1_0) = true := beq_iff_eq.mpr c4
      have c4b1 : (a0_0 != a1_0) = false := bne_eq_false_iff_eq.mpr c4
      clear c4
      (first | rw [c4b0] | (simp only [i64_w, i32_w]; rw [c4b0]) | skip)
      by_cases c5 : a0_1 = a1_1
      · rw [if_pos c5] at H
        have c5b0 : (a0_1 == a1_1) = true := beq_iff_eq.mpr c5
        have c5b1 : (a0_1 != a1_1) = false := bne_eq_false_iff_eq.mpr c5
        clear c5
        have H' := Aside0.mk H
        clear H
        have hcz6_0 : w.cell? ⟨g0, 0, none⟩ = some (.int .i8 a0_0) := (blk_cell BK0.out 0).trans rfl
        have hcz6_1 : w.cell? ⟨g0, 1, none⟩ = some (.int .i8 a0_1) := (blk_cell BK0.out 1).trans rfl
        have hcz6_2 : w.cell? ⟨g0, 2, none⟩ = some (.slice A0_2 l0_2.length c0_2) := (blk_cell BK0.out 2).trans rfl
        have hfz6_0 := blk_frozen BK0.out 0
        have hfz6_1 := blk_frozen BK0.out 1
        have hfz6_2 := blk_frozen BK0.out 2
        have hcz7_0 : w.cell? ⟨g1, 0, none⟩ = some (.int .i8 a1_0) := (blk_cell BK1.out 0).trans rfl
        have hcz7_1 : w.cell? ⟨g1, 1, none⟩ = some (.int .i8 a1_1) := (blk_cell BK1.out 1).trans rfl
        have hcz7_2 : w.cell? ⟨g1, 2, none⟩ = some (.slice A1_2 l1_2.length c1_2) := (blk_cell BK1.out 2).trans rfl
        have hfz7_0 := blk_frozen BK1.out 0
        have hfz7_1 := blk_frozen BK1.out 1
        have hfz7_2 := blk_frozen BK1.out 2
        go_wp2
        repeat (go_quiet (fail); try go_wp2)
        go_meet
        case rel => exact ⟨_, (((l0_2.length : Int) != (l1_2.length : Int))), (by first | rfl | (simp; done) | (simp [*]; done)), H', ⟨by first | omega | exact Nat.le_refl _⟩, ⟨by (with_reducible repeat (first | refine blk_drewN ?_ _ | refine blk_drew ?_ | refine blk_alloc ?_ _)); exact BK0.out⟩, ⟨by (with_reducible repeat (first | refine blk_drewN ?_ _ | refine blk_drew ?_ | refine blk_alloc ?_ _)); exact BK1.out⟩, by repeat (first | exact Drawn0.refl _ | apply Drawn0.step)⟩
      · rw [if_neg c5] at H
        have c5b0 : (a0_1 == a1_1) = false := beq_eq_false_iff_ne.mpr c5
        have c5b1 : (a0_1 != a1_1) = true := bne_iff_ne.mpr c5
        have H' := Aside0.mk H
        clear H
        have hcz8_0 : w.cell? ⟨g0, 0, none⟩ = some (.int .i8 a0_0) := (blk_cell BK0.out 0).trans rfl
        have hcz8_1 : w.cell? ⟨g0, 1, none⟩ = some (.int .i8 a0_1) := (blk_cell BK0.out 1).trans rfl
        have hcz8_2 : w.cell? ⟨g0, 2, none⟩ = some (.slice A0_2 l0_2.length c0_2) := (blk_cell BK0.out 2).trans rfl
        have hfz8_0 := blk_frozen BK0.out 0
        have hfz8_1 := blk_frozen BK0.out 1
        have hfz8_2 := blk_frozen BK0.out 2
        have hcz9_0 : w.cell? ⟨g1, 0, none⟩ = some (.int .i8 a1_0) := (blk_cell BK1.out 0).trans rfl
        have hcz9_1 : w.cell? ⟨g1, 1, none⟩ = some (.int .i8 a1_1) := (blk_cell BK1.out 1).trans rfl
        have hcz9_2 : w.cell? ⟨g1, 2, none⟩ = some (.slice A1_2 l1_2.length c1_2) := (blk_cell BK1.out 2).trans rfl
        have hfz9_0 := blk_frozen BK1.out 0
        have hfz9_1 := blk_frozen BK1.out 1
        have hfz9_2 := blk_frozen BK1.out 2
        go_wp2
        repeat (go_quiet (fail); try go_wp2)
        go_meet
        case rel => exact ⟨_, (true), (by first | rfl | (simp; done) | (simp [*]; done)), H', ⟨by first | omega | exact Nat.le_refl _⟩, ⟨by (with_reducible repeat (first | refine blk_drewN ?_ _ | refine blk_drew ?_ | refine blk_alloc ?_ _)); exact BK0.out⟩, ⟨by (with_reducible repeat (first | refine blk_drewN ?_ _ | refine blk_drew ?_ | refine blk_alloc ?_ _)); exact BK1.out⟩, by repeat (first | exact Drawn0.refl _ | apply Drawn0.step)⟩
    · rw [if_neg c4] at H
      have c4b0 : (a0_0 == a1_0) = false := beq_eq_false_iff_ne.mpr c4
      have c4b1 : (a0_0 != a1_0) = true := bne_iff_ne.mpr c4
      (first | rw [c4b0] | (simp only [i64_w, i32_w]; rw [c4b0]) | skip)
      have H' := Aside0.mk H
      clear H
      have hcz10_0 : w.cell? ⟨g0, 0, none⟩ = some (.int .i8 a0_0) := (blk_cell BK0.out 0).trans rfl
      have hcz10_1 : w.cell? ⟨g0, 1, none⟩ = some (.int .i8 a0_1) := (blk_cell BK0.out 1).trans rfl
      have hcz10_2 : w.cell? ⟨g0, 2, none⟩ = some (.slice A0_2 l0_2.length c0_2) := (blk_cell BK0.out 2).trans rfl
      have hfz10_0 := blk_frozen BK0.out 0
      have hfz10_1 := blk_frozen BK0.out 1
      have hfz10_2 := blk_frozen BK0.out 2
      have hcz11_0 : w.cell? ⟨g1, 0, none⟩ = some (.int .i8 a1_0) := (blk_cell BK1.out 0).trans rfl
      have hcz11_1 : w.cell? ⟨g1, 1, none⟩ = some (.int .i8 a1_1) := (blk_cell BK1.out 1).trans rfl
      have hcz11_2 : w.cell? ⟨g1, 2, none⟩ = some (.slice A1_2 l1_2.length c1_2) := (blk_cell BK1.out 2).trans rfl
      have hfz11_0 := blk_frozen BK1.out 0
      have hfz11_1 := blk_frozen BK1.out 1
      have hfz11_2 := blk_frozen BK1.out 2
      go_wp2
      repeat (go_quiet (fail); try go_wp2)
      go_meet
      case rel => exact ⟨_, (true), (by first | rfl | (simp; done) | (simp [*]; done)), H', ⟨by first | omega | exact Nat.le_refl _⟩, ⟨by (with_reducible repeat (first | refine blk_drewN ?_ _ | refine blk_drew ?_ | refine blk_alloc ?_ _)); exact BK0.out⟩, ⟨by (with_reducible repeat (first | refine blk_drewN ?_ _ | refine blk_drew ?_ | refine blk_alloc ?_ _)); exact BK1.out⟩, by repeat (first | exact Drawn0.refl _ | apply Drawn0.step)⟩
  case rest =>
    clear HC3
    try clear c1
    try clear p2
    try clear c3
    try clear c4
    try clear c4b0
    try clear c4b1
    try clear c5
    try clear c5b0
    try clear c5b1
    try clear hcz10_0
    try clear hcz10_1
    try clear hcz10_2
    try clear hcz11_0
    try clear hcz11_1
    try clear hcz11_2
    try clear hcz6_0
    try clear hcz6_1
    try clear hcz6_2
    try clear hcz7_0
    try clear hcz7_1
    try clear hcz7_2
    try clear hcz8_0
    try clear hcz8_1
    try clear hcz8_2
    try clear hcz9_0
    try clear hcz9_1
    try clear hcz9_2
    try clear hfz10_0
    try clear hfz10_1
    try clear hfz10_2
    try clear hfz11_0
    try clear hfz11_1
    try clear hfz11_2
    try clear hfz6_0
    try clear hfz6_1
    try clear hfz6_2
    try clear hfz7_0
    try clear hfz7_1
    try clear hfz7_2
    try clear hfz8_0
    try clear hfz8_1
    try clear hfz8_2
    try clear hfz9_0
    try clear hfz9_1
    try clear hfz9_2
    obtain ⟨kq, x38_2, rfl, HA, HJ2, BK0, BK1, ⟨mc2, rfl⟩⟩ := hcut
    cases kq with
    | zero => exact absurd HA.out (by simp [spec_l05Same.j0])
    | succ kj2 =>
      have H := HA.out
      clear HA
      simp only [spec_l05Same.j0] at H
      by_cases c12 : x38_2 = true
      · subst c12
        have H1 : (some false) = some r := by rw [if_pos rfl] at H; exact H
        clear H
        have H := H1
        clear H1
        obtain rfl := Option.some.inj H
        go_wp2
        repeat (go_quiet (fail); try go_wp2)
        go_ret
        exact ⟨by first | rfl | (simp; done) | (simp [*]; done), by repeat (first | exact Drawn0.refl _ | apply Drawn0.step)⟩
      · replace c12 := Bool.eq_false_iff.mpr c12
        subst c12
        have H1 : (spec_l05Same.l0 kj2 0 a0_0 a0_1 l0_2 a1_0 a1_1 l1_2) = some r := by rw [if_neg (show ¬ (false = true) by decide)] at H; exact H
        clear H
        have H := H1
        clear H1
        have H' := Aside0.mk H
        clear H
        go_wp2
        repeat (go_quiet (fail); try go_wp2)
        go_loopg [5] kj2 (fun kq v5 w' => ∃ (x5_2 : Int), v5 = .int .i64 x5_2 ∧ Aside0 (spec_l05Same.l0 kq x5_2 a0_0 a0_1 l0_2 a1_0 a1_1 l1_2 = some r) ∧ Aside0 (kq ≤ kj2) ∧ Aside0 (w'.heap[g0]? = some (.cells #[.int .i8 a0_0, .int .i8 a0_1, (.slice A0_2 l0_2.length c0_2)] 28 (0, 0))) ∧ Aside0 (w'.heap[g1]? = some (.cells #[.int .i8 a1_0, .int .i8 a1_1, (.slice A1_2 l1_2.length c1_2)] 28 (0, 0))) ∧ Drawn0 w w')
        case atStart => exact ⟨(0), (by first | rfl | (simp; done) | (simp [*]; done)), H', ⟨Nat.le_refl _⟩, ⟨by (with_reducible repeat (first | refine blk_drewN ?_ _ | refine blk_drew ?_ | refine blk_alloc ?_ _)); exact BK0.out⟩, ⟨by (with_reducible repeat (first | refine blk_drewN ?_ _ | refine blk_drew ?_ | refine blk_alloc ?_ _)); exact BK1.out⟩, by repeat (first | exact Drawn0.refl _ | apply Drawn0.step)⟩
        case round =>
          clear H'
          try clear c1
          try clear c2
          try clear p2
          try clear c3
          try clear c4
          try clear c4b0
          try clear c4b1
          try clear c5
          try clear c5b0
          try clear c5b1
          try clear c12
          try clear hcz10_0
          try clear hcz10_1
          try clear hcz10_2
          try clear hcz11_0
          try clear hcz11_1
          try clear hcz11_2
          try clear hcz6_0
          try clear hcz6_1
          try clear hcz6_2
          try clear hcz7_0
          try clear hcz7_1
          try clear hcz7_2
          try clear hcz8_0
          try clear hcz8_1
          try clear hcz8_2
          try clear hcz9_0
          try clear hcz9_1
          try clear hcz9_2
          try clear hfz10_0
          try clear hfz10_1
          try clear hfz10_2
          try clear hfz11_0
          try clear hfz11_1
          try clear hfz11_2
          try clear hfz6_0
          try clear hfz6_1
          try clear hfz6_2
          try clear hfz7_0
          try clear hfz7_1
          try clear hfz7_2
          try clear hfz8_0
          try clear hfz8_1
          try clear hfz8_2
          try clear hfz9_0
          try clear hfz9_1
          try clear hfz9_2
          try clear p2
          obtain ⟨x5_2, rfl, HA, HK2, BK0, BK1, ⟨m2, rfl⟩⟩ := hrel
          cases gk with
          | zero => exact absurd HA.out (by simp [spec_l05Same.l0])
          | succ k2 =>
            have H := HA.out
            clear HA
            simp only [spec_l05Same.l0] at H
            by_cases c13 : x5_2 < (l0_2.length : Int)
            · rw [if_pos c13] at H
              have c13b0 : decide (x5_2 < (l0_2.length : Int)) = true := decide_eq_true c13
              clear c13
              by_cases c14 : 0 ≤ x5_2
              · rw [if_pos c14] at H
                have c14b0 : decide (0 ≤ x5_2) = true := decide_eq_true c14
                clear c14
                by_cases c15 : x5_2 < (l1_2.length : Int)
                · rw [if_pos c15] at H
                  have c15b0 : decide (x5_2 < (l1_2.length : Int)) = true := decide_eq_true c15
                  clear c15
                  by_cases c16 : (rd l0_2 x5_2) = (rd l1_2 x5_2)
                  · rw [if_pos c16] at H
                    have c16b0 : ((rd l0_2 x5_2) == (rd l1_2 x5_2)) = true := beq_iff_eq.mpr c16
                    have c16b1 : ((rd l0_2 x5_2) != (rd l1_2 x5_2)) = false := bne_eq_false_iff_eq.mpr c16
                    clear c16
                    have H' := Aside0.mk H
                    clear H
                    have hcz17_0 : w.cell? ⟨g0, 0, none⟩ = some (.int .i8 a0_0) := (blk_cell BK0.out 0).trans rfl
                    have hcz17_1 : w.cell? ⟨g0, 1, none⟩ = some (.int .i8 a0_1) := (blk_cell BK0.out 1).trans rfl
                    have hcz17_2 : w.cell? ⟨g0, 2, none⟩ = some (.slice A0_2 l0_2.length c0_2) := (blk_cell BK0.out 2).trans rfl
                    have hfz17_0 := blk_frozen BK0.out 0
                    have hfz17_1 := blk_frozen BK0.out 1
                    have hfz17_2 := blk_frozen BK0.out 2
                    have p103 : 0 ≤ (x5_2 : Int) := of_decide_eq_true (by first | (with_reducible assumption) | assumption)
                    have q103 : x5_2 < (l0_2.length : Int) := of_decide_eq_true (by first | (with_reducible assumption) | assumption)
                    obtain ⟨ad103, e103, hx103_0⟩ := Kd.at_int HR0_2.out x5_2 p103 q103
                    cases e103
                    replace p103 := eq_true p103
                    replace q103 := eq_true q103
                    have hcz18_0 : w.cell? ⟨g1, 0, none⟩ = some (.int .i8 a1_0) := (blk_cell BK1.out 0).trans rfl
                    have hcz18_1 : w.cell? ⟨g1, 1, none⟩ = some (.int .i8 a1_1) := (blk_cell BK1.out 1).trans rfl
                    have hcz18_2 : w.cell? ⟨g1, 2, none⟩ = some (.slice A1_2 l1_2.length c1_2) := (blk_cell BK1.out 2).trans rfl
                    have hfz18_0 := blk_frozen BK1.out 0
                    have hfz18_1 := blk_frozen BK1.out 1
                    have hfz18_2 := blk_frozen BK1.out 2
                    have p104 : 0 ≤ (x5_2 : Int) := of_decide_eq_true (by first | (with_reducible assumption) | assumption)
                    have q104 : x5_2 < (l1_2.length : Int) := of_decide_eq_true (by first | (with_reducible assumption) | assumption)
                    obtain ⟨ad104, e104, hx104_0⟩ := Kd.at_int HR1_2.out x5_2 p104 q104
                    cases e104
                    replace p104 := eq_true p104
                    replace q104 := eq_true q104
                    go_wp2
                    repeat (go_quiet (fail); try go_wp2)
                    go_roundg k2
                    case measure => have := HJ2.out; have := HK2.out; omega
                    case rel => exact ⟨(wrap64 (x5_2 + 1)), (by first | rfl | (simp; done) | (simp [*]; done)), H', ⟨by have := HJ2.out; have := HK2.out; omega⟩, ⟨by (with_reducible repeat (first | refine blk_drewN ?_ _ | refine blk_drew ?_ | refine blk_alloc ?_ _)); exact BK0.out⟩, ⟨by (with_reducible repeat (first | refine blk_drewN ?_ _ | refine blk_drew ?_ | refine blk_alloc ?_ _)); exact BK1.out⟩, by repeat (first | exact Drawn0.refl _ | apply Drawn0.step)⟩
                  · rw [if_neg c16] at H
                    have c16b0 : ((rd l0_2 x5_2) == (rd l1_2 x5_2)) = false := beq_eq_false_iff_ne.mpr c16
                    have c16b1 : ((rd l0_2 x5_2) != (rd l1_2 x5_2)) = true := bne_iff_ne.mpr c16
                    obtain rfl := Option.some.inj H
                    have hcz19_0 : w.cell? ⟨g0, 0, none⟩ = some (.int .i8 a0_0) := (blk_cell BK0.out 0).trans rfl
                    have hcz19_1 : w.cell? ⟨g0, 1, none⟩ = some (.int .i8 a0_1) := (blk_cell BK0.out 1).trans rfl
                    have hcz19_2 : w.cell? ⟨g0, 2, none⟩ = some (.slice A0_2 l0_2.length c0_2) := (blk_cell BK0.out 2).trans rfl
                    have hfz19_0 := blk_frozen BK0.out 0
                    have hfz19_1 := blk_frozen BK0.out 1
                    have hfz19_2 := blk_frozen BK0.out 2
                    have p103 : 0 ≤ (x5_2 : Int) := of_decide_eq_true (by first | (with_reducible assumption) | assumption)
                    have q103 : x5_2 < (l0_2.length : Int) := of_decide_eq_true (by first | (with_reducible assumption) | assumption)
                    obtain ⟨ad103, e103, hx103_0⟩ := Kd.at_int HR0_2.out x5_2 p103 q103
                    cases e103
                    replace p103 := eq_true p103
                    replace q103 := eq_true q103
                    have hcz20_0 : w.cell? ⟨g1, 0, none⟩ = some (.int .i8 a1_0) := (blk_cell BK1.out 0).trans rfl
                    have hcz20_1 : w.cell? ⟨g1, 1, none⟩ = some (.int .i8 a1_1) := (blk_cell BK1.out 1).trans rfl
                    have hcz20_2 : w.cell? ⟨g1, 2, none⟩ = some (.slice A1_2 l1_2.length c1_2) := (blk_cell BK1.out 2).trans rfl
                    have hfz20_0 := blk_frozen BK1.out 0
                    have hfz20_1 := blk_frozen BK1.out 1
                    have hfz20_2 := blk_frozen BK1.out 2
                    have p104 : 0 ≤ (x5_2 : Int) := of_decide_eq_true (by first | (with_reducible assumption) | assumption)
                    have q104 : x5_2 < (l1_2.length : Int) := of_decide_eq_true (by first | (with_reducible assumption) | assumption)
                    obtain ⟨ad104, e104, hx104_0⟩ := Kd.at_int HR1_2.out x5_2 p104 q104
                    cases e104
                    replace p104 := eq_true p104
                    replace q104 := eq_true q104
                    go_wp2
                    repeat (go_quiet (fail); try go_wp2)
                    go_ret
                    exact ⟨by first | rfl | (simp; done) | (simp [*]; done), by repeat (first | exact Drawn0.refl _ | apply Drawn0.step)⟩
                · rw [if_neg c15] at H
                  exact absurd H (by simp)
              · rw [if_neg c14] at H
                exact absurd H (by simp)
            · rw [if_neg c13] at H
              have c13b0 : decide (x5_2 < (l0_2.length : Int)) = false := decide_eq_false c13
              clear c13
              obtain rfl := Option.some.inj H
              have hcz21_0 : w.cell? ⟨g0, 0, none⟩ = some (.int .i8 a0_0) := (blk_cell BK0.out 0).trans rfl
              have hcz21_1 : w.cell? ⟨g0, 1, none⟩ = some (.int .i8 a0_1) := (blk_cell BK0.out 1).trans rfl
              have hcz21_2 : w.cell? ⟨g0, 2, none⟩ = some (.slice A0_2 l0_2.length c0_2) := (blk_cell BK0.out 2).trans rfl
              have hfz21_0 := blk_frozen BK0.out 0
              have hfz21_1 := blk_frozen BK0.out 1
              have hfz21_2 := blk_frozen BK0.out 2
              go_wp2
              repeat (go_quiet (fail); try go_wp2)
              go_ret
              exact ⟨by first | rfl | (simp; done) | (simp [*]; done), by repeat (first | exact Drawn0.refl _ | apply Drawn0.step)⟩

end Go.Proofs.Ytikdnhhegknplaa.M
