-- Written by wip/tools/myprint.py, a program of this session, by way of the kit's print.
import Derived.Test.YtoicmgphccgdbaaXx0
import Derived.Test.YtoicmgphccgdbaaXx5
namespace Go.Proofs.Ytoicmgphccgdbaa.X
open Go.RowKit Go.Proofs.YtoicmgphccgdbaaW.PrintWords Go.Proofs.YtoicmgphccgdbaaW.PrintLast Go.Proofs.YtoicmgphccgdbaaW.PrintMore
attribute [local go_sem] max2_int min2_int max_two min_two max_three min_three max_four min_four   -- for this text's walks alone
set_option linter.unusedVariables false
set_option linter.unusedSimpArgs false

/-! ### spec_l06Ok: function 69 -/
mutual
def spec_l06Ok.j0 : Nat → Bool → Int → Int → List (S75) → Option (Bool)
  | 0, _, _, _, _ => none
  | k + 1, x23, x1000, x1001, x1002 => if x23 = true then (some false) else (spec_l06Ok.l0 k 0 x1000 x1001 x1002)
def spec_l06Ok.l0 : Nat → Int → Int → Int → List (S75) → Option (Bool)
  | 0, _, _, _, _ => none
  | k + 1, x3, x1000, x1001, x1002 => if x3 < (x1002.length : Int) then (if 0 ≤ x3 then ((spec_l06Full.f (wrap64 (x1000))).bind fun t140 => (if (Go.bits .andNot .u64 ((rd_T75 x1002 x3).f0) t140) = 0 then (spec_l06Ok.l0 k (wrap64 (x3 + 1)) x1000 x1001 x1002) else (some false))) else (none)) else (some true)
end
def spec_l06Ok.f (k : Nat) (a0_0 : Int) (a0_1 : Int) (l0_2 : List (S75)) : Option (Bool) := (spec_l06Begin.f (wrap64 (a0_0)) (wrap64 (a0_1))).bind fun t138 => (if t138 = true then (spec_l06Ok.j0 k (decide ((l0_2.length : Int) > 60)) a0_0 a0_1 l0_2) else (spec_l06Ok.j0 k true a0_0 a0_1 l0_2))
theorem spec_l06Ok.mono_l : ∀ k, (∀ y0 y1 y2 y3, LeO (spec_l06Ok.j0 k y0 y1 y2 y3) (spec_l06Ok.j0 (k + 1) y0 y1 y2 y3)) ∧ (∀ y0 y1 y2 y3, LeO (spec_l06Ok.l0 k y0 y1 y2 y3) (spec_l06Ok.l0 (k + 1) y0 y1 y2 y3))
  | 0 => ⟨fun _ _ _ _ r h => by simp [spec_l06Ok.j0] at h, fun _ _ _ _ r h => by simp [spec_l06Ok.l0] at h⟩
  | k + 1 => by
    obtain ⟨ih0, ih1⟩ := spec_l06Ok.mono_l k
    refine ⟨?_, ?_⟩
    · intro y0 y1 y2 y3
      unfold spec_l06Ok.j0
      repeat' first
      | (with_reducible exact ih0 _ _ _ _)
      | (with_reducible exact ih1 _ _ _ _)
      | (with_reducible exact LeO.refl _)
      | (with_reducible exact LeO.none _)
      | (with_reducible refine LeO.ite ?_ ?_)
      | (with_reducible refine LeO.bind ?_ (fun _ => ?_))
      | exact ih0 _ _ _ _
      | exact ih1 _ _ _ _
      | exact LeO.none _
      | refine LeO.ite ?_ ?_
      | refine LeO.bind ?_ (fun _ => ?_)
    · intro y0 y1 y2 y3
      unfold spec_l06Ok.l0
      repeat' first
      | (with_reducible exact ih0 _ _ _ _)
      | (with_reducible exact ih1 _ _ _ _)
      | (with_reducible exact LeO.refl _)
      | (with_reducible exact LeO.none _)
      | (with_reducible refine LeO.ite ?_ ?_)
      | (with_reducible refine LeO.bind ?_ (fun _ => ?_))
      | exact ih0 _ _ _ _
      | exact ih1 _ _ _ _
      | exact LeO.none _
      | refine LeO.ite ?_ ?_
      | refine LeO.bind ?_ (fun _ => ?_)
theorem spec_l06Ok.mono : ∀ a0 a1 a2 k, LeO (spec_l06Ok.f k a0 a1 a2) (spec_l06Ok.f (k + 1) a0 a1 a2) := by
  intro a0 a1 a2 k
  obtain ⟨ih0, ih1⟩ := spec_l06Ok.mono_l k
  unfold spec_l06Ok.f
  repeat' first
      | (with_reducible exact ih0 _ _ _ _)
      | (with_reducible exact ih1 _ _ _ _)
      | (with_reducible exact LeO.refl _)
      | (with_reducible exact LeO.none _)
      | (with_reducible refine LeO.ite ?_ ?_)
      | (with_reducible refine LeO.bind ?_ (fun _ => ?_))
      | exact ih0 _ _ _ _
      | exact ih1 _ _ _ _
      | exact LeO.none _
      | refine LeO.ite ?_ ?_
      | refine LeO.bind ?_ (fun _ => ?_)
set_option maxHeartbeats 8000000 in
set_option maxRecDepth 100000 in
theorem spec_l06Ok.calls (k : Nat) (g0 : Nat) (a0_0 : Int) (a0_1 : Int) (A0_2 : Option Addr) (c0_2 : Nat) (l0_2 : List (S75)) (r : Bool) (w : World) (hb0 : w.heap[g0]? = some (.cells #[.int .i8 a0_0, .int .i8 a0_1, .slice A0_2 l0_2.length c0_2] 37 (0, 0))) (hr0_2 : Kd.C k75 w A0_2 l0_2.length l0_2) (hc0_2 : l0_2.length ≤ c0_2) (h : spec_l06Ok.f k a0_0 a0_1 l0_2 = some r) :
    Calls Try.prog 69 #[.pointer (some ⟨g0, 0, none⟩)] w fun e w' => e = .returned (.bool r) ∧ Drawn0 w w' := by
  have HR0_2 := Aside0.mk hr0_2
  have HC0_2 := Aside0.mk hc0_2
  clear hr0_2 hc0_2
  have BK0 := Aside0.mk hb0
  clear hb0
  have H : ((spec_l06Begin.f (wrap64 (a0_0)) (wrap64 (a0_1))).bind fun t138 => (if t138 = true then (spec_l06Ok.j0 k (decide ((l0_2.length : Int) > 60)) a0_0 a0_1 l0_2) else (spec_l06Ok.j0 k true a0_0 a0_1 l0_2))) = some r := h
  clear h
  have HC2 := Aside0.mk H
  clear H
  go_enter Try.func69, Try.ntmps69
  go_upto_region 1 with (fail)
  repeat (go_quiet (fail); go_upto_region 1 with (fail))
  go_cut [23] (fun v23 wc => ∃ (kq : Nat) (x23_1 : Bool), v23 = .bool x23_1 ∧ Aside0 (spec_l06Ok.j0 kq x23_1 a0_0 a0_1 l0_2 = some r) ∧ Aside0 (kq ≤ k) ∧ Aside0 (wc.heap[g0]? = some (.cells #[.int .i8 a0_0, .int .i8 a0_1, (.slice A0_2 l0_2.length c0_2)] 37 (0, 0))) ∧ Drawn0 w wc)
  case first =>
    have H := HC2.out
    clear HC2
    replace H := Option.bind_eq_some_iff.mp H
    obtain ⟨t138, A30, H⟩ := H
    replace H : (if t138 = true then (spec_l06Ok.j0 k (decide ((l0_2.length : Int) > 60)) a0_0 a0_1 l0_2) else (spec_l06Ok.j0 k true a0_0 a0_1 l0_2)) = some r := H
    have A3 := Aside0.mk A30
    clear A30
    by_cases c4 : t138 = true
    · subst c4
      have H1 : (spec_l06Ok.j0 k (decide ((l0_2.length : Int) > 60)) a0_0 a0_1 l0_2) = some r := by rw [if_pos rfl] at H; exact H
      clear H
      have H := H1
      clear H1
      have H' := Aside0.mk H
      clear H
      have hcz5_0 : w.cell? ⟨g0, 0, none⟩ = some (.int .i8 a0_0) := (blk_cell BK0.out 0).trans rfl
      have hcz5_1 : w.cell? ⟨g0, 1, none⟩ = some (.int .i8 a0_1) := (blk_cell BK0.out 1).trans rfl
      have hcz5_2 : w.cell? ⟨g0, 2, none⟩ = some (.slice A0_2 l0_2.length c0_2) := (blk_cell BK0.out 2).trans rfl
      have hfz5_0 := blk_frozen BK0.out 0
      have hfz5_1 := blk_frozen BK0.out 1
      have hfz5_2 := blk_frozen BK0.out 2
      go_wp2_with (first | (go_at_call 57; (with_reducible refine (spec_l06Begin.calls (wrap64 (a0_0)) (wrap64 (a0_1)) true _ A3.out).mono ?_); rintro e w' ⟨rfl, ⟨nd, rfl⟩⟩; (try first | exact ⟨rfl, _, World.drewN_drewN _ _ _⟩ | exact ⟨rfl, _, Eq.trans (World.drewN_drewN _ _ _) (congrArg (World.drewN _) (Nat.add_assoc _ _ _))⟩)))
      repeat (go_quiet (first | (go_at_call 57; (with_reducible refine (spec_l06Begin.calls (wrap64 (a0_0)) (wrap64 (a0_1)) true _ A3.out).mono ?_); rintro e w' ⟨rfl, ⟨nd, rfl⟩⟩; (try first | exact ⟨rfl, _, World.drewN_drewN _ _ _⟩ | exact ⟨rfl, _, Eq.trans (World.drewN_drewN _ _ _) (congrArg (World.drewN _) (Nat.add_assoc _ _ _))⟩))); try go_wp2_with (first | (go_at_call 57; (with_reducible refine (spec_l06Begin.calls (wrap64 (a0_0)) (wrap64 (a0_1)) true _ A3.out).mono ?_); rintro e w' ⟨rfl, ⟨nd, rfl⟩⟩; (try first | exact ⟨rfl, _, World.drewN_drewN _ _ _⟩ | exact ⟨rfl, _, Eq.trans (World.drewN_drewN _ _ _) (congrArg (World.drewN _) (Nat.add_assoc _ _ _))⟩))))
      go_meet
      case rel => exact ⟨_, (decide ((l0_2.length : Int) > 60)), (by first | rfl | (simp; done) | (simp [*]; done)), H', ⟨by first | omega | exact Nat.le_refl _⟩, ⟨by (with_reducible repeat (first | refine blk_drewN ?_ _ | refine blk_drew ?_ | refine blk_alloc ?_ _)); exact BK0.out⟩, by repeat (first | exact Drawn0.refl _ | apply Drawn0.step)⟩
    · replace c4 := Bool.eq_false_iff.mpr c4
      subst c4
      have H1 : (spec_l06Ok.j0 k true a0_0 a0_1 l0_2) = some r := by rw [if_neg (show ¬ (false = true) by decide)] at H; exact H
      clear H
      have H := H1
      clear H1
      have H' := Aside0.mk H
      clear H
      have hcz6_0 : w.cell? ⟨g0, 0, none⟩ = some (.int .i8 a0_0) := (blk_cell BK0.out 0).trans rfl
      have hcz6_1 : w.cell? ⟨g0, 1, none⟩ = some (.int .i8 a0_1) := (blk_cell BK0.out 1).trans rfl
      have hcz6_2 : w.cell? ⟨g0, 2, none⟩ = some (.slice A0_2 l0_2.length c0_2) := (blk_cell BK0.out 2).trans rfl
      have hfz6_0 := blk_frozen BK0.out 0
      have hfz6_1 := blk_frozen BK0.out 1
      have hfz6_2 := blk_frozen BK0.out 2
      go_wp2_with (first | (go_at_call 57; (with_reducible refine (spec_l06Begin.calls (wrap64 (a0_0)) (wrap64 (a0_1)) false _ A3.out).mono ?_); rintro e w' ⟨rfl, ⟨nd, rfl⟩⟩; (try first | exact ⟨rfl, _, World.drewN_drewN _ _ _⟩ | exact ⟨rfl, _, Eq.trans (World.drewN_drewN _ _ _) (congrArg (World.drewN _) (Nat.add_assoc _ _ _))⟩)))
      repeat (go_quiet (first | (go_at_call 57; (with_reducible refine (spec_l06Begin.calls (wrap64 (a0_0)) (wrap64 (a0_1)) false _ A3.out).mono ?_); rintro e w' ⟨rfl, ⟨nd, rfl⟩⟩; (try first | exact ⟨rfl, _, World.drewN_drewN _ _ _⟩ | exact ⟨rfl, _, Eq.trans (World.drewN_drewN _ _ _) (congrArg (World.drewN _) (Nat.add_assoc _ _ _))⟩))); try go_wp2_with (first | (go_at_call 57; (with_reducible refine (spec_l06Begin.calls (wrap64 (a0_0)) (wrap64 (a0_1)) false _ A3.out).mono ?_); rintro e w' ⟨rfl, ⟨nd, rfl⟩⟩; (try first | exact ⟨rfl, _, World.drewN_drewN _ _ _⟩ | exact ⟨rfl, _, Eq.trans (World.drewN_drewN _ _ _) (congrArg (World.drewN _) (Nat.add_assoc _ _ _))⟩))))
      go_meet
      case rel => exact ⟨_, (true), (by first | rfl | (simp; done) | (simp [*]; done)), H', ⟨by first | omega | exact Nat.le_refl _⟩, ⟨by (with_reducible repeat (first | refine blk_drewN ?_ _ | refine blk_drew ?_ | refine blk_alloc ?_ _)); exact BK0.out⟩, by repeat (first | exact Drawn0.refl _ | apply Drawn0.step)⟩
  case rest =>
    clear HC2
    try clear p2
    try clear c4
    try clear c6
    try clear p6
    try clear hcz5_0
    try clear hcz5_1
    try clear hcz5_2
    try clear hcz6_0
    try clear hcz6_1
    try clear hcz6_2
    try clear hfz5_0
    try clear hfz5_1
    try clear hfz5_2
    try clear hfz6_0
    try clear hfz6_1
    try clear hfz6_2
    obtain ⟨kq, x23_1, rfl, HA, HJ1, BK0, ⟨mc1, rfl⟩⟩ := hcut
    cases kq with
    | zero => exact absurd HA.out (by simp [spec_l06Ok.j0])
    | succ kj1 =>
      have H := HA.out
      clear HA
      simp only [spec_l06Ok.j0] at H
      by_cases c7 : x23_1 = true
      · subst c7
        have H1 : (some false) = some r := by rw [if_pos rfl] at H; exact H
        clear H
        have H := H1
        clear H1
        obtain rfl := Option.some.inj H
        go_wp2
        repeat (go_quiet (fail); try go_wp2)
        go_ret
        exact ⟨by first | rfl | (simp; done) | (simp [*]; done), by repeat (first | exact Drawn0.refl _ | apply Drawn0.step)⟩
      · replace c7 := Bool.eq_false_iff.mpr c7
        subst c7
        have H1 : (spec_l06Ok.l0 kj1 0 a0_0 a0_1 l0_2) = some r := by rw [if_neg (show ¬ (false = true) by decide)] at H; exact H
        clear H
        have H := H1
        clear H1
        have H' := Aside0.mk H
        clear H
        go_wp2
        repeat (go_quiet (fail); try go_wp2)
        go_loopg [3] kj1 (fun kq v3 w' => ∃ (x3_2 : Int), v3 = .int .i64 x3_2 ∧ Aside0 (spec_l06Ok.l0 kq x3_2 a0_0 a0_1 l0_2 = some r) ∧ Aside0 (kq ≤ kj1) ∧ Aside0 (w'.heap[g0]? = some (.cells #[.int .i8 a0_0, .int .i8 a0_1, (.slice A0_2 l0_2.length c0_2)] 37 (0, 0))) ∧ Drawn0 w w')
        case atStart => exact ⟨(0), (by first | rfl | (simp; done) | (simp [*]; done)), H', ⟨Nat.le_refl _⟩, ⟨by (with_reducible repeat (first | refine blk_drewN ?_ _ | refine blk_drew ?_ | refine blk_alloc ?_ _)); exact BK0.out⟩, by repeat (first | exact Drawn0.refl _ | apply Drawn0.step)⟩
        case round =>
          clear H'
          try clear c1
          try clear p2
          try clear c4
          try clear c6
          try clear p6
          try clear c7
          try clear hcz5_0
          try clear hcz5_1
          try clear hcz5_2
          try clear hcz6_0
          try clear hcz6_1
          try clear hcz6_2
          try clear hfz5_0
          try clear hfz5_1
          try clear hfz5_2
          try clear hfz6_0
          try clear hfz6_1
          try clear hfz6_2
          try clear p2
          try clear p6
          obtain ⟨x3_2, rfl, HA, HK2, BK0, ⟨m2, rfl⟩⟩ := hrel
          cases gk with
          | zero => exact absurd HA.out (by simp [spec_l06Ok.l0])
          | succ k2 =>
            have H := HA.out
            clear HA
            simp only [spec_l06Ok.l0] at H
            by_cases c8 : x3_2 < (l0_2.length : Int)
            · rw [if_pos c8] at H
              have c8b0 : decide (x3_2 < (l0_2.length : Int)) = true := decide_eq_true c8
              clear c8
              by_cases c9 : 0 ≤ x3_2
              · rw [if_pos c9] at H
                have c9b0 : decide (0 ≤ x3_2) = true := decide_eq_true c9
                clear c9
                replace H := Option.bind_eq_some_iff.mp H
                obtain ⟨t140, A100, H⟩ := H
                replace H : (if (Go.bits .andNot .u64 ((rd_T75 l0_2 x3_2).f0) t140) = 0 then (spec_l06Ok.l0 k2 (wrap64 (x3_2 + 1)) a0_0 a0_1 l0_2) else (some false)) = some r := H
                have A10 := Aside0.mk A100
                clear A100
                by_cases c11 : (Go.bits .andNot .u64 ((rd_T75 l0_2 x3_2).f0) t140) = 0
                · rw [if_pos c11] at H
                  have c11b0 : ((Go.bits .andNot .u64 ((rd_T75 l0_2 x3_2).f0) t140) == 0) = true := beq_iff_eq.mpr c11
                  have c11b1 : ((Go.bits .andNot .u64 ((rd_T75 l0_2 x3_2).f0) t140) != 0) = false := bne_eq_false_iff_eq.mpr c11
                  clear c11
                  have H' := Aside0.mk H
                  clear H
                  have hcz12_0 : w.cell? ⟨g0, 0, none⟩ = some (.int .i8 a0_0) := (blk_cell BK0.out 0).trans rfl
                  have hcz12_1 : w.cell? ⟨g0, 1, none⟩ = some (.int .i8 a0_1) := (blk_cell BK0.out 1).trans rfl
                  have hcz12_2 : w.cell? ⟨g0, 2, none⟩ = some (.slice A0_2 l0_2.length c0_2) := (blk_cell BK0.out 2).trans rfl
                  have hfz12_0 := blk_frozen BK0.out 0
                  have hfz12_1 := blk_frozen BK0.out 1
                  have hfz12_2 := blk_frozen BK0.out 2
                  have p139 : 0 ≤ (x3_2 : Int) := of_decide_eq_true (by first | (with_reducible assumption) | assumption)
                  have q139 : x3_2 < (l0_2.length : Int) := of_decide_eq_true (by first | (with_reducible assumption) | assumption)
                  obtain ⟨ad139, e139, hx139_0, hx139_1⟩ := at_T75 HR0_2.out x3_2 p139 q139
                  cases e139
                  replace p139 := eq_true p139
                  replace q139 := eq_true q139
                  go_wp2_with (first | (go_at_call 78; (with_reducible refine (spec_l06Full.calls (wrap64 (a0_0)) t140 _ A10.out).mono ?_); rintro e w' ⟨rfl, ⟨nd, rfl⟩⟩; (try first | exact ⟨rfl, _, World.drewN_drewN _ _ _⟩ | exact ⟨rfl, _, Eq.trans (World.drewN_drewN _ _ _) (congrArg (World.drewN _) (Nat.add_assoc _ _ _))⟩)))
                  repeat (go_quiet (first | (go_at_call 78; (with_reducible refine (spec_l06Full.calls (wrap64 (a0_0)) t140 _ A10.out).mono ?_); rintro e w' ⟨rfl, ⟨nd, rfl⟩⟩; (try first | exact ⟨rfl, _, World.drewN_drewN _ _ _⟩ | exact ⟨rfl, _, Eq.trans (World.drewN_drewN _ _ _) (congrArg (World.drewN _) (Nat.add_assoc _ _ _))⟩))); try go_wp2_with (first | (go_at_call 78; (with_reducible refine (spec_l06Full.calls (wrap64 (a0_0)) t140 _ A10.out).mono ?_); rintro e w' ⟨rfl, ⟨nd, rfl⟩⟩; (try first | exact ⟨rfl, _, World.drewN_drewN _ _ _⟩ | exact ⟨rfl, _, Eq.trans (World.drewN_drewN _ _ _) (congrArg (World.drewN _) (Nat.add_assoc _ _ _))⟩))))
                  go_roundg k2
                  case measure => have := HJ1.out; have := HK2.out; omega
                  case rel => exact ⟨(wrap64 (x3_2 + 1)), (by first | rfl | (simp; done) | (simp [*]; done)), H', ⟨by have := HJ1.out; have := HK2.out; omega⟩, ⟨by (with_reducible repeat (first | refine blk_drewN ?_ _ | refine blk_drew ?_ | refine blk_alloc ?_ _)); exact BK0.out⟩, by repeat (first | exact Drawn0.refl _ | apply Drawn0.step)⟩
                · rw [if_neg c11] at H
                  have c11b0 : ((Go.bits .andNot .u64 ((rd_T75 l0_2 x3_2).f0) t140) == 0) = false := beq_eq_false_iff_ne.mpr c11
                  have c11b1 : ((Go.bits .andNot .u64 ((rd_T75 l0_2 x3_2).f0) t140) != 0) = true := bne_iff_ne.mpr c11
                  obtain rfl := Option.some.inj H
                  have hcz13_0 : w.cell? ⟨g0, 0, none⟩ = some (.int .i8 a0_0) := (blk_cell BK0.out 0).trans rfl
                  have hcz13_1 : w.cell? ⟨g0, 1, none⟩ = some (.int .i8 a0_1) := (blk_cell BK0.out 1).trans rfl
                  have hcz13_2 : w.cell? ⟨g0, 2, none⟩ = some (.slice A0_2 l0_2.length c0_2) := (blk_cell BK0.out 2).trans rfl
                  have hfz13_0 := blk_frozen BK0.out 0
                  have hfz13_1 := blk_frozen BK0.out 1
                  have hfz13_2 := blk_frozen BK0.out 2
                  have p139 : 0 ≤ (x3_2 : Int) := of_decide_eq_true (by first | (with_reducible assumption) | assumption)
                  have q139 : x3_2 < (l0_2.length : Int) := of_decide_eq_true (by first | (with_reducible assumption) | assumption)
                  obtain ⟨ad139, e139, hx139_0, hx139_1⟩ := at_T75 HR0_2.out x3_2 p139 q139
                  cases e139
                  replace p139 := eq_true p139
                  replace q139 := eq_true q139
                  go_wp2_with (first | (go_at_call 78; (with_reducible refine (spec_l06Full.calls (wrap64 (a0_0)) t140 _ A10.out).mono ?_); rintro e w' ⟨rfl, ⟨nd, rfl⟩⟩; (try first | exact ⟨rfl, _, World.drewN_drewN _ _ _⟩ | exact ⟨rfl, _, Eq.trans (World.drewN_drewN _ _ _) (congrArg (World.drewN _) (Nat.add_assoc _ _ _))⟩)))
                  repeat (go_quiet (first | (go_at_call 78; (with_reducible refine (spec_l06Full.calls (wrap64 (a0_0)) t140 _ A10.out).mono ?_); rintro e w' ⟨rfl, ⟨nd, rfl⟩⟩; (try first | exact ⟨rfl, _, World.drewN_drewN _ _ _⟩ | exact ⟨rfl, _, Eq.trans (World.drewN_drewN _ _ _) (congrArg (World.drewN _) (Nat.add_assoc _ _ _))⟩))); try go_wp2_with (first | (go_at_call 78; (with_reducible refine (spec_l06Full.calls (wrap64 (a0_0)) t140 _ A10.out).mono ?_); rintro e w' ⟨rfl, ⟨nd, rfl⟩⟩; (try first | exact ⟨rfl, _, World.drewN_drewN _ _ _⟩ | exact ⟨rfl, _, Eq.trans (World.drewN_drewN _ _ _) (congrArg (World.drewN _) (Nat.add_assoc _ _ _))⟩))))
                  go_ret
                  exact ⟨by first | rfl | (simp; done) | (simp [*]; done), by repeat (first | exact Drawn0.refl _ | apply Drawn0.step)⟩
              · rw [if_neg c9] at H
                exact absurd H (by simp)
            · rw [if_neg c8] at H
              have c8b0 : decide (x3_2 < (l0_2.length : Int)) = false := decide_eq_false c8
              clear c8
              obtain rfl := Option.some.inj H
              have hcz14_0 : w.cell? ⟨g0, 0, none⟩ = some (.int .i8 a0_0) := (blk_cell BK0.out 0).trans rfl
              have hcz14_1 : w.cell? ⟨g0, 1, none⟩ = some (.int .i8 a0_1) := (blk_cell BK0.out 1).trans rfl
              have hcz14_2 : w.cell? ⟨g0, 2, none⟩ = some (.slice A0_2 l0_2.length c0_2) := (blk_cell BK0.out 2).trans rfl
              have hfz14_0 := blk_frozen BK0.out 0
              have hfz14_1 := blk_frozen BK0.out 1
              have hfz14_2 := blk_frozen BK0.out 2
              go_wp2
              repeat (go_quiet (fail); try go_wp2)
              go_ret
              exact ⟨by first | rfl | (simp; done) | (simp [*]; done), by repeat (first | exact Drawn0.refl _ | apply Drawn0.step)⟩

end Go.Proofs.Ytoicmgphccgdbaa.X
