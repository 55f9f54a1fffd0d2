-- Written by wip/tools/myprint.py, a program of this session, by way of the kit's print.
import Derived.Test.YteciomagemjjaaaJx0
import Derived.Test.YteciomagemjjaaaJx7
import Derived.Test.YteciomagemjjaaaLPrJ
namespace Go.Proofs.Yteciomagemjjaaa.J
open Go.RowKit Go.Proofs.YteciomagemjjaaaW.PrintWords Go.Proofs.YteciomagemjjaaaW.PrintLast Go.Proofs.YteciomagemjjaaaW.PrintMore
attribute [local go_sem] zna zpa zua zva zia zja zqa zoa   -- for this text's walks alone
set_option linter.unusedVariables false
set_option linter.unusedSimpArgs false

/-! ### spec_l02States: function 94 -/
def spec_l02States.l0 : Nat → List Int → Int → Int → Option (Int)
 | 0, _, _, _ => none
 | k + 1, x0, x3, x4 => if x4 < (x0.length : Int) then (if 0 ≤ x4 then (if (rd x0 x4) < 1 then (some 0) else (if (rd x0 x4) > 60 then (some 0) else (spec_l02States.l0 k x0 (wrap64 (x3 * (wrap64 ((wrap64 (rd x0 x4)) + 1)))) (wrap64 (x4 + 1))))) else (none)) else (if x3 > 5000 then (some 0) else (some x3))
def spec_l02States.f (k : Nat) (l0 : List Int) : Option (Int) := (spec_l00In.f (l0.length : Int) 1 4).bind fun t167 => (if t167 = true then (spec_l02States.l0 k l0 1 0) else (some 0))
set_option maxHeartbeats 8000000 in
set_option maxRecDepth 100000 in
theorem spec_l02States.calls (k : Nat) (A0 : Option Addr) (c0 : Nat) (l0 : List Int) (r : Int) (w : World) (hr0 : Kd.C (Kd.int .i16) w A0 l0.length l0) (hc0 : l0.length ≤ c0) (h : spec_l02States.f k l0 = some r) :
  Calls Try.prog 94 #[.slice A0 l0.length c0] w fun e w' => e = .returned (.int .i64 r) ∧ zba w w' := by
 have HR0 := za.mk hr0
 have HC0 := za.mk hc0
 clear hr0 hc0
 have H : ((spec_l00In.f (l0.length : Int) 1 4).bind fun t167 => (if t167 = true then (spec_l02States.l0 k l0 1 0) else (some 0))) = some r := h
 clear h
 replace H := Option.bind_eq_some_iff.mp H
 obtain ⟨t167, A20, H⟩ := H
 replace H : (if t167 = true then (spec_l02States.l0 k l0 1 0) else (some 0)) = some r := H
 have A2 := za.mk A20
 clear A20
 by_cases c3 : t167 = true
 ·subst c3
  have H1 : (spec_l02States.l0 k l0 1 0) = some r := by rw [if_pos rfl] at H; exact H
  clear H
  have H := H1
  clear H1
  have H' := za.mk H
  clear H
  go_enter Try.func94, Try.ntmps94
  go_wp2_with (first | ((with_reducible refine zn (f := 103) rfl ?_); refine gz (some 7) Try.func103 #[.int .i64 (l0.length : Int), .int .i64 1, .int .i64 4] rfl rfl ?_; (with_reducible refine (spec_l00In.calls (l0.length : Int) 1 4 true _ A2.out).mono ?_); rintro e w' ⟨rfl, ⟨nd, rfl⟩⟩; refine ⟨_, rfl, ?_⟩))
  go_loopg [3, 4] k (fun kq v3 v4 w' => ∃ (x3_1 : Int) (x4_1 : Int), v3 = .int .i64 x3_1 ∧ v4 = .int .i64 x4_1 ∧ za (spec_l02States.l0 kq l0 x3_1 x4_1 = some r) ∧ za (kq ≤ k) ∧ zba w w')
  case atStart => exact ⟨(1), (0), (by first | rfl | (simp; done) | (simp [*]; done)), (by first | rfl | (simp; done) | (simp [*]; done)), H', ⟨Nat.le_refl _⟩, by repeat (first | exact zba.refl _ | apply zba.step)⟩
  case round =>
   clear H'
   try clear c1
   try clear p2
   try clear c3
   obtain ⟨x3_1, x4_1, rfl, rfl, HA, HK1, ⟨m1, rfl⟩⟩ := hrel
   cases gk with
   | zero => exact absurd HA.out (by simp [spec_l02States.l0])
   | succ k1 =>
    have H := HA.out
    clear HA
    simp only [spec_l02States.l0] at H
    by_cases c4 : x4_1 < (l0.length : Int)
    ·rw [if_pos c4] at H
     have c4b0 : decide (x4_1 < (l0.length : Int)) = true := decide_eq_true c4
     clear c4
     by_cases c5 : 0 ≤ x4_1
     ·rw [if_pos c5] at H
      have c5b0 : decide (0 ≤ x4_1) = true := decide_eq_true c5
      clear c5
      by_cases c6 : (rd l0 x4_1) < 1
      ·rw [if_pos c6] at H
       have c6b0 : decide ((rd l0 x4_1) < 1) = true := decide_eq_true c6
       clear c6
       obtain rfl := Option.some.inj H
       have p168 : 0 ≤ (x4_1 : Int) := of_decide_eq_true (by first | (with_reducible assumption) | assumption)
       have q168 : x4_1 < (l0.length : Int) := of_decide_eq_true (by first | (with_reducible assumption) | assumption)
       obtain ⟨ad168, e168, hx168_0⟩ := Kd.at_int HR0.out x4_1 p168 q168
       cases e168
       replace p168 := eq_true p168
       replace q168 := eq_true q168
       go_wp2
       go_ret
       exact ⟨by first | rfl | (simp; done) | (simp [*]; done), by repeat (first | exact zba.refl _ | apply zba.step)⟩
      rw [if_neg c6] at H
      have c6b0 : decide ((rd l0 x4_1) < 1) = false := decide_eq_false c6
      clear c6
      by_cases c7 : (rd l0 x4_1) > 60
      ·rw [if_pos c7] at H
       have c7b0 : decide (60 < (rd l0 x4_1)) = true := decide_eq_true c7
       clear c7
       obtain rfl := Option.some.inj H
       have p168 : 0 ≤ (x4_1 : Int) := of_decide_eq_true (by first | (with_reducible assumption) | assumption)
       have q168 : x4_1 < (l0.length : Int) := of_decide_eq_true (by first | (with_reducible assumption) | assumption)
       obtain ⟨ad168, e168, hx168_0⟩ := Kd.at_int HR0.out x4_1 p168 q168
       cases e168
       replace p168 := eq_true p168
       replace q168 := eq_true q168
       have p169 : 0 ≤ (x4_1 : Int) := of_decide_eq_true (by first | (with_reducible assumption) | assumption)
       have q169 : x4_1 < (l0.length : Int) := of_decide_eq_true (by first | (with_reducible assumption) | assumption)
       obtain ⟨ad169, e169, hx169_0⟩ := Kd.at_int HR0.out x4_1 p169 q169
       obtain rfl : ad168 = ad169 := (by injection e169)
       replace p169 := eq_true p169
       replace q169 := eq_true q169
       go_wp2
       go_ret
       exact ⟨by first | rfl | (simp; done) | (simp [*]; done), by repeat (first | exact zba.refl _ | apply zba.step)⟩
      rw [if_neg c7] at H
      have c7b0 : decide (60 < (rd l0 x4_1)) = false := decide_eq_false c7
      clear c7
      have H' := za.mk H
      clear H
      have p168 : 0 ≤ (x4_1 : Int) := of_decide_eq_true (by first | (with_reducible assumption) | assumption)
      have q168 : x4_1 < (l0.length : Int) := of_decide_eq_true (by first | (with_reducible assumption) | assumption)
      obtain ⟨ad168, e168, hx168_0⟩ := Kd.at_int HR0.out x4_1 p168 q168
      cases e168
      replace p168 := eq_true p168
      replace q168 := eq_true q168
      have p169 : 0 ≤ (x4_1 : Int) := of_decide_eq_true (by first | (with_reducible assumption) | assumption)
      have q169 : x4_1 < (l0.length : Int) := of_decide_eq_true (by first | (with_reducible assumption) | assumption)
      obtain ⟨ad169, e169, hx169_0⟩ := Kd.at_int HR0.out x4_1 p169 q169
      obtain rfl : ad168 = ad169 := (by injection e169)
      replace p169 := eq_true p169
      replace q169 := eq_true q169
      have p170 : 0 ≤ (x4_1 : Int) := of_decide_eq_true (by first | (with_reducible assumption) | assumption)
      have q170 : x4_1 < (l0.length : Int) := of_decide_eq_true (by first | (with_reducible assumption) | assumption)
      obtain ⟨ad170, e170, hx170_0⟩ := Kd.at_int HR0.out x4_1 p170 q170
      obtain rfl : ad168 = ad170 := (by injection e170)
      replace p170 := eq_true p170
      replace q170 := eq_true q170
      go_wp2
      go_roundg k1
      case measure => have := HK1.out; omega
      case rel => exact ⟨(wrap64 (x3_1 * (wrap64 ((wrap64 (rd l0 x4_1)) + 1)))), (wrap64 (x4_1 + 1)), (by first | rfl | (simp; done) | (simp [*]; done)), (by first | rfl | (simp; done) | (simp [*]; done)), H', ⟨by have := HK1.out; omega⟩, by repeat (first | exact zba.refl _ | apply zba.step)⟩
     rw [if_neg c5] at H
     exact absurd H (by simp)
    rw [if_neg c4] at H
    have c4b0 : decide (x4_1 < (l0.length : Int)) = false := decide_eq_false c4
    clear c4
    by_cases c8 : x3_1 > 5000
    ·rw [if_pos c8] at H
     have c8b0 : decide (5000 < x3_1) = true := decide_eq_true c8
     clear c8
     obtain rfl := Option.some.inj H
     go_wp2
     go_ret
     exact ⟨by first | rfl | (simp; done) | (simp [*]; done), by repeat (first | exact zba.refl _ | apply zba.step)⟩
    rw [if_neg c8] at H
    have c8b0 : decide (5000 < x3_1) = false := decide_eq_false c8
    clear c8
    obtain rfl := Option.some.inj H
    go_wp2
    go_ret
    exact ⟨by first | rfl | (simp; done) | (simp [*]; done), by repeat (first | exact zba.refl _ | apply zba.step)⟩
 replace c3 := Bool.eq_false_iff.mpr c3
 subst c3
 have H1 : (some 0) = some r := by rw [if_neg (show ¬ (false = true) by decide)] at H; exact H
 clear H
 have H := H1
 clear H1
 obtain rfl := Option.some.inj H
 go_enter Try.func94, Try.ntmps94
 go_wp2_with (first | ((with_reducible refine zn (f := 103) rfl ?_); refine gz (some 7) Try.func103 #[.int .i64 (l0.length : Int), .int .i64 1, .int .i64 4] rfl rfl ?_; (with_reducible refine (spec_l00In.calls (l0.length : Int) 1 4 false _ A2.out).mono ?_); rintro e w' ⟨rfl, ⟨nd, rfl⟩⟩; refine ⟨_, rfl, ?_⟩))
 go_ret
 exact ⟨by first | rfl | (simp; done) | (simp [*]; done), by repeat (first | exact zba.refl _ | apply zba.step)⟩

end Go.Proofs.Yteciomagemjjaaa.J
