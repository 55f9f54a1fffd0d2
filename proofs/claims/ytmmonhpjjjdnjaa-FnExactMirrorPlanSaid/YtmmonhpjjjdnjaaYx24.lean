-- Written by wip/tools/myprint.py, a program of this session, by way of the kit's print.
import Derived.Test.YtmmonhpjjjdnjaaYx0
namespace Go.Proofs.Ytmmonhpjjjdnjaa.Y
open Go.RowKit Go.Proofs.YtmmonhpjjjdnjaaW.PrintWords Go.Proofs.YtmmonhpjjjdnjaaW.PrintLast Go.Proofs.YtmmonhpjjjdnjaaW.PrintMore
attribute [local go_sem] zha zga zka zja zba zaa zea zfa   -- for this text's walks alone
set_option linter.unusedVariables false
set_option linter.unusedSimpArgs false

/-! ### laws_heldNodeS: function 21 -/
mutual
def laws_heldNodeS.l0 : Nat → List (S54) → Int → Int → Option (Int)
 | 0, _, _, _ => none
 | k + 1, x0, x1, x5 => if x5 < (x0.length : Int) then (laws_heldNodeS.l1 k x0 x1 x5 0) else (some x1)
def laws_heldNodeS.l1 : Nat → List (S54) → Int → Int → Int → Option (Int)
 | 0, _, _, _, _ => none
 | k + 1, x0, x1, x5, x6 => if x6 < 14 then (if 0 ≤ x5 then (if x5 < (x0.length : Int) then (if 0 ≤ x6 then (if (rd [(rd_T54 x0 x5).f0.f0, (rd_T54 x0 x5).f0.f1, (rd_T54 x0 x5).f0.f2, (rd_T54 x0 x5).f0.f3, (rd_T54 x0 x5).f0.f4, (rd_T54 x0 x5).f0.f5, (rd_T54 x0 x5).f0.f6, (rd_T54 x0 x5).f0.f7, (rd_T54 x0 x5).f0.f8, (rd_T54 x0 x5).f0.f9, (rd_T54 x0 x5).f0.f10, (rd_T54 x0 x5).f0.f11, (rd_T54 x0 x5).f0.f12, (rd_T54 x0 x5).f0.f13] x6) = (IntKind.i8.wrap (x1)) then (laws_heldNodeS.l1 k x0 (wrap64 (x1 + 1)) x5 (wrap64 (x6 + 1))) else (some (-1))) else (none)) else (none)) else (none)) else (laws_heldNodeS.l2 k x0 x1 x5 0)
def laws_heldNodeS.l2 : Nat → List (S54) → Int → Int → Int → Option (Int)
 | 0, _, _, _, _ => none
 | k + 1, x0, x1, x5, x7 => if x7 < 3 then (if 0 ≤ x5 then (if x5 < (x0.length : Int) then (if 0 ≤ x7 then (if (rd [(rd_T54 x0 x5).f1.f0, (rd_T54 x0 x5).f1.f1, (rd_T54 x0 x5).f1.f2] x7) = (IntKind.i16.wrap (x1)) then (laws_heldNodeS.l2 k x0 (wrap64 (x1 + 1)) x5 (wrap64 (x7 + 1))) else (some (-1))) else (none)) else (none)) else (none)) else (if 0 ≤ x5 then (if x5 < (x0.length : Int) then (if ((rd_T54 x0 x5).f2.f0) = (IntKind.i8.wrap (x1)) then (if (((rd_T54 x0 x5).f2.f1) != ((Int.tmod (wrap64 (x1 + 1)) 3) == 0)) = true then (some (-1)) else (if (((rd_T54 x0 x5).f3) != ((Int.tmod (wrap64 ((wrap64 (x1 + 1)) + 1)) 3) == 0)) = true then (some (-1)) else (laws_heldNodeS.l0 k x0 (wrap64 ((wrap64 ((wrap64 (x1 + 1)) + 1)) + 1)) (wrap64 (x5 + 1))))) else (some (-1))) else (none)) else (none))
end
def laws_heldNodeS.f (k : Nat) (l0 : List (S54)) (a1 : Int) : Option (Int) := laws_heldNodeS.l0 k l0 a1 0
set_option maxHeartbeats 8000000 in
set_option maxRecDepth 100000 in
theorem laws_heldNodeS.calls (k : Nat) (A0 : Option Addr) (c0 : Nat) (l0 : List (S54)) (a1 : Int) (r : Int) (w : World) (hr0 : Kd.C k54 w A0 l0.length l0) (hc0 : l0.length ≤ c0) (h : laws_heldNodeS.f k l0 a1 = some r) :
  Calls Try.prog 21 #[.slice A0 l0.length c0, .int .i64 a1] w fun e w' => e = .returned (.int .i64 r) ∧ zy w w' := by
 have HR0 := zc.mk hr0
 have HC0 := zc.mk hc0
 clear hr0 hc0
 have H : (laws_heldNodeS.l0 k l0 a1 0) = some r := h
 clear h
 have H' := zc.mk H
 clear H
 go_enter Try.func21, Try.ntmps21
 go_wp2
 go_loopg [1, 5] k (fun kq v1 v5 w' => ∃ (x1_1 : Int) (x5_1 : Int), v1 = .int .i64 x1_1 ∧ v5 = .int .i64 x5_1 ∧ zc (laws_heldNodeS.l0 kq l0 x1_1 x5_1 = some r) ∧ zc (kq ≤ k) ∧ zy w w')
 case atStart => exact ⟨(a1), (0), (by first | rfl | (simp; done) | (simp [*]; done)), (by first | rfl | (simp; done) | (simp [*]; done)), H', ⟨Nat.le_refl _⟩, by repeat (first | exact zy.refl _ | apply zy.step)⟩
 case round =>
  clear H'
  try clear c2
  try clear p2
  obtain ⟨x1_1, x5_1, rfl, rfl, HA, HK1, ⟨m1, rfl⟩⟩ := hrel
  cases gk with
  | zero => exact absurd HA.out (by simp [laws_heldNodeS.l0])
  | succ k1 =>
   have H := HA.out
   clear HA
   simp only [laws_heldNodeS.l0] at H
   by_cases c3 : x5_1 < (l0.length : Int)
   ·rw [if_pos c3] at H
    have c3b0 : decide (x5_1 < (l0.length : Int)) = true := decide_eq_true c3
    clear c3
    have H' := zc.mk H
    clear H
    go_wp2
    go_loopg [1, 6] k1 (fun kq v1 v6 w' => ∃ (x1_2 : Int) (x6_2 : Int), v1 = .int .i64 x1_2 ∧ v6 = .int .i64 x6_2 ∧ zc (laws_heldNodeS.l1 kq l0 x1_2 x5_1 x6_2 = some r) ∧ zc (kq ≤ k1) ∧ zy w w')
    case atStart => exact ⟨(x1_1), (0), (by first | rfl | (simp; done) | (simp [*]; done)), (by first | rfl | (simp; done) | (simp [*]; done)), H', ⟨Nat.le_refl _⟩, by repeat (first | exact zy.refl _ | apply zy.step)⟩
    case round =>
     clear H'
     try clear c2
     try clear p2
     try clear c3
     try clear c3b0
     try clear p2
     obtain ⟨x1_2, x6_2, rfl, rfl, HA, HK2, ⟨m2, rfl⟩⟩ := hrel
     cases gk with
     | zero => exact absurd HA.out (by simp [laws_heldNodeS.l1])
     | succ k2 =>
      have H := HA.out
      clear HA
      simp only [laws_heldNodeS.l1] at H
      by_cases c4 : x6_2 < 14
      ·rw [if_pos c4] at H
       have c4b0 : decide (x6_2 < 14) = true := decide_eq_true c4
       clear c4
       by_cases c5 : 0 ≤ x5_1
       ·rw [if_pos c5] at H
        have c5b0 : decide (0 ≤ x5_1) = true := decide_eq_true c5
        clear c5
        by_cases c6 : x5_1 < (l0.length : Int)
        ·rw [if_pos c6] at H
         have c6b0 : decide (x5_1 < (l0.length : Int)) = true := decide_eq_true c6
         clear c6
         by_cases c7 : 0 ≤ x6_2
         ·rw [if_pos c7] at H
          have c7b0 : decide (0 ≤ x6_2) = true := decide_eq_true c7
          clear c7
          by_cases c8 : (rd [(rd_T54 l0 x5_1).f0.f0, (rd_T54 l0 x5_1).f0.f1, (rd_T54 l0 x5_1).f0.f2, (rd_T54 l0 x5_1).f0.f3, (rd_T54 l0 x5_1).f0.f4, (rd_T54 l0 x5_1).f0.f5, (rd_T54 l0 x5_1).f0.f6, (rd_T54 l0 x5_1).f0.f7, (rd_T54 l0 x5_1).f0.f8, (rd_T54 l0 x5_1).f0.f9, (rd_T54 l0 x5_1).f0.f10, (rd_T54 l0 x5_1).f0.f11, (rd_T54 l0 x5_1).f0.f12, (rd_T54 l0 x5_1).f0.f13] x6_2) = (IntKind.i8.wrap (x1_2))
          ·rw [if_pos c8] at H
           have c8b0 : ((rd [(rd_T54 l0 x5_1).f0.f0, (rd_T54 l0 x5_1).f0.f1, (rd_T54 l0 x5_1).f0.f2, (rd_T54 l0 x5_1).f0.f3, (rd_T54 l0 x5_1).f0.f4, (rd_T54 l0 x5_1).f0.f5, (rd_T54 l0 x5_1).f0.f6, (rd_T54 l0 x5_1).f0.f7, (rd_T54 l0 x5_1).f0.f8, (rd_T54 l0 x5_1).f0.f9, (rd_T54 l0 x5_1).f0.f10, (rd_T54 l0 x5_1).f0.f11, (rd_T54 l0 x5_1).f0.f12, (rd_T54 l0 x5_1).f0.f13] x6_2) == (IntKind.i8.wrap (x1_2))) = true := beq_iff_eq.mpr c8
           have c8b1 : ((rd [(rd_T54 l0 x5_1).f0.f0, (rd_T54 l0 x5_1).f0.f1, (rd_T54 l0 x5_1).f0.f2, (rd_T54 l0 x5_1).f0.f3, (rd_T54 l0 x5_1).f0.f4, (rd_T54 l0 x5_1).f0.f5, (rd_T54 l0 x5_1).f0.f6, (rd_T54 l0 x5_1).f0.f7, (rd_T54 l0 x5_1).f0.f8, (rd_T54 l0 x5_1).f0.f9, (rd_T54 l0 x5_1).f0.f10, (rd_T54 l0 x5_1).f0.f11, (rd_T54 l0 x5_1).f0.f12, (rd_T54 l0 x5_1).f0.f13] x6_2) != (IntKind.i8.wrap (x1_2))) = false := bne_eq_false_iff_eq.mpr c8
           clear c8
           have H' := zc.mk H
           clear H
           have p339 : 0 ≤ (x5_1 : Int) := of_decide_eq_true (by first | (with_reducible assumption) | assumption)
           have q339 : x5_1 < (l0.length : Int) := of_decide_eq_true (by first | (with_reducible assumption) | assumption)
           obtain ⟨ad339, e339, hx339_0, hx339_1, hx339_2, hx339_3, hx339_4, hx339_5, hx339_6, hx339_7, hx339_8, hx339_9, hx339_10, hx339_11, hx339_12, hx339_13, hx339_14, hx339_15, hx339_16, hx339_17, hx339_18, hx339_19⟩ := at_T54 HR0.out x5_1 p339 q339
           cases e339
           replace p339 := eq_true p339
           replace q339 := eq_true q339
           have hx9_0 : w.cell? ((ad339.add ((x5_1).toNat * 20)).add (x6_2).toNat) = some (.int .i8 (rd [(rd_T54 l0 x5_1).f0.f0, (rd_T54 l0 x5_1).f0.f1, (rd_T54 l0 x5_1).f0.f2, (rd_T54 l0 x5_1).f0.f3, (rd_T54 l0 x5_1).f0.f4, (rd_T54 l0 x5_1).f0.f5, (rd_T54 l0 x5_1).f0.f6, (rd_T54 l0 x5_1).f0.f7, (rd_T54 l0 x5_1).f0.f8, (rd_T54 l0 x5_1).f0.f9, (rd_T54 l0 x5_1).f0.f10, (rd_T54 l0 x5_1).f0.f11, (rd_T54 l0 x5_1).f0.f12, (rd_T54 l0 x5_1).f0.f13] x6_2)) := by rcases (show (x6_2 : Int) = 0 ∨ (x6_2 : Int) = 1 ∨ (x6_2 : Int) = 2 ∨ (x6_2 : Int) = 3 ∨ (x6_2 : Int) = 4 ∨ (x6_2 : Int) = 5 ∨ (x6_2 : Int) = 6 ∨ (x6_2 : Int) = 7 ∨ (x6_2 : Int) = 8 ∨ (x6_2 : Int) = 9 ∨ (x6_2 : Int) = 10 ∨ (x6_2 : Int) = 11 ∨ (x6_2 : Int) = 12 ∨ (x6_2 : Int) = 13 by have hp_ : 0 ≤ (x6_2 : Int) := of_decide_eq_true (by first | (with_reducible assumption) | assumption); have hq_ : x6_2 < (14 : Int) := of_decide_eq_true (by first | (with_reducible assumption) | assumption); omega) with h_ | h_ | h_ | h_ | h_ | h_ | h_ | h_ | h_ | h_ | h_ | h_ | h_ | h_ <;> rw [h_] <;> first | exact hx339_0 | exact hx339_1 | exact hx339_2 | exact hx339_3 | exact hx339_4 | exact hx339_5 | exact hx339_6 | exact hx339_7 | exact hx339_8 | exact hx339_9 | exact hx339_10 | exact hx339_11 | exact hx339_12 | exact hx339_13
           have p9 : 0 ≤ (x6_2 : Int) := of_decide_eq_true (by first | (with_reducible assumption) | assumption)
           have q9 : x6_2 < (14 : Int) := of_decide_eq_true (by first | (with_reducible assumption) | assumption)
           replace p9 := eq_true p9
           replace q9 := eq_true q9
           go_wp2
           go_roundg k2
           case measure => have := HK1.out; have := HK2.out; omega
           case rel => exact ⟨(wrap64 (x1_2 + 1)), (wrap64 (x6_2 + 1)), (by first | rfl | (simp; done) | (simp [*]; done)), (by first | rfl | (simp; done) | (simp [*]; done)), H', ⟨by have := HK1.out; have := HK2.out; omega⟩, by repeat (first | exact zy.refl _ | apply zy.step)⟩
          rw [if_neg c8] at H
          have c8b0 : ((rd [(rd_T54 l0 x5_1).f0.f0, (rd_T54 l0 x5_1).f0.f1, (rd_T54 l0 x5_1).f0.f2, (rd_T54 l0 x5_1).f0.f3, (rd_T54 l0 x5_1).f0.f4, (rd_T54 l0 x5_1).f0.f5, (rd_T54 l0 x5_1).f0.f6, (rd_T54 l0 x5_1).f0.f7, (rd_T54 l0 x5_1).f0.f8, (rd_T54 l0 x5_1).f0.f9, (rd_T54 l0 x5_1).f0.f10, (rd_T54 l0 x5_1).f0.f11, (rd_T54 l0 x5_1).f0.f12, (rd_T54 l0 x5_1).f0.f13] x6_2) == (IntKind.i8.wrap (x1_2))) = false := beq_eq_false_iff_ne.mpr c8
          have c8b1 : ((rd [(rd_T54 l0 x5_1).f0.f0, (rd_T54 l0 x5_1).f0.f1, (rd_T54 l0 x5_1).f0.f2, (rd_T54 l0 x5_1).f0.f3, (rd_T54 l0 x5_1).f0.f4, (rd_T54 l0 x5_1).f0.f5, (rd_T54 l0 x5_1).f0.f6, (rd_T54 l0 x5_1).f0.f7, (rd_T54 l0 x5_1).f0.f8, (rd_T54 l0 x5_1).f0.f9, (rd_T54 l0 x5_1).f0.f10, (rd_T54 l0 x5_1).f0.f11, (rd_T54 l0 x5_1).f0.f12, (rd_T54 l0 x5_1).f0.f13] x6_2) != (IntKind.i8.wrap (x1_2))) = true := bne_iff_ne.mpr c8
          obtain rfl := Option.some.inj H
          have p339 : 0 ≤ (x5_1 : Int) := of_decide_eq_true (by first | (with_reducible assumption) | assumption)
          have q339 : x5_1 < (l0.length : Int) := of_decide_eq_true (by first | (with_reducible assumption) | assumption)
          obtain ⟨ad339, e339, hx339_0, hx339_1, hx339_2, hx339_3, hx339_4, hx339_5, hx339_6, hx339_7, hx339_8, hx339_9, hx339_10, hx339_11, hx339_12, hx339_13, hx339_14, hx339_15, hx339_16, hx339_17, hx339_18, hx339_19⟩ := at_T54 HR0.out x5_1 p339 q339
          cases e339
          replace p339 := eq_true p339
          replace q339 := eq_true q339
          have hx10_0 : w.cell? ((ad339.add ((x5_1).toNat * 20)).add (x6_2).toNat) = some (.int .i8 (rd [(rd_T54 l0 x5_1).f0.f0, (rd_T54 l0 x5_1).f0.f1, (rd_T54 l0 x5_1).f0.f2, (rd_T54 l0 x5_1).f0.f3, (rd_T54 l0 x5_1).f0.f4, (rd_T54 l0 x5_1).f0.f5, (rd_T54 l0 x5_1).f0.f6, (rd_T54 l0 x5_1).f0.f7, (rd_T54 l0 x5_1).f0.f8, (rd_T54 l0 x5_1).f0.f9, (rd_T54 l0 x5_1).f0.f10, (rd_T54 l0 x5_1).f0.f11, (rd_T54 l0 x5_1).f0.f12, (rd_T54 l0 x5_1).f0.f13] x6_2)) := by rcases (show (x6_2 : Int) = 0 ∨ (x6_2 : Int) = 1 ∨ (x6_2 : Int) = 2 ∨ (x6_2 : Int) = 3 ∨ (x6_2 : Int) = 4 ∨ (x6_2 : Int) = 5 ∨ (x6_2 : Int) = 6 ∨ (x6_2 : Int) = 7 ∨ (x6_2 : Int) = 8 ∨ (x6_2 : Int) = 9 ∨ (x6_2 : Int) = 10 ∨ (x6_2 : Int) = 11 ∨ (x6_2 : Int) = 12 ∨ (x6_2 : Int) = 13 by have hp_ : 0 ≤ (x6_2 : Int) := of_decide_eq_true (by first | (with_reducible assumption) | assumption); have hq_ : x6_2 < (14 : Int) := of_decide_eq_true (by first | (with_reducible assumption) | assumption); omega) with h_ | h_ | h_ | h_ | h_ | h_ | h_ | h_ | h_ | h_ | h_ | h_ | h_ | h_ <;> rw [h_] <;> first | exact hx339_0 | exact hx339_1 | exact hx339_2 | exact hx339_3 | exact hx339_4 | exact hx339_5 | exact hx339_6 | exact hx339_7 | exact hx339_8 | exact hx339_9 | exact hx339_10 | exact hx339_11 | exact hx339_12 | exact hx339_13
          have p10 : 0 ≤ (x6_2 : Int) := of_decide_eq_true (by first | (with_reducible assumption) | assumption)
          have q10 : x6_2 < (14 : Int) := of_decide_eq_true (by first | (with_reducible assumption) | assumption)
          replace p10 := eq_true p10
          replace q10 := eq_true q10
          go_wp2
          go_ret
          exact ⟨by first | rfl | (simp; done) | (simp [*]; done), by repeat (first | exact zy.refl _ | apply zy.step)⟩
         rw [if_neg c7] at H
         exact absurd H (by simp)
        rw [if_neg c6] at H
        exact absurd H (by simp)
       rw [if_neg c5] at H
       exact absurd H (by simp)
      rw [if_neg c4] at H
      have c4b0 : decide (x6_2 < 14) = false := decide_eq_false c4
      clear c4
      have H' := zc.mk H
      clear H
      go_wp2
      go_loopg [1, 7] k2 (fun kq v1 v7 w' => ∃ (x1_3 : Int) (x7_3 : Int), v1 = .int .i64 x1_3 ∧ v7 = .int .i64 x7_3 ∧ zc (laws_heldNodeS.l2 kq l0 x1_3 x5_1 x7_3 = some r) ∧ zc (kq ≤ k2) ∧ zy w w')
      case atStart => exact ⟨(x1_2), (0), (by first | rfl | (simp; done) | (simp [*]; done)), (by first | rfl | (simp; done) | (simp [*]; done)), H', ⟨Nat.le_refl _⟩, by repeat (first | exact zy.refl _ | apply zy.step)⟩
      case round =>
       clear H'
       try clear p1
       try clear q1
       try clear hx1
       try clear c2
       try clear p2
       try clear c3
       try clear c3b0
       try clear p3
       try clear q3
       try clear hx3
       try clear c4
       try clear c4b0
       try clear c5
       try clear c5b0
       try clear c6
       try clear c6b0
       try clear p6
       try clear c7
       try clear c7b0
       try clear c8
       try clear c8b0
       try clear c8b1
       try clear p9
       try clear q9
       try clear hx9
       try clear p10
       try clear q10
       try clear hx10
       try clear hx10_0
       try clear hx339_0
       try clear hx339_1
       try clear hx339_10
       try clear hx339_11
       try clear hx339_12
       try clear hx339_13
       try clear hx339_14
       try clear hx339_15
       try clear hx339_16
       try clear hx339_17
       try clear hx339_18
       try clear hx339_19
       try clear hx339_2
       try clear hx339_3
       try clear hx339_4
       try clear hx339_5
       try clear hx339_6
       try clear hx339_7
       try clear hx339_8
       try clear hx339_9
       try clear hx9_0
       try clear p10
       try clear p2
       try clear p339
       try clear p9
       try clear q10
       try clear q339
       try clear q9
       obtain ⟨x1_3, x7_3, rfl, rfl, HA, HK3, ⟨m3, rfl⟩⟩ := hrel
       cases gk with
       | zero => exact absurd HA.out (by simp [laws_heldNodeS.l2])
       | succ k3 =>
        have H := HA.out
        clear HA
        simp only [laws_heldNodeS.l2] at H
        by_cases c11 : x7_3 < 3
        ·rw [if_pos c11] at H
         have c11b0 : decide (x7_3 < 3) = true := decide_eq_true c11
         clear c11
         by_cases c12 : 0 ≤ x5_1
         ·rw [if_pos c12] at H
          have c12b0 : decide (0 ≤ x5_1) = true := decide_eq_true c12
          clear c12
          by_cases c13 : x5_1 < (l0.length : Int)
          ·rw [if_pos c13] at H
           have c13b0 : decide (x5_1 < (l0.length : Int)) = true := decide_eq_true c13
           clear c13
           by_cases c14 : 0 ≤ x7_3
           ·rw [if_pos c14] at H
            have c14b0 : decide (0 ≤ x7_3) = true := decide_eq_true c14
            clear c14
            by_cases c15 : (rd [(rd_T54 l0 x5_1).f1.f0, (rd_T54 l0 x5_1).f1.f1, (rd_T54 l0 x5_1).f1.f2] x7_3) = (IntKind.i16.wrap (x1_3))
            ·rw [if_pos c15] at H
             have c15b0 : ((rd [(rd_T54 l0 x5_1).f1.f0, (rd_T54 l0 x5_1).f1.f1, (rd_T54 l0 x5_1).f1.f2] x7_3) == (IntKind.i16.wrap (x1_3))) = true := beq_iff_eq.mpr c15
             have c15b1 : ((rd [(rd_T54 l0 x5_1).f1.f0, (rd_T54 l0 x5_1).f1.f1, (rd_T54 l0 x5_1).f1.f2] x7_3) != (IntKind.i16.wrap (x1_3))) = false := bne_eq_false_iff_eq.mpr c15
             clear c15
             have H' := zc.mk H
             clear H
             have p341 : 0 ≤ (x5_1 : Int) := of_decide_eq_true (by first | (with_reducible assumption) | assumption)
             have q341 : x5_1 < (l0.length : Int) := of_decide_eq_true (by first | (with_reducible assumption) | assumption)
             obtain ⟨ad341, e341, hx341_0, hx341_1, hx341_2, hx341_3, hx341_4, hx341_5, hx341_6, hx341_7, hx341_8, hx341_9, hx341_10, hx341_11, hx341_12, hx341_13, hx341_14, hx341_15, hx341_16, hx341_17, hx341_18, hx341_19⟩ := at_T54 HR0.out x5_1 p341 q341
             cases e341
             replace p341 := eq_true p341
             replace q341 := eq_true q341
             have hx16_0 : w.cell? ⟨(ad341.add ((x5_1).toNat * 20)).block, (ad341.add ((x5_1).toNat * 20)).off + 14 + (x7_3).toNat, none⟩ = some (.int .i16 (rd [(rd_T54 l0 x5_1).f1.f0, (rd_T54 l0 x5_1).f1.f1, (rd_T54 l0 x5_1).f1.f2] x7_3)) := by rcases (show (x7_3 : Int) = 0 ∨ (x7_3 : Int) = 1 ∨ (x7_3 : Int) = 2 by have hp_ : 0 ≤ (x7_3 : Int) := of_decide_eq_true (by first | (with_reducible assumption) | assumption); have hq_ : x7_3 < (3 : Int) := of_decide_eq_true (by first | (with_reducible assumption) | assumption); omega) with h_ | h_ | h_ <;> rw [h_] <;> first | exact hx341_14 | exact hx341_15 | exact hx341_16
             have p16 : 0 ≤ (x7_3 : Int) := of_decide_eq_true (by first | (with_reducible assumption) | assumption)
             have q16 : x7_3 < (3 : Int) := of_decide_eq_true (by first | (with_reducible assumption) | assumption)
             replace p16 := eq_true p16
             replace q16 := eq_true q16
             go_wp2
             go_roundg k3
             case measure => have := HK1.out; have := HK2.out; have := HK3.out; omega
             case rel => exact ⟨(wrap64 (x1_3 + 1)), (wrap64 (x7_3 + 1)), (by first | rfl | (simp; done) | (simp [*]; done)), (by first | rfl | (simp; done) | (simp [*]; done)), H', ⟨by have := HK1.out; have := HK2.out; have := HK3.out; omega⟩, by repeat (first | exact zy.refl _ | apply zy.step)⟩
            rw [if_neg c15] at H
            have c15b0 : ((rd [(rd_T54 l0 x5_1).f1.f0, (rd_T54 l0 x5_1).f1.f1, (rd_T54 l0 x5_1).f1.f2] x7_3) == (IntKind.i16.wrap (x1_3))) = false := beq_eq_false_iff_ne.mpr c15
            have c15b1 : ((rd [(rd_T54 l0 x5_1).f1.f0, (rd_T54 l0 x5_1).f1.f1, (rd_T54 l0 x5_1).f1.f2] x7_3) != (IntKind.i16.wrap (x1_3))) = true := bne_iff_ne.mpr c15
            obtain rfl := Option.some.inj H
            have p341 : 0 ≤ (x5_1 : Int) := of_decide_eq_true (by first | (with_reducible assumption) | assumption)
            have q341 : x5_1 < (l0.length : Int) := of_decide_eq_true (by first | (with_reducible assumption) | assumption)
            obtain ⟨ad341, e341, hx341_0, hx341_1, hx341_2, hx341_3, hx341_4, hx341_5, hx341_6, hx341_7, hx341_8, hx341_9, hx341_10, hx341_11, hx341_12, hx341_13, hx341_14, hx341_15, hx341_16, hx341_17, hx341_18, hx341_19⟩ := at_T54 HR0.out x5_1 p341 q341
            cases e341
            replace p341 := eq_true p341
            replace q341 := eq_true q341
            have hx17_0 : w.cell? ⟨(ad341.add ((x5_1).toNat * 20)).block, (ad341.add ((x5_1).toNat * 20)).off + 14 + (x7_3).toNat, none⟩ = some (.int .i16 (rd [(rd_T54 l0 x5_1).f1.f0, (rd_T54 l0 x5_1).f1.f1, (rd_T54 l0 x5_1).f1.f2] x7_3)) := by rcases (show (x7_3 : Int) = 0 ∨ (x7_3 : Int) = 1 ∨ (x7_3 : Int) = 2 by have hp_ : 0 ≤ (x7_3 : Int) := of_decide_eq_true (by first | (with_reducible assumption) | assumption); have hq_ : x7_3 < (3 : Int) := of_decide_eq_true (by first | (with_reducible assumption) | assumption); omega) with h_ | h_ | h_ <;> rw [h_] <;> first | exact hx341_14 | exact hx341_15 | exact hx341_16
            have p17 : 0 ≤ (x7_3 : Int) := of_decide_eq_true (by first | (with_reducible assumption) | assumption)
            have q17 : x7_3 < (3 : Int) := of_decide_eq_true (by first | (with_reducible assumption) | assumption)
            replace p17 := eq_true p17
            replace q17 := eq_true q17
            go_wp2
            go_ret
            exact ⟨by first | rfl | (simp; done) | (simp [*]; done), by repeat (first | exact zy.refl _ | apply zy.step)⟩
           rw [if_neg c14] at H
           exact absurd H (by simp)
          rw [if_neg c13] at H
          exact absurd H (by simp)
         rw [if_neg c12] at H
         exact absurd H (by simp)
        rw [if_neg c11] at H
        have c11b0 : decide (x7_3 < 3) = false := decide_eq_false c11
        clear c11
        by_cases c18 : 0 ≤ x5_1
        ·rw [if_pos c18] at H
         have c18b0 : decide (0 ≤ x5_1) = true := decide_eq_true c18
         clear c18
         by_cases c19 : x5_1 < (l0.length : Int)
         ·rw [if_pos c19] at H
          have c19b0 : decide (x5_1 < (l0.length : Int)) = true := decide_eq_true c19
          clear c19
          by_cases c20 : ((rd_T54 l0 x5_1).f2.f0) = (IntKind.i8.wrap (x1_3))
          ·rw [if_pos c20] at H
           have c20b0 : (((rd_T54 l0 x5_1).f2.f0) == (IntKind.i8.wrap (x1_3))) = true := beq_iff_eq.mpr c20
           have c20b1 : (((rd_T54 l0 x5_1).f2.f0) != (IntKind.i8.wrap (x1_3))) = false := bne_eq_false_iff_eq.mpr c20
           clear c20
           by_cases c21 : (((rd_T54 l0 x5_1).f2.f1) != ((Int.tmod (wrap64 (x1_3 + 1)) 3) == 0)) = true
           ·rw [if_pos c21] at H
            have c21b0 : (((rd_T54 l0 x5_1).f2.f1) != ((Int.tmod (wrap64 (x1_3 + 1)) 3) == 0)) = true := c21
            (try (have c21b1 : decide (((rd_T54 l0 x5_1).f2.f1) = ((Int.tmod (wrap64 (x1_3 + 1)) 3) == 0)) = false := by simpa using c21))
            (try (have c21b2 : (((rd_T54 l0 x5_1).f2.f1) == ((Int.tmod (wrap64 (x1_3 + 1)) 3) == 0)) = false := by simpa using c21))
            (try (have c21b3 : ¬ (((rd_T54 l0 x5_1).f2.f1) = ((Int.tmod (wrap64 (x1_3 + 1)) 3) == 0)) := by simpa using c21))
            (try (have c21b4 : (((rd_T54 l0 x5_1).f2.f1) != ((Int.tmod (IntKind.i64.wrap (x1_3 + 1)) 3) == 0)) = true := by have h_ : (((rd_T54 l0 x5_1).f2.f1) != ((Int.tmod (wrap64 (x1_3 + 1)) 3) == 0)) = true := c21; simpa only [zm, zk] using h_))
            (try (have c21b5 : decide (((rd_T54 l0 x5_1).f2.f1) = ((Int.tmod (IntKind.i64.wrap (x1_3 + 1)) 3) == 0)) = false := by have h_ : decide (((rd_T54 l0 x5_1).f2.f1) = ((Int.tmod (wrap64 (x1_3 + 1)) 3) == 0)) = false := by simpa using c21; simpa only [zm, zk] using h_))
            (try (have c21b6 : (((rd_T54 l0 x5_1).f2.f1) == ((Int.tmod (IntKind.i64.wrap (x1_3 + 1)) 3) == 0)) = false := by have h_ : (((rd_T54 l0 x5_1).f2.f1) == ((Int.tmod (wrap64 (x1_3 + 1)) 3) == 0)) = false := by simpa using c21; simpa only [zm, zk] using h_))
            (try (have c21b7 : ¬ (((rd_T54 l0 x5_1).f2.f1) = ((Int.tmod (IntKind.i64.wrap (x1_3 + 1)) 3) == 0)) := by have h_ : ¬ (((rd_T54 l0 x5_1).f2.f1) = ((Int.tmod (wrap64 (x1_3 + 1)) 3) == 0)) := by simpa using c21; simpa only [zm, zk] using h_))
            clear c21
            obtain rfl := Option.some.inj H
            have p343 : 0 ≤ (x5_1 : Int) := of_decide_eq_true (by first | (with_reducible assumption) | assumption)
            have q343 : x5_1 < (l0.length : Int) := of_decide_eq_true (by first | (with_reducible assumption) | assumption)
            obtain ⟨ad343, e343, hx343_0, hx343_1, hx343_2, hx343_3, hx343_4, hx343_5, hx343_6, hx343_7, hx343_8, hx343_9, hx343_10, hx343_11, hx343_12, hx343_13, hx343_14, hx343_15, hx343_16, hx343_17, hx343_18, hx343_19⟩ := at_T54 HR0.out x5_1 p343 q343
            cases e343
            replace p343 := eq_true p343
            replace q343 := eq_true q343
            have p344 : 0 ≤ (x5_1 : Int) := of_decide_eq_true (by first | (with_reducible assumption) | assumption)
            have q344 : x5_1 < (l0.length : Int) := of_decide_eq_true (by first | (with_reducible assumption) | assumption)
            obtain ⟨ad344, e344, hx344_0, hx344_1, hx344_2, hx344_3, hx344_4, hx344_5, hx344_6, hx344_7, hx344_8, hx344_9, hx344_10, hx344_11, hx344_12, hx344_13, hx344_14, hx344_15, hx344_16, hx344_17, hx344_18, hx344_19⟩ := at_T54 HR0.out x5_1 p344 q344
            obtain rfl : ad343 = ad344 := (by injection e344)
            replace p344 := eq_true p344
            replace q344 := eq_true q344
            go_wp2
            go_ret
            exact ⟨by first | rfl | (simp; done) | (simp [*]; done), by repeat (first | exact zy.refl _ | apply zy.step)⟩
           rw [if_neg c21] at H
           have c21b0 : (((rd_T54 l0 x5_1).f2.f1) != ((Int.tmod (wrap64 (x1_3 + 1)) 3) == 0)) = false := by simpa using c21
           (try (have c21b1 : decide (((rd_T54 l0 x5_1).f2.f1) = ((Int.tmod (wrap64 (x1_3 + 1)) 3) == 0)) = true := by simpa using c21))
           (try (have c21b2 : (((rd_T54 l0 x5_1).f2.f1) == ((Int.tmod (wrap64 (x1_3 + 1)) 3) == 0)) = true := by simpa using c21))
           (try (have c21b3 : (((rd_T54 l0 x5_1).f2.f1) != ((Int.tmod (IntKind.i64.wrap (x1_3 + 1)) 3) == 0)) = false := by have h_ : (((rd_T54 l0 x5_1).f2.f1) != ((Int.tmod (wrap64 (x1_3 + 1)) 3) == 0)) = false := by simpa using c21; simpa only [zm, zk] using h_))
           (try (have c21b4 : decide (((rd_T54 l0 x5_1).f2.f1) = ((Int.tmod (IntKind.i64.wrap (x1_3 + 1)) 3) == 0)) = true := by have h_ : decide (((rd_T54 l0 x5_1).f2.f1) = ((Int.tmod (wrap64 (x1_3 + 1)) 3) == 0)) = true := by simpa using c21; simpa only [zm, zk] using h_))
           (try (have c21b5 : (((rd_T54 l0 x5_1).f2.f1) == ((Int.tmod (IntKind.i64.wrap (x1_3 + 1)) 3) == 0)) = true := by have h_ : (((rd_T54 l0 x5_1).f2.f1) == ((Int.tmod (wrap64 (x1_3 + 1)) 3) == 0)) = true := by simpa using c21; simpa only [zm, zk] using h_))
           clear c21
           by_cases c22 : (((rd_T54 l0 x5_1).f3) != ((Int.tmod (wrap64 ((wrap64 (x1_3 + 1)) + 1)) 3) == 0)) = true
           ·rw [if_pos c22] at H
            have c22b0 : (((rd_T54 l0 x5_1).f3) != ((Int.tmod (wrap64 ((wrap64 (x1_3 + 1)) + 1)) 3) == 0)) = true := c22
            (try (have c22b1 : decide (((rd_T54 l0 x5_1).f3) = ((Int.tmod (wrap64 ((wrap64 (x1_3 + 1)) + 1)) 3) == 0)) = false := by simpa using c22))
            (try (have c22b2 : (((rd_T54 l0 x5_1).f3) == ((Int.tmod (wrap64 ((wrap64 (x1_3 + 1)) + 1)) 3) == 0)) = false := by simpa using c22))
            (try (have c22b3 : ¬ (((rd_T54 l0 x5_1).f3) = ((Int.tmod (wrap64 ((wrap64 (x1_3 + 1)) + 1)) 3) == 0)) := by simpa using c22))
            (try (have c22b4 : (((rd_T54 l0 x5_1).f3) != ((Int.tmod (IntKind.i64.wrap ((IntKind.i64.wrap (x1_3 + 1)) + 1)) 3) == 0)) = true := by have h_ : (((rd_T54 l0 x5_1).f3) != ((Int.tmod (wrap64 ((wrap64 (x1_3 + 1)) + 1)) 3) == 0)) = true := c22; simpa only [zm, zk] using h_))
            (try (have c22b5 : decide (((rd_T54 l0 x5_1).f3) = ((Int.tmod (IntKind.i64.wrap ((IntKind.i64.wrap (x1_3 + 1)) + 1)) 3) == 0)) = false := by have h_ : decide (((rd_T54 l0 x5_1).f3) = ((Int.tmod (wrap64 ((wrap64 (x1_3 + 1)) + 1)) 3) == 0)) = false := by simpa using c22; simpa only [zm, zk] using h_))
            (try (have c22b6 : (((rd_T54 l0 x5_1).f3) == ((Int.tmod (IntKind.i64.wrap ((IntKind.i64.wrap (x1_3 + 1)) + 1)) 3) == 0)) = false := by have h_ : (((rd_T54 l0 x5_1).f3) == ((Int.tmod (wrap64 ((wrap64 (x1_3 + 1)) + 1)) 3) == 0)) = false := by simpa using c22; simpa only [zm, zk] using h_))
            (try (have c22b7 : ¬ (((rd_T54 l0 x5_1).f3) = ((Int.tmod (IntKind.i64.wrap ((IntKind.i64.wrap (x1_3 + 1)) + 1)) 3) == 0)) := by have h_ : ¬ (((rd_T54 l0 x5_1).f3) = ((Int.tmod (wrap64 ((wrap64 (x1_3 + 1)) + 1)) 3) == 0)) := by simpa using c22; simpa only [zm, zk] using h_))
            clear c22
            obtain rfl := Option.some.inj H
            have p343 : 0 ≤ (x5_1 : Int) := of_decide_eq_true (by first | (with_reducible assumption) | assumption)
            have q343 : x5_1 < (l0.length : Int) := of_decide_eq_true (by first | (with_reducible assumption) | assumption)
            obtain ⟨ad343, e343, hx343_0, hx343_1, hx343_2, hx343_3, hx343_4, hx343_5, hx343_6, hx343_7, hx343_8, hx343_9, hx343_10, hx343_11, hx343_12, hx343_13, hx343_14, hx343_15, hx343_16, hx343_17, hx343_18, hx343_19⟩ := at_T54 HR0.out x5_1 p343 q343
            cases e343
            replace p343 := eq_true p343
            replace q343 := eq_true q343
            have p344 : 0 ≤ (x5_1 : Int) := of_decide_eq_true (by first | (with_reducible assumption) | assumption)
            have q344 : x5_1 < (l0.length : Int) := of_decide_eq_true (by first | (with_reducible assumption) | assumption)
            obtain ⟨ad344, e344, hx344_0, hx344_1, hx344_2, hx344_3, hx344_4, hx344_5, hx344_6, hx344_7, hx344_8, hx344_9, hx344_10, hx344_11, hx344_12, hx344_13, hx344_14, hx344_15, hx344_16, hx344_17, hx344_18, hx344_19⟩ := at_T54 HR0.out x5_1 p344 q344
            obtain rfl : ad343 = ad344 := (by injection e344)
            replace p344 := eq_true p344
            replace q344 := eq_true q344
            have p345 : 0 ≤ (x5_1 : Int) := of_decide_eq_true (by first | (with_reducible assumption) | assumption)
            have q345 : x5_1 < (l0.length : Int) := of_decide_eq_true (by first | (with_reducible assumption) | assumption)
            obtain ⟨ad345, e345, hx345_0, hx345_1, hx345_2, hx345_3, hx345_4, hx345_5, hx345_6, hx345_7, hx345_8, hx345_9, hx345_10, hx345_11, hx345_12, hx345_13, hx345_14, hx345_15, hx345_16, hx345_17, hx345_18, hx345_19⟩ := at_T54 HR0.out x5_1 p345 q345
            obtain rfl : ad343 = ad345 := (by injection e345)
            replace p345 := eq_true p345
            replace q345 := eq_true q345
            go_wp2
            go_ret
            exact ⟨by first | rfl | (simp; done) | (simp [*]; done), by repeat (first | exact zy.refl _ | apply zy.step)⟩
           rw [if_neg c22] at H
           have c22b0 : (((rd_T54 l0 x5_1).f3) != ((Int.tmod (wrap64 ((wrap64 (x1_3 + 1)) + 1)) 3) == 0)) = false := by simpa using c22
           (try (have c22b1 : decide (((rd_T54 l0 x5_1).f3) = ((Int.tmod (wrap64 ((wrap64 (x1_3 + 1)) + 1)) 3) == 0)) = true := by simpa using c22))
           (try (have c22b2 : (((rd_T54 l0 x5_1).f3) == ((Int.tmod (wrap64 ((wrap64 (x1_3 + 1)) + 1)) 3) == 0)) = true := by simpa using c22))
           (try (have c22b3 : (((rd_T54 l0 x5_1).f3) != ((Int.tmod (IntKind.i64.wrap ((IntKind.i64.wrap (x1_3 + 1)) + 1)) 3) == 0)) = false := by have h_ : (((rd_T54 l0 x5_1).f3) != ((Int.tmod (wrap64 ((wrap64 (x1_3 + 1)) + 1)) 3) == 0)) = false := by simpa using c22; simpa only [zm, zk] using h_))
           (try (have c22b4 : decide (((rd_T54 l0 x5_1).f3) = ((Int.tmod (IntKind.i64.wrap ((IntKind.i64.wrap (x1_3 + 1)) + 1)) 3) == 0)) = true := by have h_ : decide (((rd_T54 l0 x5_1).f3) = ((Int.tmod (wrap64 ((wrap64 (x1_3 + 1)) + 1)) 3) == 0)) = true := by simpa using c22; simpa only [zm, zk] using h_))
           (try (have c22b5 : (((rd_T54 l0 x5_1).f3) == ((Int.tmod (IntKind.i64.wrap ((IntKind.i64.wrap (x1_3 + 1)) + 1)) 3) == 0)) = true := by have h_ : (((rd_T54 l0 x5_1).f3) == ((Int.tmod (wrap64 ((wrap64 (x1_3 + 1)) + 1)) 3) == 0)) = true := by simpa using c22; simpa only [zm, zk] using h_))
           clear c22
           have H' := zc.mk H
           clear H
           have p343 : 0 ≤ (x5_1 : Int) := of_decide_eq_true (by first | (with_reducible assumption) | assumption)
           have q343 : x5_1 < (l0.length : Int) := of_decide_eq_true (by first | (with_reducible assumption) | assumption)
           obtain ⟨ad343, e343, hx343_0, hx343_1, hx343_2, hx343_3, hx343_4, hx343_5, hx343_6, hx343_7, hx343_8, hx343_9, hx343_10, hx343_11, hx343_12, hx343_13, hx343_14, hx343_15, hx343_16, hx343_17, hx343_18, hx343_19⟩ := at_T54 HR0.out x5_1 p343 q343
           cases e343
           replace p343 := eq_true p343
           replace q343 := eq_true q343
           have p344 : 0 ≤ (x5_1 : Int) := of_decide_eq_true (by first | (with_reducible assumption) | assumption)
           have q344 : x5_1 < (l0.length : Int) := of_decide_eq_true (by first | (with_reducible assumption) | assumption)
           obtain ⟨ad344, e344, hx344_0, hx344_1, hx344_2, hx344_3, hx344_4, hx344_5, hx344_6, hx344_7, hx344_8, hx344_9, hx344_10, hx344_11, hx344_12, hx344_13, hx344_14, hx344_15, hx344_16, hx344_17, hx344_18, hx344_19⟩ := at_T54 HR0.out x5_1 p344 q344
           obtain rfl : ad343 = ad344 := (by injection e344)
           replace p344 := eq_true p344
           replace q344 := eq_true q344
           have p345 : 0 ≤ (x5_1 : Int) := of_decide_eq_true (by first | (with_reducible assumption) | assumption)
           have q345 : x5_1 < (l0.length : Int) := of_decide_eq_true (by first | (with_reducible assumption) | assumption)
           obtain ⟨ad345, e345, hx345_0, hx345_1, hx345_2, hx345_3, hx345_4, hx345_5, hx345_6, hx345_7, hx345_8, hx345_9, hx345_10, hx345_11, hx345_12, hx345_13, hx345_14, hx345_15, hx345_16, hx345_17, hx345_18, hx345_19⟩ := at_T54 HR0.out x5_1 p345 q345
           obtain rfl : ad343 = ad345 := (by injection e345)
           replace p345 := eq_true p345
           replace q345 := eq_true q345
           go_wp2
           go_roundg k3
           case measure => have := HK1.out; have := HK2.out; have := HK3.out; omega
           case rel => exact ⟨(wrap64 ((wrap64 ((wrap64 (x1_3 + 1)) + 1)) + 1)), (wrap64 (x5_1 + 1)), (by first | rfl | (simp; done) | (simp [*]; done)), (by first | rfl | (simp; done) | (simp [*]; done)), H', ⟨by have := HK1.out; have := HK2.out; have := HK3.out; omega⟩, by repeat (first | exact zy.refl _ | apply zy.step)⟩
          rw [if_neg c20] at H
          have c20b0 : (((rd_T54 l0 x5_1).f2.f0) == (IntKind.i8.wrap (x1_3))) = false := beq_eq_false_iff_ne.mpr c20
          have c20b1 : (((rd_T54 l0 x5_1).f2.f0) != (IntKind.i8.wrap (x1_3))) = true := bne_iff_ne.mpr c20
          obtain rfl := Option.some.inj H
          have p343 : 0 ≤ (x5_1 : Int) := of_decide_eq_true (by first | (with_reducible assumption) | assumption)
          have q343 : x5_1 < (l0.length : Int) := of_decide_eq_true (by first | (with_reducible assumption) | assumption)
          obtain ⟨ad343, e343, hx343_0, hx343_1, hx343_2, hx343_3, hx343_4, hx343_5, hx343_6, hx343_7, hx343_8, hx343_9, hx343_10, hx343_11, hx343_12, hx343_13, hx343_14, hx343_15, hx343_16, hx343_17, hx343_18, hx343_19⟩ := at_T54 HR0.out x5_1 p343 q343
          cases e343
          replace p343 := eq_true p343
          replace q343 := eq_true q343
          go_wp2
          go_ret
          exact ⟨by first | rfl | (simp; done) | (simp [*]; done), by repeat (first | exact zy.refl _ | apply zy.step)⟩
         rw [if_neg c19] at H
         exact absurd H (by simp)
        rw [if_neg c18] at H
        exact absurd H (by simp)
   rw [if_neg c3] at H
   have c3b0 : decide (x5_1 < (l0.length : Int)) = false := decide_eq_false c3
   clear c3
   obtain rfl := Option.some.inj H
   go_wp2
   go_ret
   exact ⟨by first | rfl | (simp; done) | (simp [*]; done), by repeat (first | exact zy.refl _ | apply zy.step)⟩

end Go.Proofs.Ytmmonhpjjjdnjaa.Y
