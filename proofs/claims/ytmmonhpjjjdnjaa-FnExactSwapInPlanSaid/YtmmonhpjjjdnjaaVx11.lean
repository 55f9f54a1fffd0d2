-- Written by wip/tools/myprint.py.
import Derived.Test.YtmmonhpjjjdnjaaVx0
import Derived.Test.YtmmonhpjjjdnjaaLLoadV
namespace Go.Proofs.Ytmmonhpjjjdnjaa.V
open Go.RowKit Go.Proofs.YtmmonhpjjjdnjaaW.PrintWords Go.Proofs.YtmmonhpjjjdnjaaW.PrintLast Go.Proofs.YtmmonhpjjjdnjaaW.PrintMore
attribute [local go_sem] zoa zqa zwa zva zia zga zra zpa
set_option linter.unusedVariables false
set_option linter.unusedSimpArgs false
mutual
def laws_heldNodeS.l0 : Nat → List (S54) → Int → Int → Option (Int)
 | 0, _, _, _ => none
 | k + 1, x0, x1, x5 => if x5 < (x0.length : Int) then (laws_heldNodeS.l1 k x0 x1 x5 0) else (some x1)
def laws_heldNodeS.l1 : Nat → List (S54) → Int → Int → Int → Option (Int)
 | 0, _, _, _, _ => none
 | k + 1, x0, x1, x5, x6 => if x6 < 14 then (if 0 ≤ x5 then (if x5 < (x0.length : Int) then (if 0 ≤ x6 then (if (rd [(za x0 x5).f0.f0, (za x0 x5).f0.f1, (za x0 x5).f0.f2, (za x0 x5).f0.f3, (za x0 x5).f0.f4, (za x0 x5).f0.f5, (za x0 x5).f0.f6, (za x0 x5).f0.f7, (za x0 x5).f0.f8, (za x0 x5).f0.f9, (za x0 x5).f0.f10, (za x0 x5).f0.f11, (za x0 x5).f0.f12, (za x0 x5).f0.f13] x6) = (IntKind.i8.wrap (x1)) then (laws_heldNodeS.l1 k x0 (wrap64 (x1 + 1)) x5 (wrap64 (x6 + 1))) else (some (-1))) else (none)) else (none)) else (none)) else (laws_heldNodeS.l2 k x0 x1 x5 0)
def laws_heldNodeS.l2 : Nat → List (S54) → Int → Int → Int → Option (Int)
 | 0, _, _, _, _ => none
 | k + 1, x0, x1, x5, x7 => if x7 < 3 then (if 0 ≤ x5 then (if x5 < (x0.length : Int) then (if 0 ≤ x7 then (if (rd [(za x0 x5).f1.f0, (za x0 x5).f1.f1, (za x0 x5).f1.f2] x7) = (IntKind.i16.wrap (x1)) then (laws_heldNodeS.l2 k x0 (wrap64 (x1 + 1)) x5 (wrap64 (x7 + 1))) else (some (-1))) else (none)) else (none)) else (none)) else (if 0 ≤ x5 then (if x5 < (x0.length : Int) then (if ((za x0 x5).f2.f0) = (IntKind.i8.wrap (x1)) then (if (((za x0 x5).f2.f1) != ((Int.tmod (wrap64 (x1 + 1)) 3) == 0)) = true then (some (-1)) else (if (((za x0 x5).f3) != ((Int.tmod (wrap64 ((wrap64 (x1 + 1)) + 1)) 3) == 0)) = true then (some (-1)) else (laws_heldNodeS.l0 k x0 (wrap64 ((wrap64 ((wrap64 (x1 + 1)) + 1)) + 1)) (wrap64 (x5 + 1))))) else (some (-1))) else (none)) else (none))
end
def laws_heldNodeS.f (k : Nat) (l0 : List (S54)) (a1 : Int) : Option (Int) := laws_heldNodeS.l0 k l0 a1 0
set_option maxHeartbeats 8000000 in
set_option maxRecDepth 100000 in
theorem laws_heldNodeS.calls (k : Nat) (A0 : Option Addr) (c0 : Nat) (l0 : List (S54)) (a1 : Int) (r : Int) (w : World) (hr0 : Kd.C k54 w A0 l0.length l0) (hc0 : l0.length ≤ c0) (h : laws_heldNodeS.f k l0 a1 = some r) :
  Calls Try.prog 21 #[.slice A0 l0.length c0, .int .i64 a1] w fun e w' => e = .returned (.int .i64 r) ∧ zfa w w' := by
 have HR0 := zc.mk hr0
 have HC0 := zc.mk hc0
 clear hr0 hc0
 have H : (laws_heldNodeS.l0 k l0 a1 0) = some r := h
 clear h
 have H' := zc.mk H
 clear H
 go_enter Try.func21, Try.ntmps21
 go_wp2
 go_loopg [1, 5] k (fun kq v1 v5 w' => ∃ (x1_1 : Int) (x5_1 : Int), v1 = .int .i64 x1_1 ∧ v5 = .int .i64 x5_1 ∧ zc (laws_heldNodeS.l0 kq l0 x1_1 x5_1 = some r) ∧ zc (kq ≤ k) ∧ zfa w w')
 case atStart => exact ⟨(a1), (0), (by first | rfl | (simp; done) | (simp [*]; done)), (by first | rfl | (simp; done) | (simp [*]; done)), H', ⟨Nat.le_refl _⟩, by repeat (first | exact zfa.refl _ | apply zfa.step)⟩
 case round =>
  clear H'
  try clear c2
  try clear p2
  obtain ⟨x1_1, x5_1, rfl, rfl, HA, HK1, ⟨m1, rfl⟩⟩ := hrel
  cases gk with
  | zero => exact absurd HA.out (by simp [laws_heldNodeS.l0])
  | succ k1 =>
   have H := HA.out
   clear HA
   simp only [laws_heldNodeS.l0] at H
   by_cases c3 : x5_1 < (l0.length : Int)
   ·rw [if_pos c3] at H
    have c3b0 : decide (x5_1 < (l0.length : Int)) = true := decide_eq_true c3
    clear c3
    have H' := zc.mk H
    clear H
    go_wp2
    go_loopg [1, 6] k1 (fun kq v1 v6 w' => ∃ (x1_2 : Int) (x6_2 : Int), v1 = .int .i64 x1_2 ∧ v6 = .int .i64 x6_2 ∧ zc (laws_heldNodeS.l1 kq l0 x1_2 x5_1 x6_2 = some r) ∧ zc (kq ≤ k1) ∧ zfa w w')
    case atStart => exact ⟨(x1_1), (0), (by first | rfl | (simp; done) | (simp [*]; done)), (by first | rfl | (simp; done) | (simp [*]; done)), H', ⟨Nat.le_refl _⟩, by repeat (first | exact zfa.refl _ | apply zfa.step)⟩
    case round =>
     clear H'
     try clear c2
     try clear p2
     try clear c3
     try clear c3b0
     try clear p2
     obtain ⟨x1_2, x6_2, rfl, rfl, HA, HK2, ⟨m2, rfl⟩⟩ := hrel
     cases gk with
     | zero => exact absurd HA.out (by simp [laws_heldNodeS.l1])
     | succ k2 =>
      have H := HA.out
      clear HA
      simp only [laws_heldNodeS.l1] at H
      by_cases c4 : x6_2 < 14
      ·rw [if_pos c4] at H
       have c4b0 : decide (x6_2 < 14) = true := decide_eq_true c4
       clear c4
       by_cases c5 : 0 ≤ x5_1
       ·rw [if_pos c5] at H
        have c5b0 : decide (0 ≤ x5_1) = true := decide_eq_true c5
        clear c5
        by_cases c6 : x5_1 < (l0.length : Int)
        ·rw [if_pos c6] at H
         have c6b0 : decide (x5_1 < (l0.length : Int)) = true := decide_eq_true c6
         clear c6
         by_cases c7 : 0 ≤ x6_2
         ·rw [if_pos c7] at H
          have c7b0 : decide (0 ≤ x6_2) = true := decide_eq_true c7
          clear c7
          by_cases c8 : (rd [(za l0 x5_1).f0.f0, (za l0 x5_1).f0.f1, (za l0 x5_1).f0.f2, (za l0 x5_1).f0.f3, (za l0 x5_1).f0.f4, (za l0 x5_1).f0.f5, (za l0 x5_1).f0.f6, (za l0 x5_1).f0.f7, (za l0 x5_1).f0.f8, (za l0 x5_1).f0.f9, (za l0 x5_1).f0.f10, (za l0 x5_1).f0.f11, (za l0 x5_1).f0.f12, (za l0 x5_1).f0.f13] x6_2) = (IntKind.i8.wrap (x1_2))
          ·rw [if_pos c8] at H
           have c8b0 : ((rd [(za l0 x5_1).f0.f0, (za l0 x5_1).f0.f1, (za l0 x5_1).f0.f2, (za l0 x5_1).f0.f3, (za l0 x5_1).f0.f4, (za l0 x5_1).f0.f5, (za l0 x5_1).f0.f6, (za l0 x5_1).f0.f7, (za l0 x5_1).f0.f8, (za l0 x5_1).f0.f9, (za l0 x5_1).f0.f10, (za l0 x5_1).f0.f11, (za l0 x5_1).f0.f12, (za l0 x5_1).f0.f13] x6_2) == (IntKind.i8.wrap (x1_2))) = true := beq_iff_eq.mpr c8
           have c8b1 : ((rd [(za l0 x5_1).f0.f0, (za l0 x5_1).f0.f1, (za l0 x5_1).f0.f2, (za l0 x5_1).f0.f3, (za l0 x5_1).f0.f4, (za l0 x5_1).f0.f5, (za l0 x5_1).f0.f6, (za l0 x5_1).f0.f7, (za l0 x5_1).f0.f8, (za l0 x5_1).f0.f9, (za l0 x5_1).f0.f10, (za l0 x5_1).f0.f11, (za l0 x5_1).f0.f12, (za l0 x5_1).f0.f13] x6_2) != (IntKind.i8.wrap (x1_2))) = false := bne_eq_false_iff_eq.mpr c8
           clear c8
           have H' := zc.mk H
           clear H
           have p339 : 0 ≤ (x5_1 : Int) := od (by first | (with_reducible assumption) | assumption)
           have q339 : x5_1 < (l0.length : Int) := od (by first | (with_reducible assumption) | assumption)
           obtain ⟨ad339, e339, u1_0, u1_1, u1_2, u1_3, u1_4, u1_5, u1_6, u1_7, u1_8, u1_9, u1_10, u1_11, u1_12, u1_13, u1_14, u1_15, u1_16, u1_17, u1_18, u1_19⟩ := zta HR0.out x5_1 p339 q339
           cases e339
           replace p339 := eq_true p339
           replace q339 := eq_true q339
           have u2_0 : w.cell? ((ad339.add ((x5_1).toNat * 20)).add (x6_2).toNat) = some (.int .i8 (rd [(za l0 x5_1).f0.f0, (za l0 x5_1).f0.f1, (za l0 x5_1).f0.f2, (za l0 x5_1).f0.f3, (za l0 x5_1).f0.f4, (za l0 x5_1).f0.f5, (za l0 x5_1).f0.f6, (za l0 x5_1).f0.f7, (za l0 x5_1).f0.f8, (za l0 x5_1).f0.f9, (za l0 x5_1).f0.f10, (za l0 x5_1).f0.f11, (za l0 x5_1).f0.f12, (za l0 x5_1).f0.f13] x6_2)) := by rcases (show (x6_2 : Int) = 0 ∨ (x6_2 : Int) = 1 ∨ (x6_2 : Int) = 2 ∨ (x6_2 : Int) = 3 ∨ (x6_2 : Int) = 4 ∨ (x6_2 : Int) = 5 ∨ (x6_2 : Int) = 6 ∨ (x6_2 : Int) = 7 ∨ (x6_2 : Int) = 8 ∨ (x6_2 : Int) = 9 ∨ (x6_2 : Int) = 10 ∨ (x6_2 : Int) = 11 ∨ (x6_2 : Int) = 12 ∨ (x6_2 : Int) = 13 by have hp_ : 0 ≤ (x6_2 : Int) := od (by first | (with_reducible assumption) | assumption); have hq_ : x6_2 < (14 : Int) := od (by first | (with_reducible assumption) | assumption); omega) with h_ | h_ | h_ | h_ | h_ | h_ | h_ | h_ | h_ | h_ | h_ | h_ | h_ | h_ <;> rw [h_] <;> first | exact u1_0 | exact u1_1 | exact u1_2 | exact u1_3 | exact u1_4 | exact u1_5 | exact u1_6 | exact u1_7 | exact u1_8 | exact u1_9 | exact u1_10 | exact u1_11 | exact u1_12 | exact u1_13
           have p9 : 0 ≤ (x6_2 : Int) := od (by first | (with_reducible assumption) | assumption)
           have q9 : x6_2 < (14 : Int) := od (by first | (with_reducible assumption) | assumption)
           replace p9 := eq_true p9
           replace q9 := eq_true q9
           go_wp2
           go_roundg k2
           case measure => have := HK1.out; have := HK2.out; omega
           case rel => exact ⟨(wrap64 (x1_2 + 1)), (wrap64 (x6_2 + 1)), (by first | rfl | (simp; done) | (simp [*]; done)), (by first | rfl | (simp; done) | (simp [*]; done)), H', ⟨by have := HK1.out; have := HK2.out; omega⟩, by repeat (first | exact zfa.refl _ | apply zfa.step)⟩
          rw [if_neg c8] at H
          have c8b0 : ((rd [(za l0 x5_1).f0.f0, (za l0 x5_1).f0.f1, (za l0 x5_1).f0.f2, (za l0 x5_1).f0.f3, (za l0 x5_1).f0.f4, (za l0 x5_1).f0.f5, (za l0 x5_1).f0.f6, (za l0 x5_1).f0.f7, (za l0 x5_1).f0.f8, (za l0 x5_1).f0.f9, (za l0 x5_1).f0.f10, (za l0 x5_1).f0.f11, (za l0 x5_1).f0.f12, (za l0 x5_1).f0.f13] x6_2) == (IntKind.i8.wrap (x1_2))) = false := beq_eq_false_iff_ne.mpr c8
          have c8b1 : ((rd [(za l0 x5_1).f0.f0, (za l0 x5_1).f0.f1, (za l0 x5_1).f0.f2, (za l0 x5_1).f0.f3, (za l0 x5_1).f0.f4, (za l0 x5_1).f0.f5, (za l0 x5_1).f0.f6, (za l0 x5_1).f0.f7, (za l0 x5_1).f0.f8, (za l0 x5_1).f0.f9, (za l0 x5_1).f0.f10, (za l0 x5_1).f0.f11, (za l0 x5_1).f0.f12, (za l0 x5_1).f0.f13] x6_2) != (IntKind.i8.wrap (x1_2))) = true := bne_iff_ne.mpr c8
          obtain rfl := Option.some.inj H
          have p339 : 0 ≤ (x5_1 : Int) := od (by first | (with_reducible assumption) | assumption)
          have q339 : x5_1 < (l0.length : Int) := od (by first | (with_reducible assumption) | assumption)
          obtain ⟨ad339, e339, u1_0, u1_1, u1_2, u1_3, u1_4, u1_5, u1_6, u1_7, u1_8, u1_9, u1_10, u1_11, u1_12, u1_13, u1_14, u1_15, u1_16, u1_17, u1_18, u1_19⟩ := zta HR0.out x5_1 p339 q339
          cases e339
          replace p339 := eq_true p339
          replace q339 := eq_true q339
          have u3_0 : w.cell? ((ad339.add ((x5_1).toNat * 20)).add (x6_2).toNat) = some (.int .i8 (rd [(za l0 x5_1).f0.f0, (za l0 x5_1).f0.f1, (za l0 x5_1).f0.f2, (za l0 x5_1).f0.f3, (za l0 x5_1).f0.f4, (za l0 x5_1).f0.f5, (za l0 x5_1).f0.f6, (za l0 x5_1).f0.f7, (za l0 x5_1).f0.f8, (za l0 x5_1).f0.f9, (za l0 x5_1).f0.f10, (za l0 x5_1).f0.f11, (za l0 x5_1).f0.f12, (za l0 x5_1).f0.f13] x6_2)) := by rcases (show (x6_2 : Int) = 0 ∨ (x6_2 : Int) = 1 ∨ (x6_2 : Int) = 2 ∨ (x6_2 : Int) = 3 ∨ (x6_2 : Int) = 4 ∨ (x6_2 : Int) = 5 ∨ (x6_2 : Int) = 6 ∨ (x6_2 : Int) = 7 ∨ (x6_2 : Int) = 8 ∨ (x6_2 : Int) = 9 ∨ (x6_2 : Int) = 10 ∨ (x6_2 : Int) = 11 ∨ (x6_2 : Int) = 12 ∨ (x6_2 : Int) = 13 by have hp_ : 0 ≤ (x6_2 : Int) := od (by first | (with_reducible assumption) | assumption); have hq_ : x6_2 < (14 : Int) := od (by first | (with_reducible assumption) | assumption); omega) with h_ | h_ | h_ | h_ | h_ | h_ | h_ | h_ | h_ | h_ | h_ | h_ | h_ | h_ <;> rw [h_] <;> first | exact u1_0 | exact u1_1 | exact u1_2 | exact u1_3 | exact u1_4 | exact u1_5 | exact u1_6 | exact u1_7 | exact u1_8 | exact u1_9 | exact u1_10 | exact u1_11 | exact u1_12 | exact u1_13
          have p10 : 0 ≤ (x6_2 : Int) := od (by first | (with_reducible assumption) | assumption)
          have q10 : x6_2 < (14 : Int) := od (by first | (with_reducible assumption) | assumption)
          replace p10 := eq_true p10
          replace q10 := eq_true q10
          go_wp2
          go_ret
          exact ⟨by first | rfl | (simp; done) | (simp [*]; done), by repeat (first | exact zfa.refl _ | apply zfa.step)⟩
         rw [if_neg c7] at H
         exact absurd H (by simp)
        rw [if_neg c6] at H
        exact absurd H (by simp)
       rw [if_neg c5] at H
       exact absurd H (by simp)
      rw [if_neg c4] at H
      have c4b0 : decide (x6_2 < 14) = false := decide_eq_false c4
      clear c4
      have H' := zc.mk H
      clear H
      go_wp2
      go_loopg [1, 7] k2 (fun kq v1 v7 w' => ∃ (x1_3 : Int) (x7_3 : Int), v1 = .int .i64 x1_3 ∧ v7 = .int .i64 x7_3 ∧ zc (laws_heldNodeS.l2 kq l0 x1_3 x5_1 x7_3 = some r) ∧ zc (kq ≤ k2) ∧ zfa w w')
      case atStart => exact ⟨(x1_2), (0), (by first | rfl | (simp; done) | (simp [*]; done)), (by first | rfl | (simp; done) | (simp [*]; done)), H', ⟨Nat.le_refl _⟩, by repeat (first | exact zfa.refl _ | apply zfa.step)⟩
      case round =>
       clear H'
       try clear p1
       try clear q1
       try clear hx1
       try clear c2
       try clear p2
       try clear c3
       try clear c3b0
       try clear p3
       try clear q3
       try clear hx3
       try clear c4
       try clear c4b0
       try clear c5
       try clear c5b0
       try clear c6
       try clear c6b0
       try clear p6
       try clear c7
       try clear c7b0
       try clear c8
       try clear c8b0
       try clear c8b1
       try clear p9
       try clear q9
       try clear hx9
       try clear p10
       try clear q10
       try clear hx10
       try clear u3_0
       try clear u1_0
       try clear u1_1
       try clear u1_10
       try clear u1_11
       try clear u1_12
       try clear u1_13
       try clear u1_14
       try clear u1_15
       try clear u1_16
       try clear u1_17
       try clear u1_18
       try clear u1_19
       try clear u1_2
       try clear u1_3
       try clear u1_4
       try clear u1_5
       try clear u1_6
       try clear u1_7
       try clear u1_8
       try clear u1_9
       try clear u2_0
       try clear p10
       try clear p2
       try clear p339
       try clear p9
       try clear q10
       try clear q339
       try clear q9
       obtain ⟨x1_3, x7_3, rfl, rfl, HA, HK3, ⟨m3, rfl⟩⟩ := hrel
       cases gk with
       | zero => exact absurd HA.out (by simp [laws_heldNodeS.l2])
       | succ k3 =>
        have H := HA.out
        clear HA
        simp only [laws_heldNodeS.l2] at H
        by_cases c11 : x7_3 < 3
        ·rw [if_pos c11] at H
         have c11b0 : decide (x7_3 < 3) = true := decide_eq_true c11
         clear c11
         by_cases c12 : 0 ≤ x5_1
         ·rw [if_pos c12] at H
          have c12b0 : decide (0 ≤ x5_1) = true := decide_eq_true c12
          clear c12
          by_cases c13 : x5_1 < (l0.length : Int)
          ·rw [if_pos c13] at H
           have c13b0 : decide (x5_1 < (l0.length : Int)) = true := decide_eq_true c13
           clear c13
           by_cases c14 : 0 ≤ x7_3
           ·rw [if_pos c14] at H
            have c14b0 : decide (0 ≤ x7_3) = true := decide_eq_true c14
            clear c14
            by_cases c15 : (rd [(za l0 x5_1).f1.f0, (za l0 x5_1).f1.f1, (za l0 x5_1).f1.f2] x7_3) = (IntKind.i16.wrap (x1_3))
            ·rw [if_pos c15] at H
             have c15b0 : ((rd [(za l0 x5_1).f1.f0, (za l0 x5_1).f1.f1, (za l0 x5_1).f1.f2] x7_3) == (IntKind.i16.wrap (x1_3))) = true := beq_iff_eq.mpr c15
             have c15b1 : ((rd [(za l0 x5_1).f1.f0, (za l0 x5_1).f1.f1, (za l0 x5_1).f1.f2] x7_3) != (IntKind.i16.wrap (x1_3))) = false := bne_eq_false_iff_eq.mpr c15
             clear c15
             have H' := zc.mk H
             clear H
             have p341 : 0 ≤ (x5_1 : Int) := od (by first | (with_reducible assumption) | assumption)
             have q341 : x5_1 < (l0.length : Int) := od (by first | (with_reducible assumption) | assumption)
             obtain ⟨ad341, e341, u4_0, u4_1, u4_2, u4_3, u4_4, u4_5, u4_6, u4_7, u4_8, u4_9, u4_10, u4_11, u4_12, u4_13, u4_14, u4_15, u4_16, u4_17, u4_18, u4_19⟩ := zta HR0.out x5_1 p341 q341
             cases e341
             replace p341 := eq_true p341
             replace q341 := eq_true q341
             have u5_0 : w.cell? ⟨(ad341.add ((x5_1).toNat * 20)).block, (ad341.add ((x5_1).toNat * 20)).off + 14 + (x7_3).toNat, none⟩ = some (.int .i16 (rd [(za l0 x5_1).f1.f0, (za l0 x5_1).f1.f1, (za l0 x5_1).f1.f2] x7_3)) := by rcases (show (x7_3 : Int) = 0 ∨ (x7_3 : Int) = 1 ∨ (x7_3 : Int) = 2 by have hp_ : 0 ≤ (x7_3 : Int) := od (by first | (with_reducible assumption) | assumption); have hq_ : x7_3 < (3 : Int) := od (by first | (with_reducible assumption) | assumption); omega) with h_ | h_ | h_ <;> rw [h_] <;> first | exact u4_14 | exact u4_15 | exact u4_16
             have p16 : 0 ≤ (x7_3 : Int) := od (by first | (with_reducible assumption) | assumption)
             have q16 : x7_3 < (3 : Int) := od (by first | (with_reducible assumption) | assumption)
             replace p16 := eq_true p16
             replace q16 := eq_true q16
             go_wp2
             go_roundg k3
             case measure => have := HK1.out; have := HK2.out; have := HK3.out; omega
             case rel => exact ⟨(wrap64 (x1_3 + 1)), (wrap64 (x7_3 + 1)), (by first | rfl | (simp; done) | (simp [*]; done)), (by first | rfl | (simp; done) | (simp [*]; done)), H', ⟨by have := HK1.out; have := HK2.out; have := HK3.out; omega⟩, by repeat (first | exact zfa.refl _ | apply zfa.step)⟩
            rw [if_neg c15] at H
            have c15b0 : ((rd [(za l0 x5_1).f1.f0, (za l0 x5_1).f1.f1, (za l0 x5_1).f1.f2] x7_3) == (IntKind.i16.wrap (x1_3))) = false := beq_eq_false_iff_ne.mpr c15
            have c15b1 : ((rd [(za l0 x5_1).f1.f0, (za l0 x5_1).f1.f1, (za l0 x5_1).f1.f2] x7_3) != (IntKind.i16.wrap (x1_3))) = true := bne_iff_ne.mpr c15
            obtain rfl := Option.some.inj H
            have p341 : 0 ≤ (x5_1 : Int) := od (by first | (with_reducible assumption) | assumption)
            have q341 : x5_1 < (l0.length : Int) := od (by first | (with_reducible assumption) | assumption)
            obtain ⟨ad341, e341, u4_0, u4_1, u4_2, u4_3, u4_4, u4_5, u4_6, u4_7, u4_8, u4_9, u4_10, u4_11, u4_12, u4_13, u4_14, u4_15, u4_16, u4_17, u4_18, u4_19⟩ := zta HR0.out x5_1 p341 q341
            cases e341
            replace p341 := eq_true p341
            replace q341 := eq_true q341
            have u6_0 : w.cell? ⟨(ad341.add ((x5_1).toNat * 20)).block, (ad341.add ((x5_1).toNat * 20)).off + 14 + (x7_3).toNat, none⟩ = some (.int .i16 (rd [(za l0 x5_1).f1.f0, (za l0 x5_1).f1.f1, (za l0 x5_1).f1.f2] x7_3)) := by rcases (show (x7_3 : Int) = 0 ∨ (x7_3 : Int) = 1 ∨ (x7_3 : Int) = 2 by have hp_ : 0 ≤ (x7_3 : Int) := od (by first | (with_reducible assumption) | assumption); have hq_ : x7_3 < (3 : Int) := od (by first | (with_reducible assumption) | assumption); omega) with h_ | h_ | h_ <;> rw [h_] <;> first | exact u4_14 | exact u4_15 | exact u4_16
            have p17 : 0 ≤ (x7_3 : Int) := od (by first | (with_reducible assumption) | assumption)
            have q17 : x7_3 < (3 : Int) := od (by first | (with_reducible assumption) | assumption)
            replace p17 := eq_true p17
            replace q17 := eq_true q17
            go_wp2
            go_ret
            exact ⟨by first | rfl | (simp; done) | (simp [*]; done), by repeat (first | exact zfa.refl _ | apply zfa.step)⟩
           rw [if_neg c14] at H
           exact absurd H (by simp)
          rw [if_neg c13] at H
          exact absurd H (by simp)
         rw [if_neg c12] at H
         exact absurd H (by simp)
        rw [if_neg c11] at H
        have c11b0 : decide (x7_3 < 3) = false := decide_eq_false c11
        clear c11
        by_cases c18 : 0 ≤ x5_1
        ·rw [if_pos c18] at H
         have c18b0 : decide (0 ≤ x5_1) = true := decide_eq_true c18
         clear c18
         by_cases c19 : x5_1 < (l0.length : Int)
         ·rw [if_pos c19] at H
          have c19b0 : decide (x5_1 < (l0.length : Int)) = true := decide_eq_true c19
          clear c19
          by_cases c20 : ((za l0 x5_1).f2.f0) = (IntKind.i8.wrap (x1_3))
          ·rw [if_pos c20] at H
           have c20b0 : (((za l0 x5_1).f2.f0) == (IntKind.i8.wrap (x1_3))) = true := beq_iff_eq.mpr c20
           have c20b1 : (((za l0 x5_1).f2.f0) != (IntKind.i8.wrap (x1_3))) = false := bne_eq_false_iff_eq.mpr c20
           clear c20
           by_cases c21 : (((za l0 x5_1).f2.f1) != ((Int.tmod (wrap64 (x1_3 + 1)) 3) == 0)) = true
           ·rw [if_pos c21] at H
            have c21b0 : (((za l0 x5_1).f2.f1) != ((Int.tmod (wrap64 (x1_3 + 1)) 3) == 0)) = true := c21
            (try (have c21b1 : decide (((za l0 x5_1).f2.f1) = ((Int.tmod (wrap64 (x1_3 + 1)) 3) == 0)) = false := by simpa using c21))
            (try (have c21b2 : (((za l0 x5_1).f2.f1) == ((Int.tmod (wrap64 (x1_3 + 1)) 3) == 0)) = false := by simpa using c21))
            (try (have c21b3 : ¬ (((za l0 x5_1).f2.f1) = ((Int.tmod (wrap64 (x1_3 + 1)) 3) == 0)) := by simpa using c21))
            (try (have c21b4 : (((za l0 x5_1).f2.f1) != ((Int.tmod (IntKind.i64.wrap (x1_3 + 1)) 3) == 0)) = true := by have h_ : (((za l0 x5_1).f2.f1) != ((Int.tmod (wrap64 (x1_3 + 1)) 3) == 0)) = true := c21; simpa only [zm, zl] using h_))
            (try (have c21b5 : decide (((za l0 x5_1).f2.f1) = ((Int.tmod (IntKind.i64.wrap (x1_3 + 1)) 3) == 0)) = false := by have h_ : decide (((za l0 x5_1).f2.f1) = ((Int.tmod (wrap64 (x1_3 + 1)) 3) == 0)) = false := by simpa using c21; simpa only [zm, zl] using h_))
            (try (have c21b6 : (((za l0 x5_1).f2.f1) == ((Int.tmod (IntKind.i64.wrap (x1_3 + 1)) 3) == 0)) = false := by have h_ : (((za l0 x5_1).f2.f1) == ((Int.tmod (wrap64 (x1_3 + 1)) 3) == 0)) = false := by simpa using c21; simpa only [zm, zl] using h_))
            (try (have c21b7 : ¬ (((za l0 x5_1).f2.f1) = ((Int.tmod (IntKind.i64.wrap (x1_3 + 1)) 3) == 0)) := by have h_ : ¬ (((za l0 x5_1).f2.f1) = ((Int.tmod (wrap64 (x1_3 + 1)) 3) == 0)) := by simpa using c21; simpa only [zm, zl] using h_))
            clear c21
            obtain rfl := Option.some.inj H
            have p343 : 0 ≤ (x5_1 : Int) := od (by first | (with_reducible assumption) | assumption)
            have q343 : x5_1 < (l0.length : Int) := od (by first | (with_reducible assumption) | assumption)
            obtain ⟨ad343, e343, u7_0, u7_1, u7_2, u7_3, u7_4, u7_5, u7_6, u7_7, u7_8, u7_9, u7_10, u7_11, u7_12, u7_13, u7_14, u7_15, u7_16, u7_17, u7_18, u7_19⟩ := zta HR0.out x5_1 p343 q343
            cases e343
            replace p343 := eq_true p343
            replace q343 := eq_true q343
            have p344 : 0 ≤ (x5_1 : Int) := od (by first | (with_reducible assumption) | assumption)
            have q344 : x5_1 < (l0.length : Int) := od (by first | (with_reducible assumption) | assumption)
            obtain ⟨ad344, e344, u8_0, u8_1, u8_2, u8_3, u8_4, u8_5, u8_6, u8_7, u8_8, u8_9, u8_10, u8_11, u8_12, u8_13, u8_14, u8_15, u8_16, u8_17, u8_18, u8_19⟩ := zta HR0.out x5_1 p344 q344
            obtain rfl : ad343 = ad344 := (by injection e344)
            replace p344 := eq_true p344
            replace q344 := eq_true q344
            go_wp2
            go_ret
            exact ⟨by first | rfl | (simp; done) | (simp [*]; done), by repeat (first | exact zfa.refl _ | apply zfa.step)⟩
           rw [if_neg c21] at H
           have c21b0 : (((za l0 x5_1).f2.f1) != ((Int.tmod (wrap64 (x1_3 + 1)) 3) == 0)) = false := by simpa using c21
           (try (have c21b1 : decide (((za l0 x5_1).f2.f1) = ((Int.tmod (wrap64 (x1_3 + 1)) 3) == 0)) = true := by simpa using c21))
           (try (have c21b2 : (((za l0 x5_1).f2.f1) == ((Int.tmod (wrap64 (x1_3 + 1)) 3) == 0)) = true := by simpa using c21))
           (try (have c21b3 : (((za l0 x5_1).f2.f1) != ((Int.tmod (IntKind.i64.wrap (x1_3 + 1)) 3) == 0)) = false := by have h_ : (((za l0 x5_1).f2.f1) != ((Int.tmod (wrap64 (x1_3 + 1)) 3) == 0)) = false := by simpa using c21; simpa only [zm, zl] using h_))
           (try (have c21b4 : decide (((za l0 x5_1).f2.f1) = ((Int.tmod (IntKind.i64.wrap (x1_3 + 1)) 3) == 0)) = true := by have h_ : decide (((za l0 x5_1).f2.f1) = ((Int.tmod (wrap64 (x1_3 + 1)) 3) == 0)) = true := by simpa using c21; simpa only [zm, zl] using h_))
           (try (have c21b5 : (((za l0 x5_1).f2.f1) == ((Int.tmod (IntKind.i64.wrap (x1_3 + 1)) 3) == 0)) = true := by have h_ : (((za l0 x5_1).f2.f1) == ((Int.tmod (wrap64 (x1_3 + 1)) 3) == 0)) = true := by simpa using c21; simpa only [zm, zl] using h_))
           clear c21
           by_cases c22 : (((za l0 x5_1).f3) != ((Int.tmod (wrap64 ((wrap64 (x1_3 + 1)) + 1)) 3) == 0)) = true
           ·rw [if_pos c22] at H
            have c22b0 : (((za l0 x5_1).f3) != ((Int.tmod (wrap64 ((wrap64 (x1_3 + 1)) + 1)) 3) == 0)) = true := c22
            (try (have c22b1 : decide (((za l0 x5_1).f3) = ((Int.tmod (wrap64 ((wrap64 (x1_3 + 1)) + 1)) 3) == 0)) = false := by simpa using c22))
            (try (have c22b2 : (((za l0 x5_1).f3) == ((Int.tmod (wrap64 ((wrap64 (x1_3 + 1)) + 1)) 3) == 0)) = false := by simpa using c22))
            (try (have c22b3 : ¬ (((za l0 x5_1).f3) = ((Int.tmod (wrap64 ((wrap64 (x1_3 + 1)) + 1)) 3) == 0)) := by simpa using c22))
            (try (have c22b4 : (((za l0 x5_1).f3) != ((Int.tmod (IntKind.i64.wrap ((IntKind.i64.wrap (x1_3 + 1)) + 1)) 3) == 0)) = true := by have h_ : (((za l0 x5_1).f3) != ((Int.tmod (wrap64 ((wrap64 (x1_3 + 1)) + 1)) 3) == 0)) = true := c22; simpa only [zm, zl] using h_))
            (try (have c22b5 : decide (((za l0 x5_1).f3) = ((Int.tmod (IntKind.i64.wrap ((IntKind.i64.wrap (x1_3 + 1)) + 1)) 3) == 0)) = false := by have h_ : decide (((za l0 x5_1).f3) = ((Int.tmod (wrap64 ((wrap64 (x1_3 + 1)) + 1)) 3) == 0)) = false := by simpa using c22; simpa only [zm, zl] using h_))
            (try (have c22b6 : (((za l0 x5_1).f3) == ((Int.tmod (IntKind.i64.wrap ((IntKind.i64.wrap (x1_3 + 1)) + 1)) 3) == 0)) = false := by have h_ : (((za l0 x5_1).f3) == ((Int.tmod (wrap64 ((wrap64 (x1_3 + 1)) + 1)) 3) == 0)) = false := by simpa using c22; simpa only [zm, zl] using h_))
            (try (have c22b7 : ¬ (((za l0 x5_1).f3) = ((Int.tmod (IntKind.i64.wrap ((IntKind.i64.wrap (x1_3 + 1)) + 1)) 3) == 0)) := by have h_ : ¬ (((za l0 x5_1).f3) = ((Int.tmod (wrap64 ((wrap64 (x1_3 + 1)) + 1)) 3) == 0)) := by simpa using c22; simpa only [zm, zl] using h_))
            clear c22
            obtain rfl := Option.some.inj H
            have p343 : 0 ≤ (x5_1 : Int) := od (by first | (with_reducible assumption) | assumption)
            have q343 : x5_1 < (l0.length : Int) := od (by first | (with_reducible assumption) | assumption)
            obtain ⟨ad343, e343, u7_0, u7_1, u7_2, u7_3, u7_4, u7_5, u7_6, u7_7, u7_8, u7_9, u7_10, u7_11, u7_12, u7_13, u7_14, u7_15, u7_16, u7_17, u7_18, u7_19⟩ := zta HR0.out x5_1 p343 q343
            cases e343
            replace p343 := eq_true p343
            replace q343 := eq_true q343
            have p344 : 0 ≤ (x5_1 : Int) := od (by first | (with_reducible assumption) | assumption)
            have q344 : x5_1 < (l0.length : Int) := od (by first | (with_reducible assumption) | assumption)
            obtain ⟨ad344, e344, u8_0, u8_1, u8_2, u8_3, u8_4, u8_5, u8_6, u8_7, u8_8, u8_9, u8_10, u8_11, u8_12, u8_13, u8_14, u8_15, u8_16, u8_17, u8_18, u8_19⟩ := zta HR0.out x5_1 p344 q344
            obtain rfl : ad343 = ad344 := (by injection e344)
            replace p344 := eq_true p344
            replace q344 := eq_true q344
            have p345 : 0 ≤ (x5_1 : Int) := od (by first | (with_reducible assumption) | assumption)
            have q345 : x5_1 < (l0.length : Int) := od (by first | (with_reducible assumption) | assumption)
            obtain ⟨ad345, e345, u9_0, u9_1, u9_2, u9_3, u9_4, u9_5, u9_6, u9_7, u9_8, u9_9, u9_10, u9_11, u9_12, u9_13, u9_14, u9_15, u9_16, u9_17, u9_18, u9_19⟩ := zta HR0.out x5_1 p345 q345
            obtain rfl : ad343 = ad345 := (by injection e345)
            replace p345 := eq_true p345
            replace q345 := eq_true q345
            go_wp2
            go_ret
            exact ⟨by first | rfl | (simp; done) | (simp [*]; done), by repeat (first | exact zfa.refl _ | apply zfa.step)⟩
           rw [if_neg c22] at H
           have c22b0 : (((za l0 x5_1).f3) != ((Int.tmod (wrap64 ((wrap64 (x1_3 + 1)) + 1)) 3) == 0)) = false := by simpa using c22
           (try (have c22b1 : decide (((za l0 x5_1).f3) = ((Int.tmod (wrap64 ((wrap64 (x1_3 + 1)) + 1)) 3) == 0)) = true := by simpa using c22))
           (try (have c22b2 : (((za l0 x5_1).f3) == ((Int.tmod (wrap64 ((wrap64 (x1_3 + 1)) + 1)) 3) == 0)) = true := by simpa using c22))
           (try (have c22b3 : (((za l0 x5_1).f3) != ((Int.tmod (IntKind.i64.wrap ((IntKind.i64.wrap (x1_3 + 1)) + 1)) 3) == 0)) = false := by have h_ : (((za l0 x5_1).f3) != ((Int.tmod (wrap64 ((wrap64 (x1_3 + 1)) + 1)) 3) == 0)) = false := by simpa using c22; simpa only [zm, zl] using h_))
           (try (have c22b4 : decide (((za l0 x5_1).f3) = ((Int.tmod (IntKind.i64.wrap ((IntKind.i64.wrap (x1_3 + 1)) + 1)) 3) == 0)) = true := by have h_ : decide (((za l0 x5_1).f3) = ((Int.tmod (wrap64 ((wrap64 (x1_3 + 1)) + 1)) 3) == 0)) = true := by simpa using c22; simpa only [zm, zl] using h_))
           (try (have c22b5 : (((za l0 x5_1).f3) == ((Int.tmod (IntKind.i64.wrap ((IntKind.i64.wrap (x1_3 + 1)) + 1)) 3) == 0)) = true := by have h_ : (((za l0 x5_1).f3) == ((Int.tmod (wrap64 ((wrap64 (x1_3 + 1)) + 1)) 3) == 0)) = true := by simpa using c22; simpa only [zm, zl] using h_))
           clear c22
           have H' := zc.mk H
           clear H
           have p343 : 0 ≤ (x5_1 : Int) := od (by first | (with_reducible assumption) | assumption)
           have q343 : x5_1 < (l0.length : Int) := od (by first | (with_reducible assumption) | assumption)
           obtain ⟨ad343, e343, u7_0, u7_1, u7_2, u7_3, u7_4, u7_5, u7_6, u7_7, u7_8, u7_9, u7_10, u7_11, u7_12, u7_13, u7_14, u7_15, u7_16, u7_17, u7_18, u7_19⟩ := zta HR0.out x5_1 p343 q343
           cases e343
           replace p343 := eq_true p343
           replace q343 := eq_true q343
           have p344 : 0 ≤ (x5_1 : Int) := od (by first | (with_reducible assumption) | assumption)
           have q344 : x5_1 < (l0.length : Int) := od (by first | (with_reducible assumption) | assumption)
           obtain ⟨ad344, e344, u8_0, u8_1, u8_2, u8_3, u8_4, u8_5, u8_6, u8_7, u8_8, u8_9, u8_10, u8_11, u8_12, u8_13, u8_14, u8_15, u8_16, u8_17, u8_18, u8_19⟩ := zta HR0.out x5_1 p344 q344
           obtain rfl : ad343 = ad344 := (by injection e344)
           replace p344 := eq_true p344
           replace q344 := eq_true q344
           have p345 : 0 ≤ (x5_1 : Int) := od (by first | (with_reducible assumption) | assumption)
           have q345 : x5_1 < (l0.length : Int) := od (by first | (with_reducible assumption) | assumption)
           obtain ⟨ad345, e345, u9_0, u9_1, u9_2, u9_3, u9_4, u9_5, u9_6, u9_7, u9_8, u9_9, u9_10, u9_11, u9_12, u9_13, u9_14, u9_15, u9_16, u9_17, u9_18, u9_19⟩ := zta HR0.out x5_1 p345 q345
           obtain rfl : ad343 = ad345 := (by injection e345)
           replace p345 := eq_true p345
           replace q345 := eq_true q345
           go_wp2
           go_roundg k3
           case measure => have := HK1.out; have := HK2.out; have := HK3.out; omega
           case rel => exact ⟨(wrap64 ((wrap64 ((wrap64 (x1_3 + 1)) + 1)) + 1)), (wrap64 (x5_1 + 1)), (by first | rfl | (simp; done) | (simp [*]; done)), (by first | rfl | (simp; done) | (simp [*]; done)), H', ⟨by have := HK1.out; have := HK2.out; have := HK3.out; omega⟩, by repeat (first | exact zfa.refl _ | apply zfa.step)⟩
          rw [if_neg c20] at H
          have c20b0 : (((za l0 x5_1).f2.f0) == (IntKind.i8.wrap (x1_3))) = false := beq_eq_false_iff_ne.mpr c20
          have c20b1 : (((za l0 x5_1).f2.f0) != (IntKind.i8.wrap (x1_3))) = true := bne_iff_ne.mpr c20
          obtain rfl := Option.some.inj H
          have p343 : 0 ≤ (x5_1 : Int) := od (by first | (with_reducible assumption) | assumption)
          have q343 : x5_1 < (l0.length : Int) := od (by first | (with_reducible assumption) | assumption)
          obtain ⟨ad343, e343, u7_0, u7_1, u7_2, u7_3, u7_4, u7_5, u7_6, u7_7, u7_8, u7_9, u7_10, u7_11, u7_12, u7_13, u7_14, u7_15, u7_16, u7_17, u7_18, u7_19⟩ := zta HR0.out x5_1 p343 q343
          cases e343
          replace p343 := eq_true p343
          replace q343 := eq_true q343
          go_wp2
          go_ret
          exact ⟨by first | rfl | (simp; done) | (simp [*]; done), by repeat (first | exact zfa.refl _ | apply zfa.step)⟩
         rw [if_neg c19] at H
         exact absurd H (by simp)
        rw [if_neg c18] at H
        exact absurd H (by simp)
   rw [if_neg c3] at H
   have c3b0 : decide (x5_1 < (l0.length : Int)) = false := decide_eq_false c3
   clear c3
   obtain rfl := Option.some.inj H
   go_wp2
   go_ret
   exact ⟨by first | rfl | (simp; done) | (simp [*]; done), by repeat (first | exact zfa.refl _ | apply zfa.step)⟩
end Go.Proofs.Ytmmonhpjjjdnjaa.V
