-- Written by wip/tools/myprint.py, a program of this session, by way of the kit's print.
import Derived.Test.YtgcbhknpfpgffaaCx0
import Derived.Test.YtgcbhknpfpgffaaLPrC
namespace Go.Proofs.Ytgcbhknpfpgffaa.C
open Go.RowKit Go.Proofs.YtgcbhknpfpgffaaW.PrintWords Go.Proofs.YtgcbhknpfpgffaaW.PrintLast Go.Proofs.YtgcbhknpfpgffaaW.PrintMore
attribute [local go_sem] wl_0 wl_1 wl_2 wl_3 wl_4 zdb zcb zkb zjb zva zwa zbb zab   -- for this text's walks alone
set_option linter.unusedVariables false
set_option linter.unusedSimpArgs false

/-! ### spec_l00In: function 12 -/
def spec_l00In.f (a0 : Int) (a1 : Int) (a2 : Int) : Option (Bool) := if a0 ≥ a1 then (some (decide (a0 ≤ a2))) else (some false)
set_option maxHeartbeats 8000000 in
set_option maxRecDepth 100000 in
theorem spec_l00In.calls (a0 : Int) (a1 : Int) (a2 : Int) (r : Bool) (w : World) (h : spec_l00In.f a0 a1 a2 = some r) :
  Calls Try.prog 12 #[.int .i64 a0, .int .i64 a1, .int .i64 a2] w fun e w' => e = .returned (.bool r) ∧ zta w w' := by
 have H : (if a0 ≥ a1 then (some (decide (a0 ≤ a2))) else (some false)) = some r := h
 clear h
 by_cases c4 : a0 ≥ a1
 ·rw [if_pos c4] at H
  have c4b0 : decide (a1 ≤ a0) = true := decide_eq_true c4
  clear c4
  obtain rfl := Option.some.inj H
  go_enter Try.func12, Try.ntmps12
  go_wp2
  go_ret
  exact ⟨by first | rfl | (simp; done) | (simp [*]; done), by repeat (first | exact zta.refl _ | apply zta.step)⟩
 rw [if_neg c4] at H
 have c4b0 : decide (a1 ≤ a0) = false := decide_eq_false c4
 clear c4
 obtain rfl := Option.some.inj H
 go_enter Try.func12, Try.ntmps12
 go_wp2
 go_ret
 exact ⟨by first | rfl | (simp; done) | (simp [*]; done), by repeat (first | exact zta.refl _ | apply zta.step)⟩

/-! ### spec_l06Total: function 13 -/
def spec_l06Total.f (a0_0 : Int) (a0_1 : Int) (a0_2 : Int) (a0_3 : Int) : Option (Int) := some (wrap64 ((wrap64 ((wrap64 (a0_0 + a0_1)) + a0_2)) + a0_3))
set_option maxHeartbeats 8000000 in
set_option maxRecDepth 100000 in
theorem spec_l06Total.calls (a0_0 : Int) (a0_1 : Int) (a0_2 : Int) (a0_3 : Int) (r : Int) (w : World) (h : spec_l06Total.f a0_0 a0_1 a0_2 a0_3 = some r) :
  Calls Try.prog 13 #[.agg #[.int .i64 a0_0, .int .i64 a0_1, .int .i64 a0_2, .int .i64 a0_3]] w fun e w' => e = .returned (.int .i64 r) ∧ Below w.heap.size w w' := by
 have hu25 := Try.underlying25
 have HB := zg.mk (Below.refl w.heap.size w)
 have H : (some (wrap64 ((wrap64 ((wrap64 (a0_0 + a0_1)) + a0_2)) + a0_3))) = some r := h
 clear h
 obtain rfl := Option.some.inj H
 go_enter Try.func13, Try.ntmps13
 go_wp2_with (first | ((with_reducible refine zga (N := 1) rfl ?_); refine bx (N := 1) #[.int .i64 a0_0, .int .i64 a0_1, .int .i64 a0_2, .int .i64 a0_3] 25 rfl ?_; intro gb101 hg w2 hbox hb; have BK101 := zg.mk hbox; have GW101 := gB hg; have GE101 := GW101; replace HB := zg.mk (zx sB hb); clear hb hbox hg; obtain ⟨hcz3_0, hcz3_1, hcz3_2, hcz3_3⟩ := xc4 BK101; obtain ⟨hfz3_0, hfz3_1, hfz3_2, hfz3_3⟩ := xf4 BK101))
 go_ret
 exact ⟨by first | rfl | (simp [zca, zda] <;> rfl) | (simp [*, zca, zda] <;> rfl), sB⟩

/-! ### spec_l06Valid: function 11 -/
def spec_l06Valid.l0 : Nat → Int → Int → Int → Int → Int → Int → Option (Bool)
 | 0, _, _, _, _, _, _ => none
 | k + 1, x0, x5, x103000, x103001, x103002, x103003 => if x5 < 4 then (if 0 ≤ x5 then ((spec_l00In.f (rd [x103000, x103001, x103002, x103003] x5) 0 60).bind fun t106 => (if t106 = true then (if x5 > x0 then (if (rd [x103000, x103001, x103002, x103003] x5) = 0 then (spec_l06Valid.l0 k x0 (wrap64 (x5 + 1)) x103000 x103001 x103002 x103003) else (some false)) else (spec_l06Valid.l0 k x0 (wrap64 (x5 + 1)) x103000 x103001 x103002 x103003)) else (some false))) else (none)) else ((spec_l06Total.f x103000 x103001 x103002 x103003).bind fun t109 => (some (decide (t109 ≤ 60))))
def spec_l06Valid.f (k : Nat) (a0 : Int) (a1_0 : Int) (a1_1 : Int) (a1_2 : Int) (a1_3 : Int) : Option (Bool) := (spec_l00In.f a0 0 3).bind fun t103 => (if t103 = true then (spec_l06Valid.l0 k a0 0 a1_0 a1_1 a1_2 a1_3) else (some false))
set_option maxHeartbeats 8000000 in
set_option maxRecDepth 100000 in
theorem spec_l06Valid.calls (k : Nat) (a0 : Int) (a1_0 : Int) (a1_1 : Int) (a1_2 : Int) (a1_3 : Int) (r : Bool) (w : World) (h : spec_l06Valid.f k a0 a1_0 a1_1 a1_2 a1_3 = some r) :
  Calls Try.prog 11 #[.int .i64 a0, .agg #[.int .i64 a1_0, .int .i64 a1_1, .int .i64 a1_2, .int .i64 a1_3]] w fun e w' => e = .returned (.bool r) ∧ Below w.heap.size w w' := by
 have hu25 := Try.underlying25
 have HB := zg.mk (Below.refl w.heap.size w)
 have H : ((spec_l00In.f a0 0 3).bind fun t103 => (if t103 = true then (spec_l06Valid.l0 k a0 0 a1_0 a1_1 a1_2 a1_3) else (some false))) = some r := h
 clear h
 replace H := Option.bind_eq_some_iff.mp H
 obtain ⟨t103, A30, H⟩ := H
 replace H : (if t103 = true then (spec_l06Valid.l0 k a0 0 a1_0 a1_1 a1_2 a1_3) else (some false)) = some r := H
 have A3 := zg.mk A30
 clear A30
 by_cases c4 : t103 = true
 ·subst c4
  have H1 : (spec_l06Valid.l0 k a0 0 a1_0 a1_1 a1_2 a1_3) = some r := by rw [if_pos rfl] at H; exact H
  clear H
  have H := H1
  clear H1
  have H' := zg.mk H
  clear H
  go_enter Try.func11, Try.ntmps11
  go_wp2_with (first | ((with_reducible refine zga (N := 3) rfl ?_); refine bx (N := 3) #[.int .i64 a1_0, .int .i64 a1_1, .int .i64 a1_2, .int .i64 a1_3] 25 rfl ?_; intro gb102 hg w5 hbox hb; have BK102 := zg.mk hbox; have GW102 := gB hg; have GE102 := GW102; replace HB := zg.mk (zx sB hb); clear hb hbox hg) | ((with_reducible refine zha (f := 12) rfl ?_); refine gz (some 7) Try.func12 #[.int .i64 a0, .int .i64 0, .int .i64 3] rfl rfl ?_; (with_reducible refine (spec_l00In.calls a0 0 3 true _ A3.out).mono ?_); rintro e w' ⟨rfl, ⟨nd, rfl⟩⟩; refine ⟨_, rfl, ?_⟩))
  go_loopg [5] k (fun kq v5 w' => ∃ (x5_1 : Int), v5 = .int .i64 x5_1 ∧ zg (spec_l06Valid.l0 kq a0 x5_1 a1_0 a1_1 a1_2 a1_3 = some r) ∧ zg (kq ≤ k) ∧ zg (w'.heap[gb102]? = some (.cells #[.int .i64 a1_0, .int .i64 a1_1, .int .i64 a1_2, .int .i64 a1_3] 25 (0, 0))) ∧ zg (Below w.heap.size w w'))
  case atStart => exact ⟨(0), (by first | rfl | (simp; done) | (simp [*]; done)), H', ⟨Nat.le_refl _⟩, ⟨uK BK102⟩, ⟨sB⟩⟩
  case round =>
   clear H'
   try clear c1
   try clear p2
   try clear c4
   obtain ⟨x5_1, rfl, HA, HK1, BK102, HB⟩ := hrel
   cases gk with
   | zero => exact absurd HA.out (by simp [spec_l06Valid.l0])
   | succ k1 =>
    have H := HA.out
    clear HA
    simp only [spec_l06Valid.l0] at H
    by_cases c6 : x5_1 < 4
    ·rw [if_pos c6] at H
     have c6b0 : decide (x5_1 < 4) = true := decide_eq_true c6
     clear c6
     by_cases c7 : 0 ≤ x5_1
     ·rw [if_pos c7] at H
      have c7b0 : decide (0 ≤ x5_1) = true := decide_eq_true c7
      clear c7
      replace H := Option.bind_eq_some_iff.mp H
      obtain ⟨t106, A80, H⟩ := H
      replace H : (if t106 = true then (if x5_1 > a0 then (if (rd [a1_0, a1_1, a1_2, a1_3] x5_1) = 0 then (spec_l06Valid.l0 k1 a0 (wrap64 (x5_1 + 1)) a1_0 a1_1 a1_2 a1_3) else (some false)) else (spec_l06Valid.l0 k1 a0 (wrap64 (x5_1 + 1)) a1_0 a1_1 a1_2 a1_3)) else (some false)) = some r := H
      have A8 := zg.mk A80
      clear A80
      by_cases c9 : t106 = true
      ·subst c9
       have H1 : (if x5_1 > a0 then (if (rd [a1_0, a1_1, a1_2, a1_3] x5_1) = 0 then (spec_l06Valid.l0 k1 a0 (wrap64 (x5_1 + 1)) a1_0 a1_1 a1_2 a1_3) else (some false)) else (spec_l06Valid.l0 k1 a0 (wrap64 (x5_1 + 1)) a1_0 a1_1 a1_2 a1_3)) = some r := by rw [if_pos rfl] at H; exact H
       clear H
       have H := H1
       clear H1
       by_cases c10 : x5_1 > a0
       ·rw [if_pos c10] at H
        have c10b0 : decide (a0 < x5_1) = true := decide_eq_true c10
        clear c10
        by_cases c11 : (rd [a1_0, a1_1, a1_2, a1_3] x5_1) = 0
        ·rw [if_pos c11] at H
         have c11b0 : ((rd [a1_0, a1_1, a1_2, a1_3] x5_1) == 0) = true := beq_iff_eq.mpr c11
         have c11b1 : ((rd [a1_0, a1_1, a1_2, a1_3] x5_1) != 0) = false := bne_eq_false_iff_eq.mpr c11
         clear c11
         have H' := zg.mk H
         clear H
         have p12 : 0 ≤ (x5_1 : Int) := of_decide_eq_true (by first | (with_reducible assumption) | assumption)
         have q12 : x5_1 < (4 : Int) := of_decide_eq_true (by first | (with_reducible assumption) | assumption)
         replace p12 := eq_true p12
         replace q12 := eq_true q12
         obtain ⟨hcz13_0, hcz13_1, hcz13_2, hcz13_3⟩ := xc4 BK102
         obtain ⟨hfz13_0, hfz13_1, hfz13_2, hfz13_3⟩ := xf4 BK102
         have hx14_0 : wr.cell? ⟨gb102, (x5_1).toNat, none⟩ = some (.int .i64 (rd [a1_0, a1_1, a1_2, a1_3] x5_1)) := (zh BK102.out _).trans (by rcases (show (x5_1 : Int) = 0 ∨ (x5_1 : Int) = 1 ∨ (x5_1 : Int) = 2 ∨ (x5_1 : Int) = 3 by have hp_ : 0 ≤ (x5_1 : Int) := of_decide_eq_true (by first | (with_reducible assumption) | assumption); have hq_ : x5_1 < (4 : Int) := of_decide_eq_true (by first | (with_reducible assumption) | assumption); omega) with h_ | h_ | h_ | h_ <;> rw [h_] <;> rfl)
         go_wp2_with (first | ((with_reducible refine zha (f := 12) rfl ?_); refine gz (some 16) Try.func12 #[.int .i64 (rd [a1_0, a1_1, a1_2, a1_3] x5_1), .int .i64 0, .int .i64 60] rfl rfl ?_; (with_reducible refine (spec_l00In.calls (rd [a1_0, a1_1, a1_2, a1_3] x5_1) 0 60 true _ A8.out).mono ?_); rintro e w' ⟨rfl, ⟨nd, rfl⟩⟩; refine ⟨_, rfl, ?_⟩; have p15 : 0 ≤ (x5_1 : Int) := of_decide_eq_true (by first | (with_reducible assumption) | assumption); have q15 : x5_1 < (4 : Int) := of_decide_eq_true (by first | (with_reducible assumption) | assumption); replace p15 := eq_true p15; replace q15 := eq_true q15; have hx16_0 : wr.cell? ⟨gb102, (x5_1).toNat, none⟩ = some (.int .i64 (rd [a1_0, a1_1, a1_2, a1_3] x5_1)) := (zh BK102.out _).trans (by rcases (show (x5_1 : Int) = 0 ∨ (x5_1 : Int) = 1 ∨ (x5_1 : Int) = 2 ∨ (x5_1 : Int) = 3 by have hp_ : 0 ≤ (x5_1 : Int) := of_decide_eq_true (by first | (with_reducible assumption) | assumption); have hq_ : x5_1 < (4 : Int) := of_decide_eq_true (by first | (with_reducible assumption) | assumption); omega) with h_ | h_ | h_ | h_ <;> rw [h_] <;> rfl)))
         go_roundg k1
         case measure => have := HK1.out; omega
         case rel => exact ⟨(wrap64 (x5_1 + 1)), (by first | rfl | (simp; done) | (simp [*]; done)), H', ⟨by have := HK1.out; omega⟩, ⟨uK BK102⟩, ⟨sB⟩⟩
        rw [if_neg c11] at H
        have c11b0 : ((rd [a1_0, a1_1, a1_2, a1_3] x5_1) == 0) = false := beq_eq_false_iff_ne.mpr c11
        have c11b1 : ((rd [a1_0, a1_1, a1_2, a1_3] x5_1) != 0) = true := bne_iff_ne.mpr c11
        obtain rfl := Option.some.inj H
        have p17 : 0 ≤ (x5_1 : Int) := of_decide_eq_true (by first | (with_reducible assumption) | assumption)
        have q17 : x5_1 < (4 : Int) := of_decide_eq_true (by first | (with_reducible assumption) | assumption)
        replace p17 := eq_true p17
        replace q17 := eq_true q17
        obtain ⟨hcz18_0, hcz18_1, hcz18_2, hcz18_3⟩ := xc4 BK102
        obtain ⟨hfz18_0, hfz18_1, hfz18_2, hfz18_3⟩ := xf4 BK102
        have hx19_0 : wr.cell? ⟨gb102, (x5_1).toNat, none⟩ = some (.int .i64 (rd [a1_0, a1_1, a1_2, a1_3] x5_1)) := (zh BK102.out _).trans (by rcases (show (x5_1 : Int) = 0 ∨ (x5_1 : Int) = 1 ∨ (x5_1 : Int) = 2 ∨ (x5_1 : Int) = 3 by have hp_ : 0 ≤ (x5_1 : Int) := of_decide_eq_true (by first | (with_reducible assumption) | assumption); have hq_ : x5_1 < (4 : Int) := of_decide_eq_true (by first | (with_reducible assumption) | assumption); omega) with h_ | h_ | h_ | h_ <;> rw [h_] <;> rfl)
        go_wp2_with (first | ((with_reducible refine zha (f := 12) rfl ?_); refine gz (some 16) Try.func12 #[.int .i64 (rd [a1_0, a1_1, a1_2, a1_3] x5_1), .int .i64 0, .int .i64 60] rfl rfl ?_; (with_reducible refine (spec_l00In.calls (rd [a1_0, a1_1, a1_2, a1_3] x5_1) 0 60 true _ A8.out).mono ?_); rintro e w' ⟨rfl, ⟨nd, rfl⟩⟩; refine ⟨_, rfl, ?_⟩; have p20 : 0 ≤ (x5_1 : Int) := of_decide_eq_true (by first | (with_reducible assumption) | assumption); have q20 : x5_1 < (4 : Int) := of_decide_eq_true (by first | (with_reducible assumption) | assumption); replace p20 := eq_true p20; replace q20 := eq_true q20; have hx21_0 : wr.cell? ⟨gb102, (x5_1).toNat, none⟩ = some (.int .i64 (rd [a1_0, a1_1, a1_2, a1_3] x5_1)) := (zh BK102.out _).trans (by rcases (show (x5_1 : Int) = 0 ∨ (x5_1 : Int) = 1 ∨ (x5_1 : Int) = 2 ∨ (x5_1 : Int) = 3 by have hp_ : 0 ≤ (x5_1 : Int) := of_decide_eq_true (by first | (with_reducible assumption) | assumption); have hq_ : x5_1 < (4 : Int) := of_decide_eq_true (by first | (with_reducible assumption) | assumption); omega) with h_ | h_ | h_ | h_ <;> rw [h_] <;> rfl)))
        go_ret
        exact ⟨by first | rfl | (simp [zca, zda] <;> rfl) | (simp [*, zca, zda] <;> rfl), sB⟩
       rw [if_neg c10] at H
       have c10b0 : decide (a0 < x5_1) = false := decide_eq_false c10
       clear c10
       have H' := zg.mk H
       clear H
       have p22 : 0 ≤ (x5_1 : Int) := of_decide_eq_true (by first | (with_reducible assumption) | assumption)
       have q22 : x5_1 < (4 : Int) := of_decide_eq_true (by first | (with_reducible assumption) | assumption)
       replace p22 := eq_true p22
       replace q22 := eq_true q22
       obtain ⟨hcz23_0, hcz23_1, hcz23_2, hcz23_3⟩ := xc4 BK102
       obtain ⟨hfz23_0, hfz23_1, hfz23_2, hfz23_3⟩ := xf4 BK102
       have hx24_0 : wr.cell? ⟨gb102, (x5_1).toNat, none⟩ = some (.int .i64 (rd [a1_0, a1_1, a1_2, a1_3] x5_1)) := (zh BK102.out _).trans (by rcases (show (x5_1 : Int) = 0 ∨ (x5_1 : Int) = 1 ∨ (x5_1 : Int) = 2 ∨ (x5_1 : Int) = 3 by have hp_ : 0 ≤ (x5_1 : Int) := of_decide_eq_true (by first | (with_reducible assumption) | assumption); have hq_ : x5_1 < (4 : Int) := of_decide_eq_true (by first | (with_reducible assumption) | assumption); omega) with h_ | h_ | h_ | h_ <;> rw [h_] <;> rfl)
       go_wp2_with (first | ((with_reducible refine zha (f := 12) rfl ?_); refine gz (some 16) Try.func12 #[.int .i64 (rd [a1_0, a1_1, a1_2, a1_3] x5_1), .int .i64 0, .int .i64 60] rfl rfl ?_; (with_reducible refine (spec_l00In.calls (rd [a1_0, a1_1, a1_2, a1_3] x5_1) 0 60 true _ A8.out).mono ?_); rintro e w' ⟨rfl, ⟨nd, rfl⟩⟩; refine ⟨_, rfl, ?_⟩))
       go_roundg k1
       case measure => have := HK1.out; omega
       case rel => exact ⟨(wrap64 (x5_1 + 1)), (by first | rfl | (simp; done) | (simp [*]; done)), H', ⟨by have := HK1.out; omega⟩, ⟨uK BK102⟩, ⟨sB⟩⟩
      replace c9 := Bool.eq_false_iff.mpr c9
      subst c9
      have H1 : (some false) = some r := by rw [if_neg (show ¬ (false = true) by decide)] at H; exact H
      clear H
      have H := H1
      clear H1
      obtain rfl := Option.some.inj H
      have p25 : 0 ≤ (x5_1 : Int) := of_decide_eq_true (by first | (with_reducible assumption) | assumption)
      have q25 : x5_1 < (4 : Int) := of_decide_eq_true (by first | (with_reducible assumption) | assumption)
      replace p25 := eq_true p25
      replace q25 := eq_true q25
      obtain ⟨hcz26_0, hcz26_1, hcz26_2, hcz26_3⟩ := xc4 BK102
      obtain ⟨hfz26_0, hfz26_1, hfz26_2, hfz26_3⟩ := xf4 BK102
      have hx27_0 : wr.cell? ⟨gb102, (x5_1).toNat, none⟩ = some (.int .i64 (rd [a1_0, a1_1, a1_2, a1_3] x5_1)) := (zh BK102.out _).trans (by rcases (show (x5_1 : Int) = 0 ∨ (x5_1 : Int) = 1 ∨ (x5_1 : Int) = 2 ∨ (x5_1 : Int) = 3 by have hp_ : 0 ≤ (x5_1 : Int) := of_decide_eq_true (by first | (with_reducible assumption) | assumption); have hq_ : x5_1 < (4 : Int) := of_decide_eq_true (by first | (with_reducible assumption) | assumption); omega) with h_ | h_ | h_ | h_ <;> rw [h_] <;> rfl)
      go_wp2_with (first | ((with_reducible refine zha (f := 12) rfl ?_); refine gz (some 16) Try.func12 #[.int .i64 (rd [a1_0, a1_1, a1_2, a1_3] x5_1), .int .i64 0, .int .i64 60] rfl rfl ?_; (with_reducible refine (spec_l00In.calls (rd [a1_0, a1_1, a1_2, a1_3] x5_1) 0 60 false _ A8.out).mono ?_); rintro e w' ⟨rfl, ⟨nd, rfl⟩⟩; refine ⟨_, rfl, ?_⟩))
      go_ret
      exact ⟨by first | rfl | (simp [zca, zda] <;> rfl) | (simp [*, zca, zda] <;> rfl), sB⟩
     rw [if_neg c7] at H
     exact absurd H (by simp)
    rw [if_neg c6] at H
    have c6b0 : decide (x5_1 < 4) = false := decide_eq_false c6
    clear c6
    replace H := Option.bind_eq_some_iff.mp H
    obtain ⟨t109, A280, H⟩ := H
    replace H : (some (decide (t109 ≤ 60))) = some r := H
    have A28 := zg.mk A280
    clear A280
    obtain rfl := Option.some.inj H
    obtain ⟨hcz29_0, hcz29_1, hcz29_2, hcz29_3⟩ := xc4 BK102
    obtain ⟨hfz29_0, hfz29_1, hfz29_2, hfz29_3⟩ := xf4 BK102
    go_wp2_with (first | ((with_reducible refine zha (f := 13) rfl ?_); refine gz (some 30) Try.func13 #[.agg #[.int .i64 a1_0, .int .i64 a1_1, .int .i64 a1_2, .int .i64 a1_3]] rfl rfl ?_; (with_reducible refine (spec_l06Total.calls a1_0 a1_1 a1_2 a1_3 t109 _ A28.out).mono ?_); rintro e w30 ⟨rfl, hb⟩; refine ⟨_, rfl, ?_⟩; replace BK102 := dK BK102 hb; replace HB := zg.mk (zx sB hb); try clear hb))
    go_ret
    exact ⟨by first | rfl | (simp [zca, zda] <;> rfl) | (simp [*, zca, zda] <;> rfl), sB⟩
 replace c4 := Bool.eq_false_iff.mpr c4
 subst c4
 have H1 : (some false) = some r := by rw [if_neg (show ¬ (false = true) by decide)] at H; exact H
 clear H
 have H := H1
 clear H1
 obtain rfl := Option.some.inj H
 go_enter Try.func11, Try.ntmps11
 go_wp2_with (first | ((with_reducible refine zga (N := 3) rfl ?_); refine bx (N := 3) #[.int .i64 a1_0, .int .i64 a1_1, .int .i64 a1_2, .int .i64 a1_3] 25 rfl ?_; intro gb102 hg w31 hbox hb; have BK102 := zg.mk hbox; have GW102 := gB hg; have GE102 := GW102; replace HB := zg.mk (zx sB hb); clear hb hbox hg) | ((with_reducible refine zha (f := 12) rfl ?_); refine gz (some 7) Try.func12 #[.int .i64 a0, .int .i64 0, .int .i64 3] rfl rfl ?_; (with_reducible refine (spec_l00In.calls a0 0 3 false _ A3.out).mono ?_); rintro e w' ⟨rfl, ⟨nd, rfl⟩⟩; refine ⟨_, rfl, ?_⟩))
 go_ret
 exact ⟨by first | rfl | (simp [zca, zda] <;> rfl) | (simp [*, zca, zda] <;> rfl), sB⟩


end Go.Proofs.Ytgcbhknpfpgffaa.C
