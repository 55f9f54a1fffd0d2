-- Written by wip/tools/myprint.py, a program of this session, by way of the kit's print.
import Derived.Test.YtgcbhknpfpgffaaCx0
import Derived.Test.YtgcbhknpfpgffaaCx4
import Derived.Test.YtgcbhknpfpgffaaLPrC
namespace Go.Proofs.Ytgcbhknpfpgffaa.C
open Go.RowKit Go.Proofs.YtgcbhknpfpgffaaW.PrintWords Go.Proofs.YtgcbhknpfpgffaaW.PrintLast Go.Proofs.YtgcbhknpfpgffaaW.PrintMore
attribute [local go_sem] wl_0 wl_1 wl_2 wl_3 wl_4 zdb zcb zkb zjb zva zwa zbb zab   -- for this text's walks alone
set_option linter.unusedVariables false
set_option linter.unusedSimpArgs false

/-! ### impl_ValidState: function 16 -/
def impl_ValidState.l0 : Nat → Int → Int → Int → Int → Int → Int → Int → Int → Int → Int → Option (Bool)
 | 0, _, _, _, _, _, _, _, _, _, _ => none
 | k + 1, x0, x11, x133000, x133001, x133002, x133003, x90011000, x90011001, x90011002, x90011003 => if x11 < 4 then (if 0 ≤ x11 then ((impl_within.f (rd [x90011000, x90011001, x90011002, x90011003] x11) 0 60).bind fun t135 => (if t135 = true then (if x11 > x0 then (if (rd [x90011000, x90011001, x90011002, x90011003] x11) = 0 then (impl_ValidState.l0 k x0 (wrap64 (x11 + 1)) x133000 x133001 x133002 x133003 x90011000 x90011001 x90011002 x90011003) else (some false)) else (impl_ValidState.l0 k x0 (wrap64 (x11 + 1)) x133000 x133001 x133002 x133003 x90011000 x90011001 x90011002 x90011003)) else (some false))) else (none)) else ((impl_State_sum.f x133000 x133001 x133002 x133003).bind fun t136 => (some (decide (t136 ≤ 60))))
def impl_ValidState.f (k : Nat) (a0 : Int) (a1_0 : Int) (a1_1 : Int) (a1_2 : Int) (a1_3 : Int) : Option (Bool) := (impl_within.f a0 0 3).bind fun t133 => (if t133 = true then (impl_ValidState.l0 k a0 0 a1_0 a1_1 a1_2 a1_3 a1_0 a1_1 a1_2 a1_3) else (some false))
set_option maxHeartbeats 8000000 in
set_option maxRecDepth 100000 in
theorem impl_ValidState.calls (k : Nat) (a0 : Int) (a1_0 : Int) (a1_1 : Int) (a1_2 : Int) (a1_3 : Int) (r : Bool) (w : World) (h : impl_ValidState.f k a0 a1_0 a1_1 a1_2 a1_3 = some r) :
  Calls Try.prog 16 #[.int .i64 a0, .agg #[.int .i64 a1_0, .int .i64 a1_1, .int .i64 a1_2, .int .i64 a1_3]] w fun e w' => e = .returned (.bool r) ∧ Below w.heap.size w w' := by
 have hu25 := Try.underlying25
 have HB := zg.mk (Below.refl w.heap.size w)
 have H : ((impl_within.f a0 0 3).bind fun t133 => (if t133 = true then (impl_ValidState.l0 k a0 0 a1_0 a1_1 a1_2 a1_3 a1_0 a1_1 a1_2 a1_3) else (some false))) = some r := h
 clear h
 replace H := Option.bind_eq_some_iff.mp H
 obtain ⟨t133, A30, H⟩ := H
 replace H : (if t133 = true then (impl_ValidState.l0 k a0 0 a1_0 a1_1 a1_2 a1_3 a1_0 a1_1 a1_2 a1_3) else (some false)) = some r := H
 have A3 := zg.mk A30
 clear A30
 by_cases c4 : t133 = true
 ·subst c4
  have H1 : (impl_ValidState.l0 k a0 0 a1_0 a1_1 a1_2 a1_3 a1_0 a1_1 a1_2 a1_3) = some r := by rw [if_pos rfl] at H; exact H
  clear H
  have H := H1
  clear H1
  have H' := zg.mk H
  clear H
  go_enter Try.func16, Try.ntmps16
  go_wp2_with (first | ((with_reducible refine zga (N := 3) rfl ?_); refine bx (N := 3) #[.int .i64 a1_0, .int .i64 a1_1, .int .i64 a1_2, .int .i64 a1_3] 25 rfl ?_; intro gb132 hg w5 hbox hb; have BK132 := zg.mk hbox; have GW132 := gB hg; have GE132 := GW132; replace HB := zg.mk (zx sB hb); clear hb hbox hg) | ((with_reducible refine zha (f := 17) rfl ?_); refine gz (some 8) Try.func17 #[.int .i64 a0, .int .i64 0, .int .i64 3] rfl rfl ?_; (with_reducible refine (impl_within.calls a0 0 3 true _ A3.out).mono ?_); rintro e w' ⟨rfl, ⟨nd, rfl⟩⟩; refine ⟨_, rfl, ?_⟩; obtain ⟨hcz6_0, hcz6_1, hcz6_2, hcz6_3⟩ := xc4 BK132; obtain ⟨hfz6_0, hfz6_1, hfz6_2, hfz6_3⟩ := xf4 BK132))
  go_loopg [11] k (fun kq v11 w' => ∃ (x11_1 : Int), v11 = .int .i64 x11_1 ∧ zg (impl_ValidState.l0 kq a0 x11_1 a1_0 a1_1 a1_2 a1_3 a1_0 a1_1 a1_2 a1_3 = some r) ∧ zg (kq ≤ k) ∧ zg (w'.heap[gb132]? = some (.cells #[.int .i64 a1_0, .int .i64 a1_1, .int .i64 a1_2, .int .i64 a1_3] 25 (0, 0))) ∧ zg (Below w.heap.size w w'))
  case atStart => exact ⟨(0), (by first | rfl | (simp; done) | (simp [*]; done)), H', ⟨Nat.le_refl _⟩, ⟨uK BK132⟩, ⟨sB⟩⟩
  case round =>
   clear H'
   try clear c1
   try clear p2
   try clear c4
   try clear hcz6_0 hcz6_1 hcz6_2 hcz6_3
   try clear hfz6_0 hfz6_1 hfz6_2 hfz6_3
   obtain ⟨x11_1, rfl, HA, HK1, BK132, HB⟩ := hrel
   cases gk with
   | zero => exact absurd HA.out (by simp [impl_ValidState.l0])
   | succ k1 =>
    have H := HA.out
    clear HA
    simp only [impl_ValidState.l0] at H
    by_cases c7 : x11_1 < 4
    ·rw [if_pos c7] at H
     have c7b0 : decide (x11_1 < 4) = true := decide_eq_true c7
     clear c7
     by_cases c8 : 0 ≤ x11_1
     ·rw [if_pos c8] at H
      have c8b0 : decide (0 ≤ x11_1) = true := decide_eq_true c8
      clear c8
      replace H := Option.bind_eq_some_iff.mp H
      obtain ⟨t135, A90, H⟩ := H
      replace H : (if t135 = true then (if x11_1 > a0 then (if (rd [a1_0, a1_1, a1_2, a1_3] x11_1) = 0 then (impl_ValidState.l0 k1 a0 (wrap64 (x11_1 + 1)) a1_0 a1_1 a1_2 a1_3 a1_0 a1_1 a1_2 a1_3) else (some false)) else (impl_ValidState.l0 k1 a0 (wrap64 (x11_1 + 1)) a1_0 a1_1 a1_2 a1_3 a1_0 a1_1 a1_2 a1_3)) else (some false)) = some r := H
      have A9 := zg.mk A90
      clear A90
      by_cases c10 : t135 = true
      ·subst c10
       have H1 : (if x11_1 > a0 then (if (rd [a1_0, a1_1, a1_2, a1_3] x11_1) = 0 then (impl_ValidState.l0 k1 a0 (wrap64 (x11_1 + 1)) a1_0 a1_1 a1_2 a1_3 a1_0 a1_1 a1_2 a1_3) else (some false)) else (impl_ValidState.l0 k1 a0 (wrap64 (x11_1 + 1)) a1_0 a1_1 a1_2 a1_3 a1_0 a1_1 a1_2 a1_3)) = some r := by rw [if_pos rfl] at H; exact H
       clear H
       have H := H1
       clear H1
       by_cases c11 : x11_1 > a0
       ·rw [if_pos c11] at H
        have c11b0 : decide (a0 < x11_1) = true := decide_eq_true c11
        clear c11
        by_cases c12 : (rd [a1_0, a1_1, a1_2, a1_3] x11_1) = 0
        ·rw [if_pos c12] at H
         have c12b0 : ((rd [a1_0, a1_1, a1_2, a1_3] x11_1) == 0) = true := beq_iff_eq.mpr c12
         have c12b1 : ((rd [a1_0, a1_1, a1_2, a1_3] x11_1) != 0) = false := bne_eq_false_iff_eq.mpr c12
         clear c12
         have H' := zg.mk H
         clear H
         have hx13_0 : ∀ W_ : World, (Instr.index 25 (.agg #[.int .i64 a1_0, .int .i64 a1_1, .int .i64 a1_2, .int .i64 a1_3]) (.int .i64 x11_1)).run Try.prog W_ = .ok (.int .i64 (rd [a1_0, a1_1, a1_2, a1_3] x11_1)) W_ := by intro W_; rcases (show (x11_1 : Int) = 0 ∨ (x11_1 : Int) = 1 ∨ (x11_1 : Int) = 2 ∨ (x11_1 : Int) = 3 by have hp_ : 0 ≤ (x11_1 : Int) := of_decide_eq_true (by first | (with_reducible assumption) | assumption); have hq_ : x11_1 < (4 : Int) := of_decide_eq_true (by first | (with_reducible assumption) | assumption); omega) with h_ | h_ | h_ | h_ <;> rw [h_] <;> kernel_rfl
         go_wp2_with (first | ((with_reducible refine zha (f := 17) rfl ?_); refine gz (some 16) Try.func17 #[.int .i64 (rd [a1_0, a1_1, a1_2, a1_3] x11_1), .int .i64 0, .int .i64 60] rfl rfl ?_; (with_reducible refine (impl_within.calls (rd [a1_0, a1_1, a1_2, a1_3] x11_1) 0 60 true _ A9.out).mono ?_); rintro e w' ⟨rfl, ⟨nd, rfl⟩⟩; refine ⟨_, rfl, ?_⟩))
         go_roundg k1
         case measure => have := HK1.out; omega
         case rel => exact ⟨(wrap64 (x11_1 + 1)), (by first | rfl | (simp; done) | (simp [*]; done)), H', ⟨by have := HK1.out; omega⟩, ⟨uK BK132⟩, ⟨sB⟩⟩
        rw [if_neg c12] at H
        have c12b0 : ((rd [a1_0, a1_1, a1_2, a1_3] x11_1) == 0) = false := beq_eq_false_iff_ne.mpr c12
        have c12b1 : ((rd [a1_0, a1_1, a1_2, a1_3] x11_1) != 0) = true := bne_iff_ne.mpr c12
        obtain rfl := Option.some.inj H
        have hx14_0 : ∀ W_ : World, (Instr.index 25 (.agg #[.int .i64 a1_0, .int .i64 a1_1, .int .i64 a1_2, .int .i64 a1_3]) (.int .i64 x11_1)).run Try.prog W_ = .ok (.int .i64 (rd [a1_0, a1_1, a1_2, a1_3] x11_1)) W_ := by intro W_; rcases (show (x11_1 : Int) = 0 ∨ (x11_1 : Int) = 1 ∨ (x11_1 : Int) = 2 ∨ (x11_1 : Int) = 3 by have hp_ : 0 ≤ (x11_1 : Int) := of_decide_eq_true (by first | (with_reducible assumption) | assumption); have hq_ : x11_1 < (4 : Int) := of_decide_eq_true (by first | (with_reducible assumption) | assumption); omega) with h_ | h_ | h_ | h_ <;> rw [h_] <;> kernel_rfl
        go_wp2_with (first | ((with_reducible refine zha (f := 17) rfl ?_); refine gz (some 16) Try.func17 #[.int .i64 (rd [a1_0, a1_1, a1_2, a1_3] x11_1), .int .i64 0, .int .i64 60] rfl rfl ?_; (with_reducible refine (impl_within.calls (rd [a1_0, a1_1, a1_2, a1_3] x11_1) 0 60 true _ A9.out).mono ?_); rintro e w' ⟨rfl, ⟨nd, rfl⟩⟩; refine ⟨_, rfl, ?_⟩))
        go_ret
        exact ⟨by first | rfl | (simp [zca, zda] <;> rfl) | (simp [*, zca, zda] <;> rfl), sB⟩
       rw [if_neg c11] at H
       have c11b0 : decide (a0 < x11_1) = false := decide_eq_false c11
       clear c11
       have H' := zg.mk H
       clear H
       have hx15_0 : ∀ W_ : World, (Instr.index 25 (.agg #[.int .i64 a1_0, .int .i64 a1_1, .int .i64 a1_2, .int .i64 a1_3]) (.int .i64 x11_1)).run Try.prog W_ = .ok (.int .i64 (rd [a1_0, a1_1, a1_2, a1_3] x11_1)) W_ := by intro W_; rcases (show (x11_1 : Int) = 0 ∨ (x11_1 : Int) = 1 ∨ (x11_1 : Int) = 2 ∨ (x11_1 : Int) = 3 by have hp_ : 0 ≤ (x11_1 : Int) := of_decide_eq_true (by first | (with_reducible assumption) | assumption); have hq_ : x11_1 < (4 : Int) := of_decide_eq_true (by first | (with_reducible assumption) | assumption); omega) with h_ | h_ | h_ | h_ <;> rw [h_] <;> kernel_rfl
       go_wp2_with (first | ((with_reducible refine zha (f := 17) rfl ?_); refine gz (some 16) Try.func17 #[.int .i64 (rd [a1_0, a1_1, a1_2, a1_3] x11_1), .int .i64 0, .int .i64 60] rfl rfl ?_; (with_reducible refine (impl_within.calls (rd [a1_0, a1_1, a1_2, a1_3] x11_1) 0 60 true _ A9.out).mono ?_); rintro e w' ⟨rfl, ⟨nd, rfl⟩⟩; refine ⟨_, rfl, ?_⟩))
       go_roundg k1
       case measure => have := HK1.out; omega
       case rel => exact ⟨(wrap64 (x11_1 + 1)), (by first | rfl | (simp; done) | (simp [*]; done)), H', ⟨by have := HK1.out; omega⟩, ⟨uK BK132⟩, ⟨sB⟩⟩
      replace c10 := Bool.eq_false_iff.mpr c10
      subst c10
      have H1 : (some false) = some r := by rw [if_neg (show ¬ (false = true) by decide)] at H; exact H
      clear H
      have H := H1
      clear H1
      obtain rfl := Option.some.inj H
      have hx16_0 : ∀ W_ : World, (Instr.index 25 (.agg #[.int .i64 a1_0, .int .i64 a1_1, .int .i64 a1_2, .int .i64 a1_3]) (.int .i64 x11_1)).run Try.prog W_ = .ok (.int .i64 (rd [a1_0, a1_1, a1_2, a1_3] x11_1)) W_ := by intro W_; rcases (show (x11_1 : Int) = 0 ∨ (x11_1 : Int) = 1 ∨ (x11_1 : Int) = 2 ∨ (x11_1 : Int) = 3 by have hp_ : 0 ≤ (x11_1 : Int) := of_decide_eq_true (by first | (with_reducible assumption) | assumption); have hq_ : x11_1 < (4 : Int) := of_decide_eq_true (by first | (with_reducible assumption) | assumption); omega) with h_ | h_ | h_ | h_ <;> rw [h_] <;> kernel_rfl
      go_wp2_with (first | ((with_reducible refine zha (f := 17) rfl ?_); refine gz (some 16) Try.func17 #[.int .i64 (rd [a1_0, a1_1, a1_2, a1_3] x11_1), .int .i64 0, .int .i64 60] rfl rfl ?_; (with_reducible refine (impl_within.calls (rd [a1_0, a1_1, a1_2, a1_3] x11_1) 0 60 false _ A9.out).mono ?_); rintro e w' ⟨rfl, ⟨nd, rfl⟩⟩; refine ⟨_, rfl, ?_⟩))
      go_ret
      exact ⟨by first | rfl | (simp [zca, zda] <;> rfl) | (simp [*, zca, zda] <;> rfl), sB⟩
     rw [if_neg c8] at H
     exact absurd H (by simp)
    rw [if_neg c7] at H
    have c7b0 : decide (x11_1 < 4) = false := decide_eq_false c7
    clear c7
    replace H := Option.bind_eq_some_iff.mp H
    obtain ⟨t136, A170, H⟩ := H
    replace H : (some (decide (t136 ≤ 60))) = some r := H
    have A17 := zg.mk A170
    clear A170
    obtain rfl := Option.some.inj H
    obtain ⟨hcz18_0, hcz18_1, hcz18_2, hcz18_3⟩ := xc4 BK132
    obtain ⟨hfz18_0, hfz18_1, hfz18_2, hfz18_3⟩ := xf4 BK132
    go_wp2_with (first | ((with_reducible refine zha (f := 19) rfl ?_); refine gz (some 29) Try.func19 #[.agg #[.int .i64 a1_0, .int .i64 a1_1, .int .i64 a1_2, .int .i64 a1_3]] rfl rfl ?_; (with_reducible refine (impl_State_sum.calls a1_0 a1_1 a1_2 a1_3 t136 _ A17.out).mono ?_); rintro e w19 ⟨rfl, hb⟩; refine ⟨_, rfl, ?_⟩; replace BK132 := dK BK132 hb; replace HB := zg.mk (zx sB hb); try clear hb))
    go_ret
    exact ⟨by first | rfl | (simp [zca, zda] <;> rfl) | (simp [*, zca, zda] <;> rfl), sB⟩
 replace c4 := Bool.eq_false_iff.mpr c4
 subst c4
 have H1 : (some false) = some r := by rw [if_neg (show ¬ (false = true) by decide)] at H; exact H
 clear H
 have H := H1
 clear H1
 obtain rfl := Option.some.inj H
 go_enter Try.func16, Try.ntmps16
 go_wp2_with (first | ((with_reducible refine zga (N := 3) rfl ?_); refine bx (N := 3) #[.int .i64 a1_0, .int .i64 a1_1, .int .i64 a1_2, .int .i64 a1_3] 25 rfl ?_; intro gb132 hg w20 hbox hb; have BK132 := zg.mk hbox; have GW132 := gB hg; have GE132 := GW132; replace HB := zg.mk (zx sB hb); clear hb hbox hg) | ((with_reducible refine zha (f := 17) rfl ?_); refine gz (some 8) Try.func17 #[.int .i64 a0, .int .i64 0, .int .i64 3] rfl rfl ?_; (with_reducible refine (impl_within.calls a0 0 3 false _ A3.out).mono ?_); rintro e w' ⟨rfl, ⟨nd, rfl⟩⟩; refine ⟨_, rfl, ?_⟩))
 go_ret
 exact ⟨by first | rfl | (simp [zca, zda] <;> rfl) | (simp [*, zca, zda] <;> rfl), sB⟩

/-! ### impl_unless: function 18 -/
def impl_unless.f (a0 : Bool) (a1 : Int) : Option (Int) := if a0 = true then (some 0) else (some a1)
set_option maxHeartbeats 8000000 in
set_option maxRecDepth 100000 in
theorem impl_unless.calls (a0 : Bool) (a1 : Int) (r : Int) (w : World) (h : impl_unless.f a0 a1 = some r) :
  Calls Try.prog 18 #[.bool a0, .int .i64 a1] w fun e w' => e = .returned (.int .i64 r) ∧ zta w w' := by
 have H : (if a0 = true then (some 0) else (some a1)) = some r := h
 clear h
 by_cases c3 : a0 = true
 ·subst c3
  have H1 : (some 0) = some r := by rw [if_pos rfl] at H; exact H
  clear H
  have H := H1
  clear H1
  obtain rfl := Option.some.inj H
  go_enter Try.func18, Try.ntmps18
  go_wp2
  go_ret
  exact ⟨by first | rfl | (simp; done) | (simp [*]; done), by repeat (first | exact zta.refl _ | apply zta.step)⟩
 replace c3 := Bool.eq_false_iff.mpr c3
 subst c3
 have H1 : (some a1) = some r := by rw [if_neg (show ¬ (false = true) by decide)] at H; exact H
 clear H
 have H := H1
 clear H1
 obtain rfl := Option.some.inj H
 go_enter Try.func18, Try.ntmps18
 go_wp2
 go_ret
 exact ⟨by first | rfl | (simp; done) | (simp [*]; done), by repeat (first | exact zta.refl _ | apply zta.step)⟩

/-! ### impl_exactCode: function 9 -/
def impl_exactCode.f (k : Nat) (a0 : Int) (a1_0 : Int) (a1_1 : Int) (a1_2 : Int) (a1_3 : Int) (a2 : Int) : Option (Int) := (impl_ValidState.f k a0 a1_0 a1_1 a1_2 a1_3).bind fun t138 => (if t138 = true then ((impl_within.f a2 0 20).bind fun t139 => (if t139 = true then ((impl_State_sum.f a1_0 a1_1 a1_2 a1_3).bind fun t140 => ((impl_unless.f (decide (t140 ≤ 8)) 3).bind fun t141 => (some t141))) else (some 2))) else (some 1))
set_option maxHeartbeats 8000000 in
set_option maxRecDepth 100000 in
theorem impl_exactCode.calls (k : Nat) (a0 : Int) (a1_0 : Int) (a1_1 : Int) (a1_2 : Int) (a1_3 : Int) (a2 : Int) (r : Int) (w : World) (h : impl_exactCode.f k a0 a1_0 a1_1 a1_2 a1_3 a2 = some r) :
  Calls Try.prog 9 #[.int .i64 a0, .agg #[.int .i64 a1_0, .int .i64 a1_1, .int .i64 a1_2, .int .i64 a1_3], .int .i64 a2] w fun e w' => e = .returned (.int .i64 r) ∧ Below w.heap.size w w' := by
 have hu25 := Try.underlying25
 have HB := zg.mk (Below.refl w.heap.size w)
 have H : ((impl_ValidState.f k a0 a1_0 a1_1 a1_2 a1_3).bind fun t138 => (if t138 = true then ((impl_within.f a2 0 20).bind fun t139 => (if t139 = true then ((impl_State_sum.f a1_0 a1_1 a1_2 a1_3).bind fun t140 => ((impl_unless.f (decide (t140 ≤ 8)) 3).bind fun t141 => (some t141))) else (some 2))) else (some 1))) = some r := h
 clear h
 replace H := Option.bind_eq_some_iff.mp H
 obtain ⟨t138, A40, H⟩ := H
 replace H : (if t138 = true then ((impl_within.f a2 0 20).bind fun t139 => (if t139 = true then ((impl_State_sum.f a1_0 a1_1 a1_2 a1_3).bind fun t140 => ((impl_unless.f (decide (t140 ≤ 8)) 3).bind fun t141 => (some t141))) else (some 2))) else (some 1)) = some r := H
 have A4 := zg.mk A40
 clear A40
 by_cases c5 : t138 = true
 ·subst c5
  have H1 : ((impl_within.f a2 0 20).bind fun t139 => (if t139 = true then ((impl_State_sum.f a1_0 a1_1 a1_2 a1_3).bind fun t140 => ((impl_unless.f (decide (t140 ≤ 8)) 3).bind fun t141 => (some t141))) else (some 2))) = some r := by rw [if_pos rfl] at H; exact H
  clear H
  have H := H1
  clear H1
  replace H := Option.bind_eq_some_iff.mp H
  obtain ⟨t139, A60, H⟩ := H
  replace H : (if t139 = true then ((impl_State_sum.f a1_0 a1_1 a1_2 a1_3).bind fun t140 => ((impl_unless.f (decide (t140 ≤ 8)) 3).bind fun t141 => (some t141))) else (some 2)) = some r := H
  have A6 := zg.mk A60
  clear A60
  by_cases c7 : t139 = true
  ·subst c7
   have H1 : ((impl_State_sum.f a1_0 a1_1 a1_2 a1_3).bind fun t140 => ((impl_unless.f (decide (t140 ≤ 8)) 3).bind fun t141 => (some t141))) = some r := by rw [if_pos rfl] at H; exact H
   clear H
   have H := H1
   clear H1
   replace H := Option.bind_eq_some_iff.mp H
   obtain ⟨t140, A80, H⟩ := H
   replace H : ((impl_unless.f (decide (t140 ≤ 8)) 3).bind fun t141 => (some t141)) = some r := H
   have A8 := zg.mk A80
   clear A80
   replace H := Option.bind_eq_some_iff.mp H
   obtain ⟨t141, A90, H⟩ := H
   replace H : (some t141) = some r := H
   have A9 := zg.mk A90
   clear A90
   obtain rfl := Option.some.inj H
   go_enter Try.func9, Try.ntmps9
   go_wp2_with (first | ((with_reducible refine zga (N := 4) rfl ?_); refine bx (N := 4) #[.int .i64 a1_0, .int .i64 a1_1, .int .i64 a1_2, .int .i64 a1_3] 25 rfl ?_; intro gb137 hg w10 hbox hb; have BK137 := zg.mk hbox; have GW137 := gB hg; have GE137 := GW137; replace HB := zg.mk (zx sB hb); clear hb hbox hg; obtain ⟨hcz11_0, hcz11_1, hcz11_2, hcz11_3⟩ := xc4 BK137; obtain ⟨hfz11_0, hfz11_1, hfz11_2, hfz11_3⟩ := xf4 BK137) | ((with_reducible refine zha (f := 16) rfl ?_); refine gz (some 10) Try.func16 #[.int .i64 a0, .agg #[.int .i64 a1_0, .int .i64 a1_1, .int .i64 a1_2, .int .i64 a1_3]] rfl rfl ?_; (with_reducible refine (impl_ValidState.calls k a0 a1_0 a1_1 a1_2 a1_3 true _ A4.out).mono ?_); rintro e w12 ⟨rfl, hb⟩; refine ⟨_, rfl, ?_⟩; replace BK137 := dK BK137 hb; replace HB := zg.mk (zx sB hb); try clear hb) | ((with_reducible refine zha (f := 17) rfl ?_); refine gz (some 14) Try.func17 #[.int .i64 a2, .int .i64 0, .int .i64 20] rfl rfl ?_; (with_reducible refine (impl_within.calls a2 0 20 true _ A6.out).mono ?_); rintro e w' ⟨rfl, ⟨nd, rfl⟩⟩; refine ⟨_, rfl, ?_⟩; obtain ⟨hcz13_0, hcz13_1, hcz13_2, hcz13_3⟩ := xc4 BK137; obtain ⟨hfz13_0, hfz13_1, hfz13_2, hfz13_3⟩ := xf4 BK137) | ((with_reducible refine zha (f := 19) rfl ?_); refine gz (some 17) Try.func19 #[.agg #[.int .i64 a1_0, .int .i64 a1_1, .int .i64 a1_2, .int .i64 a1_3]] rfl rfl ?_; (with_reducible refine (impl_State_sum.calls a1_0 a1_1 a1_2 a1_3 t140 _ A8.out).mono ?_); rintro e w14 ⟨rfl, hb⟩; refine ⟨_, rfl, ?_⟩; replace BK137 := dK BK137 hb; replace HB := zg.mk (zx sB hb); try clear hb) | ((with_reducible refine zha (f := 18) rfl ?_); refine gz (some 19) Try.func18 #[.bool (decide (t140 ≤ 8)), .int .i64 3] rfl rfl ?_; (with_reducible refine (impl_unless.calls (decide (t140 ≤ 8)) 3 t141 _ A9.out).mono ?_); rintro e w' ⟨rfl, ⟨nd, rfl⟩⟩; refine ⟨_, rfl, ?_⟩))
   go_ret
   exact ⟨by first | rfl | (simp [zca, zda] <;> rfl) | (simp [*, zca, zda] <;> rfl), sB⟩
  replace c7 := Bool.eq_false_iff.mpr c7
  subst c7
  have H1 : (some 2) = some r := by rw [if_neg (show ¬ (false = true) by decide)] at H; exact H
  clear H
  have H := H1
  clear H1
  obtain rfl := Option.some.inj H
  go_enter Try.func9, Try.ntmps9
  go_wp2_with (first | ((with_reducible refine zga (N := 4) rfl ?_); refine bx (N := 4) #[.int .i64 a1_0, .int .i64 a1_1, .int .i64 a1_2, .int .i64 a1_3] 25 rfl ?_; intro gb137 hg w15 hbox hb; have BK137 := zg.mk hbox; have GW137 := gB hg; have GE137 := GW137; replace HB := zg.mk (zx sB hb); clear hb hbox hg; obtain ⟨hcz16_0, hcz16_1, hcz16_2, hcz16_3⟩ := xc4 BK137; obtain ⟨hfz16_0, hfz16_1, hfz16_2, hfz16_3⟩ := xf4 BK137) | ((with_reducible refine zha (f := 16) rfl ?_); refine gz (some 10) Try.func16 #[.int .i64 a0, .agg #[.int .i64 a1_0, .int .i64 a1_1, .int .i64 a1_2, .int .i64 a1_3]] rfl rfl ?_; (with_reducible refine (impl_ValidState.calls k a0 a1_0 a1_1 a1_2 a1_3 true _ A4.out).mono ?_); rintro e w17 ⟨rfl, hb⟩; refine ⟨_, rfl, ?_⟩; replace BK137 := dK BK137 hb; replace HB := zg.mk (zx sB hb); try clear hb) | ((with_reducible refine zha (f := 17) rfl ?_); refine gz (some 14) Try.func17 #[.int .i64 a2, .int .i64 0, .int .i64 20] rfl rfl ?_; (with_reducible refine (impl_within.calls a2 0 20 false _ A6.out).mono ?_); rintro e w' ⟨rfl, ⟨nd, rfl⟩⟩; refine ⟨_, rfl, ?_⟩))
  go_ret
  exact ⟨by first | rfl | (simp [zca, zda] <;> rfl) | (simp [*, zca, zda] <;> rfl), sB⟩
 replace c5 := Bool.eq_false_iff.mpr c5
 subst c5
 have H1 : (some 1) = some r := by rw [if_neg (show ¬ (false = true) by decide)] at H; exact H
 clear H
 have H := H1
 clear H1
 obtain rfl := Option.some.inj H
 go_enter Try.func9, Try.ntmps9
 go_wp2_with (first | ((with_reducible refine zga (N := 4) rfl ?_); refine bx (N := 4) #[.int .i64 a1_0, .int .i64 a1_1, .int .i64 a1_2, .int .i64 a1_3] 25 rfl ?_; intro gb137 hg w18 hbox hb; have BK137 := zg.mk hbox; have GW137 := gB hg; have GE137 := GW137; replace HB := zg.mk (zx sB hb); clear hb hbox hg; obtain ⟨hcz19_0, hcz19_1, hcz19_2, hcz19_3⟩ := xc4 BK137; obtain ⟨hfz19_0, hfz19_1, hfz19_2, hfz19_3⟩ := xf4 BK137) | ((with_reducible refine zha (f := 16) rfl ?_); refine gz (some 10) Try.func16 #[.int .i64 a0, .agg #[.int .i64 a1_0, .int .i64 a1_1, .int .i64 a1_2, .int .i64 a1_3]] rfl rfl ?_; (with_reducible refine (impl_ValidState.calls k a0 a1_0 a1_1 a1_2 a1_3 false _ A4.out).mono ?_); rintro e w20 ⟨rfl, hb⟩; refine ⟨_, rfl, ?_⟩; replace BK137 := dK BK137 hb; replace HB := zg.mk (zx sB hb); try clear hb))
 go_ret
 exact ⟨by first | rfl | (simp [zca, zda] <;> rfl) | (simp [*, zca, zda] <;> rfl), sB⟩

end Go.Proofs.Ytgcbhknpfpgffaa.C
