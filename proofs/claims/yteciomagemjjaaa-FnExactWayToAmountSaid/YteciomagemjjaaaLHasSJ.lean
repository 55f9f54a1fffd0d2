/- The reference's tests of amounts. -/
import Derived.Test.YteciomagemjjaaaJx9
import Derived.Test.YteciomagemjjaaaLPrJ
namespace Go.Proofs.Yteciomagemjjaaa.J
open Go.RowKit Go.Proofs.YteciomagemjjaaaW.PrintWords Go.Proofs.YteciomagemjjaaaW.PrintLast Go.Proofs.YteciomagemjjaaaW.PrintMore
attribute [local go_sem] zna zka zra zsa zga zha zla zma   -- for this text's walks alone
set_option linter.unusedVariables false
set_option linter.unusedSimpArgs false
/-! ### spec_l02Amount: function 72 -/
def spec_l02Amount.f (k : Nat) (l0_0 : List Int) (a0_1 : Int) (a0_2 : Int) (a0_3 : Int) (a0_4 : Int) (a0_5 : Bool) (a1 : Int) : Option (Int) := (spec_l02Ok.f k l0_0 a0_1 a0_2 a0_3 a0_4 a0_5).bind fun t230 => (if t230 = true then ((spec_l00In.f a1 0 60).bind fun t231 => (if t231 = true then (some 0) else (some 2))) else (some 1))
set_option maxHeartbeats 8000000 in
set_option maxRecDepth 100000 in
theorem spec_l02Amount.calls (k : Nat) (g0 : Nat) (A0_0 : Option Addr) (c0_0 : Nat) (l0_0 : List Int) (a0_1 : Int) (a0_2 : Int) (a0_3 : Int) (a0_4 : Int) (a0_5 : Bool) (a1 : Int) (r : Int) (w : World) (hb0 : w.heap[g0]? = some (.cells #[.slice A0_0 l0_0.length c0_0, .int .i16 a0_1, .int .i16 a0_2, .int .i16 a0_3, .int .i16 a0_4, .bool a0_5] 29 (0, 0))) (hr0_0 : Kd.C (Kd.int .i16) w A0_0 l0_0.length l0_0) (hc0_0 : l0_0.length ≤ c0_0) (h : spec_l02Amount.f k l0_0 a0_1 a0_2 a0_3 a0_4 a0_5 a1 = some r) :
  Calls Try.prog 72 #[.pointer (some ⟨g0, 0, none⟩), .int .i64 a1] w fun e w' => e = .returned (.int .i64 r) ∧ Below w.heap.size w w' := by
 have HR0_0 := za.mk hr0_0
 have HC0_0 := za.mk hc0_0
 clear hr0_0 hc0_0
 have BK0 := za.mk hb0
 clear hb0
 have HB := za.mk (Below.refl w.heap.size w)
 have H : ((spec_l02Ok.f k l0_0 a0_1 a0_2 a0_3 a0_4 a0_5).bind fun t230 => (if t230 = true then ((spec_l00In.f a1 0 60).bind fun t231 => (if t231 = true then (some 0) else (some 2))) else (some 1))) = some r := h
 clear h
 replace H := Option.bind_eq_some_iff.mp H
 obtain ⟨t230, A30, H⟩ := H
 replace H : (if t230 = true then ((spec_l00In.f a1 0 60).bind fun t231 => (if t231 = true then (some 0) else (some 2))) else (some 1)) = some r := H
 have A3 := za.mk A30
 clear A30
 by_cases c4 : t230 = true
 ·subst c4
  have H1 : ((spec_l00In.f a1 0 60).bind fun t231 => (if t231 = true then (some 0) else (some 2))) = some r := by rw [if_pos rfl] at H; exact H
  clear H
  have H := H1
  clear H1
  replace H := Option.bind_eq_some_iff.mp H
  obtain ⟨t231, A50, H⟩ := H
  replace H : (if t231 = true then (some 0) else (some 2)) = some r := H
  have A5 := za.mk A50
  clear A50
  by_cases c6 : t231 = true
  ·subst c6
   have H1 : (some 0) = some r := by rw [if_pos rfl] at H; exact H
   clear H
   have H := H1
   clear H1
   obtain rfl := Option.some.inj H
   go_enter Try.func72, Try.ntmps72
   go_wp2_with (first | ((with_reducible refine zl (f := 57) rfl ?_); refine gz (some 6) Try.func57 #[.pointer (some ⟨g0, 0, none⟩)] rfl rfl ?_; (with_reducible refine (spec_l02Ok.calls k g0 A0_0 c0_0 l0_0 a0_1 a0_2 a0_3 a0_4 a0_5 true _ ?side1 ?side2 ?side3 A3.out).mono ?_); (case side1 => exact uK BK0); (case side2 => repeat (first | exact HR0_0.out | (with_reducible refine Kd.C_alloc ?_ _) | (with_reducible refine Kd.C_drewN ?_ _) | (with_reducible refine Kd.C_drew ?_))); (case side3 => exact HC0_0.out); rintro e w7 ⟨rfl, hb⟩; refine ⟨_, rfl, ?_⟩; replace BK0 := dK BK0 hb; replace HB := za.mk (zi sB hb); try clear hb) | ((with_reducible refine zl (f := 103) rfl ?_); refine gz (some 9) Try.func103 #[.int .i64 a1, .int .i64 0, .int .i64 60] rfl rfl ?_; (with_reducible refine (spec_l00In.calls a1 0 60 true _ A5.out).mono ?_); rintro e w' ⟨rfl, ⟨nd, rfl⟩⟩; refine ⟨_, rfl, ?_⟩))
   go_ret
   exact ⟨by first | rfl | (simp [zj, zk] <;> rfl) | (simp [*, zj, zk] <;> rfl), sB⟩
  ·replace c6 := Bool.eq_false_iff.mpr c6
   subst c6
   have H1 : (some 2) = some r := by rw [if_neg (show ¬ (false = true) by decide)] at H; exact H
   clear H
   have H := H1
   clear H1
   obtain rfl := Option.some.inj H
   go_enter Try.func72, Try.ntmps72
   go_wp2_with (first | ((with_reducible refine zl (f := 57) rfl ?_); refine gz (some 6) Try.func57 #[.pointer (some ⟨g0, 0, none⟩)] rfl rfl ?_; (with_reducible refine (spec_l02Ok.calls k g0 A0_0 c0_0 l0_0 a0_1 a0_2 a0_3 a0_4 a0_5 true _ ?side1 ?side2 ?side3 A3.out).mono ?_); (case side1 => exact uK BK0); (case side2 => repeat (first | exact HR0_0.out | (with_reducible refine Kd.C_alloc ?_ _) | (with_reducible refine Kd.C_drewN ?_ _) | (with_reducible refine Kd.C_drew ?_))); (case side3 => exact HC0_0.out); rintro e w8 ⟨rfl, hb⟩; refine ⟨_, rfl, ?_⟩; replace BK0 := dK BK0 hb; replace HB := za.mk (zi sB hb); try clear hb) | ((with_reducible refine zl (f := 103) rfl ?_); refine gz (some 9) Try.func103 #[.int .i64 a1, .int .i64 0, .int .i64 60] rfl rfl ?_; (with_reducible refine (spec_l00In.calls a1 0 60 false _ A5.out).mono ?_); rintro e w' ⟨rfl, ⟨nd, rfl⟩⟩; refine ⟨_, rfl, ?_⟩))
   go_ret
   exact ⟨by first | rfl | (simp [zj, zk] <;> rfl) | (simp [*, zj, zk] <;> rfl), sB⟩
 ·replace c4 := Bool.eq_false_iff.mpr c4
  subst c4
  have H1 : (some 1) = some r := by rw [if_neg (show ¬ (false = true) by decide)] at H; exact H
  clear H
  have H := H1
  clear H1
  obtain rfl := Option.some.inj H
  go_enter Try.func72, Try.ntmps72
  go_wp2_with (first | ((with_reducible refine zl (f := 57) rfl ?_); refine gz (some 6) Try.func57 #[.pointer (some ⟨g0, 0, none⟩)] rfl rfl ?_; (with_reducible refine (spec_l02Ok.calls k g0 A0_0 c0_0 l0_0 a0_1 a0_2 a0_3 a0_4 a0_5 false _ ?side1 ?side2 ?side3 A3.out).mono ?_); (case side1 => exact uK BK0); (case side2 => repeat (first | exact HR0_0.out | (with_reducible refine Kd.C_alloc ?_ _) | (with_reducible refine Kd.C_drewN ?_ _) | (with_reducible refine Kd.C_drew ?_))); (case side3 => exact HC0_0.out); rintro e w9 ⟨rfl, hb⟩; refine ⟨_, rfl, ?_⟩; replace BK0 := dK BK0 hb; replace HB := za.mk (zi sB hb); try clear hb))
  go_ret
  exact ⟨by first | rfl | (simp [zj, zk] <;> rfl) | (simp [*, zj, zk] <;> rfl), sB⟩

/-! ### spec_l02Has: function 73 -/
def spec_l02Has.l0 : Nat → Int → Int → List Int → Int → Int → Int → Int → Bool → Int → Int → Int → Int → Option (Bool)
 | 0, _, _, _, _, _, _, _, _, _, _, _, _ => none
 | k + 1, x2, x7, x1000, x1001, x1002, x1003, x1004, x1005, x233000, x233001, x233002, x233003 => if x7 < (x1000.length : Int) then (if 0 ≤ x7 then (if x7 < 4 then (if (wrap64 (rd [x233000, x233001, x233002, x233003] x7)) = x2 then (some true) else (spec_l02Has.l0 k x2 (wrap64 (x7 + 1)) x1000 x1001 x1002 x1003 x1004 x1005 x233000 x233001 x233002 x233003)) else (none)) else (none)) else (some false)
def spec_l02Has.f (k : Nat) (l0_0 : List Int) (a0_1 : Int) (a0_2 : Int) (a0_3 : Int) (a0_4 : Int) (a0_5 : Bool) (a1_0 : Int) (a1_1 : Int) (a1_2 : Int) (a1_3 : Int) (a2 : Int) : Option (Bool) := spec_l02Has.l0 k a2 0 l0_0 a0_1 a0_2 a0_3 a0_4 a0_5 a1_0 a1_1 a1_2 a1_3
set_option maxHeartbeats 8000000 in
set_option maxRecDepth 100000 in
theorem spec_l02Has.calls (k : Nat) (g0 : Nat) (A0_0 : Option Addr) (c0_0 : Nat) (l0_0 : List Int) (a0_1 : Int) (a0_2 : Int) (a0_3 : Int) (a0_4 : Int) (a0_5 : Bool) (a1_0 : Int) (a1_1 : Int) (a1_2 : Int) (a1_3 : Int) (a2 : Int) (r : Bool) (w : World) (hb0 : w.heap[g0]? = some (.cells #[.slice A0_0 l0_0.length c0_0, .int .i16 a0_1, .int .i16 a0_2, .int .i16 a0_3, .int .i16 a0_4, .bool a0_5] 29 (0, 0))) (hr0_0 : Kd.C (Kd.int .i16) w A0_0 l0_0.length l0_0) (hc0_0 : l0_0.length ≤ c0_0) (h : spec_l02Has.f k l0_0 a0_1 a0_2 a0_3 a0_4 a0_5 a1_0 a1_1 a1_2 a1_3 a2 = some r) :
  Calls Try.prog 73 #[.pointer (some ⟨g0, 0, none⟩), .agg #[.int .i16 a1_0, .int .i16 a1_1, .int .i16 a1_2, .int .i16 a1_3], .int .i64 a2] w fun e w' => e = .returned (.bool r) ∧ Below w.heap.size w w' := by
 have hu27 := Try.underlying27
 have HR0_0 := za.mk hr0_0
 have HC0_0 := za.mk hc0_0
 clear hr0_0 hc0_0
 have BK0 := za.mk hb0
 clear hb0
 have HB := za.mk (Below.refl w.heap.size w)
 have H : (spec_l02Has.l0 k a2 0 l0_0 a0_1 a0_2 a0_3 a0_4 a0_5 a1_0 a1_1 a1_2 a1_3) = some r := h
 clear h
 have H' := za.mk H
 clear H
 go_enter Try.func73, Try.ntmps73
 go_wp2_with (first | ((with_reducible refine zu (N := 4) rfl ?_); refine bx (N := 4) #[.int .i16 a1_0, .int .i16 a1_1, .int .i16 a1_2, .int .i16 a1_3] 27 rfl ?_; intro gb232 hg w4 hbox hb; have BK232 := za.mk hbox; have GW232 := gB hg; have GE232 := gB hg; have NB0_232 := nK hg BK0; have NB232_0 := za.mk (nK hg BK0).out.symm; replace BK0 := dK BK0 hb; replace HB := za.mk (zi sB hb); clear hb hbox hg))
 go_loopg [7] k (fun kq v7 w' => ∃ (x7_1 : Int), v7 = .int .i64 x7_1 ∧ za (spec_l02Has.l0 kq a2 x7_1 l0_0 a0_1 a0_2 a0_3 a0_4 a0_5 a1_0 a1_1 a1_2 a1_3 = some r) ∧ za (kq ≤ k) ∧ za (w'.heap[g0]? = some (.cells #[(.slice A0_0 l0_0.length c0_0), .int .i16 a0_1, .int .i16 a0_2, .int .i16 a0_3, .int .i16 a0_4, .bool a0_5] 29 (0, 0))) ∧ za (w'.heap[gb232]? = some (.cells #[.int .i16 a1_0, .int .i16 a1_1, .int .i16 a1_2, .int .i16 a1_3] 27 (0, 0))) ∧ za (Below w.heap.size w w'))
 case atStart => exact ⟨(0), (by first | rfl | (simp; done) | (simp [*]; done)), H', ⟨Nat.le_refl _⟩, ⟨uK BK0⟩, ⟨uK BK232⟩, ⟨sB⟩⟩
 case round =>
  clear H'
  try clear p2
  obtain ⟨x7_1, rfl, HA, HK1, BK0, BK232, HB⟩ := hrel
  cases gk with
  | zero => exact absurd HA.out (by simp [spec_l02Has.l0])
  | succ k1 =>
   have H := HA.out
   clear HA
   simp only [spec_l02Has.l0] at H
   by_cases c5 : x7_1 < (l0_0.length : Int)
   ·rw [if_pos c5] at H
    have c5b0 : decide (x7_1 < (l0_0.length : Int)) = true := decide_eq_true c5
    clear c5
    by_cases c6 : 0 ≤ x7_1
    ·rw [if_pos c6] at H
     have c6b0 : decide (0 ≤ x7_1) = true := decide_eq_true c6
     clear c6
     by_cases c7 : x7_1 < 4
     ·rw [if_pos c7] at H
      have c7b0 : decide (x7_1 < 4) = true := decide_eq_true c7
      clear c7
      by_cases c8 : (wrap64 (rd [a1_0, a1_1, a1_2, a1_3] x7_1)) = a2
      ·rw [if_pos c8] at H
       have c8b0 : ((wrap64 (rd [a1_0, a1_1, a1_2, a1_3] x7_1)) == a2) = true := beq_iff_eq.mpr c8
       have c8b1 : ((wrap64 (rd [a1_0, a1_1, a1_2, a1_3] x7_1)) != a2) = false := bne_eq_false_iff_eq.mpr c8
       (try (have c8b2 : ((IntKind.i64.wrap (rd [a1_0, a1_1, a1_2, a1_3] x7_1)) == a2) = true := by have h_ : ((wrap64 (rd [a1_0, a1_1, a1_2, a1_3] x7_1)) == a2) = true := beq_iff_eq.mpr c8; simpa only [zw, zx] using h_))
       (try (have c8b3 : ((IntKind.i64.wrap (rd [a1_0, a1_1, a1_2, a1_3] x7_1)) != a2) = false := by have h_ : ((wrap64 (rd [a1_0, a1_1, a1_2, a1_3] x7_1)) != a2) = false := bne_eq_false_iff_eq.mpr c8; simpa only [zw, zx] using h_))
       clear c8
       obtain rfl := Option.some.inj H
       have hnb9 := NB0_232.out
       have hnc9 := NB232_0.out
       obtain ⟨hcz10_0, hcz10_1, hcz10_2, hcz10_3, hcz10_4, hcz10_5⟩ := xc6 BK0
       obtain ⟨hfz10_0, hfz10_1, hfz10_2, hfz10_3, hfz10_4, hfz10_5⟩ := xf6 BK0
       have p11 : 0 ≤ (x7_1 : Int) := of_decide_eq_true (by first | (with_reducible assumption) | assumption)
       have q11 : x7_1 < (4 : Int) := of_decide_eq_true (by first | (with_reducible assumption) | assumption)
       replace p11 := eq_true p11
       replace q11 := eq_true q11
       obtain ⟨hcz12_0, hcz12_1, hcz12_2, hcz12_3⟩ := xc4 BK232
       obtain ⟨hfz12_0, hfz12_1, hfz12_2, hfz12_3⟩ := xf4 BK232
       have hx13_0 : wr.cell? ⟨gb232, (x7_1).toNat, none⟩ = some (.int .i16 (rd [a1_0, a1_1, a1_2, a1_3] x7_1)) := (zb BK232.out _).trans (by rcases (show (x7_1 : Int) = 0 ∨ (x7_1 : Int) = 1 ∨ (x7_1 : Int) = 2 ∨ (x7_1 : Int) = 3 by have hp_ : 0 ≤ (x7_1 : Int) := of_decide_eq_true (by first | (with_reducible assumption) | assumption); have hq_ : x7_1 < (4 : Int) := of_decide_eq_true (by first | (with_reducible assumption) | assumption); omega) with h_ | h_ | h_ | h_ <;> rw [h_] <;> rfl)
       go_wp2
       go_ret
       exact ⟨by first | rfl | (simp [zj, zk] <;> rfl) | (simp [*, zj, zk] <;> rfl), sB⟩
      ·rw [if_neg c8] at H
       have c8b0 : ((wrap64 (rd [a1_0, a1_1, a1_2, a1_3] x7_1)) == a2) = false := beq_eq_false_iff_ne.mpr c8
       have c8b1 : ((wrap64 (rd [a1_0, a1_1, a1_2, a1_3] x7_1)) != a2) = true := bne_iff_ne.mpr c8
       (try (have c8b2 : ((IntKind.i64.wrap (rd [a1_0, a1_1, a1_2, a1_3] x7_1)) == a2) = false := by have h_ : ((wrap64 (rd [a1_0, a1_1, a1_2, a1_3] x7_1)) == a2) = false := beq_eq_false_iff_ne.mpr c8; simpa only [zw, zx] using h_))
       (try (have c8b3 : ((IntKind.i64.wrap (rd [a1_0, a1_1, a1_2, a1_3] x7_1)) != a2) = true := by have h_ : ((wrap64 (rd [a1_0, a1_1, a1_2, a1_3] x7_1)) != a2) = true := bne_iff_ne.mpr c8; simpa only [zw, zx] using h_))
       have H' := za.mk H
       clear H
       have hnb14 := NB0_232.out
       have hnc14 := NB232_0.out
       obtain ⟨hcz15_0, hcz15_1, hcz15_2, hcz15_3, hcz15_4, hcz15_5⟩ := xc6 BK0
       obtain ⟨hfz15_0, hfz15_1, hfz15_2, hfz15_3, hfz15_4, hfz15_5⟩ := xf6 BK0
       have p16 : 0 ≤ (x7_1 : Int) := of_decide_eq_true (by first | (with_reducible assumption) | assumption)
       have q16 : x7_1 < (4 : Int) := of_decide_eq_true (by first | (with_reducible assumption) | assumption)
       replace p16 := eq_true p16
       replace q16 := eq_true q16
       obtain ⟨hcz17_0, hcz17_1, hcz17_2, hcz17_3⟩ := xc4 BK232
       obtain ⟨hfz17_0, hfz17_1, hfz17_2, hfz17_3⟩ := xf4 BK232
       have hx18_0 : wr.cell? ⟨gb232, (x7_1).toNat, none⟩ = some (.int .i16 (rd [a1_0, a1_1, a1_2, a1_3] x7_1)) := (zb BK232.out _).trans (by rcases (show (x7_1 : Int) = 0 ∨ (x7_1 : Int) = 1 ∨ (x7_1 : Int) = 2 ∨ (x7_1 : Int) = 3 by have hp_ : 0 ≤ (x7_1 : Int) := of_decide_eq_true (by first | (with_reducible assumption) | assumption); have hq_ : x7_1 < (4 : Int) := of_decide_eq_true (by first | (with_reducible assumption) | assumption); omega) with h_ | h_ | h_ | h_ <;> rw [h_] <;> rfl)
       go_wp2
       go_roundg k1
       case measure => have := HK1.out; omega
       case rel => exact ⟨(wrap64 (x7_1 + 1)), (by first | rfl | (simp; done) | (simp [*]; done)), H', ⟨by have := HK1.out; omega⟩, ⟨uK BK0⟩, ⟨uK BK232⟩, ⟨sB⟩⟩
     ·rw [if_neg c7] at H
      exact absurd H (by simp)
    ·rw [if_neg c6] at H
     exact absurd H (by simp)
   ·rw [if_neg c5] at H
    have c5b0 : decide (x7_1 < (l0_0.length : Int)) = false := decide_eq_false c5
    clear c5
    obtain rfl := Option.some.inj H
    have hnb19 := NB0_232.out
    have hnc19 := NB232_0.out
    obtain ⟨hcz20_0, hcz20_1, hcz20_2, hcz20_3, hcz20_4, hcz20_5⟩ := xc6 BK0
    obtain ⟨hfz20_0, hfz20_1, hfz20_2, hfz20_3, hfz20_4, hfz20_5⟩ := xf6 BK0
    go_wp2
    go_ret
    exact ⟨by first | rfl | (simp [zj, zk] <;> rfl) | (simp [*, zj, zk] <;> rfl), sB⟩
end Go.Proofs.Yteciomagemjjaaa.J
