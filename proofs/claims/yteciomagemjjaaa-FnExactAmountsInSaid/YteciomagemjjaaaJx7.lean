-- Written by wip/tools/myprint.py, a program of this session, by way of the kit's print.
import Derived.Test.YteciomagemjjaaaJx0
import Derived.Test.YteciomagemjjaaaLPrJ
namespace Go.Proofs.Yteciomagemjjaaa.J
open Go.RowKit Go.Proofs.YteciomagemjjaaaW.PrintWords Go.Proofs.YteciomagemjjaaaW.PrintLast Go.Proofs.YteciomagemjjaaaW.PrintMore
attribute [local go_sem] zna zpa zua zva zia zja zqa zoa   -- for this text's walks alone
set_option linter.unusedVariables false
set_option linter.unusedSimpArgs false

/-! ### spec_l02Water: function 62 -/
def spec_l02Water.l0 : Nat → List Int → Int → Int → Int → Int → Int → Option (Bool)
 | 0, _, _, _, _, _, _ => none
 | k + 1, x0, x5, x158000, x158001, x158002, x158003 => if x5 < 4 then (if x5 < (x0.length : Int) then (if 0 ≤ x5 then (if (rd [x158000, x158001, x158002, x158003] x5) < 0 then (some false) else (if (rd [x158000, x158001, x158002, x158003] x5) > (rd x0 x5) then (some false) else (spec_l02Water.l0 k x0 (wrap64 (x5 + 1)) x158000 x158001 x158002 x158003))) else (none)) else (if 0 ≤ x5 then (if (rd [x158000, x158001, x158002, x158003] x5) < 0 then (some false) else (if (rd [x158000, x158001, x158002, x158003] x5) > 0 then (some false) else (spec_l02Water.l0 k x0 (wrap64 (x5 + 1)) x158000 x158001 x158002 x158003))) else (none))) else (some true)
def spec_l02Water.f (k : Nat) (l0 : List Int) (a1_0 : Int) (a1_1 : Int) (a1_2 : Int) (a1_3 : Int) : Option (Bool) := spec_l02Water.l0 k l0 0 a1_0 a1_1 a1_2 a1_3
set_option maxHeartbeats 8000000 in
set_option maxRecDepth 100000 in
theorem spec_l02Water.calls (k : Nat) (A0 : Option Addr) (c0 : Nat) (l0 : List Int) (a1_0 : Int) (a1_1 : Int) (a1_2 : Int) (a1_3 : Int) (r : Bool) (w : World) (hr0 : Kd.C (Kd.int .i16) w A0 l0.length l0) (hc0 : l0.length ≤ c0) (h : spec_l02Water.f k l0 a1_0 a1_1 a1_2 a1_3 = some r) :
  Calls Try.prog 62 #[.slice A0 l0.length c0, .agg #[.int .i16 a1_0, .int .i16 a1_1, .int .i16 a1_2, .int .i16 a1_3]] w fun e w' => e = .returned (.bool r) ∧ Below w.heap.size w w' := by
 have hu27 := Try.underlying27
 have HR0 := za.mk hr0
 have HC0 := za.mk hc0
 clear hr0 hc0
 have HB := za.mk (Below.refl w.heap.size w)
 have H : (spec_l02Water.l0 k l0 0 a1_0 a1_1 a1_2 a1_3) = some r := h
 clear h
 have H' := za.mk H
 clear H
 go_enter Try.func62, Try.ntmps62
 go_wp2_with (first | ((with_reducible refine zu (N := 3) rfl ?_); refine bx (N := 3) #[.int .i16 a1_0, .int .i16 a1_1, .int .i16 a1_2, .int .i16 a1_3] 27 rfl ?_; intro gb157 hg w3 hbox hb; have BK157 := za.mk hbox; have GW157 := gB hg; have GE157 := GW157; replace HB := za.mk (zh sB hb); clear hb hbox hg))
 go_loopg [5] k (fun kq v5 w' => ∃ (x5_1 : Int), v5 = .int .i64 x5_1 ∧ za (spec_l02Water.l0 kq l0 x5_1 a1_0 a1_1 a1_2 a1_3 = some r) ∧ za (kq ≤ k) ∧ za (w'.heap[gb157]? = some (.cells #[.int .i16 a1_0, .int .i16 a1_1, .int .i16 a1_2, .int .i16 a1_3] 27 (0, 0))) ∧ za (Below w.heap.size w w'))
 case atStart => exact ⟨(0), (by first | rfl | (simp; done) | (simp [*]; done)), H', ⟨Nat.le_refl _⟩, ⟨uK BK157⟩, ⟨sB⟩⟩
 case round =>
  clear H'
  try clear p2
  obtain ⟨x5_1, rfl, HA, HK1, BK157, HB⟩ := hrel
  cases gk with
  | zero => exact absurd HA.out (by simp [spec_l02Water.l0])
  | succ k1 =>
   have H := HA.out
   clear HA
   simp only [spec_l02Water.l0] at H
   by_cases c4 : x5_1 < 4
   ·rw [if_pos c4] at H
    have c4b0 : decide (x5_1 < 4) = true := decide_eq_true c4
    clear c4
    by_cases c5 : x5_1 < (l0.length : Int)
    ·rw [if_pos c5] at H
     have c5b0 : decide (x5_1 < (l0.length : Int)) = true := decide_eq_true c5
     clear c5
     by_cases c6 : 0 ≤ x5_1
     ·rw [if_pos c6] at H
      have c6b0 : decide (0 ≤ x5_1) = true := decide_eq_true c6
      clear c6
      by_cases c7 : (rd [a1_0, a1_1, a1_2, a1_3] x5_1) < 0
      ·rw [if_pos c7] at H
       have c7b0 : decide ((rd [a1_0, a1_1, a1_2, a1_3] x5_1) < 0) = true := decide_eq_true c7
       clear c7
       obtain rfl := Option.some.inj H
       have p158 : 0 ≤ (x5_1 : Int) := of_decide_eq_true (by first | (with_reducible assumption) | assumption)
       have q158 : x5_1 < (l0.length : Int) := of_decide_eq_true (by first | (with_reducible assumption) | assumption)
       obtain ⟨ad158, e158, hx158_0⟩ := Kd.at_int HR0.out x5_1 p158 q158
       cases e158
       replace hx158_0 := (HB.out.cell (World.block_lt_of_cell? w _ hx158_0)).trans hx158_0
       replace p158 := eq_true p158
       replace q158 := eq_true q158
       have p8 : 0 ≤ (x5_1 : Int) := of_decide_eq_true (by first | (with_reducible assumption) | assumption)
       have q8 : x5_1 < (4 : Int) := of_decide_eq_true (by first | (with_reducible assumption) | assumption)
       replace p8 := eq_true p8
       replace q8 := eq_true q8
       obtain ⟨hcz9_0, hcz9_1, hcz9_2, hcz9_3⟩ := xc4 BK157
       obtain ⟨hfz9_0, hfz9_1, hfz9_2, hfz9_3⟩ := xf4 BK157
       have hx10_0 : wr.cell? ⟨gb157, (x5_1).toNat, none⟩ = some (.int .i16 (rd [a1_0, a1_1, a1_2, a1_3] x5_1)) := (zb BK157.out _).trans (by rcases (show (x5_1 : Int) = 0 ∨ (x5_1 : Int) = 1 ∨ (x5_1 : Int) = 2 ∨ (x5_1 : Int) = 3 by have hp_ : 0 ≤ (x5_1 : Int) := of_decide_eq_true (by first | (with_reducible assumption) | assumption); have hq_ : x5_1 < (4 : Int) := of_decide_eq_true (by first | (with_reducible assumption) | assumption); omega) with h_ | h_ | h_ | h_ <;> rw [h_] <;> rfl)
       go_wp2
       go_ret
       exact ⟨by first | rfl | (simp [zj, zk] <;> rfl) | (simp [*, zj, zk] <;> rfl), sB⟩
      rw [if_neg c7] at H
      have c7b0 : decide ((rd [a1_0, a1_1, a1_2, a1_3] x5_1) < 0) = false := decide_eq_false c7
      clear c7
      by_cases c11 : (rd [a1_0, a1_1, a1_2, a1_3] x5_1) > (rd l0 x5_1)
      ·rw [if_pos c11] at H
       have c11b0 : decide ((rd l0 x5_1) < (rd [a1_0, a1_1, a1_2, a1_3] x5_1)) = true := decide_eq_true c11
       clear c11
       obtain rfl := Option.some.inj H
       have p158 : 0 ≤ (x5_1 : Int) := of_decide_eq_true (by first | (with_reducible assumption) | assumption)
       have q158 : x5_1 < (l0.length : Int) := of_decide_eq_true (by first | (with_reducible assumption) | assumption)
       obtain ⟨ad158, e158, hx158_0⟩ := Kd.at_int HR0.out x5_1 p158 q158
       cases e158
       replace hx158_0 := (HB.out.cell (World.block_lt_of_cell? w _ hx158_0)).trans hx158_0
       replace p158 := eq_true p158
       replace q158 := eq_true q158
       have p12 : 0 ≤ (x5_1 : Int) := of_decide_eq_true (by first | (with_reducible assumption) | assumption)
       have q12 : x5_1 < (4 : Int) := of_decide_eq_true (by first | (with_reducible assumption) | assumption)
       replace p12 := eq_true p12
       replace q12 := eq_true q12
       obtain ⟨hcz13_0, hcz13_1, hcz13_2, hcz13_3⟩ := xc4 BK157
       obtain ⟨hfz13_0, hfz13_1, hfz13_2, hfz13_3⟩ := xf4 BK157
       have hx14_0 : wr.cell? ⟨gb157, (x5_1).toNat, none⟩ = some (.int .i16 (rd [a1_0, a1_1, a1_2, a1_3] x5_1)) := (zb BK157.out _).trans (by rcases (show (x5_1 : Int) = 0 ∨ (x5_1 : Int) = 1 ∨ (x5_1 : Int) = 2 ∨ (x5_1 : Int) = 3 by have hp_ : 0 ≤ (x5_1 : Int) := of_decide_eq_true (by first | (with_reducible assumption) | assumption); have hq_ : x5_1 < (4 : Int) := of_decide_eq_true (by first | (with_reducible assumption) | assumption); omega) with h_ | h_ | h_ | h_ <;> rw [h_] <;> rfl)
       have p15 : 0 ≤ (x5_1 : Int) := of_decide_eq_true (by first | (with_reducible assumption) | assumption)
       have q15 : x5_1 < (4 : Int) := of_decide_eq_true (by first | (with_reducible assumption) | assumption)
       replace p15 := eq_true p15
       replace q15 := eq_true q15
       have hx16_0 : wr.cell? ⟨gb157, (x5_1).toNat, none⟩ = some (.int .i16 (rd [a1_0, a1_1, a1_2, a1_3] x5_1)) := (zb BK157.out _).trans (by rcases (show (x5_1 : Int) = 0 ∨ (x5_1 : Int) = 1 ∨ (x5_1 : Int) = 2 ∨ (x5_1 : Int) = 3 by have hp_ : 0 ≤ (x5_1 : Int) := of_decide_eq_true (by first | (with_reducible assumption) | assumption); have hq_ : x5_1 < (4 : Int) := of_decide_eq_true (by first | (with_reducible assumption) | assumption); omega) with h_ | h_ | h_ | h_ <;> rw [h_] <;> rfl)
       go_wp2
       go_ret
       exact ⟨by first | rfl | (simp [zj, zk] <;> rfl) | (simp [*, zj, zk] <;> rfl), sB⟩
      rw [if_neg c11] at H
      have c11b0 : decide ((rd l0 x5_1) < (rd [a1_0, a1_1, a1_2, a1_3] x5_1)) = false := decide_eq_false c11
      clear c11
      have H' := za.mk H
      clear H
      have p158 : 0 ≤ (x5_1 : Int) := of_decide_eq_true (by first | (with_reducible assumption) | assumption)
      have q158 : x5_1 < (l0.length : Int) := of_decide_eq_true (by first | (with_reducible assumption) | assumption)
      obtain ⟨ad158, e158, hx158_0⟩ := Kd.at_int HR0.out x5_1 p158 q158
      cases e158
      replace hx158_0 := (HB.out.cell (World.block_lt_of_cell? w _ hx158_0)).trans hx158_0
      replace p158 := eq_true p158
      replace q158 := eq_true q158
      have p17 : 0 ≤ (x5_1 : Int) := of_decide_eq_true (by first | (with_reducible assumption) | assumption)
      have q17 : x5_1 < (4 : Int) := of_decide_eq_true (by first | (with_reducible assumption) | assumption)
      replace p17 := eq_true p17
      replace q17 := eq_true q17
      obtain ⟨hcz18_0, hcz18_1, hcz18_2, hcz18_3⟩ := xc4 BK157
      obtain ⟨hfz18_0, hfz18_1, hfz18_2, hfz18_3⟩ := xf4 BK157
      have hx19_0 : wr.cell? ⟨gb157, (x5_1).toNat, none⟩ = some (.int .i16 (rd [a1_0, a1_1, a1_2, a1_3] x5_1)) := (zb BK157.out _).trans (by rcases (show (x5_1 : Int) = 0 ∨ (x5_1 : Int) = 1 ∨ (x5_1 : Int) = 2 ∨ (x5_1 : Int) = 3 by have hp_ : 0 ≤ (x5_1 : Int) := of_decide_eq_true (by first | (with_reducible assumption) | assumption); have hq_ : x5_1 < (4 : Int) := of_decide_eq_true (by first | (with_reducible assumption) | assumption); omega) with h_ | h_ | h_ | h_ <;> rw [h_] <;> rfl)
      have p20 : 0 ≤ (x5_1 : Int) := of_decide_eq_true (by first | (with_reducible assumption) | assumption)
      have q20 : x5_1 < (4 : Int) := of_decide_eq_true (by first | (with_reducible assumption) | assumption)
      replace p20 := eq_true p20
      replace q20 := eq_true q20
      have hx21_0 : wr.cell? ⟨gb157, (x5_1).toNat, none⟩ = some (.int .i16 (rd [a1_0, a1_1, a1_2, a1_3] x5_1)) := (zb BK157.out _).trans (by rcases (show (x5_1 : Int) = 0 ∨ (x5_1 : Int) = 1 ∨ (x5_1 : Int) = 2 ∨ (x5_1 : Int) = 3 by have hp_ : 0 ≤ (x5_1 : Int) := of_decide_eq_true (by first | (with_reducible assumption) | assumption); have hq_ : x5_1 < (4 : Int) := of_decide_eq_true (by first | (with_reducible assumption) | assumption); omega) with h_ | h_ | h_ | h_ <;> rw [h_] <;> rfl)
      go_wp2
      go_roundg k1
      case measure => have := HK1.out; omega
      case rel => exact ⟨(wrap64 (x5_1 + 1)), (by first | rfl | (simp; done) | (simp [*]; done)), H', ⟨by have := HK1.out; omega⟩, ⟨uK BK157⟩, ⟨sB⟩⟩
     rw [if_neg c6] at H
     exact absurd H (by simp)
    rw [if_neg c5] at H
    have c5b0 : decide (x5_1 < (l0.length : Int)) = false := decide_eq_false c5
    clear c5
    by_cases c22 : 0 ≤ x5_1
    ·rw [if_pos c22] at H
     have c22b0 : decide (0 ≤ x5_1) = true := decide_eq_true c22
     clear c22
     by_cases c23 : (rd [a1_0, a1_1, a1_2, a1_3] x5_1) < 0
     ·rw [if_pos c23] at H
      have c23b0 : decide ((rd [a1_0, a1_1, a1_2, a1_3] x5_1) < 0) = true := decide_eq_true c23
      clear c23
      obtain rfl := Option.some.inj H
      have p24 : 0 ≤ (x5_1 : Int) := of_decide_eq_true (by first | (with_reducible assumption) | assumption)
      have q24 : x5_1 < (4 : Int) := of_decide_eq_true (by first | (with_reducible assumption) | assumption)
      replace p24 := eq_true p24
      replace q24 := eq_true q24
      obtain ⟨hcz25_0, hcz25_1, hcz25_2, hcz25_3⟩ := xc4 BK157
      obtain ⟨hfz25_0, hfz25_1, hfz25_2, hfz25_3⟩ := xf4 BK157
      have hx26_0 : wr.cell? ⟨gb157, (x5_1).toNat, none⟩ = some (.int .i16 (rd [a1_0, a1_1, a1_2, a1_3] x5_1)) := (zb BK157.out _).trans (by rcases (show (x5_1 : Int) = 0 ∨ (x5_1 : Int) = 1 ∨ (x5_1 : Int) = 2 ∨ (x5_1 : Int) = 3 by have hp_ : 0 ≤ (x5_1 : Int) := of_decide_eq_true (by first | (with_reducible assumption) | assumption); have hq_ : x5_1 < (4 : Int) := of_decide_eq_true (by first | (with_reducible assumption) | assumption); omega) with h_ | h_ | h_ | h_ <;> rw [h_] <;> rfl)
      go_wp2
      go_ret
      exact ⟨by first | rfl | (simp [zj, zk] <;> rfl) | (simp [*, zj, zk] <;> rfl), sB⟩
     rw [if_neg c23] at H
     have c23b0 : decide ((rd [a1_0, a1_1, a1_2, a1_3] x5_1) < 0) = false := decide_eq_false c23
     clear c23
     by_cases c27 : (rd [a1_0, a1_1, a1_2, a1_3] x5_1) > 0
     ·rw [if_pos c27] at H
      have c27b0 : decide (0 < (rd [a1_0, a1_1, a1_2, a1_3] x5_1)) = true := decide_eq_true c27
      clear c27
      obtain rfl := Option.some.inj H
      have p28 : 0 ≤ (x5_1 : Int) := of_decide_eq_true (by first | (with_reducible assumption) | assumption)
      have q28 : x5_1 < (4 : Int) := of_decide_eq_true (by first | (with_reducible assumption) | assumption)
      replace p28 := eq_true p28
      replace q28 := eq_true q28
      obtain ⟨hcz29_0, hcz29_1, hcz29_2, hcz29_3⟩ := xc4 BK157
      obtain ⟨hfz29_0, hfz29_1, hfz29_2, hfz29_3⟩ := xf4 BK157
      have hx30_0 : wr.cell? ⟨gb157, (x5_1).toNat, none⟩ = some (.int .i16 (rd [a1_0, a1_1, a1_2, a1_3] x5_1)) := (zb BK157.out _).trans (by rcases (show (x5_1 : Int) = 0 ∨ (x5_1 : Int) = 1 ∨ (x5_1 : Int) = 2 ∨ (x5_1 : Int) = 3 by have hp_ : 0 ≤ (x5_1 : Int) := of_decide_eq_true (by first | (with_reducible assumption) | assumption); have hq_ : x5_1 < (4 : Int) := of_decide_eq_true (by first | (with_reducible assumption) | assumption); omega) with h_ | h_ | h_ | h_ <;> rw [h_] <;> rfl)
      have p31 : 0 ≤ (x5_1 : Int) := of_decide_eq_true (by first | (with_reducible assumption) | assumption)
      have q31 : x5_1 < (4 : Int) := of_decide_eq_true (by first | (with_reducible assumption) | assumption)
      replace p31 := eq_true p31
      replace q31 := eq_true q31
      have hx32_0 : wr.cell? ⟨gb157, (x5_1).toNat, none⟩ = some (.int .i16 (rd [a1_0, a1_1, a1_2, a1_3] x5_1)) := (zb BK157.out _).trans (by rcases (show (x5_1 : Int) = 0 ∨ (x5_1 : Int) = 1 ∨ (x5_1 : Int) = 2 ∨ (x5_1 : Int) = 3 by have hp_ : 0 ≤ (x5_1 : Int) := of_decide_eq_true (by first | (with_reducible assumption) | assumption); have hq_ : x5_1 < (4 : Int) := of_decide_eq_true (by first | (with_reducible assumption) | assumption); omega) with h_ | h_ | h_ | h_ <;> rw [h_] <;> rfl)
      go_wp2
      go_ret
      exact ⟨by first | rfl | (simp [zj, zk] <;> rfl) | (simp [*, zj, zk] <;> rfl), sB⟩
     rw [if_neg c27] at H
     have c27b0 : decide (0 < (rd [a1_0, a1_1, a1_2, a1_3] x5_1)) = false := decide_eq_false c27
     clear c27
     have H' := za.mk H
     clear H
     have p33 : 0 ≤ (x5_1 : Int) := of_decide_eq_true (by first | (with_reducible assumption) | assumption)
     have q33 : x5_1 < (4 : Int) := of_decide_eq_true (by first | (with_reducible assumption) | assumption)
     replace p33 := eq_true p33
     replace q33 := eq_true q33
     obtain ⟨hcz34_0, hcz34_1, hcz34_2, hcz34_3⟩ := xc4 BK157
     obtain ⟨hfz34_0, hfz34_1, hfz34_2, hfz34_3⟩ := xf4 BK157
     have hx35_0 : wr.cell? ⟨gb157, (x5_1).toNat, none⟩ = some (.int .i16 (rd [a1_0, a1_1, a1_2, a1_3] x5_1)) := (zb BK157.out _).trans (by rcases (show (x5_1 : Int) = 0 ∨ (x5_1 : Int) = 1 ∨ (x5_1 : Int) = 2 ∨ (x5_1 : Int) = 3 by have hp_ : 0 ≤ (x5_1 : Int) := of_decide_eq_true (by first | (with_reducible assumption) | assumption); have hq_ : x5_1 < (4 : Int) := of_decide_eq_true (by first | (with_reducible assumption) | assumption); omega) with h_ | h_ | h_ | h_ <;> rw [h_] <;> rfl)
     have p36 : 0 ≤ (x5_1 : Int) := of_decide_eq_true (by first | (with_reducible assumption) | assumption)
     have q36 : x5_1 < (4 : Int) := of_decide_eq_true (by first | (with_reducible assumption) | assumption)
     replace p36 := eq_true p36
     replace q36 := eq_true q36
     have hx37_0 : wr.cell? ⟨gb157, (x5_1).toNat, none⟩ = some (.int .i16 (rd [a1_0, a1_1, a1_2, a1_3] x5_1)) := (zb BK157.out _).trans (by rcases (show (x5_1 : Int) = 0 ∨ (x5_1 : Int) = 1 ∨ (x5_1 : Int) = 2 ∨ (x5_1 : Int) = 3 by have hp_ : 0 ≤ (x5_1 : Int) := of_decide_eq_true (by first | (with_reducible assumption) | assumption); have hq_ : x5_1 < (4 : Int) := of_decide_eq_true (by first | (with_reducible assumption) | assumption); omega) with h_ | h_ | h_ | h_ <;> rw [h_] <;> rfl)
     go_wp2
     go_roundg k1
     case measure => have := HK1.out; omega
     case rel => exact ⟨(wrap64 (x5_1 + 1)), (by first | rfl | (simp; done) | (simp [*]; done)), H', ⟨by have := HK1.out; omega⟩, ⟨uK BK157⟩, ⟨sB⟩⟩
    rw [if_neg c22] at H
    exact absurd H (by simp)
   rw [if_neg c4] at H
   have c4b0 : decide (x5_1 < 4) = false := decide_eq_false c4
   clear c4
   obtain rfl := Option.some.inj H
   go_wp2
   go_ret
   exact ⟨by first | rfl | (simp [zj, zk] <;> rfl) | (simp [*, zj, zk] <;> rfl), sB⟩

/-! ### spec_l00In: function 103 -/
def spec_l00In.f (a0 : Int) (a1 : Int) (a2 : Int) : Option (Bool) := if a0 ≥ a1 then (some (decide (a0 ≤ a2))) else (some false)
set_option maxHeartbeats 8000000 in
set_option maxRecDepth 100000 in
theorem spec_l00In.calls (a0 : Int) (a1 : Int) (a2 : Int) (r : Bool) (w : World) (h : spec_l00In.f a0 a1 a2 = some r) :
  Calls Try.prog 103 #[.int .i64 a0, .int .i64 a1, .int .i64 a2] w fun e w' => e = .returned (.bool r) ∧ zba w w' := by
 have H : (if a0 ≥ a1 then (some (decide (a0 ≤ a2))) else (some false)) = some r := h
 clear h
 by_cases c4 : a0 ≥ a1
 ·rw [if_pos c4] at H
  have c4b0 : decide (a1 ≤ a0) = true := decide_eq_true c4
  clear c4
  obtain rfl := Option.some.inj H
  go_enter Try.func103, Try.ntmps103
  go_wp2
  go_ret
  exact ⟨by first | rfl | (simp; done) | (simp [*]; done), by repeat (first | exact zba.refl _ | apply zba.step)⟩
 rw [if_neg c4] at H
 have c4b0 : decide (a1 ≤ a0) = false := decide_eq_false c4
 clear c4
 obtain rfl := Option.some.inj H
 go_enter Try.func103, Try.ntmps103
 go_wp2
 go_ret
 exact ⟨by first | rfl | (simp; done) | (simp [*]; done), by repeat (first | exact zba.refl _ | apply zba.step)⟩

end Go.Proofs.Yteciomagemjjaaa.J
