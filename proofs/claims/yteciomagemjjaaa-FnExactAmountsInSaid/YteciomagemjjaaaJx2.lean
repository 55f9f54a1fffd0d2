-- Written by wip/tools/myprint.py, a program of this session, by way of the kit's print.
import Derived.Test.YteciomagemjjaaaJx0
import Derived.Test.YteciomagemjjaaaLPrJ
namespace Go.Proofs.Yteciomagemjjaaa.J
open Go.RowKit Go.Proofs.YteciomagemjjaaaW.PrintWords Go.Proofs.YteciomagemjjaaaW.PrintLast Go.Proofs.YteciomagemjjaaaW.PrintMore
attribute [local go_sem] zna zpa zua zva zia zja zqa zoa   -- for this text's walks alone
set_option linter.unusedVariables false
set_option linter.unusedSimpArgs false

/-! ### impl_Puzzle_holds: function 89 -/
def impl_Puzzle_holds.l0 : Nat → Int → List Int → Int → Int → Int → Int → Bool → Int → Int → Int → Int → Option (Bool)
 | 0, _, _, _, _, _, _, _, _, _, _, _ => none
 | k + 1, x9, x104000, x104001, x104002, x104003, x104004, x104005, x90009000, x90009001, x90009002, x90009003 => if x9 < 4 then (if 0 ≤ x9 then (if x9 < (x104000.length : Int) then (if (rd [x90009000, x90009001, x90009002, x90009003] x9) < 0 then (some false) else (if (rd [x90009000, x90009001, x90009002, x90009003] x9) > (rd x104000 x9) then (some false) else (impl_Puzzle_holds.l0 k (wrap64 (x9 + 1)) x104000 x104001 x104002 x104003 x104004 x104005 x90009000 x90009001 x90009002 x90009003))) else (if (rd [x90009000, x90009001, x90009002, x90009003] x9) < 0 then (some false) else (if (rd [x90009000, x90009001, x90009002, x90009003] x9) > 0 then (some false) else (impl_Puzzle_holds.l0 k (wrap64 (x9 + 1)) x104000 x104001 x104002 x104003 x104004 x104005 x90009000 x90009001 x90009002 x90009003)))) else (none)) else (some true)
def impl_Puzzle_holds.f (k : Nat) (l0_0 : List Int) (a0_1 : Int) (a0_2 : Int) (a0_3 : Int) (a0_4 : Int) (a0_5 : Bool) (a1_0 : Int) (a1_1 : Int) (a1_2 : Int) (a1_3 : Int) : Option (Bool) := impl_Puzzle_holds.l0 k 0 l0_0 a0_1 a0_2 a0_3 a0_4 a0_5 a1_0 a1_1 a1_2 a1_3
set_option maxHeartbeats 8000000 in
set_option maxRecDepth 100000 in
theorem impl_Puzzle_holds.calls (k : Nat) (A0_0 : Option Addr) (c0_0 : Nat) (l0_0 : List Int) (a0_1 : Int) (a0_2 : Int) (a0_3 : Int) (a0_4 : Int) (a0_5 : Bool) (a1_0 : Int) (a1_1 : Int) (a1_2 : Int) (a1_3 : Int) (r : Bool) (w : World) (hr0_0 : Kd.C (Kd.int .i16) w A0_0 l0_0.length l0_0) (hc0_0 : l0_0.length ≤ c0_0) (h : impl_Puzzle_holds.f k l0_0 a0_1 a0_2 a0_3 a0_4 a0_5 a1_0 a1_1 a1_2 a1_3 = some r) :
  Calls Try.prog 89 #[.agg #[.slice A0_0 l0_0.length c0_0, .int .i16 a0_1, .int .i16 a0_2, .int .i16 a0_3, .int .i16 a0_4, .bool a0_5], .agg #[.int .i16 a1_0, .int .i16 a1_1, .int .i16 a1_2, .int .i16 a1_3]] w fun e w' => e = .returned (.bool r) ∧ Below w.heap.size w w' := by
 have hu29 := Try.underlying29
 have hu27 := Try.underlying27
 have HR0_0 := za.mk hr0_0
 have HC0_0 := za.mk hc0_0
 clear hr0_0 hc0_0
 have HB := za.mk (Below.refl w.heap.size w)
 have H : (impl_Puzzle_holds.l0 k 0 l0_0 a0_1 a0_2 a0_3 a0_4 a0_5 a1_0 a1_1 a1_2 a1_3) = some r := h
 clear h
 have H' := za.mk H
 clear H
 go_enter Try.func89, Try.ntmps89
 go_wp2_with (first | ((with_reducible refine zu (N := 2) rfl ?_); refine bx (N := 2) #[.slice A0_0 l0_0.length c0_0, .int .i16 a0_1, .int .i16 a0_2, .int .i16 a0_3, .int .i16 a0_4, .bool a0_5] 29 rfl ?_; intro gb103 hg w3 hbox hb; have BK103 := za.mk hbox; have GW103 := gB hg; have GE103 := GW103; replace HB := za.mk (zh sB hb); clear hb hbox hg) | ((with_reducible refine zu (N := 3) rfl ?_); refine bx (N := 3) #[.int .i16 a1_0, .int .i16 a1_1, .int .i16 a1_2, .int .i16 a1_3] 27 rfl ?_; intro gb104 hg w4 hbox hb; have BK104 := za.mk hbox; have GW104 := gB hg; have GE104 := GW104; have NB103_104 := nK hg BK103; have NB104_103 := za.mk NB103_104.out.symm; replace BK103 := dK BK103 hb; replace HB := za.mk (zh sB hb); clear hb hbox hg; have hnb5 := NB104_103.out; have hnc5 := NB103_104.out; obtain ⟨hcz6_0, hcz6_1, hcz6_2, hcz6_3⟩ := xc4 BK104; obtain ⟨hfz6_0, hfz6_1, hfz6_2, hfz6_3⟩ := xf4 BK104))
 go_loopg [9] k (fun kq v9 w' => ∃ (x9_1 : Int), v9 = .int .i64 x9_1 ∧ za (impl_Puzzle_holds.l0 kq x9_1 l0_0 a0_1 a0_2 a0_3 a0_4 a0_5 a1_0 a1_1 a1_2 a1_3 = some r) ∧ za (kq ≤ k) ∧ za (w'.heap[gb103]? = some (.cells #[(.slice A0_0 l0_0.length c0_0), .int .i16 a0_1, .int .i16 a0_2, .int .i16 a0_3, .int .i16 a0_4, .bool a0_5] 29 (0, 0))) ∧ za (w'.heap[gb104]? = some (.cells #[.int .i16 a1_0, .int .i16 a1_1, .int .i16 a1_2, .int .i16 a1_3] 27 (0, 0))) ∧ za (Below w.heap.size w w'))
 case atStart => exact ⟨(0), (by first | rfl | (simp; done) | (simp [*]; done)), H', ⟨Nat.le_refl _⟩, ⟨uK BK103⟩, ⟨uK BK104⟩, ⟨sB⟩⟩
 case round =>
  clear H'
  try clear p2
  try clear c5
  try clear hcz6_0 hcz6_1 hcz6_2 hcz6_3
  try clear hfz6_0 hfz6_1 hfz6_2 hfz6_3
  obtain ⟨x9_1, rfl, HA, HK1, BK103, BK104, HB⟩ := hrel
  cases gk with
  | zero => exact absurd HA.out (by simp [impl_Puzzle_holds.l0])
  | succ k1 =>
   have H := HA.out
   clear HA
   simp only [impl_Puzzle_holds.l0] at H
   by_cases c7 : x9_1 < 4
   ·rw [if_pos c7] at H
    have c7b0 : decide (x9_1 < 4) = true := decide_eq_true c7
    clear c7
    by_cases c8 : 0 ≤ x9_1
    ·rw [if_pos c8] at H
     have c8b0 : decide (0 ≤ x9_1) = true := decide_eq_true c8
     clear c8
     by_cases c9 : x9_1 < (l0_0.length : Int)
     ·rw [if_pos c9] at H
      have c9b0 : decide (x9_1 < (l0_0.length : Int)) = true := decide_eq_true c9
      clear c9
      by_cases c10 : (rd [a1_0, a1_1, a1_2, a1_3] x9_1) < 0
      ·rw [if_pos c10] at H
       have c10b0 : decide ((rd [a1_0, a1_1, a1_2, a1_3] x9_1) < 0) = true := decide_eq_true c10
       clear c10
       obtain rfl := Option.some.inj H
       have hx11_0 : ∀ W_ : World, (Instr.index 27 (.agg #[.int .i16 a1_0, .int .i16 a1_1, .int .i16 a1_2, .int .i16 a1_3]) (.int .i64 x9_1)).run Try.prog W_ = .ok (.int .i16 (rd [a1_0, a1_1, a1_2, a1_3] x9_1)) W_ := by intro W_; rcases (show (x9_1 : Int) = 0 ∨ (x9_1 : Int) = 1 ∨ (x9_1 : Int) = 2 ∨ (x9_1 : Int) = 3 by have hp_ : 0 ≤ (x9_1 : Int) := of_decide_eq_true (by first | (with_reducible assumption) | assumption); have hq_ : x9_1 < (4 : Int) := of_decide_eq_true (by first | (with_reducible assumption) | assumption); omega) with h_ | h_ | h_ | h_ <;> rw [h_] <;> kernel_rfl
       have hnb12 := NB103_104.out
       have hnc12 := NB104_103.out
       obtain ⟨hcz13_0, hcz13_1, hcz13_2, hcz13_3, hcz13_4, hcz13_5⟩ := xc6 BK103
       obtain ⟨hfz13_0, hfz13_1, hfz13_2, hfz13_3, hfz13_4, hfz13_5⟩ := xf6 BK103
       have p106 : 0 ≤ (x9_1 : Int) := of_decide_eq_true (by first | (with_reducible assumption) | assumption)
       have q106 : x9_1 < (l0_0.length : Int) := of_decide_eq_true (by first | (with_reducible assumption) | assumption)
       obtain ⟨ad106, e106, hx106_0⟩ := Kd.at_int HR0_0.out x9_1 p106 q106
       cases e106
       replace hx106_0 := (HB.out.cell (World.block_lt_of_cell? w _ hx106_0)).trans hx106_0
       replace p106 := eq_true p106
       replace q106 := eq_true q106
       go_wp2
       go_ret
       exact ⟨by first | rfl | (simp [zj, zk] <;> rfl) | (simp [*, zj, zk] <;> rfl), sB⟩
      rw [if_neg c10] at H
      have c10b0 : decide ((rd [a1_0, a1_1, a1_2, a1_3] x9_1) < 0) = false := decide_eq_false c10
      clear c10
      by_cases c14 : (rd [a1_0, a1_1, a1_2, a1_3] x9_1) > (rd l0_0 x9_1)
      ·rw [if_pos c14] at H
       have c14b0 : decide ((rd l0_0 x9_1) < (rd [a1_0, a1_1, a1_2, a1_3] x9_1)) = true := decide_eq_true c14
       clear c14
       obtain rfl := Option.some.inj H
       have hx15_0 : ∀ W_ : World, (Instr.index 27 (.agg #[.int .i16 a1_0, .int .i16 a1_1, .int .i16 a1_2, .int .i16 a1_3]) (.int .i64 x9_1)).run Try.prog W_ = .ok (.int .i16 (rd [a1_0, a1_1, a1_2, a1_3] x9_1)) W_ := by intro W_; rcases (show (x9_1 : Int) = 0 ∨ (x9_1 : Int) = 1 ∨ (x9_1 : Int) = 2 ∨ (x9_1 : Int) = 3 by have hp_ : 0 ≤ (x9_1 : Int) := of_decide_eq_true (by first | (with_reducible assumption) | assumption); have hq_ : x9_1 < (4 : Int) := of_decide_eq_true (by first | (with_reducible assumption) | assumption); omega) with h_ | h_ | h_ | h_ <;> rw [h_] <;> kernel_rfl
       have hnb16 := NB103_104.out
       have hnc16 := NB104_103.out
       obtain ⟨hcz17_0, hcz17_1, hcz17_2, hcz17_3, hcz17_4, hcz17_5⟩ := xc6 BK103
       obtain ⟨hfz17_0, hfz17_1, hfz17_2, hfz17_3, hfz17_4, hfz17_5⟩ := xf6 BK103
       have p106 : 0 ≤ (x9_1 : Int) := of_decide_eq_true (by first | (with_reducible assumption) | assumption)
       have q106 : x9_1 < (l0_0.length : Int) := of_decide_eq_true (by first | (with_reducible assumption) | assumption)
       obtain ⟨ad106, e106, hx106_0⟩ := Kd.at_int HR0_0.out x9_1 p106 q106
       cases e106
       replace hx106_0 := (HB.out.cell (World.block_lt_of_cell? w _ hx106_0)).trans hx106_0
       replace p106 := eq_true p106
       replace q106 := eq_true q106
       go_wp2
       go_ret
       exact ⟨by first | rfl | (simp [zj, zk] <;> rfl) | (simp [*, zj, zk] <;> rfl), sB⟩
      rw [if_neg c14] at H
      have c14b0 : decide ((rd l0_0 x9_1) < (rd [a1_0, a1_1, a1_2, a1_3] x9_1)) = false := decide_eq_false c14
      clear c14
      have H' := za.mk H
      clear H
      have hx18_0 : ∀ W_ : World, (Instr.index 27 (.agg #[.int .i16 a1_0, .int .i16 a1_1, .int .i16 a1_2, .int .i16 a1_3]) (.int .i64 x9_1)).run Try.prog W_ = .ok (.int .i16 (rd [a1_0, a1_1, a1_2, a1_3] x9_1)) W_ := by intro W_; rcases (show (x9_1 : Int) = 0 ∨ (x9_1 : Int) = 1 ∨ (x9_1 : Int) = 2 ∨ (x9_1 : Int) = 3 by have hp_ : 0 ≤ (x9_1 : Int) := of_decide_eq_true (by first | (with_reducible assumption) | assumption); have hq_ : x9_1 < (4 : Int) := of_decide_eq_true (by first | (with_reducible assumption) | assumption); omega) with h_ | h_ | h_ | h_ <;> rw [h_] <;> kernel_rfl
      have hnb19 := NB103_104.out
      have hnc19 := NB104_103.out
      obtain ⟨hcz20_0, hcz20_1, hcz20_2, hcz20_3, hcz20_4, hcz20_5⟩ := xc6 BK103
      obtain ⟨hfz20_0, hfz20_1, hfz20_2, hfz20_3, hfz20_4, hfz20_5⟩ := xf6 BK103
      have p106 : 0 ≤ (x9_1 : Int) := of_decide_eq_true (by first | (with_reducible assumption) | assumption)
      have q106 : x9_1 < (l0_0.length : Int) := of_decide_eq_true (by first | (with_reducible assumption) | assumption)
      obtain ⟨ad106, e106, hx106_0⟩ := Kd.at_int HR0_0.out x9_1 p106 q106
      cases e106
      replace hx106_0 := (HB.out.cell (World.block_lt_of_cell? w _ hx106_0)).trans hx106_0
      replace p106 := eq_true p106
      replace q106 := eq_true q106
      go_wp2
      go_roundg k1
      case measure => have := HK1.out; omega
      case rel => exact ⟨(wrap64 (x9_1 + 1)), (by first | rfl | (simp; done) | (simp [*]; done)), H', ⟨by have := HK1.out; omega⟩, ⟨uK BK103⟩, ⟨uK BK104⟩, ⟨sB⟩⟩
     rw [if_neg c9] at H
     have c9b0 : decide (x9_1 < (l0_0.length : Int)) = false := decide_eq_false c9
     clear c9
     by_cases c21 : (rd [a1_0, a1_1, a1_2, a1_3] x9_1) < 0
     ·rw [if_pos c21] at H
      have c21b0 : decide ((rd [a1_0, a1_1, a1_2, a1_3] x9_1) < 0) = true := decide_eq_true c21
      clear c21
      obtain rfl := Option.some.inj H
      have hx22_0 : ∀ W_ : World, (Instr.index 27 (.agg #[.int .i16 a1_0, .int .i16 a1_1, .int .i16 a1_2, .int .i16 a1_3]) (.int .i64 x9_1)).run Try.prog W_ = .ok (.int .i16 (rd [a1_0, a1_1, a1_2, a1_3] x9_1)) W_ := by intro W_; rcases (show (x9_1 : Int) = 0 ∨ (x9_1 : Int) = 1 ∨ (x9_1 : Int) = 2 ∨ (x9_1 : Int) = 3 by have hp_ : 0 ≤ (x9_1 : Int) := of_decide_eq_true (by first | (with_reducible assumption) | assumption); have hq_ : x9_1 < (4 : Int) := of_decide_eq_true (by first | (with_reducible assumption) | assumption); omega) with h_ | h_ | h_ | h_ <;> rw [h_] <;> kernel_rfl
      have hnb23 := NB103_104.out
      have hnc23 := NB104_103.out
      obtain ⟨hcz24_0, hcz24_1, hcz24_2, hcz24_3, hcz24_4, hcz24_5⟩ := xc6 BK103
      obtain ⟨hfz24_0, hfz24_1, hfz24_2, hfz24_3, hfz24_4, hfz24_5⟩ := xf6 BK103
      go_wp2
      go_ret
      exact ⟨by first | rfl | (simp [zj, zk] <;> rfl) | (simp [*, zj, zk] <;> rfl), sB⟩
     rw [if_neg c21] at H
     have c21b0 : decide ((rd [a1_0, a1_1, a1_2, a1_3] x9_1) < 0) = false := decide_eq_false c21
     clear c21
     by_cases c25 : (rd [a1_0, a1_1, a1_2, a1_3] x9_1) > 0
     ·rw [if_pos c25] at H
      have c25b0 : decide (0 < (rd [a1_0, a1_1, a1_2, a1_3] x9_1)) = true := decide_eq_true c25
      clear c25
      obtain rfl := Option.some.inj H
      have hx26_0 : ∀ W_ : World, (Instr.index 27 (.agg #[.int .i16 a1_0, .int .i16 a1_1, .int .i16 a1_2, .int .i16 a1_3]) (.int .i64 x9_1)).run Try.prog W_ = .ok (.int .i16 (rd [a1_0, a1_1, a1_2, a1_3] x9_1)) W_ := by intro W_; rcases (show (x9_1 : Int) = 0 ∨ (x9_1 : Int) = 1 ∨ (x9_1 : Int) = 2 ∨ (x9_1 : Int) = 3 by have hp_ : 0 ≤ (x9_1 : Int) := of_decide_eq_true (by first | (with_reducible assumption) | assumption); have hq_ : x9_1 < (4 : Int) := of_decide_eq_true (by first | (with_reducible assumption) | assumption); omega) with h_ | h_ | h_ | h_ <;> rw [h_] <;> kernel_rfl
      have hnb27 := NB103_104.out
      have hnc27 := NB104_103.out
      obtain ⟨hcz28_0, hcz28_1, hcz28_2, hcz28_3, hcz28_4, hcz28_5⟩ := xc6 BK103
      obtain ⟨hfz28_0, hfz28_1, hfz28_2, hfz28_3, hfz28_4, hfz28_5⟩ := xf6 BK103
      go_wp2
      go_ret
      exact ⟨by first | rfl | (simp [zj, zk] <;> rfl) | (simp [*, zj, zk] <;> rfl), sB⟩
     rw [if_neg c25] at H
     have c25b0 : decide (0 < (rd [a1_0, a1_1, a1_2, a1_3] x9_1)) = false := decide_eq_false c25
     clear c25
     have H' := za.mk H
     clear H
     have hx29_0 : ∀ W_ : World, (Instr.index 27 (.agg #[.int .i16 a1_0, .int .i16 a1_1, .int .i16 a1_2, .int .i16 a1_3]) (.int .i64 x9_1)).run Try.prog W_ = .ok (.int .i16 (rd [a1_0, a1_1, a1_2, a1_3] x9_1)) W_ := by intro W_; rcases (show (x9_1 : Int) = 0 ∨ (x9_1 : Int) = 1 ∨ (x9_1 : Int) = 2 ∨ (x9_1 : Int) = 3 by have hp_ : 0 ≤ (x9_1 : Int) := of_decide_eq_true (by first | (with_reducible assumption) | assumption); have hq_ : x9_1 < (4 : Int) := of_decide_eq_true (by first | (with_reducible assumption) | assumption); omega) with h_ | h_ | h_ | h_ <;> rw [h_] <;> kernel_rfl
     have hnb30 := NB103_104.out
     have hnc30 := NB104_103.out
     obtain ⟨hcz31_0, hcz31_1, hcz31_2, hcz31_3, hcz31_4, hcz31_5⟩ := xc6 BK103
     obtain ⟨hfz31_0, hfz31_1, hfz31_2, hfz31_3, hfz31_4, hfz31_5⟩ := xf6 BK103
     go_wp2
     go_roundg k1
     case measure => have := HK1.out; omega
     case rel => exact ⟨(wrap64 (x9_1 + 1)), (by first | rfl | (simp; done) | (simp [*]; done)), H', ⟨by have := HK1.out; omega⟩, ⟨uK BK103⟩, ⟨uK BK104⟩, ⟨sB⟩⟩
    rw [if_neg c8] at H
    exact absurd H (by simp)
   rw [if_neg c7] at H
   have c7b0 : decide (x9_1 < 4) = false := decide_eq_false c7
   clear c7
   obtain rfl := Option.some.inj H
   go_wp2
   go_ret
   exact ⟨by first | rfl | (simp [zj, zk] <;> rfl) | (simp [*, zj, zk] <;> rfl), sB⟩

end Go.Proofs.Yteciomagemjjaaa.J
