-- Written by wip/tools/myprint.py, a program of this session, by way of the kit's print.
import Derived.Test.YteciomagemjjaaaJx0
namespace Go.Proofs.Yteciomagemjjaaa.J
open Go.RowKit Go.Proofs.YteciomagemjjaaaW.PrintWords Go.Proofs.YteciomagemjjaaaW.PrintLast Go.Proofs.YteciomagemjjaaaW.PrintMore
attribute [local go_sem] zma zna zxa zwa zia zja zoa zpa   -- for this text's walks alone
set_option linter.unusedVariables false
set_option linter.unusedSimpArgs false

/-! ### impl_Puzzle_holds: function 89 -/
def impl_Puzzle_holds.l0 : Nat → Int → List Int → Int → Int → Int → Int → Bool → Int → Int → Int → Int → Option (Bool)
 | 0, _, _, _, _, _, _, _, _, _, _, _ => none
 | k + 1, x9, x104000, x104001, x104002, x104003, x104004, x104005, x90009000, x90009001, x90009002, x90009003 => if x9 < 4 then (if 0 ≤ x9 then (if x9 < (x104000.length : Int) then (if (rd [x90009000, x90009001, x90009002, x90009003] x9) < 0 then (some false) else (if (rd [x90009000, x90009001, x90009002, x90009003] x9) > (rd x104000 x9) then (some false) else (impl_Puzzle_holds.l0 k (wrap64 (x9 + 1)) x104000 x104001 x104002 x104003 x104004 x104005 x90009000 x90009001 x90009002 x90009003))) else (if (rd [x90009000, x90009001, x90009002, x90009003] x9) < 0 then (some false) else (if (rd [x90009000, x90009001, x90009002, x90009003] x9) > 0 then (some false) else (impl_Puzzle_holds.l0 k (wrap64 (x9 + 1)) x104000 x104001 x104002 x104003 x104004 x104005 x90009000 x90009001 x90009002 x90009003)))) else (none)) else (some true)
def impl_Puzzle_holds.f (k : Nat) (l0_0 : List Int) (a0_1 : Int) (a0_2 : Int) (a0_3 : Int) (a0_4 : Int) (a0_5 : Bool) (a1_0 : Int) (a1_1 : Int) (a1_2 : Int) (a1_3 : Int) : Option (Bool) := impl_Puzzle_holds.l0 k 0 l0_0 a0_1 a0_2 a0_3 a0_4 a0_5 a1_0 a1_1 a1_2 a1_3
set_option maxHeartbeats 8000000 in
set_option maxRecDepth 100000 in
theorem impl_Puzzle_holds.calls (k : Nat) (A0_0 : Option Addr) (c0_0 : Nat) (l0_0 : List Int) (a0_1 : Int) (a0_2 : Int) (a0_3 : Int) (a0_4 : Int) (a0_5 : Bool) (a1_0 : Int) (a1_1 : Int) (a1_2 : Int) (a1_3 : Int) (r : Bool) (w : World) (hr0_0 : Kd.C (Kd.int .i16) w A0_0 l0_0.length l0_0) (hc0_0 : l0_0.length ≤ c0_0) (h : impl_Puzzle_holds.f k l0_0 a0_1 a0_2 a0_3 a0_4 a0_5 a1_0 a1_1 a1_2 a1_3 = some r) :
  Calls Try.prog 89 #[.agg #[.slice A0_0 l0_0.length c0_0, .int .i16 a0_1, .int .i16 a0_2, .int .i16 a0_3, .int .i16 a0_4, .bool a0_5], .agg #[.int .i16 a1_0, .int .i16 a1_1, .int .i16 a1_2, .int .i16 a1_3]] w fun e w' => e = .returned (.bool r) ∧ Below w.heap.size w w' := by
 have hu29 := Try.underlying29
 have hu27 := Try.underlying27
 have HR0_0 := zb.mk hr0_0
 have HC0_0 := zb.mk hc0_0
 clear hr0_0 hc0_0
 have HB := zb.mk (Below.refl w.heap.size w)
 have H : (impl_Puzzle_holds.l0 k 0 l0_0 a0_1 a0_2 a0_3 a0_4 a0_5 a1_0 a1_1 a1_2 a1_3) = some r := h
 clear h
 have H' := zb.mk H
 clear H
 go_enter Try.func89, Try.ntmps89
 go_wp2_with (first | ((with_reducible refine zy (N := 2) rfl ?_); refine zca ?hg (N := 2) ?hd (cs := #[.slice A0_0 l0_0.length c0_0, .int .i16 a0_1, .int .i16 a0_2, .int .i16 a0_3, .int .i16 a0_4, .bool a0_5]) (t := 29) ?hr ?_; (case hd => rfl); (case hg => rfl); (case hr => first | (go_simp; done) | (go_simp; rfl)); intro gb103 hg w3 hbox hb; have n0_ := zb.mk (zm (by repeat (first | (with_reducible first | exact HB.out | apply zj | apply zf | apply zi) | exact HB.out)) hb); have n1_ := zb.mk (hbox); have n2_ := zb.mk ((by rw [hg]; exact (zq (by repeat (first | (with_reducible first | exact HB.out | apply zj | apply zf | apply zi) | exact HB.out))) : w.heap.size ≤ gb103)); have n3_ := n2_; clear HB; have HB := n0_; have BK103 := n1_; have GW103 := n2_; have GE103 := n3_; clear n0_ n1_ n2_ n3_; clear hb hbox hg) | ((with_reducible refine zy (N := 3) rfl ?_); refine zca ?hg (N := 3) ?hd (cs := #[.int .i16 a1_0, .int .i16 a1_1, .int .i16 a1_2, .int .i16 a1_3]) (t := 27) ?hr ?_; (case hd => rfl); (case hg => rfl); (case hr => first | (go_simp; done) | (go_simp; rfl)); intro gb104 hg w4 hbox hb; have n0_ := zb.mk (zr (by (with_reducible repeat (first | refine zg ?_ _ | refine zh ?_ | refine ze ?_ _)); exact BK103.out) hb); have n1_ := zb.mk (zm (by repeat (first | (with_reducible first | exact HB.out | apply zj | apply zf | apply zi | refine zk ?_ GE103.out) | exact HB.out)) hb); have n2_ := zb.mk (hbox); have n3_ := zb.mk ((by rw [hg]; exact (zq (by repeat (first | (with_reducible first | exact HB.out | apply zj | apply zf | apply zi | refine zk ?_ GE103.out) | exact HB.out))) : w.heap.size ≤ gb104)); have n4_ := n3_; have n5_ := zb.mk ((by rw [hg]; exact Nat.ne_of_lt (zha (by (with_reducible repeat (first | refine zg ?_ _ | refine zh ?_ | refine ze ?_ _)); exact BK103.out)) : gb103 ≠ gb104)); have n6_ := zb.mk n5_.out.symm; clear BK103; clear HB; have BK103 := n0_; have HB := n1_; have BK104 := n2_; have GW104 := n3_; have GE104 := n4_; have NB103_104 := n5_; have NB104_103 := n6_; clear n0_ n1_ n2_ n3_ n4_ n5_ n6_; clear hb hbox hg; have hnb5 := NB104_103.out; have hnc5 := NB103_104.out; have hcz6_0 : w4.cell? ⟨gb104, 0, none⟩ = some (.int .i16 a1_0) := (za BK104.out 0).trans rfl; have hcz6_1 : w4.cell? ⟨gb104, 1, none⟩ = some (.int .i16 a1_1) := (za BK104.out 1).trans rfl; have hcz6_2 : w4.cell? ⟨gb104, 2, none⟩ = some (.int .i16 a1_2) := (za BK104.out 2).trans rfl; have hcz6_3 : w4.cell? ⟨gb104, 3, none⟩ = some (.int .i16 a1_3) := (za BK104.out 3).trans rfl; have hfz6_0 := zc BK104.out 0; have hfz6_1 := zc BK104.out 1; have hfz6_2 := zc BK104.out 2; have hfz6_3 := zc BK104.out 3))
 go_loopg [9] k (fun kq v9 w' => ∃ (x9_1 : Int), v9 = .int .i64 x9_1 ∧ zb (impl_Puzzle_holds.l0 kq x9_1 l0_0 a0_1 a0_2 a0_3 a0_4 a0_5 a1_0 a1_1 a1_2 a1_3 = some r) ∧ zb (kq ≤ k) ∧ zb (w'.heap[gb103]? = some (.cells #[(.slice A0_0 l0_0.length c0_0), .int .i16 a0_1, .int .i16 a0_2, .int .i16 a0_3, .int .i16 a0_4, .bool a0_5] 29 (0, 0))) ∧ zb (w'.heap[gb104]? = some (.cells #[.int .i16 a1_0, .int .i16 a1_1, .int .i16 a1_2, .int .i16 a1_3] 27 (0, 0))) ∧ zb (Below w.heap.size w w'))
 case atStart => exact ⟨(0), (by first | rfl | (simp; done) | (simp [*]; done)), H', ⟨Nat.le_refl _⟩, ⟨by (with_reducible repeat (first | refine zg ?_ _ | refine zh ?_ | refine ze ?_ _)); exact BK103.out⟩, ⟨by (with_reducible repeat (first | refine zg ?_ _ | refine zh ?_ | refine ze ?_ _)); exact BK104.out⟩, ⟨by repeat (first | (with_reducible first | exact HB.out | apply zj | apply zf | apply zi | refine zk ?_ GE103.out | refine zk ?_ GE104.out) | exact HB.out)⟩⟩
 case round =>
  clear H'
  try clear p2
  try clear c5
  try clear hcz6_0 hcz6_1 hcz6_2 hcz6_3
  try clear hfz6_0 hfz6_1 hfz6_2 hfz6_3
  obtain ⟨x9_1, rfl, HA, HK1, BK103, BK104, HB⟩ := hrel
  cases gk with
  | zero => exact absurd HA.out (by simp [impl_Puzzle_holds.l0])
  | succ k1 =>
   have H := HA.out
   clear HA
   simp only [impl_Puzzle_holds.l0] at H
   by_cases c7 : x9_1 < 4
   ·rw [if_pos c7] at H
    have c7b0 : decide (x9_1 < 4) = true := decide_eq_true c7
    clear c7
    by_cases c8 : 0 ≤ x9_1
    ·rw [if_pos c8] at H
     have c8b0 : decide (0 ≤ x9_1) = true := decide_eq_true c8
     clear c8
     by_cases c9 : x9_1 < (l0_0.length : Int)
     ·rw [if_pos c9] at H
      have c9b0 : decide (x9_1 < (l0_0.length : Int)) = true := decide_eq_true c9
      clear c9
      by_cases c10 : (rd [a1_0, a1_1, a1_2, a1_3] x9_1) < 0
      ·rw [if_pos c10] at H
       have c10b0 : decide ((rd [a1_0, a1_1, a1_2, a1_3] x9_1) < 0) = true := decide_eq_true c10
       clear c10
       obtain rfl := Option.some.inj H
       have hx11_0 : ∀ W_ : World, (Instr.index 27 (.agg #[.int .i16 a1_0, .int .i16 a1_1, .int .i16 a1_2, .int .i16 a1_3]) (.int .i64 x9_1)).run Try.prog W_ = .ok (.int .i16 (rd [a1_0, a1_1, a1_2, a1_3] x9_1)) W_ := by intro W_; rcases (show (x9_1 : Int) = 0 ∨ (x9_1 : Int) = 1 ∨ (x9_1 : Int) = 2 ∨ (x9_1 : Int) = 3 by have hp_ : 0 ≤ (x9_1 : Int) := of_decide_eq_true (by first | (with_reducible assumption) | assumption); have hq_ : x9_1 < (4 : Int) := of_decide_eq_true (by first | (with_reducible assumption) | assumption); omega) with h_ | h_ | h_ | h_ <;> rw [h_] <;> kernel_rfl
       have hnb12 := NB103_104.out
       have hnc12 := NB104_103.out
       have hcz13_0 : wr.cell? ⟨gb103, 0, none⟩ = some (.slice A0_0 l0_0.length c0_0) := (za BK103.out 0).trans rfl
       have hcz13_1 : wr.cell? ⟨gb103, 1, none⟩ = some (.int .i16 a0_1) := (za BK103.out 1).trans rfl
       have hcz13_2 : wr.cell? ⟨gb103, 2, none⟩ = some (.int .i16 a0_2) := (za BK103.out 2).trans rfl
       have hcz13_3 : wr.cell? ⟨gb103, 3, none⟩ = some (.int .i16 a0_3) := (za BK103.out 3).trans rfl
       have hcz13_4 : wr.cell? ⟨gb103, 4, none⟩ = some (.int .i16 a0_4) := (za BK103.out 4).trans rfl
       have hcz13_5 : wr.cell? ⟨gb103, 5, none⟩ = some (.bool a0_5) := (za BK103.out 5).trans rfl
       have hfz13_0 := zc BK103.out 0
       have hfz13_1 := zc BK103.out 1
       have hfz13_2 := zc BK103.out 2
       have hfz13_3 := zc BK103.out 3
       have hfz13_4 := zc BK103.out 4
       have hfz13_5 := zc BK103.out 5
       have p106 : 0 ≤ (x9_1 : Int) := of_decide_eq_true (by first | (with_reducible assumption) | assumption)
       have q106 : x9_1 < (l0_0.length : Int) := of_decide_eq_true (by first | (with_reducible assumption) | assumption)
       obtain ⟨ad106, e106, hx106_0⟩ := Kd.at_int HR0_0.out x9_1 p106 q106
       cases e106
       replace hx106_0 := (HB.out.cell (World.block_lt_of_cell? w _ hx106_0)).trans hx106_0
       replace p106 := eq_true p106
       replace q106 := eq_true q106
       go_wp2
       go_ret
       exact ⟨by first | rfl | (simp [zn, zo] <;> rfl) | (simp [*, zn, zo] <;> rfl), by repeat (first | (with_reducible first | exact HB.out | apply zj | apply zf | apply zi | refine zk ?_ GE103.out | refine zk ?_ GE104.out) | exact HB.out)⟩
      rw [if_neg c10] at H
      have c10b0 : decide ((rd [a1_0, a1_1, a1_2, a1_3] x9_1) < 0) = false := decide_eq_false c10
      clear c10
      by_cases c14 : (rd [a1_0, a1_1, a1_2, a1_3] x9_1) > (rd l0_0 x9_1)
      ·rw [if_pos c14] at H
       have c14b0 : decide ((rd l0_0 x9_1) < (rd [a1_0, a1_1, a1_2, a1_3] x9_1)) = true := decide_eq_true c14
       clear c14
       obtain rfl := Option.some.inj H
       have hx15_0 : ∀ W_ : World, (Instr.index 27 (.agg #[.int .i16 a1_0, .int .i16 a1_1, .int .i16 a1_2, .int .i16 a1_3]) (.int .i64 x9_1)).run Try.prog W_ = .ok (.int .i16 (rd [a1_0, a1_1, a1_2, a1_3] x9_1)) W_ := by intro W_; rcases (show (x9_1 : Int) = 0 ∨ (x9_1 : Int) = 1 ∨ (x9_1 : Int) = 2 ∨ (x9_1 : Int) = 3 by have hp_ : 0 ≤ (x9_1 : Int) := of_decide_eq_true (by first | (with_reducible assumption) | assumption); have hq_ : x9_1 < (4 : Int) := of_decide_eq_true (by first | (with_reducible assumption) | assumption); omega) with h_ | h_ | h_ | h_ <;> rw [h_] <;> kernel_rfl
       have hnb16 := NB103_104.out
       have hnc16 := NB104_103.out
       have hcz17_0 : wr.cell? ⟨gb103, 0, none⟩ = some (.slice A0_0 l0_0.length c0_0) := (za BK103.out 0).trans rfl
       have hcz17_1 : wr.cell? ⟨gb103, 1, none⟩ = some (.int .i16 a0_1) := (za BK103.out 1).trans rfl
       have hcz17_2 : wr.cell? ⟨gb103, 2, none⟩ = some (.int .i16 a0_2) := (za BK103.out 2).trans rfl
       have hcz17_3 : wr.cell? ⟨gb103, 3, none⟩ = some (.int .i16 a0_3) := (za BK103.out 3).trans rfl
       have hcz17_4 : wr.cell? ⟨gb103, 4, none⟩ = some (.int .i16 a0_4) := (za BK103.out 4).trans rfl
       have hcz17_5 : wr.cell? ⟨gb103, 5, none⟩ = some (.bool a0_5) := (za BK103.out 5).trans rfl
       have hfz17_0 := zc BK103.out 0
       have hfz17_1 := zc BK103.out 1
       have hfz17_2 := zc BK103.out 2
       have hfz17_3 := zc BK103.out 3
       have hfz17_4 := zc BK103.out 4
       have hfz17_5 := zc BK103.out 5
       have p106 : 0 ≤ (x9_1 : Int) := of_decide_eq_true (by first | (with_reducible assumption) | assumption)
       have q106 : x9_1 < (l0_0.length : Int) := of_decide_eq_true (by first | (with_reducible assumption) | assumption)
       obtain ⟨ad106, e106, hx106_0⟩ := Kd.at_int HR0_0.out x9_1 p106 q106
       cases e106
       replace hx106_0 := (HB.out.cell (World.block_lt_of_cell? w _ hx106_0)).trans hx106_0
       replace p106 := eq_true p106
       replace q106 := eq_true q106
       go_wp2
       go_ret
       exact ⟨by first | rfl | (simp [zn, zo] <;> rfl) | (simp [*, zn, zo] <;> rfl), by repeat (first | (with_reducible first | exact HB.out | apply zj | apply zf | apply zi | refine zk ?_ GE103.out | refine zk ?_ GE104.out) | exact HB.out)⟩
      rw [if_neg c14] at H
      have c14b0 : decide ((rd l0_0 x9_1) < (rd [a1_0, a1_1, a1_2, a1_3] x9_1)) = false := decide_eq_false c14
      clear c14
      have H' := zb.mk H
      clear H
      have hx18_0 : ∀ W_ : World, (Instr.index 27 (.agg #[.int .i16 a1_0, .int .i16 a1_1, .int .i16 a1_2, .int .i16 a1_3]) (.int .i64 x9_1)).run Try.prog W_ = .ok (.int .i16 (rd [a1_0, a1_1, a1_2, a1_3] x9_1)) W_ := by intro W_; rcases (show (x9_1 : Int) = 0 ∨ (x9_1 : Int) = 1 ∨ (x9_1 : Int) = 2 ∨ (x9_1 : Int) = 3 by have hp_ : 0 ≤ (x9_1 : Int) := of_decide_eq_true (by first | (with_reducible assumption) | assumption); have hq_ : x9_1 < (4 : Int) := of_decide_eq_true (by first | (with_reducible assumption) | assumption); omega) with h_ | h_ | h_ | h_ <;> rw [h_] <;> kernel_rfl
      have hnb19 := NB103_104.out
      have hnc19 := NB104_103.out
      have hcz20_0 : wr.cell? ⟨gb103, 0, none⟩ = some (.slice A0_0 l0_0.length c0_0) := (za BK103.out 0).trans rfl
      have hcz20_1 : wr.cell? ⟨gb103, 1, none⟩ = some (.int .i16 a0_1) := (za BK103.out 1).trans rfl
      have hcz20_2 : wr.cell? ⟨gb103, 2, none⟩ = some (.int .i16 a0_2) := (za BK103.out 2).trans rfl
      have hcz20_3 : wr.cell? ⟨gb103, 3, none⟩ = some (.int .i16 a0_3) := (za BK103.out 3).trans rfl
      have hcz20_4 : wr.cell? ⟨gb103, 4, none⟩ = some (.int .i16 a0_4) := (za BK103.out 4).trans rfl
      have hcz20_5 : wr.cell? ⟨gb103, 5, none⟩ = some (.bool a0_5) := (za BK103.out 5).trans rfl
      have hfz20_0 := zc BK103.out 0
      have hfz20_1 := zc BK103.out 1
      have hfz20_2 := zc BK103.out 2
      have hfz20_3 := zc BK103.out 3
      have hfz20_4 := zc BK103.out 4
      have hfz20_5 := zc BK103.out 5
      have p106 : 0 ≤ (x9_1 : Int) := of_decide_eq_true (by first | (with_reducible assumption) | assumption)
      have q106 : x9_1 < (l0_0.length : Int) := of_decide_eq_true (by first | (with_reducible assumption) | assumption)
      obtain ⟨ad106, e106, hx106_0⟩ := Kd.at_int HR0_0.out x9_1 p106 q106
      cases e106
      replace hx106_0 := (HB.out.cell (World.block_lt_of_cell? w _ hx106_0)).trans hx106_0
      replace p106 := eq_true p106
      replace q106 := eq_true q106
      go_wp2
      go_roundg k1
      case measure => have := HK1.out; omega
      case rel => exact ⟨(wrap64 (x9_1 + 1)), (by first | rfl | (simp; done) | (simp [*]; done)), H', ⟨by have := HK1.out; omega⟩, ⟨by (with_reducible repeat (first | refine zg ?_ _ | refine zh ?_ | refine ze ?_ _)); exact BK103.out⟩, ⟨by (with_reducible repeat (first | refine zg ?_ _ | refine zh ?_ | refine ze ?_ _)); exact BK104.out⟩, ⟨by repeat (first | (with_reducible first | exact HB.out | apply zj | apply zf | apply zi | refine zk ?_ GE103.out | refine zk ?_ GE104.out) | exact HB.out)⟩⟩
     rw [if_neg c9] at H
     have c9b0 : decide (x9_1 < (l0_0.length : Int)) = false := decide_eq_false c9
     clear c9
     by_cases c21 : (rd [a1_0, a1_1, a1_2, a1_3] x9_1) < 0
     ·rw [if_pos c21] at H
      have c21b0 : decide ((rd [a1_0, a1_1, a1_2, a1_3] x9_1) < 0) = true := decide_eq_true c21
      clear c21
      obtain rfl := Option.some.inj H
      have hx22_0 : ∀ W_ : World, (Instr.index 27 (.agg #[.int .i16 a1_0, .int .i16 a1_1, .int .i16 a1_2, .int .i16 a1_3]) (.int .i64 x9_1)).run Try.prog W_ = .ok (.int .i16 (rd [a1_0, a1_1, a1_2, a1_3] x9_1)) W_ := by intro W_; rcases (show (x9_1 : Int) = 0 ∨ (x9_1 : Int) = 1 ∨ (x9_1 : Int) = 2 ∨ (x9_1 : Int) = 3 by have hp_ : 0 ≤ (x9_1 : Int) := of_decide_eq_true (by first | (with_reducible assumption) | assumption); have hq_ : x9_1 < (4 : Int) := of_decide_eq_true (by first | (with_reducible assumption) | assumption); omega) with h_ | h_ | h_ | h_ <;> rw [h_] <;> kernel_rfl
      have hnb23 := NB103_104.out
      have hnc23 := NB104_103.out
      have hcz24_0 : wr.cell? ⟨gb103, 0, none⟩ = some (.slice A0_0 l0_0.length c0_0) := (za BK103.out 0).trans rfl
      have hcz24_1 : wr.cell? ⟨gb103, 1, none⟩ = some (.int .i16 a0_1) := (za BK103.out 1).trans rfl
      have hcz24_2 : wr.cell? ⟨gb103, 2, none⟩ = some (.int .i16 a0_2) := (za BK103.out 2).trans rfl
      have hcz24_3 : wr.cell? ⟨gb103, 3, none⟩ = some (.int .i16 a0_3) := (za BK103.out 3).trans rfl
      have hcz24_4 : wr.cell? ⟨gb103, 4, none⟩ = some (.int .i16 a0_4) := (za BK103.out 4).trans rfl
      have hcz24_5 : wr.cell? ⟨gb103, 5, none⟩ = some (.bool a0_5) := (za BK103.out 5).trans rfl
      have hfz24_0 := zc BK103.out 0
      have hfz24_1 := zc BK103.out 1
      have hfz24_2 := zc BK103.out 2
      have hfz24_3 := zc BK103.out 3
      have hfz24_4 := zc BK103.out 4
      have hfz24_5 := zc BK103.out 5
      go_wp2
      go_ret
      exact ⟨by first | rfl | (simp [zn, zo] <;> rfl) | (simp [*, zn, zo] <;> rfl), by repeat (first | (with_reducible first | exact HB.out | apply zj | apply zf | apply zi | refine zk ?_ GE103.out | refine zk ?_ GE104.out) | exact HB.out)⟩
     rw [if_neg c21] at H
     have c21b0 : decide ((rd [a1_0, a1_1, a1_2, a1_3] x9_1) < 0) = false := decide_eq_false c21
     clear c21
     by_cases c25 : (rd [a1_0, a1_1, a1_2, a1_3] x9_1) > 0
     ·rw [if_pos c25] at H
      have c25b0 : decide (0 < (rd [a1_0, a1_1, a1_2, a1_3] x9_1)) = true := decide_eq_true c25
      clear c25
      obtain rfl := Option.some.inj H
      have hx26_0 : ∀ W_ : World, (Instr.index 27 (.agg #[.int .i16 a1_0, .int .i16 a1_1, .int .i16 a1_2, .int .i16 a1_3]) (.int .i64 x9_1)).run Try.prog W_ = .ok (.int .i16 (rd [a1_0, a1_1, a1_2, a1_3] x9_1)) W_ := by intro W_; rcases (show (x9_1 : Int) = 0 ∨ (x9_1 : Int) = 1 ∨ (x9_1 : Int) = 2 ∨ (x9_1 : Int) = 3 by have hp_ : 0 ≤ (x9_1 : Int) := of_decide_eq_true (by first | (with_reducible assumption) | assumption); have hq_ : x9_1 < (4 : Int) := of_decide_eq_true (by first | (with_reducible assumption) | assumption); omega) with h_ | h_ | h_ | h_ <;> rw [h_] <;> kernel_rfl
      have hnb27 := NB103_104.out
      have hnc27 := NB104_103.out
      have hcz28_0 : wr.cell? ⟨gb103, 0, none⟩ = some (.slice A0_0 l0_0.length c0_0) := (za BK103.out 0).trans rfl
      have hcz28_1 : wr.cell? ⟨gb103, 1, none⟩ = some (.int .i16 a0_1) := (za BK103.out 1).trans rfl
      have hcz28_2 : wr.cell? ⟨gb103, 2, none⟩ = some (.int .i16 a0_2) := (za BK103.out 2).trans rfl
      have hcz28_3 : wr.cell? ⟨gb103, 3, none⟩ = some (.int .i16 a0_3) := (za BK103.out 3).trans rfl
      have hcz28_4 : wr.cell? ⟨gb103, 4, none⟩ = some (.int .i16 a0_4) := (za BK103.out 4).trans rfl
      have hcz28_5 : wr.cell? ⟨gb103, 5, none⟩ = some (.bool a0_5) := (za BK103.out 5).trans rfl
      have hfz28_0 := zc BK103.out 0
      have hfz28_1 := zc BK103.out 1
      have hfz28_2 := zc BK103.out 2
      have hfz28_3 := zc BK103.out 3
      have hfz28_4 := zc BK103.out 4
      have hfz28_5 := zc BK103.out 5
      go_wp2
      go_ret
      exact ⟨by first | rfl | (simp [zn, zo] <;> rfl) | (simp [*, zn, zo] <;> rfl), by repeat (first | (with_reducible first | exact HB.out | apply zj | apply zf | apply zi | refine zk ?_ GE103.out | refine zk ?_ GE104.out) | exact HB.out)⟩
     rw [if_neg c25] at H
     have c25b0 : decide (0 < (rd [a1_0, a1_1, a1_2, a1_3] x9_1)) = false := decide_eq_false c25
     clear c25
     have H' := zb.mk H
     clear H
     have hx29_0 : ∀ W_ : World, (Instr.index 27 (.agg #[.int .i16 a1_0, .int .i16 a1_1, .int .i16 a1_2, .int .i16 a1_3]) (.int .i64 x9_1)).run Try.prog W_ = .ok (.int .i16 (rd [a1_0, a1_1, a1_2, a1_3] x9_1)) W_ := by intro W_; rcases (show (x9_1 : Int) = 0 ∨ (x9_1 : Int) = 1 ∨ (x9_1 : Int) = 2 ∨ (x9_1 : Int) = 3 by have hp_ : 0 ≤ (x9_1 : Int) := of_decide_eq_true (by first | (with_reducible assumption) | assumption); have hq_ : x9_1 < (4 : Int) := of_decide_eq_true (by first | (with_reducible assumption) | assumption); omega) with h_ | h_ | h_ | h_ <;> rw [h_] <;> kernel_rfl
     have hnb30 := NB103_104.out
     have hnc30 := NB104_103.out
     have hcz31_0 : wr.cell? ⟨gb103, 0, none⟩ = some (.slice A0_0 l0_0.length c0_0) := (za BK103.out 0).trans rfl
     have hcz31_1 : wr.cell? ⟨gb103, 1, none⟩ = some (.int .i16 a0_1) := (za BK103.out 1).trans rfl
     have hcz31_2 : wr.cell? ⟨gb103, 2, none⟩ = some (.int .i16 a0_2) := (za BK103.out 2).trans rfl
     have hcz31_3 : wr.cell? ⟨gb103, 3, none⟩ = some (.int .i16 a0_3) := (za BK103.out 3).trans rfl
     have hcz31_4 : wr.cell? ⟨gb103, 4, none⟩ = some (.int .i16 a0_4) := (za BK103.out 4).trans rfl
     have hcz31_5 : wr.cell? ⟨gb103, 5, none⟩ = some (.bool a0_5) := (za BK103.out 5).trans rfl
     have hfz31_0 := zc BK103.out 0
     have hfz31_1 := zc BK103.out 1
     have hfz31_2 := zc BK103.out 2
     have hfz31_3 := zc BK103.out 3
     have hfz31_4 := zc BK103.out 4
     have hfz31_5 := zc BK103.out 5
     go_wp2
     go_roundg k1
     case measure => have := HK1.out; omega
     case rel => exact ⟨(wrap64 (x9_1 + 1)), (by first | rfl | (simp; done) | (simp [*]; done)), H', ⟨by have := HK1.out; omega⟩, ⟨by (with_reducible repeat (first | refine zg ?_ _ | refine zh ?_ | refine ze ?_ _)); exact BK103.out⟩, ⟨by (with_reducible repeat (first | refine zg ?_ _ | refine zh ?_ | refine ze ?_ _)); exact BK104.out⟩, ⟨by repeat (first | (with_reducible first | exact HB.out | apply zj | apply zf | apply zi | refine zk ?_ GE103.out | refine zk ?_ GE104.out) | exact HB.out)⟩⟩
    rw [if_neg c8] at H
    exact absurd H (by simp)
   rw [if_neg c7] at H
   have c7b0 : decide (x9_1 < 4) = false := decide_eq_false c7
   clear c7
   obtain rfl := Option.some.inj H
   go_wp2
   go_ret
   exact ⟨by first | rfl | (simp [zn, zo] <;> rfl) | (simp [*, zn, zo] <;> rfl), by repeat (first | (with_reducible first | exact HB.out | apply zj | apply zf | apply zi | refine zk ?_ GE103.out | refine zk ?_ GE104.out) | exact HB.out)⟩

end Go.Proofs.Yteciomagemjjaaa.J
