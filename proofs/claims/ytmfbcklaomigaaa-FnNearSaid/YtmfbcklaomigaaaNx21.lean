-- Written by wip/tools/myprint.py, a program of this session, by way of the kit's print.
import Derived.Test.YtmfbcklaomigaaaNx0
import Derived.Test.YtmfbcklaomigaaaLPrN
namespace Go.Proofs.Ytmfbcklaomigaaa.N
open Go.RowKit Go.Proofs.YtmfbcklaomigaaaW.PrintWords Go.Proofs.YtmfbcklaomigaaaW.PrintLast Go.Proofs.YtmfbcklaomigaaaW.PrintMore
attribute [local go_sem] zqa zpa zwa zxa zla zka zra zta   -- for this text's walks alone
set_option linter.unusedVariables false
set_option linter.unusedSimpArgs false

/-! ### spec_l04Distance: function 83 -/
def spec_l04Distance.l0 : Nat → Int → Int → Int → Int → Int → Int → Int → Int → Int → Int → Option (Int)
 | 0, _, _, _, _, _, _, _, _, _, _ => none
 | k + 1, x5, x6, x369000, x369001, x369002, x369003, x370000, x370001, x370002, x370003 => if x6 < 4 then (if 0 ≤ x6 then (if (rd [x369000, x369001, x369002, x369003] x6) = (rd [x370000, x370001, x370002, x370003] x6) then (spec_l04Distance.l0 k x5 (wrap64 (x6 + 1)) x369000 x369001 x369002 x369003 x370000 x370001 x370002 x370003) else (spec_l04Distance.l0 k (wrap64 (x5 + 1)) (wrap64 (x6 + 1)) x369000 x369001 x369002 x369003 x370000 x370001 x370002 x370003)) else (none)) else (some x5)
def spec_l04Distance.f (k : Nat) (a0_0 : Int) (a0_1 : Int) (a0_2 : Int) (a0_3 : Int) (a1_0 : Int) (a1_1 : Int) (a1_2 : Int) (a1_3 : Int) : Option (Int) := spec_l04Distance.l0 k 0 0 a0_0 a0_1 a0_2 a0_3 a1_0 a1_1 a1_2 a1_3
set_option maxHeartbeats 8000000 in
set_option maxRecDepth 100000 in
theorem spec_l04Distance.calls (k : Nat) (a0_0 : Int) (a0_1 : Int) (a0_2 : Int) (a0_3 : Int) (a1_0 : Int) (a1_1 : Int) (a1_2 : Int) (a1_3 : Int) (r : Int) (w : World) (h : spec_l04Distance.f k a0_0 a0_1 a0_2 a0_3 a1_0 a1_1 a1_2 a1_3 = some r) :
  Calls Try.prog 83 #[.agg #[.int .i8 a0_0, .int .i8 a0_1, .int .i8 a0_2, .int .i8 a0_3], .agg #[.int .i8 a1_0, .int .i8 a1_1, .int .i8 a1_2, .int .i8 a1_3]] w fun e w' => e = .returned (.int .i64 r) ∧ Below w.heap.size w w' := by
 have hu43 := Try.underlying43
 have HB := za.mk (Below.refl w.heap.size w)
 have H : (spec_l04Distance.l0 k 0 0 a0_0 a0_1 a0_2 a0_3 a1_0 a1_1 a1_2 a1_3) = some r := h
 clear h
 have H' := za.mk H
 clear H
 go_enter Try.func83, Try.ntmps83
 go_wp2_with (first | ((with_reducible refine zn (N := 2) rfl ?_); refine bx (N := 2) #[.int .i8 a0_0, .int .i8 a0_1, .int .i8 a0_2, .int .i8 a0_3] 43 rfl ?_; intro gb368 hg w3 hbox hb; have BK368 := za.mk hbox; have GW368 := gB hg; have GE368 := GW368; replace HB := za.mk (ze sB hb); clear hb hbox hg) | ((with_reducible refine zn (N := 3) rfl ?_); refine bx (N := 3) #[.int .i8 a1_0, .int .i8 a1_1, .int .i8 a1_2, .int .i8 a1_3] 43 rfl ?_; intro gb369 hg w4 hbox hb; have BK369 := za.mk hbox; have GW369 := gB hg; have GE369 := GW369; have NB368_369 := nK hg BK368; have NB369_368 := za.mk NB368_369.out.symm; replace BK368 := dK BK368 hb; replace HB := za.mk (ze sB hb); clear hb hbox hg))
 repeat (go_quiet (first | ((with_reducible refine zn (N := 2) rfl ?_); refine bx (N := 2) #[.int .i8 a0_0, .int .i8 a0_1, .int .i8 a0_2, .int .i8 a0_3] 43 rfl ?_; intro gb368 hg w3 hbox hb; have BK368 := za.mk hbox; have GW368 := gB hg; have GE368 := GW368; replace HB := za.mk (ze sB hb); clear hb hbox hg) | ((with_reducible refine zn (N := 3) rfl ?_); refine bx (N := 3) #[.int .i8 a1_0, .int .i8 a1_1, .int .i8 a1_2, .int .i8 a1_3] 43 rfl ?_; intro gb369 hg w4 hbox hb; have BK369 := za.mk hbox; have GW369 := gB hg; have GE369 := GW369; have NB368_369 := nK hg BK368; have NB369_368 := za.mk NB368_369.out.symm; replace BK368 := dK BK368 hb; replace HB := za.mk (ze sB hb); clear hb hbox hg)); try go_wp2_with (first | ((with_reducible refine zn (N := 2) rfl ?_); refine bx (N := 2) #[.int .i8 a0_0, .int .i8 a0_1, .int .i8 a0_2, .int .i8 a0_3] 43 rfl ?_; intro gb368 hg w3 hbox hb; have BK368 := za.mk hbox; have GW368 := gB hg; have GE368 := GW368; replace HB := za.mk (ze sB hb); clear hb hbox hg) | ((with_reducible refine zn (N := 3) rfl ?_); refine bx (N := 3) #[.int .i8 a1_0, .int .i8 a1_1, .int .i8 a1_2, .int .i8 a1_3] 43 rfl ?_; intro gb369 hg w4 hbox hb; have BK369 := za.mk hbox; have GW369 := gB hg; have GE369 := GW369; have NB368_369 := nK hg BK368; have NB369_368 := za.mk NB368_369.out.symm; replace BK368 := dK BK368 hb; replace HB := za.mk (ze sB hb); clear hb hbox hg)))
 go_loopg [5, 6] k (fun kq v5 v6 w' => ∃ (x5_1 : Int) (x6_1 : Int), v5 = .int .i64 x5_1 ∧ v6 = .int .i64 x6_1 ∧ za (spec_l04Distance.l0 kq x5_1 x6_1 a0_0 a0_1 a0_2 a0_3 a1_0 a1_1 a1_2 a1_3 = some r) ∧ za (kq ≤ k) ∧ za (w'.heap[gb368]? = some (.cells #[.int .i8 a0_0, .int .i8 a0_1, .int .i8 a0_2, .int .i8 a0_3] 43 (0, 0))) ∧ za (w'.heap[gb369]? = some (.cells #[.int .i8 a1_0, .int .i8 a1_1, .int .i8 a1_2, .int .i8 a1_3] 43 (0, 0))) ∧ za (Below w.heap.size w w'))
 case atStart => exact ⟨(0), (0), (by first | rfl | (simp; done) | (simp [*]; done)), (by first | rfl | (simp; done) | (simp [*]; done)), H', ⟨Nat.le_refl _⟩, ⟨uK BK368⟩, ⟨uK BK369⟩, ⟨sB⟩⟩
 case round =>
  clear H'
  try clear p2
  obtain ⟨x5_1, x6_1, rfl, rfl, HA, HK1, BK368, BK369, HB⟩ := hrel
  cases gk with
  | zero => exact absurd HA.out (by simp [spec_l04Distance.l0])
  | succ k1 =>
   have H := HA.out
   clear HA
   simp only [spec_l04Distance.l0] at H
   by_cases c5 : x6_1 < 4
   ·rw [if_pos c5] at H
    have c5b0 : decide (x6_1 < 4) = true := decide_eq_true c5
    clear c5
    by_cases c6 : 0 ≤ x6_1
    ·rw [if_pos c6] at H
     have c6b0 : decide (0 ≤ x6_1) = true := decide_eq_true c6
     clear c6
     by_cases c7 : (rd [a0_0, a0_1, a0_2, a0_3] x6_1) = (rd [a1_0, a1_1, a1_2, a1_3] x6_1)
     ·rw [if_pos c7] at H
      have c7b0 : ((rd [a0_0, a0_1, a0_2, a0_3] x6_1) == (rd [a1_0, a1_1, a1_2, a1_3] x6_1)) = true := beq_iff_eq.mpr c7
      have c7b1 : ((rd [a0_0, a0_1, a0_2, a0_3] x6_1) != (rd [a1_0, a1_1, a1_2, a1_3] x6_1)) = false := bne_eq_false_iff_eq.mpr c7
      clear c7
      have H' := za.mk H
      clear H
      have p8 : 0 ≤ (x6_1 : Int) := of_decide_eq_true (by first | (with_reducible assumption) | assumption)
      have q8 : x6_1 < (4 : Int) := of_decide_eq_true (by first | (with_reducible assumption) | assumption)
      replace p8 := eq_true p8
      replace q8 := eq_true q8
      have hnb9 := NB368_369.out
      have hnc9 := NB369_368.out
      obtain ⟨hcz10_0, hcz10_1, hcz10_2, hcz10_3⟩ := xc4 BK368
      obtain ⟨hfz10_0, hfz10_1, hfz10_2, hfz10_3⟩ := xf4 BK368
      have hx11_0 : wr.cell? ⟨gb368, (x6_1).toNat, none⟩ = some (.int .i8 (rd [a0_0, a0_1, a0_2, a0_3] x6_1)) := (zh BK368.out _).trans (by rcases (show (x6_1 : Int) = 0 ∨ (x6_1 : Int) = 1 ∨ (x6_1 : Int) = 2 ∨ (x6_1 : Int) = 3 by have hp_ : 0 ≤ (x6_1 : Int) := of_decide_eq_true (by first | (with_reducible assumption) | assumption); have hq_ : x6_1 < (4 : Int) := of_decide_eq_true (by first | (with_reducible assumption) | assumption); omega) with h_ | h_ | h_ | h_ <;> rw [h_] <;> rfl)
      have p12 : 0 ≤ (x6_1 : Int) := of_decide_eq_true (by first | (with_reducible assumption) | assumption)
      have q12 : x6_1 < (4 : Int) := of_decide_eq_true (by first | (with_reducible assumption) | assumption)
      replace p12 := eq_true p12
      replace q12 := eq_true q12
      obtain ⟨hcz13_0, hcz13_1, hcz13_2, hcz13_3⟩ := xc4 BK369
      obtain ⟨hfz13_0, hfz13_1, hfz13_2, hfz13_3⟩ := xf4 BK369
      have hx14_0 : wr.cell? ⟨gb369, (x6_1).toNat, none⟩ = some (.int .i8 (rd [a1_0, a1_1, a1_2, a1_3] x6_1)) := (zh BK369.out _).trans (by rcases (show (x6_1 : Int) = 0 ∨ (x6_1 : Int) = 1 ∨ (x6_1 : Int) = 2 ∨ (x6_1 : Int) = 3 by have hp_ : 0 ≤ (x6_1 : Int) := of_decide_eq_true (by first | (with_reducible assumption) | assumption); have hq_ : x6_1 < (4 : Int) := of_decide_eq_true (by first | (with_reducible assumption) | assumption); omega) with h_ | h_ | h_ | h_ <;> rw [h_] <;> rfl)
      go_wp2
      repeat (go_quiet (fail); try go_wp2)
      go_roundg k1
      case measure => have := HK1.out; omega
      case rel => exact ⟨(x5_1), (wrap64 (x6_1 + 1)), (by first | rfl | (simp; done) | (simp [*]; done)), (by first | rfl | (simp; done) | (simp [*]; done)), H', ⟨by have := HK1.out; omega⟩, ⟨uK BK368⟩, ⟨uK BK369⟩, ⟨sB⟩⟩
     rw [if_neg c7] at H
     have c7b0 : ((rd [a0_0, a0_1, a0_2, a0_3] x6_1) == (rd [a1_0, a1_1, a1_2, a1_3] x6_1)) = false := beq_eq_false_iff_ne.mpr c7
     have c7b1 : ((rd [a0_0, a0_1, a0_2, a0_3] x6_1) != (rd [a1_0, a1_1, a1_2, a1_3] x6_1)) = true := bne_iff_ne.mpr c7
     have H' := za.mk H
     clear H
     have p15 : 0 ≤ (x6_1 : Int) := of_decide_eq_true (by first | (with_reducible assumption) | assumption)
     have q15 : x6_1 < (4 : Int) := of_decide_eq_true (by first | (with_reducible assumption) | assumption)
     replace p15 := eq_true p15
     replace q15 := eq_true q15
     have hnb16 := NB368_369.out
     have hnc16 := NB369_368.out
     obtain ⟨hcz17_0, hcz17_1, hcz17_2, hcz17_3⟩ := xc4 BK368
     obtain ⟨hfz17_0, hfz17_1, hfz17_2, hfz17_3⟩ := xf4 BK368
     have hx18_0 : wr.cell? ⟨gb368, (x6_1).toNat, none⟩ = some (.int .i8 (rd [a0_0, a0_1, a0_2, a0_3] x6_1)) := (zh BK368.out _).trans (by rcases (show (x6_1 : Int) = 0 ∨ (x6_1 : Int) = 1 ∨ (x6_1 : Int) = 2 ∨ (x6_1 : Int) = 3 by have hp_ : 0 ≤ (x6_1 : Int) := of_decide_eq_true (by first | (with_reducible assumption) | assumption); have hq_ : x6_1 < (4 : Int) := of_decide_eq_true (by first | (with_reducible assumption) | assumption); omega) with h_ | h_ | h_ | h_ <;> rw [h_] <;> rfl)
     have p19 : 0 ≤ (x6_1 : Int) := of_decide_eq_true (by first | (with_reducible assumption) | assumption)
     have q19 : x6_1 < (4 : Int) := of_decide_eq_true (by first | (with_reducible assumption) | assumption)
     replace p19 := eq_true p19
     replace q19 := eq_true q19
     obtain ⟨hcz20_0, hcz20_1, hcz20_2, hcz20_3⟩ := xc4 BK369
     obtain ⟨hfz20_0, hfz20_1, hfz20_2, hfz20_3⟩ := xf4 BK369
     have hx21_0 : wr.cell? ⟨gb369, (x6_1).toNat, none⟩ = some (.int .i8 (rd [a1_0, a1_1, a1_2, a1_3] x6_1)) := (zh BK369.out _).trans (by rcases (show (x6_1 : Int) = 0 ∨ (x6_1 : Int) = 1 ∨ (x6_1 : Int) = 2 ∨ (x6_1 : Int) = 3 by have hp_ : 0 ≤ (x6_1 : Int) := of_decide_eq_true (by first | (with_reducible assumption) | assumption); have hq_ : x6_1 < (4 : Int) := of_decide_eq_true (by first | (with_reducible assumption) | assumption); omega) with h_ | h_ | h_ | h_ <;> rw [h_] <;> rfl)
     go_wp2
     repeat (go_quiet (fail); try go_wp2)
     go_roundg k1
     case measure => have := HK1.out; omega
     case rel => exact ⟨(wrap64 (x5_1 + 1)), (wrap64 (x6_1 + 1)), (by first | rfl | (simp; done) | (simp [*]; done)), (by first | rfl | (simp; done) | (simp [*]; done)), H', ⟨by have := HK1.out; omega⟩, ⟨uK BK368⟩, ⟨uK BK369⟩, ⟨sB⟩⟩
    rw [if_neg c6] at H
    exact absurd H (by simp)
   rw [if_neg c5] at H
   have c5b0 : decide (x6_1 < 4) = false := decide_eq_false c5
   clear c5
   obtain rfl := Option.some.inj H
   go_wp2
   repeat (go_quiet (fail); try go_wp2)
   go_ret
   exact ⟨by first | rfl | (simp [zk, zj] <;> rfl) | (simp [*, zk, zj] <;> rfl), sB⟩

end Go.Proofs.Ytmfbcklaomigaaa.N
