-- Written by wip/tools/myprint.py, a program of this session, by way of the kit's print.
import Derived.Test.YtmfbcklaomigaaaDoorDx0
import Derived.Test.YtmfbcklaomigaaaDoorDx7
namespace Go.Proofs.YtmfbcklaomigaaaDoor.D
open Go.RowKit Go.Proofs.YtmfbcklaomigaaaDoorW.PrintWords Go.Proofs.YtmfbcklaomigaaaDoorW.PrintLast Go.Proofs.YtmfbcklaomigaaaDoorW.PrintMore
attribute [local go_sem] max2_int min2_int max_two min_two max_three min_three max_four min_four   -- for this text's walks alone
set_option linter.unusedVariables false
set_option linter.unusedSimpArgs false

/-! ### spec_l04Word: function 72 -/
def spec_l04Word.l0 : Nat → Int → Int → Int → Int → Int → Int → Option (Bool)
 | 0, _, _, _, _, _, _ => none
 | k + 1, x0, x5, x183000, x183001, x183002, x183003 => if x5 < 4 then (if 0 ≤ x5 then (if (rd [x183000, x183001, x183002, x183003] x5) < (-1) then (some false) else (if (rd [x183000, x183001, x183002, x183003] x5) > 1 then (some false) else (if x5 ≥ x0 then (if (rd [x183000, x183001, x183002, x183003] x5) = 0 then (spec_l04Word.l0 k x0 (wrap64 (x5 + 1)) x183000 x183001 x183002 x183003) else (some false)) else (spec_l04Word.l0 k x0 (wrap64 (x5 + 1)) x183000 x183001 x183002 x183003)))) else (none)) else ((spec_l04Letters.f x0).bind fun t189 => (some t189))
def spec_l04Word.f (k : Nat) (a0 : Int) (a1_0 : Int) (a1_1 : Int) (a1_2 : Int) (a1_3 : Int) : Option (Bool) := spec_l04Word.l0 k a0 0 a1_0 a1_1 a1_2 a1_3
theorem spec_l04Word.mono_l : ∀ k, (∀ y0 y1 y2 y3 y4 y5, LeO (spec_l04Word.l0 k y0 y1 y2 y3 y4 y5) (spec_l04Word.l0 (k + 1) y0 y1 y2 y3 y4 y5))
 | 0 => fun _ _ _ _ _ _ r h => by simp [spec_l04Word.l0] at h
 | k + 1 => by
  have ih0 := spec_l04Word.mono_l k
  ·intro y0 y1 y2 y3 y4 y5
   unfold spec_l04Word.l0
   repeat' first
   | (with_reducible exact ih0 _ _ _ _ _ _)
   | (with_reducible exact LeO.refl _)
   | (with_reducible exact LeO.none _)
   | (with_reducible refine LeO.ite ?_ ?_)
   | (with_reducible refine LeO.bind ?_ (fun _ => ?_))
   | exact ih0 _ _ _ _ _ _
   | exact LeO.none _
   | refine LeO.ite ?_ ?_
   | refine LeO.bind ?_ (fun _ => ?_)
theorem spec_l04Word.mono : ∀ a0 a1 a2 a3 a4 k, LeO (spec_l04Word.f k a0 a1 a2 a3 a4) (spec_l04Word.f (k + 1) a0 a1 a2 a3 a4) := by
 intro a0 a1 a2 a3 a4 k
 have ih0 := spec_l04Word.mono_l k
 unfold spec_l04Word.f
 repeat' first
   | (with_reducible exact ih0 _ _ _ _ _ _)
   | (with_reducible exact LeO.refl _)
   | (with_reducible exact LeO.none _)
   | (with_reducible refine LeO.ite ?_ ?_)
   | (with_reducible refine LeO.bind ?_ (fun _ => ?_))
   | exact ih0 _ _ _ _ _ _
   | exact LeO.none _
   | refine LeO.ite ?_ ?_
   | refine LeO.bind ?_ (fun _ => ?_)
set_option maxHeartbeats 8000000 in
set_option maxRecDepth 100000 in
theorem spec_l04Word.calls (k : Nat) (a0 : Int) (a1_0 : Int) (a1_1 : Int) (a1_2 : Int) (a1_3 : Int) (r : Bool) (w : World) (h : spec_l04Word.f k a0 a1_0 a1_1 a1_2 a1_3 = some r) :
  Calls Tryd.prog 72 #[.int .i64 a0, .agg #[.int .i8 a1_0, .int .i8 a1_1, .int .i8 a1_2, .int .i8 a1_3]] w fun e w' => e = .returned (.bool r) ∧ Below w.heap.size w w' := by
 have hu35 := Tryd.underlying35
 have HB := Aside0.mk (Below.refl w.heap.size w)
 have H : (spec_l04Word.l0 k a0 0 a1_0 a1_1 a1_2 a1_3) = some r := h
 clear h
 have H' := Aside0.mk H
 clear H
 go_enter Tryd.func72, Tryd.ntmps72
 go_wp2_with (first | ((with_reducible refine gate_dst (N := 3) rfl ?_); refine box_event ?hg (N := 3) ?hd (cs := #[.int .i8 a1_0, .int .i8 a1_1, .int .i8 a1_2, .int .i8 a1_3]) (t := 35) ?hr ?_; (case hd => rfl); (case hg => rfl); (case hr => first | (go_simp; done) | (go_simp; rfl)); intro gb182 hg w3 hbox hb; have n0_ := Aside0.mk (below_step (by repeat (first | (with_reducible first | exact HB.out | apply below_alloc | apply pw_below_drewN | apply below_drew1) | exact HB.out)) hb); have n1_ := Aside0.mk (hbox); have n2_ := Aside0.mk ((by rw [hg]; exact (below_size (by repeat (first | (with_reducible first | exact HB.out | apply below_alloc | apply pw_below_drewN | apply below_drew1) | exact HB.out))) : w.heap.size ≤ gb182)); have n3_ := Aside0.mk ((by rw [hg]; exact (below_size (by repeat (first | (with_reducible first | exact HB.out | apply below_alloc | apply pw_below_drewN | apply below_drew1) | exact HB.out))) : w.heap.size ≤ gb182)); clear HB; have HB := n0_; have BK182 := n1_; have GW182 := n2_; have GE182 := n3_; clear n0_ n1_ n2_ n3_; clear hb hbox hg))
 go_loopg [5] k (fun kq v5 w' => ∃ (x5_1 : Int), v5 = .int .i64 x5_1 ∧ Aside0 (spec_l04Word.l0 kq a0 x5_1 a1_0 a1_1 a1_2 a1_3 = some r) ∧ Aside0 (kq ≤ k) ∧ Aside0 (w'.heap[gb182]? = some (.cells #[.int .i8 a1_0, .int .i8 a1_1, .int .i8 a1_2, .int .i8 a1_3] 35 (0, 0))) ∧ Aside0 (Below w.heap.size w w'))
 case atStart => exact ⟨(0), (by first | rfl | (simp; done) | (simp [*]; done)), H', ⟨Nat.le_refl _⟩, ⟨by (with_reducible repeat (first | refine blk_drewN ?_ _ | refine blk_drew ?_ | refine blk_alloc ?_ _)); exact BK182.out⟩, ⟨by repeat (first | (with_reducible first | exact HB.out | apply below_alloc | apply pw_below_drewN | apply below_drew1 | refine below_set ?_ GE182.out) | exact HB.out)⟩⟩
 case round =>
  clear H'
  try clear p2
  obtain ⟨x5_1, rfl, HA, HK1, BK182, HB⟩ := hrel
  cases gk with
  | zero => exact absurd HA.out (by simp [spec_l04Word.l0])
  | succ k1 =>
   have H := HA.out
   clear HA
   simp only [spec_l04Word.l0] at H
   by_cases c4 : x5_1 < 4
   ·rw [if_pos c4] at H
    have c4b0 : decide (x5_1 < 4) = true := decide_eq_true c4
    clear c4
    by_cases c5 : 0 ≤ x5_1
    ·rw [if_pos c5] at H
     have c5b0 : decide (0 ≤ x5_1) = true := decide_eq_true c5
     clear c5
     by_cases c6 : (rd [a1_0, a1_1, a1_2, a1_3] x5_1) < (-1)
     ·rw [if_pos c6] at H
      have c6b0 : decide ((rd [a1_0, a1_1, a1_2, a1_3] x5_1) < (-1)) = true := decide_eq_true c6
      clear c6
      obtain rfl := Option.some.inj H
      have p7 : 0 ≤ (x5_1 : Int) := of_decide_eq_true (by first | (with_reducible assumption) | assumption)
      have q7 : x5_1 < (4 : Int) := of_decide_eq_true (by first | (with_reducible assumption) | assumption)
      replace p7 := eq_true p7
      replace q7 := eq_true q7
      have hcz8_0 : wr.cell? ⟨gb182, 0, none⟩ = some (.int .i8 a1_0) := (blk_cell BK182.out 0).trans rfl
      have hcz8_1 : wr.cell? ⟨gb182, 1, none⟩ = some (.int .i8 a1_1) := (blk_cell BK182.out 1).trans rfl
      have hcz8_2 : wr.cell? ⟨gb182, 2, none⟩ = some (.int .i8 a1_2) := (blk_cell BK182.out 2).trans rfl
      have hcz8_3 : wr.cell? ⟨gb182, 3, none⟩ = some (.int .i8 a1_3) := (blk_cell BK182.out 3).trans rfl
      have hfz8_0 := blk_frozen BK182.out 0
      have hfz8_1 := blk_frozen BK182.out 1
      have hfz8_2 := blk_frozen BK182.out 2
      have hfz8_3 := blk_frozen BK182.out 3
      have hx9_0 : wr.cell? ⟨gb182, (x5_1).toNat, none⟩ = some (.int .i8 (rd [a1_0, a1_1, a1_2, a1_3] x5_1)) := (blk_cell BK182.out _).trans (by rcases (show (x5_1 : Int) = 0 ∨ (x5_1 : Int) = 1 ∨ (x5_1 : Int) = 2 ∨ (x5_1 : Int) = 3 by have hp_ : 0 ≤ (x5_1 : Int) := of_decide_eq_true (by first | (with_reducible assumption) | assumption); have hq_ : x5_1 < (4 : Int) := of_decide_eq_true (by first | (with_reducible assumption) | assumption); omega) with h_ | h_ | h_ | h_ <;> rw [h_] <;> rfl)
      go_wp2
      go_ret
      exact ⟨by first | rfl | (simp [errW_none, errW_some] <;> rfl) | (simp [*, errW_none, errW_some] <;> rfl), by repeat (first | (with_reducible first | exact HB.out | apply below_alloc | apply pw_below_drewN | apply below_drew1 | refine below_set ?_ GE182.out) | exact HB.out)⟩
     ·rw [if_neg c6] at H
      have c6b0 : decide ((rd [a1_0, a1_1, a1_2, a1_3] x5_1) < (-1)) = false := decide_eq_false c6
      clear c6
      by_cases c10 : (rd [a1_0, a1_1, a1_2, a1_3] x5_1) > 1
      ·rw [if_pos c10] at H
       have c10b0 : decide (1 < (rd [a1_0, a1_1, a1_2, a1_3] x5_1)) = true := decide_eq_true c10
       clear c10
       obtain rfl := Option.some.inj H
       have p11 : 0 ≤ (x5_1 : Int) := of_decide_eq_true (by first | (with_reducible assumption) | assumption)
       have q11 : x5_1 < (4 : Int) := of_decide_eq_true (by first | (with_reducible assumption) | assumption)
       replace p11 := eq_true p11
       replace q11 := eq_true q11
       have hcz12_0 : wr.cell? ⟨gb182, 0, none⟩ = some (.int .i8 a1_0) := (blk_cell BK182.out 0).trans rfl
       have hcz12_1 : wr.cell? ⟨gb182, 1, none⟩ = some (.int .i8 a1_1) := (blk_cell BK182.out 1).trans rfl
       have hcz12_2 : wr.cell? ⟨gb182, 2, none⟩ = some (.int .i8 a1_2) := (blk_cell BK182.out 2).trans rfl
       have hcz12_3 : wr.cell? ⟨gb182, 3, none⟩ = some (.int .i8 a1_3) := (blk_cell BK182.out 3).trans rfl
       have hfz12_0 := blk_frozen BK182.out 0
       have hfz12_1 := blk_frozen BK182.out 1
       have hfz12_2 := blk_frozen BK182.out 2
       have hfz12_3 := blk_frozen BK182.out 3
       have hx13_0 : wr.cell? ⟨gb182, (x5_1).toNat, none⟩ = some (.int .i8 (rd [a1_0, a1_1, a1_2, a1_3] x5_1)) := (blk_cell BK182.out _).trans (by rcases (show (x5_1 : Int) = 0 ∨ (x5_1 : Int) = 1 ∨ (x5_1 : Int) = 2 ∨ (x5_1 : Int) = 3 by have hp_ : 0 ≤ (x5_1 : Int) := of_decide_eq_true (by first | (with_reducible assumption) | assumption); have hq_ : x5_1 < (4 : Int) := of_decide_eq_true (by first | (with_reducible assumption) | assumption); omega) with h_ | h_ | h_ | h_ <;> rw [h_] <;> rfl)
       have p14 : 0 ≤ (x5_1 : Int) := of_decide_eq_true (by first | (with_reducible assumption) | assumption)
       have q14 : x5_1 < (4 : Int) := of_decide_eq_true (by first | (with_reducible assumption) | assumption)
       replace p14 := eq_true p14
       replace q14 := eq_true q14
       have hx15_0 : wr.cell? ⟨gb182, (x5_1).toNat, none⟩ = some (.int .i8 (rd [a1_0, a1_1, a1_2, a1_3] x5_1)) := (blk_cell BK182.out _).trans (by rcases (show (x5_1 : Int) = 0 ∨ (x5_1 : Int) = 1 ∨ (x5_1 : Int) = 2 ∨ (x5_1 : Int) = 3 by have hp_ : 0 ≤ (x5_1 : Int) := of_decide_eq_true (by first | (with_reducible assumption) | assumption); have hq_ : x5_1 < (4 : Int) := of_decide_eq_true (by first | (with_reducible assumption) | assumption); omega) with h_ | h_ | h_ | h_ <;> rw [h_] <;> rfl)
       go_wp2
       go_ret
       exact ⟨by first | rfl | (simp [errW_none, errW_some] <;> rfl) | (simp [*, errW_none, errW_some] <;> rfl), by repeat (first | (with_reducible first | exact HB.out | apply below_alloc | apply pw_below_drewN | apply below_drew1 | refine below_set ?_ GE182.out) | exact HB.out)⟩
      ·rw [if_neg c10] at H
       have c10b0 : decide (1 < (rd [a1_0, a1_1, a1_2, a1_3] x5_1)) = false := decide_eq_false c10
       clear c10
       by_cases c16 : x5_1 ≥ a0
       ·rw [if_pos c16] at H
        have c16b0 : decide (a0 ≤ x5_1) = true := decide_eq_true c16
        clear c16
        by_cases c17 : (rd [a1_0, a1_1, a1_2, a1_3] x5_1) = 0
        ·rw [if_pos c17] at H
         have c17b0 : ((rd [a1_0, a1_1, a1_2, a1_3] x5_1) == 0) = true := beq_iff_eq.mpr c17
         have c17b1 : ((rd [a1_0, a1_1, a1_2, a1_3] x5_1) != 0) = false := bne_eq_false_iff_eq.mpr c17
         clear c17
         have H' := Aside0.mk H
         clear H
         have p18 : 0 ≤ (x5_1 : Int) := of_decide_eq_true (by first | (with_reducible assumption) | assumption)
         have q18 : x5_1 < (4 : Int) := of_decide_eq_true (by first | (with_reducible assumption) | assumption)
         replace p18 := eq_true p18
         replace q18 := eq_true q18
         have hcz19_0 : wr.cell? ⟨gb182, 0, none⟩ = some (.int .i8 a1_0) := (blk_cell BK182.out 0).trans rfl
         have hcz19_1 : wr.cell? ⟨gb182, 1, none⟩ = some (.int .i8 a1_1) := (blk_cell BK182.out 1).trans rfl
         have hcz19_2 : wr.cell? ⟨gb182, 2, none⟩ = some (.int .i8 a1_2) := (blk_cell BK182.out 2).trans rfl
         have hcz19_3 : wr.cell? ⟨gb182, 3, none⟩ = some (.int .i8 a1_3) := (blk_cell BK182.out 3).trans rfl
         have hfz19_0 := blk_frozen BK182.out 0
         have hfz19_1 := blk_frozen BK182.out 1
         have hfz19_2 := blk_frozen BK182.out 2
         have hfz19_3 := blk_frozen BK182.out 3
         have hx20_0 : wr.cell? ⟨gb182, (x5_1).toNat, none⟩ = some (.int .i8 (rd [a1_0, a1_1, a1_2, a1_3] x5_1)) := (blk_cell BK182.out _).trans (by rcases (show (x5_1 : Int) = 0 ∨ (x5_1 : Int) = 1 ∨ (x5_1 : Int) = 2 ∨ (x5_1 : Int) = 3 by have hp_ : 0 ≤ (x5_1 : Int) := of_decide_eq_true (by first | (with_reducible assumption) | assumption); have hq_ : x5_1 < (4 : Int) := of_decide_eq_true (by first | (with_reducible assumption) | assumption); omega) with h_ | h_ | h_ | h_ <;> rw [h_] <;> rfl)
         have p21 : 0 ≤ (x5_1 : Int) := of_decide_eq_true (by first | (with_reducible assumption) | assumption)
         have q21 : x5_1 < (4 : Int) := of_decide_eq_true (by first | (with_reducible assumption) | assumption)
         replace p21 := eq_true p21
         replace q21 := eq_true q21
         have hx22_0 : wr.cell? ⟨gb182, (x5_1).toNat, none⟩ = some (.int .i8 (rd [a1_0, a1_1, a1_2, a1_3] x5_1)) := (blk_cell BK182.out _).trans (by rcases (show (x5_1 : Int) = 0 ∨ (x5_1 : Int) = 1 ∨ (x5_1 : Int) = 2 ∨ (x5_1 : Int) = 3 by have hp_ : 0 ≤ (x5_1 : Int) := of_decide_eq_true (by first | (with_reducible assumption) | assumption); have hq_ : x5_1 < (4 : Int) := of_decide_eq_true (by first | (with_reducible assumption) | assumption); omega) with h_ | h_ | h_ | h_ <;> rw [h_] <;> rfl)
         have p23 : 0 ≤ (x5_1 : Int) := of_decide_eq_true (by first | (with_reducible assumption) | assumption)
         have q23 : x5_1 < (4 : Int) := of_decide_eq_true (by first | (with_reducible assumption) | assumption)
         replace p23 := eq_true p23
         replace q23 := eq_true q23
         have hx24_0 : wr.cell? ⟨gb182, (x5_1).toNat, none⟩ = some (.int .i8 (rd [a1_0, a1_1, a1_2, a1_3] x5_1)) := (blk_cell BK182.out _).trans (by rcases (show (x5_1 : Int) = 0 ∨ (x5_1 : Int) = 1 ∨ (x5_1 : Int) = 2 ∨ (x5_1 : Int) = 3 by have hp_ : 0 ≤ (x5_1 : Int) := of_decide_eq_true (by first | (with_reducible assumption) | assumption); have hq_ : x5_1 < (4 : Int) := of_decide_eq_true (by first | (with_reducible assumption) | assumption); omega) with h_ | h_ | h_ | h_ <;> rw [h_] <;> rfl)
         go_wp2
         go_roundg k1
         case measure => have := HK1.out; omega
         case rel => exact ⟨(wrap64 (x5_1 + 1)), (by first | rfl | (simp; done) | (simp [*]; done)), H', ⟨by have := HK1.out; omega⟩, ⟨by (with_reducible repeat (first | refine blk_drewN ?_ _ | refine blk_drew ?_ | refine blk_alloc ?_ _)); exact BK182.out⟩, ⟨by repeat (first | (with_reducible first | exact HB.out | apply below_alloc | apply pw_below_drewN | apply below_drew1 | refine below_set ?_ GE182.out) | exact HB.out)⟩⟩
        ·rw [if_neg c17] at H
         have c17b0 : ((rd [a1_0, a1_1, a1_2, a1_3] x5_1) == 0) = false := beq_eq_false_iff_ne.mpr c17
         have c17b1 : ((rd [a1_0, a1_1, a1_2, a1_3] x5_1) != 0) = true := bne_iff_ne.mpr c17
         obtain rfl := Option.some.inj H
         have p25 : 0 ≤ (x5_1 : Int) := of_decide_eq_true (by first | (with_reducible assumption) | assumption)
         have q25 : x5_1 < (4 : Int) := of_decide_eq_true (by first | (with_reducible assumption) | assumption)
         replace p25 := eq_true p25
         replace q25 := eq_true q25
         have hcz26_0 : wr.cell? ⟨gb182, 0, none⟩ = some (.int .i8 a1_0) := (blk_cell BK182.out 0).trans rfl
         have hcz26_1 : wr.cell? ⟨gb182, 1, none⟩ = some (.int .i8 a1_1) := (blk_cell BK182.out 1).trans rfl
         have hcz26_2 : wr.cell? ⟨gb182, 2, none⟩ = some (.int .i8 a1_2) := (blk_cell BK182.out 2).trans rfl
         have hcz26_3 : wr.cell? ⟨gb182, 3, none⟩ = some (.int .i8 a1_3) := (blk_cell BK182.out 3).trans rfl
         have hfz26_0 := blk_frozen BK182.out 0
         have hfz26_1 := blk_frozen BK182.out 1
         have hfz26_2 := blk_frozen BK182.out 2
         have hfz26_3 := blk_frozen BK182.out 3
         have hx27_0 : wr.cell? ⟨gb182, (x5_1).toNat, none⟩ = some (.int .i8 (rd [a1_0, a1_1, a1_2, a1_3] x5_1)) := (blk_cell BK182.out _).trans (by rcases (show (x5_1 : Int) = 0 ∨ (x5_1 : Int) = 1 ∨ (x5_1 : Int) = 2 ∨ (x5_1 : Int) = 3 by have hp_ : 0 ≤ (x5_1 : Int) := of_decide_eq_true (by first | (with_reducible assumption) | assumption); have hq_ : x5_1 < (4 : Int) := of_decide_eq_true (by first | (with_reducible assumption) | assumption); omega) with h_ | h_ | h_ | h_ <;> rw [h_] <;> rfl)
         have p28 : 0 ≤ (x5_1 : Int) := of_decide_eq_true (by first | (with_reducible assumption) | assumption)
         have q28 : x5_1 < (4 : Int) := of_decide_eq_true (by first | (with_reducible assumption) | assumption)
         replace p28 := eq_true p28
         replace q28 := eq_true q28
         have hx29_0 : wr.cell? ⟨gb182, (x5_1).toNat, none⟩ = some (.int .i8 (rd [a1_0, a1_1, a1_2, a1_3] x5_1)) := (blk_cell BK182.out _).trans (by rcases (show (x5_1 : Int) = 0 ∨ (x5_1 : Int) = 1 ∨ (x5_1 : Int) = 2 ∨ (x5_1 : Int) = 3 by have hp_ : 0 ≤ (x5_1 : Int) := of_decide_eq_true (by first | (with_reducible assumption) | assumption); have hq_ : x5_1 < (4 : Int) := of_decide_eq_true (by first | (with_reducible assumption) | assumption); omega) with h_ | h_ | h_ | h_ <;> rw [h_] <;> rfl)
         have p30 : 0 ≤ (x5_1 : Int) := of_decide_eq_true (by first | (with_reducible assumption) | assumption)
         have q30 : x5_1 < (4 : Int) := of_decide_eq_true (by first | (with_reducible assumption) | assumption)
         replace p30 := eq_true p30
         replace q30 := eq_true q30
         have hx31_0 : wr.cell? ⟨gb182, (x5_1).toNat, none⟩ = some (.int .i8 (rd [a1_0, a1_1, a1_2, a1_3] x5_1)) := (blk_cell BK182.out _).trans (by rcases (show (x5_1 : Int) = 0 ∨ (x5_1 : Int) = 1 ∨ (x5_1 : Int) = 2 ∨ (x5_1 : Int) = 3 by have hp_ : 0 ≤ (x5_1 : Int) := of_decide_eq_true (by first | (with_reducible assumption) | assumption); have hq_ : x5_1 < (4 : Int) := of_decide_eq_true (by first | (with_reducible assumption) | assumption); omega) with h_ | h_ | h_ | h_ <;> rw [h_] <;> rfl)
         go_wp2
         go_ret
         exact ⟨by first | rfl | (simp [errW_none, errW_some] <;> rfl) | (simp [*, errW_none, errW_some] <;> rfl), by repeat (first | (with_reducible first | exact HB.out | apply below_alloc | apply pw_below_drewN | apply below_drew1 | refine below_set ?_ GE182.out) | exact HB.out)⟩
       ·rw [if_neg c16] at H
        have c16b0 : decide (a0 ≤ x5_1) = false := decide_eq_false c16
        clear c16
        have H' := Aside0.mk H
        clear H
        have p32 : 0 ≤ (x5_1 : Int) := of_decide_eq_true (by first | (with_reducible assumption) | assumption)
        have q32 : x5_1 < (4 : Int) := of_decide_eq_true (by first | (with_reducible assumption) | assumption)
        replace p32 := eq_true p32
        replace q32 := eq_true q32
        have hcz33_0 : wr.cell? ⟨gb182, 0, none⟩ = some (.int .i8 a1_0) := (blk_cell BK182.out 0).trans rfl
        have hcz33_1 : wr.cell? ⟨gb182, 1, none⟩ = some (.int .i8 a1_1) := (blk_cell BK182.out 1).trans rfl
        have hcz33_2 : wr.cell? ⟨gb182, 2, none⟩ = some (.int .i8 a1_2) := (blk_cell BK182.out 2).trans rfl
        have hcz33_3 : wr.cell? ⟨gb182, 3, none⟩ = some (.int .i8 a1_3) := (blk_cell BK182.out 3).trans rfl
        have hfz33_0 := blk_frozen BK182.out 0
        have hfz33_1 := blk_frozen BK182.out 1
        have hfz33_2 := blk_frozen BK182.out 2
        have hfz33_3 := blk_frozen BK182.out 3
        have hx34_0 : wr.cell? ⟨gb182, (x5_1).toNat, none⟩ = some (.int .i8 (rd [a1_0, a1_1, a1_2, a1_3] x5_1)) := (blk_cell BK182.out _).trans (by rcases (show (x5_1 : Int) = 0 ∨ (x5_1 : Int) = 1 ∨ (x5_1 : Int) = 2 ∨ (x5_1 : Int) = 3 by have hp_ : 0 ≤ (x5_1 : Int) := of_decide_eq_true (by first | (with_reducible assumption) | assumption); have hq_ : x5_1 < (4 : Int) := of_decide_eq_true (by first | (with_reducible assumption) | assumption); omega) with h_ | h_ | h_ | h_ <;> rw [h_] <;> rfl)
        have p35 : 0 ≤ (x5_1 : Int) := of_decide_eq_true (by first | (with_reducible assumption) | assumption)
        have q35 : x5_1 < (4 : Int) := of_decide_eq_true (by first | (with_reducible assumption) | assumption)
        replace p35 := eq_true p35
        replace q35 := eq_true q35
        have hx36_0 : wr.cell? ⟨gb182, (x5_1).toNat, none⟩ = some (.int .i8 (rd [a1_0, a1_1, a1_2, a1_3] x5_1)) := (blk_cell BK182.out _).trans (by rcases (show (x5_1 : Int) = 0 ∨ (x5_1 : Int) = 1 ∨ (x5_1 : Int) = 2 ∨ (x5_1 : Int) = 3 by have hp_ : 0 ≤ (x5_1 : Int) := of_decide_eq_true (by first | (with_reducible assumption) | assumption); have hq_ : x5_1 < (4 : Int) := of_decide_eq_true (by first | (with_reducible assumption) | assumption); omega) with h_ | h_ | h_ | h_ <;> rw [h_] <;> rfl)
        go_wp2
        go_roundg k1
        case measure => have := HK1.out; omega
        case rel => exact ⟨(wrap64 (x5_1 + 1)), (by first | rfl | (simp; done) | (simp [*]; done)), H', ⟨by have := HK1.out; omega⟩, ⟨by (with_reducible repeat (first | refine blk_drewN ?_ _ | refine blk_drew ?_ | refine blk_alloc ?_ _)); exact BK182.out⟩, ⟨by repeat (first | (with_reducible first | exact HB.out | apply below_alloc | apply pw_below_drewN | apply below_drew1 | refine below_set ?_ GE182.out) | exact HB.out)⟩⟩
    ·rw [if_neg c5] at H
     exact absurd H (by simp)
   ·rw [if_neg c4] at H
    have c4b0 : decide (x5_1 < 4) = false := decide_eq_false c4
    clear c4
    replace H := Option.bind_eq_some_iff.mp H
    obtain ⟨t189, A370, H⟩ := H
    replace H : (some t189) = some r := H
    have A37 := Aside0.mk A370
    clear A370
    obtain rfl := Option.some.inj H
    go_wp2_with (first | ((with_reducible refine gate_callee (f := 69) rfl ?_); refine goesL_ (some 32) rfl rfl Tryd.func69 (by kernel_rfl) rfl #[.int .i64 a0] rfl (by (try simp only [List.map_toArray, List.map_cons, List.map_nil]); first | done | rfl | (simp only [List.length_drop, List.length_take]; rfl)) ?_; (with_reducible refine (spec_l04Letters.calls a0 t189 _ A37.out).mono ?_); rintro e w' ⟨rfl, ⟨nd, rfl⟩⟩; refine ⟨_, rfl, ?_⟩))
    go_ret
    exact ⟨by first | rfl | (simp [errW_none, errW_some] <;> rfl) | (simp [*, errW_none, errW_some] <;> rfl), by repeat (first | (with_reducible first | exact HB.out | apply below_alloc | apply pw_below_drewN | apply below_drew1 | refine below_set ?_ GE182.out) | exact HB.out)⟩

end Go.Proofs.YtmfbcklaomigaaaDoor.D
