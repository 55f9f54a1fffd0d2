-- Written by wip/tools/myprint.py, a program of this session, by way of the kit's print.
import Derived.Test.YtidblojobcgkjaaMx0
import Derived.Test.YtidblojobcgkjaaMx5
namespace Go.Proofs.Ytidblojobcgkjaa.M
open Go.RowKit Go.Proofs.YtidblojobcgkjaaW.PrintWords Go.Proofs.YtidblojobcgkjaaW.PrintLast Go.Proofs.YtidblojobcgkjaaW.PrintMore
attribute [local go_sem] wl_0 wl_1 wl_2 wl_3 wl_4 max2_int min2_int max_two min_two zpa zoa max_four min_four   -- for this text's walks alone
set_option linter.unusedVariables false
set_option linter.unusedSimpArgs false

/-! ### impl_ValidState: function 17 -/
def impl_ValidState.l0 : Nat → Int → Int → Int → Int → Int → Int → Int → Int → Int → Int → Option (Bool)
 | 0, _, _, _, _, _, _, _, _, _, _ => none
 | k + 1, x0, x11, x148000, x148001, x148002, x148003, x90011000, x90011001, x90011002, x90011003 => if x11 < 4 then (if 0 ≤ x11 then ((impl_within.f (rd [x90011000, x90011001, x90011002, x90011003] x11) 0 60).bind fun t150 => (if t150 = true then (if x11 > x0 then (if (rd [x90011000, x90011001, x90011002, x90011003] x11) = 0 then (impl_ValidState.l0 k x0 (wrap64 (x11 + 1)) x148000 x148001 x148002 x148003 x90011000 x90011001 x90011002 x90011003) else (some false)) else (impl_ValidState.l0 k x0 (wrap64 (x11 + 1)) x148000 x148001 x148002 x148003 x90011000 x90011001 x90011002 x90011003)) else (some false))) else (none)) else ((impl_State_sum.f x148000 x148001 x148002 x148003).bind fun t151 => (some (decide (t151 ≤ 60))))
def impl_ValidState.f (k : Nat) (a0 : Int) (a1_0 : Int) (a1_1 : Int) (a1_2 : Int) (a1_3 : Int) : Option (Bool) := (impl_within.f a0 0 3).bind fun t148 => (if t148 = true then (impl_ValidState.l0 k a0 0 a1_0 a1_1 a1_2 a1_3 a1_0 a1_1 a1_2 a1_3) else (some false))
theorem impl_ValidState.mono_l : ∀ k, (∀ y0 y1 y2 y3 y4 y5 y6 y7 y8 y9, LeO (impl_ValidState.l0 k y0 y1 y2 y3 y4 y5 y6 y7 y8 y9) (impl_ValidState.l0 (k + 1) y0 y1 y2 y3 y4 y5 y6 y7 y8 y9))
 | 0 => fun _ _ _ _ _ _ _ _ _ _ r h => by simp [impl_ValidState.l0] at h
 | k + 1 => by
  have ih0 := impl_ValidState.mono_l k
  ·intro y0 y1 y2 y3 y4 y5 y6 y7 y8 y9
   unfold impl_ValidState.l0
   repeat' first
   | (with_reducible exact ih0 _ _ _ _ _ _ _ _ _ _)
   | (with_reducible exact LeO.refl _)
   | (with_reducible exact LeO.none _)
   | (with_reducible refine LeO.ite ?_ ?_)
   | (with_reducible refine LeO.bind ?_ (fun _ => ?_))
   | exact ih0 _ _ _ _ _ _ _ _ _ _
   | exact LeO.none _
   | refine LeO.ite ?_ ?_
   | refine LeO.bind ?_ (fun _ => ?_)
theorem impl_ValidState.mono : ∀ a0 a1 a2 a3 a4 k, LeO (impl_ValidState.f k a0 a1 a2 a3 a4) (impl_ValidState.f (k + 1) a0 a1 a2 a3 a4) := by
 intro a0 a1 a2 a3 a4 k
 have ih0 := impl_ValidState.mono_l k
 unfold impl_ValidState.f
 repeat' first
   | (with_reducible exact ih0 _ _ _ _ _ _ _ _ _ _)
   | (with_reducible exact LeO.refl _)
   | (with_reducible exact LeO.none _)
   | (with_reducible refine LeO.ite ?_ ?_)
   | (with_reducible refine LeO.bind ?_ (fun _ => ?_))
   | exact ih0 _ _ _ _ _ _ _ _ _ _
   | exact LeO.none _
   | refine LeO.ite ?_ ?_
   | refine LeO.bind ?_ (fun _ => ?_)
set_option maxHeartbeats 8000000 in
set_option maxRecDepth 100000 in
theorem impl_ValidState.calls (k : Nat) (a0 : Int) (a1_0 : Int) (a1_1 : Int) (a1_2 : Int) (a1_3 : Int) (r : Bool) (w : World) (h : impl_ValidState.f k a0 a1_0 a1_1 a1_2 a1_3 = some r) :
  Calls Try.prog 17 #[.int .i64 a0, .agg #[.int .i64 a1_0, .int .i64 a1_1, .int .i64 a1_2, .int .i64 a1_3]] w fun e w' => e = .returned (.bool r) ∧ Below w.heap.size w w' := by
 have hu23 := Try.underlying23
 have HB := zh.mk (Below.refl w.heap.size w)
 have H : ((impl_within.f a0 0 3).bind fun t148 => (if t148 = true then (impl_ValidState.l0 k a0 0 a1_0 a1_1 a1_2 a1_3 a1_0 a1_1 a1_2 a1_3) else (some false))) = some r := h
 clear h
 replace H := Option.bind_eq_some_iff.mp H
 obtain ⟨t148, A30, H⟩ := H
 replace H : (if t148 = true then (impl_ValidState.l0 k a0 0 a1_0 a1_1 a1_2 a1_3 a1_0 a1_1 a1_2 a1_3) else (some false)) = some r := H
 have A3 := zh.mk A30
 clear A30
 by_cases c4 : t148 = true
 ·subst c4
  have H1 : (impl_ValidState.l0 k a0 0 a1_0 a1_1 a1_2 a1_3 a1_0 a1_1 a1_2 a1_3) = some r := by rw [if_pos rfl] at H; exact H
  clear H
  have H := H1
  clear H1
  have H' := zh.mk H
  clear H
  go_enter Try.func17, Try.ntmps17
  go_wp2_with (first | ((with_reducible refine zba (N := 3) rfl ?_); refine zaa ?hg (N := 3) ?hd (cs := #[.int .i64 a1_0, .int .i64 a1_1, .int .i64 a1_2, .int .i64 a1_3]) (t := 23) ?hr ?_; (case hd => rfl); (case hg => rfl); (case hr => first | (go_simp; done) | (go_simp; rfl)); intro gb147 hg w5 hbox hb; have n0_ := zh.mk (zs (by repeat (first | (with_reducible first | exact HB.out | apply zl | apply zj | apply zk) | exact HB.out)) hb); have n1_ := zh.mk (hbox); have n2_ := zh.mk ((by rw [hg]; exact (zq (by repeat (first | (with_reducible first | exact HB.out | apply zl | apply zj | apply zk) | exact HB.out))) : w.heap.size ≤ gb147)); have n3_ := zh.mk ((by rw [hg]; exact (zq (by repeat (first | (with_reducible first | exact HB.out | apply zl | apply zj | apply zk) | exact HB.out))) : w.heap.size ≤ gb147)); clear HB; have HB := n0_; have BK147 := n1_; have GW147 := n2_; have GE147 := n3_; clear n0_ n1_ n2_ n3_; clear hb hbox hg) | ((with_reducible refine zea (f := 29) rfl ?_); refine zna (some 8) rfl rfl Try.func29 (by kernel_rfl) rfl #[.int .i64 a0, .int .i64 0, .int .i64 3] rfl (by (try simp only [List.map_toArray, List.map_cons, List.map_nil]); first | done | rfl | (simp only [List.length_drop, List.length_take]; rfl)) ?_; (with_reducible refine (impl_within.calls a0 0 3 true _ A3.out).mono ?_); rintro e w' ⟨rfl, ⟨nd, rfl⟩⟩; refine ⟨_, rfl, ?_⟩; have hcz6_0 : w5.cell? ⟨gb147, 0, none⟩ = some (.int .i64 a1_0) := (zi BK147.out 0).trans rfl; have hcz6_1 : w5.cell? ⟨gb147, 1, none⟩ = some (.int .i64 a1_1) := (zi BK147.out 1).trans rfl; have hcz6_2 : w5.cell? ⟨gb147, 2, none⟩ = some (.int .i64 a1_2) := (zi BK147.out 2).trans rfl; have hcz6_3 : w5.cell? ⟨gb147, 3, none⟩ = some (.int .i64 a1_3) := (zi BK147.out 3).trans rfl; have hfz6_0 := zm BK147.out 0; have hfz6_1 := zm BK147.out 1; have hfz6_2 := zm BK147.out 2; have hfz6_3 := zm BK147.out 3))
  go_loopg [11] k (fun kq v11 w' => ∃ (x11_1 : Int), v11 = .int .i64 x11_1 ∧ zh (impl_ValidState.l0 kq a0 x11_1 a1_0 a1_1 a1_2 a1_3 a1_0 a1_1 a1_2 a1_3 = some r) ∧ zh (kq ≤ k) ∧ zh (w'.heap[gb147]? = some (.cells #[.int .i64 a1_0, .int .i64 a1_1, .int .i64 a1_2, .int .i64 a1_3] 23 (0, 0))) ∧ zh (Below w.heap.size w w'))
  case atStart => exact ⟨(0), (by first | rfl | (simp; done) | (simp [*]; done)), H', ⟨Nat.le_refl _⟩, ⟨by (with_reducible repeat (first | refine ze ?_ _ | refine zf ?_ | refine za ?_ _)); exact BK147.out⟩, ⟨by repeat (first | (with_reducible first | exact HB.out | apply zl | apply zj | apply zk | refine zg ?_ GE147.out) | exact HB.out)⟩⟩
  case round =>
   clear H'
   try clear c1
   try clear c2
   try clear p2
   try clear c4
   try clear hcz6_0
   try clear hcz6_1
   try clear hcz6_2
   try clear hcz6_3
   try clear hfz6_0
   try clear hfz6_1
   try clear hfz6_2
   try clear hfz6_3
   obtain ⟨x11_1, rfl, HA, HK1, BK147, HB⟩ := hrel
   cases gk with
   | zero => exact absurd HA.out (by simp [impl_ValidState.l0])
   | succ k1 =>
    have H := HA.out
    clear HA
    simp only [impl_ValidState.l0] at H
    by_cases c7 : x11_1 < 4
    ·rw [if_pos c7] at H
     have c7b0 : decide (x11_1 < 4) = true := decide_eq_true c7
     clear c7
     by_cases c8 : 0 ≤ x11_1
     ·rw [if_pos c8] at H
      have c8b0 : decide (0 ≤ x11_1) = true := decide_eq_true c8
      clear c8
      replace H := Option.bind_eq_some_iff.mp H
      obtain ⟨t150, A90, H⟩ := H
      replace H : (if t150 = true then (if x11_1 > a0 then (if (rd [a1_0, a1_1, a1_2, a1_3] x11_1) = 0 then (impl_ValidState.l0 k1 a0 (wrap64 (x11_1 + 1)) a1_0 a1_1 a1_2 a1_3 a1_0 a1_1 a1_2 a1_3) else (some false)) else (impl_ValidState.l0 k1 a0 (wrap64 (x11_1 + 1)) a1_0 a1_1 a1_2 a1_3 a1_0 a1_1 a1_2 a1_3)) else (some false)) = some r := H
      have A9 := zh.mk A90
      clear A90
      by_cases c10 : t150 = true
      ·subst c10
       have H1 : (if x11_1 > a0 then (if (rd [a1_0, a1_1, a1_2, a1_3] x11_1) = 0 then (impl_ValidState.l0 k1 a0 (wrap64 (x11_1 + 1)) a1_0 a1_1 a1_2 a1_3 a1_0 a1_1 a1_2 a1_3) else (some false)) else (impl_ValidState.l0 k1 a0 (wrap64 (x11_1 + 1)) a1_0 a1_1 a1_2 a1_3 a1_0 a1_1 a1_2 a1_3)) = some r := by rw [if_pos rfl] at H; exact H
       clear H
       have H := H1
       clear H1
       by_cases c11 : x11_1 > a0
       ·rw [if_pos c11] at H
        have c11b0 : decide (a0 < x11_1) = true := decide_eq_true c11
        clear c11
        by_cases c12 : (rd [a1_0, a1_1, a1_2, a1_3] x11_1) = 0
        ·rw [if_pos c12] at H
         have c12b0 : ((rd [a1_0, a1_1, a1_2, a1_3] x11_1) == 0) = true := beq_iff_eq.mpr c12
         have c12b1 : ((rd [a1_0, a1_1, a1_2, a1_3] x11_1) != 0) = false := bne_eq_false_iff_eq.mpr c12
         clear c12
         have H' := zh.mk H
         clear H
         have hx13_0 : ∀ W_ : World, (Instr.index 23 (.agg #[.int .i64 a1_0, .int .i64 a1_1, .int .i64 a1_2, .int .i64 a1_3]) (.int .i64 x11_1)).run Try.prog W_ = .ok (.int .i64 (rd [a1_0, a1_1, a1_2, a1_3] x11_1)) W_ := by intro W_; rcases (show (x11_1 : Int) = 0 ∨ (x11_1 : Int) = 1 ∨ (x11_1 : Int) = 2 ∨ (x11_1 : Int) = 3 by have hp_ : 0 ≤ (x11_1 : Int) := of_decide_eq_true (by first | (with_reducible assumption) | assumption); have hq_ : x11_1 < (4 : Int) := of_decide_eq_true (by first | (with_reducible assumption) | assumption); omega) with h_ | h_ | h_ | h_ <;> rw [h_] <;> kernel_rfl
         go_wp2_with (first | ((with_reducible refine zea (f := 29) rfl ?_); refine zna (some 16) rfl rfl Try.func29 (by kernel_rfl) rfl #[.int .i64 (rd [a1_0, a1_1, a1_2, a1_3] x11_1), .int .i64 0, .int .i64 60] rfl (by (try simp only [List.map_toArray, List.map_cons, List.map_nil]); first | done | rfl | (simp only [List.length_drop, List.length_take]; rfl)) ?_; (with_reducible refine (impl_within.calls (rd [a1_0, a1_1, a1_2, a1_3] x11_1) 0 60 true _ A9.out).mono ?_); rintro e w' ⟨rfl, ⟨nd, rfl⟩⟩; refine ⟨_, rfl, ?_⟩))
         go_roundg k1
         case measure => have := HK1.out; omega
         case rel => exact ⟨(wrap64 (x11_1 + 1)), (by first | rfl | (simp; done) | (simp [*]; done)), H', ⟨by have := HK1.out; omega⟩, ⟨by (with_reducible repeat (first | refine ze ?_ _ | refine zf ?_ | refine za ?_ _)); exact BK147.out⟩, ⟨by repeat (first | (with_reducible first | exact HB.out | apply zl | apply zj | apply zk | refine zg ?_ GE147.out) | exact HB.out)⟩⟩
        ·rw [if_neg c12] at H
         have c12b0 : ((rd [a1_0, a1_1, a1_2, a1_3] x11_1) == 0) = false := beq_eq_false_iff_ne.mpr c12
         have c12b1 : ((rd [a1_0, a1_1, a1_2, a1_3] x11_1) != 0) = true := bne_iff_ne.mpr c12
         obtain rfl := Option.some.inj H
         have hx14_0 : ∀ W_ : World, (Instr.index 23 (.agg #[.int .i64 a1_0, .int .i64 a1_1, .int .i64 a1_2, .int .i64 a1_3]) (.int .i64 x11_1)).run Try.prog W_ = .ok (.int .i64 (rd [a1_0, a1_1, a1_2, a1_3] x11_1)) W_ := by intro W_; rcases (show (x11_1 : Int) = 0 ∨ (x11_1 : Int) = 1 ∨ (x11_1 : Int) = 2 ∨ (x11_1 : Int) = 3 by have hp_ : 0 ≤ (x11_1 : Int) := of_decide_eq_true (by first | (with_reducible assumption) | assumption); have hq_ : x11_1 < (4 : Int) := of_decide_eq_true (by first | (with_reducible assumption) | assumption); omega) with h_ | h_ | h_ | h_ <;> rw [h_] <;> kernel_rfl
         go_wp2_with (first | ((with_reducible refine zea (f := 29) rfl ?_); refine zna (some 16) rfl rfl Try.func29 (by kernel_rfl) rfl #[.int .i64 (rd [a1_0, a1_1, a1_2, a1_3] x11_1), .int .i64 0, .int .i64 60] rfl (by (try simp only [List.map_toArray, List.map_cons, List.map_nil]); first | done | rfl | (simp only [List.length_drop, List.length_take]; rfl)) ?_; (with_reducible refine (impl_within.calls (rd [a1_0, a1_1, a1_2, a1_3] x11_1) 0 60 true _ A9.out).mono ?_); rintro e w' ⟨rfl, ⟨nd, rfl⟩⟩; refine ⟨_, rfl, ?_⟩))
         go_ret
         exact ⟨by first | rfl | (simp [errW_none, errW_some] <;> rfl) | (simp [*, errW_none, errW_some] <;> rfl), by repeat (first | (with_reducible first | exact HB.out | apply zl | apply zj | apply zk | refine zg ?_ GE147.out) | exact HB.out)⟩
       ·rw [if_neg c11] at H
        have c11b0 : decide (a0 < x11_1) = false := decide_eq_false c11
        clear c11
        have H' := zh.mk H
        clear H
        have hx15_0 : ∀ W_ : World, (Instr.index 23 (.agg #[.int .i64 a1_0, .int .i64 a1_1, .int .i64 a1_2, .int .i64 a1_3]) (.int .i64 x11_1)).run Try.prog W_ = .ok (.int .i64 (rd [a1_0, a1_1, a1_2, a1_3] x11_1)) W_ := by intro W_; rcases (show (x11_1 : Int) = 0 ∨ (x11_1 : Int) = 1 ∨ (x11_1 : Int) = 2 ∨ (x11_1 : Int) = 3 by have hp_ : 0 ≤ (x11_1 : Int) := of_decide_eq_true (by first | (with_reducible assumption) | assumption); have hq_ : x11_1 < (4 : Int) := of_decide_eq_true (by first | (with_reducible assumption) | assumption); omega) with h_ | h_ | h_ | h_ <;> rw [h_] <;> kernel_rfl
        go_wp2_with (first | ((with_reducible refine zea (f := 29) rfl ?_); refine zna (some 16) rfl rfl Try.func29 (by kernel_rfl) rfl #[.int .i64 (rd [a1_0, a1_1, a1_2, a1_3] x11_1), .int .i64 0, .int .i64 60] rfl (by (try simp only [List.map_toArray, List.map_cons, List.map_nil]); first | done | rfl | (simp only [List.length_drop, List.length_take]; rfl)) ?_; (with_reducible refine (impl_within.calls (rd [a1_0, a1_1, a1_2, a1_3] x11_1) 0 60 true _ A9.out).mono ?_); rintro e w' ⟨rfl, ⟨nd, rfl⟩⟩; refine ⟨_, rfl, ?_⟩))
        go_roundg k1
        case measure => have := HK1.out; omega
        case rel => exact ⟨(wrap64 (x11_1 + 1)), (by first | rfl | (simp; done) | (simp [*]; done)), H', ⟨by have := HK1.out; omega⟩, ⟨by (with_reducible repeat (first | refine ze ?_ _ | refine zf ?_ | refine za ?_ _)); exact BK147.out⟩, ⟨by repeat (first | (with_reducible first | exact HB.out | apply zl | apply zj | apply zk | refine zg ?_ GE147.out) | exact HB.out)⟩⟩
      ·replace c10 := Bool.eq_false_iff.mpr c10
       subst c10
       have H1 : (some false) = some r := by rw [if_neg (show ¬ (false = true) by decide)] at H; exact H
       clear H
       have H := H1
       clear H1
       obtain rfl := Option.some.inj H
       have hx16_0 : ∀ W_ : World, (Instr.index 23 (.agg #[.int .i64 a1_0, .int .i64 a1_1, .int .i64 a1_2, .int .i64 a1_3]) (.int .i64 x11_1)).run Try.prog W_ = .ok (.int .i64 (rd [a1_0, a1_1, a1_2, a1_3] x11_1)) W_ := by intro W_; rcases (show (x11_1 : Int) = 0 ∨ (x11_1 : Int) = 1 ∨ (x11_1 : Int) = 2 ∨ (x11_1 : Int) = 3 by have hp_ : 0 ≤ (x11_1 : Int) := of_decide_eq_true (by first | (with_reducible assumption) | assumption); have hq_ : x11_1 < (4 : Int) := of_decide_eq_true (by first | (with_reducible assumption) | assumption); omega) with h_ | h_ | h_ | h_ <;> rw [h_] <;> kernel_rfl
       go_wp2_with (first | ((with_reducible refine zea (f := 29) rfl ?_); refine zna (some 16) rfl rfl Try.func29 (by kernel_rfl) rfl #[.int .i64 (rd [a1_0, a1_1, a1_2, a1_3] x11_1), .int .i64 0, .int .i64 60] rfl (by (try simp only [List.map_toArray, List.map_cons, List.map_nil]); first | done | rfl | (simp only [List.length_drop, List.length_take]; rfl)) ?_; (with_reducible refine (impl_within.calls (rd [a1_0, a1_1, a1_2, a1_3] x11_1) 0 60 false _ A9.out).mono ?_); rintro e w' ⟨rfl, ⟨nd, rfl⟩⟩; refine ⟨_, rfl, ?_⟩))
       go_ret
       exact ⟨by first | rfl | (simp [errW_none, errW_some] <;> rfl) | (simp [*, errW_none, errW_some] <;> rfl), by repeat (first | (with_reducible first | exact HB.out | apply zl | apply zj | apply zk | refine zg ?_ GE147.out) | exact HB.out)⟩
     ·rw [if_neg c8] at H
      exact absurd H (by simp)
    ·rw [if_neg c7] at H
     have c7b0 : decide (x11_1 < 4) = false := decide_eq_false c7
     clear c7
     replace H := Option.bind_eq_some_iff.mp H
     obtain ⟨t151, A170, H⟩ := H
     replace H : (some (decide (t151 ≤ 60))) = some r := H
     have A17 := zh.mk A170
     clear A170
     obtain rfl := Option.some.inj H
     have hcz18_0 : wr.cell? ⟨gb147, 0, none⟩ = some (.int .i64 a1_0) := (zi BK147.out 0).trans rfl
     have hcz18_1 : wr.cell? ⟨gb147, 1, none⟩ = some (.int .i64 a1_1) := (zi BK147.out 1).trans rfl
     have hcz18_2 : wr.cell? ⟨gb147, 2, none⟩ = some (.int .i64 a1_2) := (zi BK147.out 2).trans rfl
     have hcz18_3 : wr.cell? ⟨gb147, 3, none⟩ = some (.int .i64 a1_3) := (zi BK147.out 3).trans rfl
     have hfz18_0 := zm BK147.out 0
     have hfz18_1 := zm BK147.out 1
     have hfz18_2 := zm BK147.out 2
     have hfz18_3 := zm BK147.out 3
     go_wp2_with (first | ((with_reducible refine zea (f := 30) rfl ?_); refine zna (some 29) rfl rfl Try.func30 (by kernel_rfl) rfl #[.agg #[.int .i64 a1_0, .int .i64 a1_1, .int .i64 a1_2, .int .i64 a1_3]] rfl (by (try simp only [List.map_toArray, List.map_cons, List.map_nil]); first | done | rfl | (simp only [List.length_drop, List.length_take]; rfl)) ?_; (with_reducible refine (impl_State_sum.calls a1_0 a1_1 a1_2 a1_3 t151 _ A17.out).mono ?_); rintro e w19 ⟨rfl, hb⟩; refine ⟨_, rfl, ?_⟩; have n0_ := zh.mk (zo (g := gb147) (o := .cells #[.int .i64 a1_0, .int .i64 a1_1, .int .i64 a1_2, .int .i64 a1_3] 23 (0, 0)) (by (with_reducible repeat (first | refine ze ?_ _ | refine zf ?_ | refine za ?_ _)); exact BK147.out) hb); have n1_ := zh.mk (zs (by repeat (first | (with_reducible first | exact HB.out | apply zl | apply zj | apply zk | refine zg ?_ GE147.out) | exact HB.out)) hb); clear BK147; clear HB; have BK147 := n0_; have HB := n1_; clear n0_ n1_; (try clear hb); (try clear hb2); (try clear hk); (try clear hi)))
     go_ret
     exact ⟨by first | rfl | (simp [errW_none, errW_some] <;> rfl) | (simp [*, errW_none, errW_some] <;> rfl), by repeat (first | (with_reducible first | exact HB.out | apply zl | apply zj | apply zk | refine zg ?_ GE147.out) | exact HB.out)⟩
 ·replace c4 := Bool.eq_false_iff.mpr c4
  subst c4
  have H1 : (some false) = some r := by rw [if_neg (show ¬ (false = true) by decide)] at H; exact H
  clear H
  have H := H1
  clear H1
  obtain rfl := Option.some.inj H
  go_enter Try.func17, Try.ntmps17
  go_wp2_with (first | ((with_reducible refine zba (N := 3) rfl ?_); refine zaa ?hg (N := 3) ?hd (cs := #[.int .i64 a1_0, .int .i64 a1_1, .int .i64 a1_2, .int .i64 a1_3]) (t := 23) ?hr ?_; (case hd => rfl); (case hg => rfl); (case hr => first | (go_simp; done) | (go_simp; rfl)); intro gb147 hg w20 hbox hb; have n0_ := zh.mk (zs (by repeat (first | (with_reducible first | exact HB.out | apply zl | apply zj | apply zk) | exact HB.out)) hb); have n1_ := zh.mk (hbox); have n2_ := zh.mk ((by rw [hg]; exact (zq (by repeat (first | (with_reducible first | exact HB.out | apply zl | apply zj | apply zk) | exact HB.out))) : w.heap.size ≤ gb147)); have n3_ := zh.mk ((by rw [hg]; exact (zq (by repeat (first | (with_reducible first | exact HB.out | apply zl | apply zj | apply zk) | exact HB.out))) : w.heap.size ≤ gb147)); clear HB; have HB := n0_; have BK147 := n1_; have GW147 := n2_; have GE147 := n3_; clear n0_ n1_ n2_ n3_; clear hb hbox hg) | ((with_reducible refine zea (f := 29) rfl ?_); refine zna (some 8) rfl rfl Try.func29 (by kernel_rfl) rfl #[.int .i64 a0, .int .i64 0, .int .i64 3] rfl (by (try simp only [List.map_toArray, List.map_cons, List.map_nil]); first | done | rfl | (simp only [List.length_drop, List.length_take]; rfl)) ?_; (with_reducible refine (impl_within.calls a0 0 3 false _ A3.out).mono ?_); rintro e w' ⟨rfl, ⟨nd, rfl⟩⟩; refine ⟨_, rfl, ?_⟩))
  go_ret
  exact ⟨by first | rfl | (simp [errW_none, errW_some] <;> rfl) | (simp [*, errW_none, errW_some] <;> rfl), by repeat (first | (with_reducible first | exact HB.out | apply zl | apply zj | apply zk | refine zg ?_ GE147.out) | exact HB.out)⟩

/-! ### impl_isAsk: function 18 -/
def impl_isAsk.l0 : Nat → Int → Int → Int → Int → Int → Int → Int → Int → Int → Option (Bool)
 | 0, _, _, _, _, _, _, _, _, _ => none
 | k + 1, x8, x153000, x153001, x153002, x153003, x90008000, x90008001, x90008002, x90008003 => if x8 < 4 then (if 0 ≤ x8 then ((impl_within.f (rd [x90008000, x90008001, x90008002, x90008003] x8) 0 (rd [x153000, x153001, x153002, x153003] x8)).bind fun t157 => (if t157 = true then (impl_isAsk.l0 k (wrap64 (x8 + 1)) x153000 x153001 x153002 x153003 x90008000 x90008001 x90008002 x90008003) else (some false))) else (none)) else (some true)
def impl_isAsk.f (k : Nat) (a0_0 : Int) (a0_1 : Int) (a0_2 : Int) (a0_3 : Int) (a1_0 : Int) (a1_1 : Int) (a1_2 : Int) (a1_3 : Int) : Option (Bool) := impl_isAsk.l0 k 0 a0_0 a0_1 a0_2 a0_3 a1_0 a1_1 a1_2 a1_3
theorem impl_isAsk.mono_l : ∀ k, (∀ y0 y1 y2 y3 y4 y5 y6 y7 y8, LeO (impl_isAsk.l0 k y0 y1 y2 y3 y4 y5 y6 y7 y8) (impl_isAsk.l0 (k + 1) y0 y1 y2 y3 y4 y5 y6 y7 y8))
 | 0 => fun _ _ _ _ _ _ _ _ _ r h => by simp [impl_isAsk.l0] at h
 | k + 1 => by
  have ih0 := impl_isAsk.mono_l k
  ·intro y0 y1 y2 y3 y4 y5 y6 y7 y8
   unfold impl_isAsk.l0
   repeat' first
   | (with_reducible exact ih0 _ _ _ _ _ _ _ _ _)
   | (with_reducible exact LeO.refl _)
   | (with_reducible exact LeO.none _)
   | (with_reducible refine LeO.ite ?_ ?_)
   | (with_reducible refine LeO.bind ?_ (fun _ => ?_))
   | exact ih0 _ _ _ _ _ _ _ _ _
   | exact LeO.none _
   | refine LeO.ite ?_ ?_
   | refine LeO.bind ?_ (fun _ => ?_)
theorem impl_isAsk.mono : ∀ a0 a1 a2 a3 a4 a5 a6 a7 k, LeO (impl_isAsk.f k a0 a1 a2 a3 a4 a5 a6 a7) (impl_isAsk.f (k + 1) a0 a1 a2 a3 a4 a5 a6 a7) := by
 intro a0 a1 a2 a3 a4 a5 a6 a7 k
 have ih0 := impl_isAsk.mono_l k
 unfold impl_isAsk.f
 repeat' first
   | (with_reducible exact ih0 _ _ _ _ _ _ _ _ _)
   | (with_reducible exact LeO.refl _)
   | (with_reducible exact LeO.none _)
   | (with_reducible refine LeO.ite ?_ ?_)
   | (with_reducible refine LeO.bind ?_ (fun _ => ?_))
   | exact ih0 _ _ _ _ _ _ _ _ _
   | exact LeO.none _
   | refine LeO.ite ?_ ?_
   | refine LeO.bind ?_ (fun _ => ?_)
set_option maxHeartbeats 8000000 in
set_option maxRecDepth 100000 in
theorem impl_isAsk.calls (k : Nat) (a0_0 : Int) (a0_1 : Int) (a0_2 : Int) (a0_3 : Int) (a1_0 : Int) (a1_1 : Int) (a1_2 : Int) (a1_3 : Int) (r : Bool) (w : World) (h : impl_isAsk.f k a0_0 a0_1 a0_2 a0_3 a1_0 a1_1 a1_2 a1_3 = some r) :
  Calls Try.prog 18 #[.agg #[.int .i64 a0_0, .int .i64 a0_1, .int .i64 a0_2, .int .i64 a0_3], .agg #[.int .i64 a1_0, .int .i64 a1_1, .int .i64 a1_2, .int .i64 a1_3]] w fun e w' => e = .returned (.bool r) ∧ Below w.heap.size w w' := by
 have hu23 := Try.underlying23
 have HB := zh.mk (Below.refl w.heap.size w)
 have H : (impl_isAsk.l0 k 0 a0_0 a0_1 a0_2 a0_3 a1_0 a1_1 a1_2 a1_3) = some r := h
 clear h
 have H' := zh.mk H
 clear H
 go_enter Try.func18, Try.ntmps18
 go_wp2_with (first | ((with_reducible refine zba (N := 2) rfl ?_); refine zaa ?hg (N := 2) ?hd (cs := #[.int .i64 a0_0, .int .i64 a0_1, .int .i64 a0_2, .int .i64 a0_3]) (t := 23) ?hr ?_; (case hd => rfl); (case hg => rfl); (case hr => first | (go_simp; done) | (go_simp; rfl)); intro gb152 hg w3 hbox hb; have n0_ := zh.mk (zs (by repeat (first | (with_reducible first | exact HB.out | apply zl | apply zj | apply zk) | exact HB.out)) hb); have n1_ := zh.mk (hbox); have n2_ := zh.mk ((by rw [hg]; exact (zq (by repeat (first | (with_reducible first | exact HB.out | apply zl | apply zj | apply zk) | exact HB.out))) : w.heap.size ≤ gb152)); have n3_ := zh.mk ((by rw [hg]; exact (zq (by repeat (first | (with_reducible first | exact HB.out | apply zl | apply zj | apply zk) | exact HB.out))) : w.heap.size ≤ gb152)); clear HB; have HB := n0_; have BK152 := n1_; have GW152 := n2_; have GE152 := n3_; clear n0_ n1_ n2_ n3_; clear hb hbox hg) | ((with_reducible refine zba (N := 3) rfl ?_); refine zaa ?hg (N := 3) ?hd (cs := #[.int .i64 a1_0, .int .i64 a1_1, .int .i64 a1_2, .int .i64 a1_3]) (t := 23) ?hr ?_; (case hd => rfl); (case hg => rfl); (case hr => first | (go_simp; done) | (go_simp; rfl)); intro gb153 hg w4 hbox hb; have n0_ := zh.mk (zo (g := gb152) (o := .cells #[.int .i64 a0_0, .int .i64 a0_1, .int .i64 a0_2, .int .i64 a0_3] 23 (0, 0)) (by (with_reducible repeat (first | refine ze ?_ _ | refine zf ?_ | refine za ?_ _)); exact BK152.out) hb); have n1_ := zh.mk (zs (by repeat (first | (with_reducible first | exact HB.out | apply zl | apply zj | apply zk | refine zg ?_ GE152.out) | exact HB.out)) hb); have n2_ := zh.mk (hbox); have n3_ := zh.mk ((by rw [hg]; exact (zq (by repeat (first | (with_reducible first | exact HB.out | apply zl | apply zj | apply zk | refine zg ?_ GE152.out) | exact HB.out))) : w.heap.size ≤ gb153)); have n4_ := zh.mk ((by rw [hg]; exact (zq (by repeat (first | (with_reducible first | exact HB.out | apply zl | apply zj | apply zk | refine zg ?_ GE152.out) | exact HB.out))) : w.heap.size ≤ gb153)); have n5_ := zh.mk ((by rw [hg]; exact Nat.ne_of_lt (zr (g := gb152) (o := .cells #[.int .i64 a0_0, .int .i64 a0_1, .int .i64 a0_2, .int .i64 a0_3] 23 (0, 0)) (by (with_reducible repeat (first | refine ze ?_ _ | refine zf ?_ | refine za ?_ _)); exact BK152.out)) : gb152 ≠ gb153)); have n6_ := zh.mk ((by rw [hg]; exact Nat.ne_of_gt (zr (g := gb152) (o := .cells #[.int .i64 a0_0, .int .i64 a0_1, .int .i64 a0_2, .int .i64 a0_3] 23 (0, 0)) (by (with_reducible repeat (first | refine ze ?_ _ | refine zf ?_ | refine za ?_ _)); exact BK152.out)) : gb153 ≠ gb152)); clear BK152; clear HB; have BK152 := n0_; have HB := n1_; have BK153 := n2_; have GW153 := n3_; have GE153 := n4_; have NB152_153 := n5_; have NB153_152 := n6_; clear n0_ n1_ n2_ n3_ n4_ n5_ n6_; clear hb hbox hg; have hnb5 := NB153_152.out; have hnc5 := NB152_153.out; have hcz6_0 : w4.cell? ⟨gb153, 0, none⟩ = some (.int .i64 a1_0) := (zi BK153.out 0).trans rfl; have hcz6_1 : w4.cell? ⟨gb153, 1, none⟩ = some (.int .i64 a1_1) := (zi BK153.out 1).trans rfl; have hcz6_2 : w4.cell? ⟨gb153, 2, none⟩ = some (.int .i64 a1_2) := (zi BK153.out 2).trans rfl; have hcz6_3 : w4.cell? ⟨gb153, 3, none⟩ = some (.int .i64 a1_3) := (zi BK153.out 3).trans rfl; have hfz6_0 := zm BK153.out 0; have hfz6_1 := zm BK153.out 1; have hfz6_2 := zm BK153.out 2; have hfz6_3 := zm BK153.out 3))
 go_loopg [8] k (fun kq v8 w' => ∃ (x8_1 : Int), v8 = .int .i64 x8_1 ∧ zh (impl_isAsk.l0 kq x8_1 a0_0 a0_1 a0_2 a0_3 a1_0 a1_1 a1_2 a1_3 = some r) ∧ zh (kq ≤ k) ∧ zh (w'.heap[gb152]? = some (.cells #[.int .i64 a0_0, .int .i64 a0_1, .int .i64 a0_2, .int .i64 a0_3] 23 (0, 0))) ∧ zh (w'.heap[gb153]? = some (.cells #[.int .i64 a1_0, .int .i64 a1_1, .int .i64 a1_2, .int .i64 a1_3] 23 (0, 0))) ∧ zh (Below w.heap.size w w'))
 case atStart => exact ⟨(0), (by first | rfl | (simp; done) | (simp [*]; done)), H', ⟨Nat.le_refl _⟩, ⟨by (with_reducible repeat (first | refine ze ?_ _ | refine zf ?_ | refine za ?_ _)); exact BK152.out⟩, ⟨by (with_reducible repeat (first | refine ze ?_ _ | refine zf ?_ | refine za ?_ _)); exact BK153.out⟩, ⟨by repeat (first | (with_reducible first | exact HB.out | apply zl | apply zj | apply zk | refine zg ?_ GE152.out | refine zg ?_ GE153.out) | exact HB.out)⟩⟩
 case round =>
  clear H'
  try clear c1
  try clear p2
  try clear c5
  try clear hcz6_0
  try clear hcz6_1
  try clear hcz6_2
  try clear hcz6_3
  try clear hfz6_0
  try clear hfz6_1
  try clear hfz6_2
  try clear hfz6_3
  obtain ⟨x8_1, rfl, HA, HK1, BK152, BK153, HB⟩ := hrel
  cases gk with
  | zero => exact absurd HA.out (by simp [impl_isAsk.l0])
  | succ k1 =>
   have H := HA.out
   clear HA
   simp only [impl_isAsk.l0] at H
   by_cases c7 : x8_1 < 4
   ·rw [if_pos c7] at H
    have c7b0 : decide (x8_1 < 4) = true := decide_eq_true c7
    clear c7
    by_cases c8 : 0 ≤ x8_1
    ·rw [if_pos c8] at H
     have c8b0 : decide (0 ≤ x8_1) = true := decide_eq_true c8
     clear c8
     replace H := Option.bind_eq_some_iff.mp H
     obtain ⟨t157, A90, H⟩ := H
     replace H : (if t157 = true then (impl_isAsk.l0 k1 (wrap64 (x8_1 + 1)) a0_0 a0_1 a0_2 a0_3 a1_0 a1_1 a1_2 a1_3) else (some false)) = some r := H
     have A9 := zh.mk A90
     clear A90
     by_cases c10 : t157 = true
     ·subst c10
      have H1 : (impl_isAsk.l0 k1 (wrap64 (x8_1 + 1)) a0_0 a0_1 a0_2 a0_3 a1_0 a1_1 a1_2 a1_3) = some r := by rw [if_pos rfl] at H; exact H
      clear H
      have H := H1
      clear H1
      have H' := zh.mk H
      clear H
      have hx11_0 : ∀ W_ : World, (Instr.index 23 (.agg #[.int .i64 a1_0, .int .i64 a1_1, .int .i64 a1_2, .int .i64 a1_3]) (.int .i64 x8_1)).run Try.prog W_ = .ok (.int .i64 (rd [a1_0, a1_1, a1_2, a1_3] x8_1)) W_ := by intro W_; rcases (show (x8_1 : Int) = 0 ∨ (x8_1 : Int) = 1 ∨ (x8_1 : Int) = 2 ∨ (x8_1 : Int) = 3 by have hp_ : 0 ≤ (x8_1 : Int) := of_decide_eq_true (by first | (with_reducible assumption) | assumption); have hq_ : x8_1 < (4 : Int) := of_decide_eq_true (by first | (with_reducible assumption) | assumption); omega) with h_ | h_ | h_ | h_ <;> rw [h_] <;> kernel_rfl
      have p12 : 0 ≤ (x8_1 : Int) := of_decide_eq_true (by first | (with_reducible assumption) | assumption)
      have q12 : x8_1 < (4 : Int) := of_decide_eq_true (by first | (with_reducible assumption) | assumption)
      replace p12 := eq_true p12
      replace q12 := eq_true q12
      have hnb13 := NB152_153.out
      have hnc13 := NB153_152.out
      have hcz14_0 : wr.cell? ⟨gb152, 0, none⟩ = some (.int .i64 a0_0) := (zi BK152.out 0).trans rfl
      have hcz14_1 : wr.cell? ⟨gb152, 1, none⟩ = some (.int .i64 a0_1) := (zi BK152.out 1).trans rfl
      have hcz14_2 : wr.cell? ⟨gb152, 2, none⟩ = some (.int .i64 a0_2) := (zi BK152.out 2).trans rfl
      have hcz14_3 : wr.cell? ⟨gb152, 3, none⟩ = some (.int .i64 a0_3) := (zi BK152.out 3).trans rfl
      have hfz14_0 := zm BK152.out 0
      have hfz14_1 := zm BK152.out 1
      have hfz14_2 := zm BK152.out 2
      have hfz14_3 := zm BK152.out 3
      have hx15_0 : wr.cell? ⟨gb152, (x8_1).toNat, none⟩ = some (.int .i64 (rd [a0_0, a0_1, a0_2, a0_3] x8_1)) := (zi BK152.out _).trans (by rcases (show (x8_1 : Int) = 0 ∨ (x8_1 : Int) = 1 ∨ (x8_1 : Int) = 2 ∨ (x8_1 : Int) = 3 by have hp_ : 0 ≤ (x8_1 : Int) := of_decide_eq_true (by first | (with_reducible assumption) | assumption); have hq_ : x8_1 < (4 : Int) := of_decide_eq_true (by first | (with_reducible assumption) | assumption); omega) with h_ | h_ | h_ | h_ <;> rw [h_] <;> rfl)
      go_wp2_with (first | ((with_reducible refine zea (f := 29) rfl ?_); refine zna (some 16) rfl rfl Try.func29 (by kernel_rfl) rfl #[.int .i64 (rd [a1_0, a1_1, a1_2, a1_3] x8_1), .int .i64 0, .int .i64 (rd [a0_0, a0_1, a0_2, a0_3] x8_1)] rfl (by (try simp only [List.map_toArray, List.map_cons, List.map_nil]); first | done | rfl | (simp only [List.length_drop, List.length_take]; rfl)) ?_; (with_reducible refine (impl_within.calls (rd [a1_0, a1_1, a1_2, a1_3] x8_1) 0 (rd [a0_0, a0_1, a0_2, a0_3] x8_1) true _ A9.out).mono ?_); rintro e w' ⟨rfl, ⟨nd, rfl⟩⟩; refine ⟨_, rfl, ?_⟩))
      go_roundg k1
      case measure => have := HK1.out; omega
      case rel => exact ⟨(wrap64 (x8_1 + 1)), (by first | rfl | (simp; done) | (simp [*]; done)), H', ⟨by have := HK1.out; omega⟩, ⟨by (with_reducible repeat (first | refine ze ?_ _ | refine zf ?_ | refine za ?_ _)); exact BK152.out⟩, ⟨by (with_reducible repeat (first | refine ze ?_ _ | refine zf ?_ | refine za ?_ _)); exact BK153.out⟩, ⟨by repeat (first | (with_reducible first | exact HB.out | apply zl | apply zj | apply zk | refine zg ?_ GE152.out | refine zg ?_ GE153.out) | exact HB.out)⟩⟩
     ·replace c10 := Bool.eq_false_iff.mpr c10
      subst c10
      have H1 : (some false) = some r := by rw [if_neg (show ¬ (false = true) by decide)] at H; exact H
      clear H
      have H := H1
      clear H1
      obtain rfl := Option.some.inj H
      have hx16_0 : ∀ W_ : World, (Instr.index 23 (.agg #[.int .i64 a1_0, .int .i64 a1_1, .int .i64 a1_2, .int .i64 a1_3]) (.int .i64 x8_1)).run Try.prog W_ = .ok (.int .i64 (rd [a1_0, a1_1, a1_2, a1_3] x8_1)) W_ := by intro W_; rcases (show (x8_1 : Int) = 0 ∨ (x8_1 : Int) = 1 ∨ (x8_1 : Int) = 2 ∨ (x8_1 : Int) = 3 by have hp_ : 0 ≤ (x8_1 : Int) := of_decide_eq_true (by first | (with_reducible assumption) | assumption); have hq_ : x8_1 < (4 : Int) := of_decide_eq_true (by first | (with_reducible assumption) | assumption); omega) with h_ | h_ | h_ | h_ <;> rw [h_] <;> kernel_rfl
      have p17 : 0 ≤ (x8_1 : Int) := of_decide_eq_true (by first | (with_reducible assumption) | assumption)
      have q17 : x8_1 < (4 : Int) := of_decide_eq_true (by first | (with_reducible assumption) | assumption)
      replace p17 := eq_true p17
      replace q17 := eq_true q17
      have hnb18 := NB152_153.out
      have hnc18 := NB153_152.out
      have hcz19_0 : wr.cell? ⟨gb152, 0, none⟩ = some (.int .i64 a0_0) := (zi BK152.out 0).trans rfl
      have hcz19_1 : wr.cell? ⟨gb152, 1, none⟩ = some (.int .i64 a0_1) := (zi BK152.out 1).trans rfl
      have hcz19_2 : wr.cell? ⟨gb152, 2, none⟩ = some (.int .i64 a0_2) := (zi BK152.out 2).trans rfl
      have hcz19_3 : wr.cell? ⟨gb152, 3, none⟩ = some (.int .i64 a0_3) := (zi BK152.out 3).trans rfl
      have hfz19_0 := zm BK152.out 0
      have hfz19_1 := zm BK152.out 1
      have hfz19_2 := zm BK152.out 2
      have hfz19_3 := zm BK152.out 3
      have hx20_0 : wr.cell? ⟨gb152, (x8_1).toNat, none⟩ = some (.int .i64 (rd [a0_0, a0_1, a0_2, a0_3] x8_1)) := (zi BK152.out _).trans (by rcases (show (x8_1 : Int) = 0 ∨ (x8_1 : Int) = 1 ∨ (x8_1 : Int) = 2 ∨ (x8_1 : Int) = 3 by have hp_ : 0 ≤ (x8_1 : Int) := of_decide_eq_true (by first | (with_reducible assumption) | assumption); have hq_ : x8_1 < (4 : Int) := of_decide_eq_true (by first | (with_reducible assumption) | assumption); omega) with h_ | h_ | h_ | h_ <;> rw [h_] <;> rfl)
      go_wp2_with (first | ((with_reducible refine zea (f := 29) rfl ?_); refine zna (some 16) rfl rfl Try.func29 (by kernel_rfl) rfl #[.int .i64 (rd [a1_0, a1_1, a1_2, a1_3] x8_1), .int .i64 0, .int .i64 (rd [a0_0, a0_1, a0_2, a0_3] x8_1)] rfl (by (try simp only [List.map_toArray, List.map_cons, List.map_nil]); first | done | rfl | (simp only [List.length_drop, List.length_take]; rfl)) ?_; (with_reducible refine (impl_within.calls (rd [a1_0, a1_1, a1_2, a1_3] x8_1) 0 (rd [a0_0, a0_1, a0_2, a0_3] x8_1) false _ A9.out).mono ?_); rintro e w' ⟨rfl, ⟨nd, rfl⟩⟩; refine ⟨_, rfl, ?_⟩))
      go_ret
      exact ⟨by first | rfl | (simp [errW_none, errW_some] <;> rfl) | (simp [*, errW_none, errW_some] <;> rfl), by repeat (first | (with_reducible first | exact HB.out | apply zl | apply zj | apply zk | refine zg ?_ GE152.out | refine zg ?_ GE153.out) | exact HB.out)⟩
    ·rw [if_neg c8] at H
     exact absurd H (by simp)
   ·rw [if_neg c7] at H
    have c7b0 : decide (x8_1 < 4) = false := decide_eq_false c7
    clear c7
    obtain rfl := Option.some.inj H
    go_wp2
    go_ret
    exact ⟨by first | rfl | (simp [errW_none, errW_some] <;> rfl) | (simp [*, errW_none, errW_some] <;> rfl), by repeat (first | (with_reducible first | exact HB.out | apply zl | apply zj | apply zk | refine zg ?_ GE152.out | refine zg ?_ GE153.out) | exact HB.out)⟩

end Go.Proofs.Ytidblojobcgkjaa.M
