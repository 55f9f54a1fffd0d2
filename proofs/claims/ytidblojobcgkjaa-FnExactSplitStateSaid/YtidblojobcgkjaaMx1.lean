-- Written by wip/tools/myprint.py, a program of this session, by way of the kit's print.
import Derived.Test.YtidblojobcgkjaaMx0
namespace Go.Proofs.Ytidblojobcgkjaa.M
open Go.RowKit Go.Proofs.YtidblojobcgkjaaW.PrintWords Go.Proofs.YtidblojobcgkjaaW.PrintLast Go.Proofs.YtidblojobcgkjaaW.PrintMore
attribute [local go_sem] wl_0 wl_1 wl_2 wl_3 wl_4 max2_int min2_int max_two min_two zpa zoa max_four min_four   -- for this text's walks alone
set_option linter.unusedVariables false
set_option linter.unusedSimpArgs false

/-! ### spec_l00In: function 27 -/
def spec_l00In.f (a0 : Int) (a1 : Int) (a2 : Int) : Option (Bool) := if a0 ≥ a1 then (some (decide (a0 ≤ a2))) else (some false)
set_option maxHeartbeats 8000000 in
set_option maxRecDepth 100000 in
theorem spec_l00In.calls (a0 : Int) (a1 : Int) (a2 : Int) (r : Bool) (w : World) (h : spec_l00In.f a0 a1 a2 = some r) :
  Calls Try.prog 27 #[.int .i64 a0, .int .i64 a1, .int .i64 a2] w fun e w' => e = .returned (.bool r) ∧ Drawn0 w w' := by
 have H : (if a0 ≥ a1 then (some (decide (a0 ≤ a2))) else (some false)) = some r := h
 clear h
 by_cases c4 : a0 ≥ a1
 ·rw [if_pos c4] at H
  have c4b0 : decide (a1 ≤ a0) = true := decide_eq_true c4
  clear c4
  obtain rfl := Option.some.inj H
  go_enter Try.func27, Try.ntmps27
  go_wp2
  go_ret
  exact ⟨by first | rfl | (simp; done) | (simp [*]; done), by repeat (first | exact Drawn0.refl _ | apply Drawn0.step)⟩
 ·rw [if_neg c4] at H
  have c4b0 : decide (a1 ≤ a0) = false := decide_eq_false c4
  clear c4
  obtain rfl := Option.some.inj H
  go_enter Try.func27, Try.ntmps27
  go_wp2
  go_ret
  exact ⟨by first | rfl | (simp; done) | (simp [*]; done), by repeat (first | exact Drawn0.refl _ | apply Drawn0.step)⟩

/-! ### spec_l06Total: function 28 -/
def spec_l06Total.f (a0_0 : Int) (a0_1 : Int) (a0_2 : Int) (a0_3 : Int) : Option (Int) := some (wrap64 ((wrap64 ((wrap64 (a0_0 + a0_1)) + a0_2)) + a0_3))
set_option maxHeartbeats 8000000 in
set_option maxRecDepth 100000 in
theorem spec_l06Total.calls (a0_0 : Int) (a0_1 : Int) (a0_2 : Int) (a0_3 : Int) (r : Int) (w : World) (h : spec_l06Total.f a0_0 a0_1 a0_2 a0_3 = some r) :
  Calls Try.prog 28 #[.agg #[.int .i64 a0_0, .int .i64 a0_1, .int .i64 a0_2, .int .i64 a0_3]] w fun e w' => e = .returned (.int .i64 r) ∧ Below w.heap.size w w' := by
 have hu23 := Try.underlying23
 have HB := zh.mk (Below.refl w.heap.size w)
 have H : (some (wrap64 ((wrap64 ((wrap64 (a0_0 + a0_1)) + a0_2)) + a0_3))) = some r := h
 clear h
 obtain rfl := Option.some.inj H
 go_enter Try.func28, Try.ntmps28
 go_wp2_with (first | ((with_reducible refine zba (N := 1) rfl ?_); refine zaa ?hg (N := 1) ?hd (cs := #[.int .i64 a0_0, .int .i64 a0_1, .int .i64 a0_2, .int .i64 a0_3]) (t := 23) ?hr ?_; (case hd => rfl); (case hg => rfl); (case hr => first | (go_simp; done) | (go_simp; rfl)); intro gb101 hg w2 hbox hb; have n0_ := zh.mk (zs (by repeat (first | (with_reducible first | exact HB.out | apply zl | apply zj | apply zk) | exact HB.out)) hb); have n1_ := zh.mk (hbox); have n2_ := zh.mk ((by rw [hg]; exact (zq (by repeat (first | (with_reducible first | exact HB.out | apply zl | apply zj | apply zk) | exact HB.out))) : w.heap.size ≤ gb101)); have n3_ := zh.mk ((by rw [hg]; exact (zq (by repeat (first | (with_reducible first | exact HB.out | apply zl | apply zj | apply zk) | exact HB.out))) : w.heap.size ≤ gb101)); clear HB; have HB := n0_; have BK101 := n1_; have GW101 := n2_; have GE101 := n3_; clear n0_ n1_ n2_ n3_; clear hb hbox hg; have hcz3_0 : w2.cell? ⟨gb101, 0, none⟩ = some (.int .i64 a0_0) := (zi BK101.out 0).trans rfl; have hcz3_1 : w2.cell? ⟨gb101, 1, none⟩ = some (.int .i64 a0_1) := (zi BK101.out 1).trans rfl; have hcz3_2 : w2.cell? ⟨gb101, 2, none⟩ = some (.int .i64 a0_2) := (zi BK101.out 2).trans rfl; have hcz3_3 : w2.cell? ⟨gb101, 3, none⟩ = some (.int .i64 a0_3) := (zi BK101.out 3).trans rfl; have hfz3_0 := zm BK101.out 0; have hfz3_1 := zm BK101.out 1; have hfz3_2 := zm BK101.out 2; have hfz3_3 := zm BK101.out 3))
 go_ret
 exact ⟨by first | rfl | (simp [errW_none, errW_some] <;> rfl) | (simp [*, errW_none, errW_some] <;> rfl), by repeat (first | (with_reducible first | exact HB.out | apply zl | apply zj | apply zk | refine zg ?_ GE101.out) | exact HB.out)⟩

/-! ### spec_l06Valid: function 14 -/
def spec_l06Valid.l0 : Nat → Int → Int → Int → Int → Int → Int → Option (Bool)
 | 0, _, _, _, _, _, _ => none
 | k + 1, x0, x5, x103000, x103001, x103002, x103003 => if x5 < 4 then (if 0 ≤ x5 then ((spec_l00In.f (rd [x103000, x103001, x103002, x103003] x5) 0 60).bind fun t106 => (if t106 = true then (if x5 > x0 then (if (rd [x103000, x103001, x103002, x103003] x5) = 0 then (spec_l06Valid.l0 k x0 (wrap64 (x5 + 1)) x103000 x103001 x103002 x103003) else (some false)) else (spec_l06Valid.l0 k x0 (wrap64 (x5 + 1)) x103000 x103001 x103002 x103003)) else (some false))) else (none)) else ((spec_l06Total.f x103000 x103001 x103002 x103003).bind fun t109 => (some (decide (t109 ≤ 60))))
def spec_l06Valid.f (k : Nat) (a0 : Int) (a1_0 : Int) (a1_1 : Int) (a1_2 : Int) (a1_3 : Int) : Option (Bool) := (spec_l00In.f a0 0 3).bind fun t103 => (if t103 = true then (spec_l06Valid.l0 k a0 0 a1_0 a1_1 a1_2 a1_3) else (some false))
theorem spec_l06Valid.mono_l : ∀ k, (∀ y0 y1 y2 y3 y4 y5, LeO (spec_l06Valid.l0 k y0 y1 y2 y3 y4 y5) (spec_l06Valid.l0 (k + 1) y0 y1 y2 y3 y4 y5))
 | 0 => fun _ _ _ _ _ _ r h => by simp [spec_l06Valid.l0] at h
 | k + 1 => by
  have ih0 := spec_l06Valid.mono_l k
  ·intro y0 y1 y2 y3 y4 y5
   unfold spec_l06Valid.l0
   repeat' first
   | (with_reducible exact ih0 _ _ _ _ _ _)
   | (with_reducible exact LeO.refl _)
   | (with_reducible exact LeO.none _)
   | (with_reducible refine LeO.ite ?_ ?_)
   | (with_reducible refine LeO.bind ?_ (fun _ => ?_))
   | exact ih0 _ _ _ _ _ _
   | exact LeO.none _
   | refine LeO.ite ?_ ?_
   | refine LeO.bind ?_ (fun _ => ?_)
theorem spec_l06Valid.mono : ∀ a0 a1 a2 a3 a4 k, LeO (spec_l06Valid.f k a0 a1 a2 a3 a4) (spec_l06Valid.f (k + 1) a0 a1 a2 a3 a4) := by
 intro a0 a1 a2 a3 a4 k
 have ih0 := spec_l06Valid.mono_l k
 unfold spec_l06Valid.f
 repeat' first
   | (with_reducible exact ih0 _ _ _ _ _ _)
   | (with_reducible exact LeO.refl _)
   | (with_reducible exact LeO.none _)
   | (with_reducible refine LeO.ite ?_ ?_)
   | (with_reducible refine LeO.bind ?_ (fun _ => ?_))
   | exact ih0 _ _ _ _ _ _
   | exact LeO.none _
   | refine LeO.ite ?_ ?_
   | refine LeO.bind ?_ (fun _ => ?_)
set_option maxHeartbeats 8000000 in
set_option maxRecDepth 100000 in
theorem spec_l06Valid.calls (k : Nat) (a0 : Int) (a1_0 : Int) (a1_1 : Int) (a1_2 : Int) (a1_3 : Int) (r : Bool) (w : World) (h : spec_l06Valid.f k a0 a1_0 a1_1 a1_2 a1_3 = some r) :
  Calls Try.prog 14 #[.int .i64 a0, .agg #[.int .i64 a1_0, .int .i64 a1_1, .int .i64 a1_2, .int .i64 a1_3]] w fun e w' => e = .returned (.bool r) ∧ Below w.heap.size w w' := by
 have hu23 := Try.underlying23
 have HB := zh.mk (Below.refl w.heap.size w)
 have H : ((spec_l00In.f a0 0 3).bind fun t103 => (if t103 = true then (spec_l06Valid.l0 k a0 0 a1_0 a1_1 a1_2 a1_3) else (some false))) = some r := h
 clear h
 replace H := Option.bind_eq_some_iff.mp H
 obtain ⟨t103, A30, H⟩ := H
 replace H : (if t103 = true then (spec_l06Valid.l0 k a0 0 a1_0 a1_1 a1_2 a1_3) else (some false)) = some r := H
 have A3 := zh.mk A30
 clear A30
 by_cases c4 : t103 = true
 ·subst c4
  have H1 : (spec_l06Valid.l0 k a0 0 a1_0 a1_1 a1_2 a1_3) = some r := by rw [if_pos rfl] at H; exact H
  clear H
  have H := H1
  clear H1
  have H' := zh.mk H
  clear H
  go_enter Try.func14, Try.ntmps14
  go_wp2_with (first | ((with_reducible refine zba (N := 3) rfl ?_); refine zaa ?hg (N := 3) ?hd (cs := #[.int .i64 a1_0, .int .i64 a1_1, .int .i64 a1_2, .int .i64 a1_3]) (t := 23) ?hr ?_; (case hd => rfl); (case hg => rfl); (case hr => first | (go_simp; done) | (go_simp; rfl)); intro gb102 hg w5 hbox hb; have n0_ := zh.mk (zs (by repeat (first | (with_reducible first | exact HB.out | apply zl | apply zj | apply zk) | exact HB.out)) hb); have n1_ := zh.mk (hbox); have n2_ := zh.mk ((by rw [hg]; exact (zq (by repeat (first | (with_reducible first | exact HB.out | apply zl | apply zj | apply zk) | exact HB.out))) : w.heap.size ≤ gb102)); have n3_ := zh.mk ((by rw [hg]; exact (zq (by repeat (first | (with_reducible first | exact HB.out | apply zl | apply zj | apply zk) | exact HB.out))) : w.heap.size ≤ gb102)); clear HB; have HB := n0_; have BK102 := n1_; have GW102 := n2_; have GE102 := n3_; clear n0_ n1_ n2_ n3_; clear hb hbox hg) | ((with_reducible refine zea (f := 27) rfl ?_); refine zna (some 7) rfl rfl Try.func27 (by kernel_rfl) rfl #[.int .i64 a0, .int .i64 0, .int .i64 3] rfl (by (try simp only [List.map_toArray, List.map_cons, List.map_nil]); first | done | rfl | (simp only [List.length_drop, List.length_take]; rfl)) ?_; (with_reducible refine (spec_l00In.calls a0 0 3 true _ A3.out).mono ?_); rintro e w' ⟨rfl, ⟨nd, rfl⟩⟩; refine ⟨_, rfl, ?_⟩))
  go_loopg [5] k (fun kq v5 w' => ∃ (x5_1 : Int), v5 = .int .i64 x5_1 ∧ zh (spec_l06Valid.l0 kq a0 x5_1 a1_0 a1_1 a1_2 a1_3 = some r) ∧ zh (kq ≤ k) ∧ zh (w'.heap[gb102]? = some (.cells #[.int .i64 a1_0, .int .i64 a1_1, .int .i64 a1_2, .int .i64 a1_3] 23 (0, 0))) ∧ zh (Below w.heap.size w w'))
  case atStart => exact ⟨(0), (by first | rfl | (simp; done) | (simp [*]; done)), H', ⟨Nat.le_refl _⟩, ⟨by (with_reducible repeat (first | refine ze ?_ _ | refine zf ?_ | refine za ?_ _)); exact BK102.out⟩, ⟨by repeat (first | (with_reducible first | exact HB.out | apply zl | apply zj | apply zk | refine zg ?_ GE102.out) | exact HB.out)⟩⟩
  case round =>
   clear H'
   try clear c1
   try clear c2
   try clear p2
   try clear c4
   obtain ⟨x5_1, rfl, HA, HK1, BK102, HB⟩ := hrel
   cases gk with
   | zero => exact absurd HA.out (by simp [spec_l06Valid.l0])
   | succ k1 =>
    have H := HA.out
    clear HA
    simp only [spec_l06Valid.l0] at H
    by_cases c6 : x5_1 < 4
    ·rw [if_pos c6] at H
     have c6b0 : decide (x5_1 < 4) = true := decide_eq_true c6
     clear c6
     by_cases c7 : 0 ≤ x5_1
     ·rw [if_pos c7] at H
      have c7b0 : decide (0 ≤ x5_1) = true := decide_eq_true c7
      clear c7
      replace H := Option.bind_eq_some_iff.mp H
      obtain ⟨t106, A80, H⟩ := H
      replace H : (if t106 = true then (if x5_1 > a0 then (if (rd [a1_0, a1_1, a1_2, a1_3] x5_1) = 0 then (spec_l06Valid.l0 k1 a0 (wrap64 (x5_1 + 1)) a1_0 a1_1 a1_2 a1_3) else (some false)) else (spec_l06Valid.l0 k1 a0 (wrap64 (x5_1 + 1)) a1_0 a1_1 a1_2 a1_3)) else (some false)) = some r := H
      have A8 := zh.mk A80
      clear A80
      by_cases c9 : t106 = true
      ·subst c9
       have H1 : (if x5_1 > a0 then (if (rd [a1_0, a1_1, a1_2, a1_3] x5_1) = 0 then (spec_l06Valid.l0 k1 a0 (wrap64 (x5_1 + 1)) a1_0 a1_1 a1_2 a1_3) else (some false)) else (spec_l06Valid.l0 k1 a0 (wrap64 (x5_1 + 1)) a1_0 a1_1 a1_2 a1_3)) = some r := by rw [if_pos rfl] at H; exact H
       clear H
       have H := H1
       clear H1
       by_cases c10 : x5_1 > a0
       ·rw [if_pos c10] at H
        have c10b0 : decide (a0 < x5_1) = true := decide_eq_true c10
        clear c10
        by_cases c11 : (rd [a1_0, a1_1, a1_2, a1_3] x5_1) = 0
        ·rw [if_pos c11] at H
         have c11b0 : ((rd [a1_0, a1_1, a1_2, a1_3] x5_1) == 0) = true := beq_iff_eq.mpr c11
         have c11b1 : ((rd [a1_0, a1_1, a1_2, a1_3] x5_1) != 0) = false := bne_eq_false_iff_eq.mpr c11
         clear c11
         have H' := zh.mk H
         clear H
         have p12 : 0 ≤ (x5_1 : Int) := of_decide_eq_true (by first | (with_reducible assumption) | assumption)
         have q12 : x5_1 < (4 : Int) := of_decide_eq_true (by first | (with_reducible assumption) | assumption)
         replace p12 := eq_true p12
         replace q12 := eq_true q12
         have hcz13_0 : wr.cell? ⟨gb102, 0, none⟩ = some (.int .i64 a1_0) := (zi BK102.out 0).trans rfl
         have hcz13_1 : wr.cell? ⟨gb102, 1, none⟩ = some (.int .i64 a1_1) := (zi BK102.out 1).trans rfl
         have hcz13_2 : wr.cell? ⟨gb102, 2, none⟩ = some (.int .i64 a1_2) := (zi BK102.out 2).trans rfl
         have hcz13_3 : wr.cell? ⟨gb102, 3, none⟩ = some (.int .i64 a1_3) := (zi BK102.out 3).trans rfl
         have hfz13_0 := zm BK102.out 0
         have hfz13_1 := zm BK102.out 1
         have hfz13_2 := zm BK102.out 2
         have hfz13_3 := zm BK102.out 3
         have hx14_0 : wr.cell? ⟨gb102, (x5_1).toNat, none⟩ = some (.int .i64 (rd [a1_0, a1_1, a1_2, a1_3] x5_1)) := (zi BK102.out _).trans (by rcases (show (x5_1 : Int) = 0 ∨ (x5_1 : Int) = 1 ∨ (x5_1 : Int) = 2 ∨ (x5_1 : Int) = 3 by have hp_ : 0 ≤ (x5_1 : Int) := of_decide_eq_true (by first | (with_reducible assumption) | assumption); have hq_ : x5_1 < (4 : Int) := of_decide_eq_true (by first | (with_reducible assumption) | assumption); omega) with h_ | h_ | h_ | h_ <;> rw [h_] <;> rfl)
         go_wp2_with (first | ((with_reducible refine zea (f := 27) rfl ?_); refine zna (some 16) rfl rfl Try.func27 (by kernel_rfl) rfl #[.int .i64 (rd [a1_0, a1_1, a1_2, a1_3] x5_1), .int .i64 0, .int .i64 60] rfl (by (try simp only [List.map_toArray, List.map_cons, List.map_nil]); first | done | rfl | (simp only [List.length_drop, List.length_take]; rfl)) ?_; (with_reducible refine (spec_l00In.calls (rd [a1_0, a1_1, a1_2, a1_3] x5_1) 0 60 true _ A8.out).mono ?_); rintro e w' ⟨rfl, ⟨nd, rfl⟩⟩; refine ⟨_, rfl, ?_⟩; have p15 : 0 ≤ (x5_1 : Int) := of_decide_eq_true (by first | (with_reducible assumption) | assumption); have q15 : x5_1 < (4 : Int) := of_decide_eq_true (by first | (with_reducible assumption) | assumption); replace p15 := eq_true p15; replace q15 := eq_true q15; have hx16_0 : wr.cell? ⟨gb102, (x5_1).toNat, none⟩ = some (.int .i64 (rd [a1_0, a1_1, a1_2, a1_3] x5_1)) := (zi BK102.out _).trans (by rcases (show (x5_1 : Int) = 0 ∨ (x5_1 : Int) = 1 ∨ (x5_1 : Int) = 2 ∨ (x5_1 : Int) = 3 by have hp_ : 0 ≤ (x5_1 : Int) := of_decide_eq_true (by first | (with_reducible assumption) | assumption); have hq_ : x5_1 < (4 : Int) := of_decide_eq_true (by first | (with_reducible assumption) | assumption); omega) with h_ | h_ | h_ | h_ <;> rw [h_] <;> rfl)))
         go_roundg k1
         case measure => have := HK1.out; omega
         case rel => exact ⟨(wrap64 (x5_1 + 1)), (by first | rfl | (simp; done) | (simp [*]; done)), H', ⟨by have := HK1.out; omega⟩, ⟨by (with_reducible repeat (first | refine ze ?_ _ | refine zf ?_ | refine za ?_ _)); exact BK102.out⟩, ⟨by repeat (first | (with_reducible first | exact HB.out | apply zl | apply zj | apply zk | refine zg ?_ GE102.out) | exact HB.out)⟩⟩
        ·rw [if_neg c11] at H
         have c11b0 : ((rd [a1_0, a1_1, a1_2, a1_3] x5_1) == 0) = false := beq_eq_false_iff_ne.mpr c11
         have c11b1 : ((rd [a1_0, a1_1, a1_2, a1_3] x5_1) != 0) = true := bne_iff_ne.mpr c11
         obtain rfl := Option.some.inj H
         have p17 : 0 ≤ (x5_1 : Int) := of_decide_eq_true (by first | (with_reducible assumption) | assumption)
         have q17 : x5_1 < (4 : Int) := of_decide_eq_true (by first | (with_reducible assumption) | assumption)
         replace p17 := eq_true p17
         replace q17 := eq_true q17
         have hcz18_0 : wr.cell? ⟨gb102, 0, none⟩ = some (.int .i64 a1_0) := (zi BK102.out 0).trans rfl
         have hcz18_1 : wr.cell? ⟨gb102, 1, none⟩ = some (.int .i64 a1_1) := (zi BK102.out 1).trans rfl
         have hcz18_2 : wr.cell? ⟨gb102, 2, none⟩ = some (.int .i64 a1_2) := (zi BK102.out 2).trans rfl
         have hcz18_3 : wr.cell? ⟨gb102, 3, none⟩ = some (.int .i64 a1_3) := (zi BK102.out 3).trans rfl
         have hfz18_0 := zm BK102.out 0
         have hfz18_1 := zm BK102.out 1
         have hfz18_2 := zm BK102.out 2
         have hfz18_3 := zm BK102.out 3
         have hx19_0 : wr.cell? ⟨gb102, (x5_1).toNat, none⟩ = some (.int .i64 (rd [a1_0, a1_1, a1_2, a1_3] x5_1)) := (zi BK102.out _).trans (by rcases (show (x5_1 : Int) = 0 ∨ (x5_1 : Int) = 1 ∨ (x5_1 : Int) = 2 ∨ (x5_1 : Int) = 3 by have hp_ : 0 ≤ (x5_1 : Int) := of_decide_eq_true (by first | (with_reducible assumption) | assumption); have hq_ : x5_1 < (4 : Int) := of_decide_eq_true (by first | (with_reducible assumption) | assumption); omega) with h_ | h_ | h_ | h_ <;> rw [h_] <;> rfl)
         go_wp2_with (first | ((with_reducible refine zea (f := 27) rfl ?_); refine zna (some 16) rfl rfl Try.func27 (by kernel_rfl) rfl #[.int .i64 (rd [a1_0, a1_1, a1_2, a1_3] x5_1), .int .i64 0, .int .i64 60] rfl (by (try simp only [List.map_toArray, List.map_cons, List.map_nil]); first | done | rfl | (simp only [List.length_drop, List.length_take]; rfl)) ?_; (with_reducible refine (spec_l00In.calls (rd [a1_0, a1_1, a1_2, a1_3] x5_1) 0 60 true _ A8.out).mono ?_); rintro e w' ⟨rfl, ⟨nd, rfl⟩⟩; refine ⟨_, rfl, ?_⟩; have p20 : 0 ≤ (x5_1 : Int) := of_decide_eq_true (by first | (with_reducible assumption) | assumption); have q20 : x5_1 < (4 : Int) := of_decide_eq_true (by first | (with_reducible assumption) | assumption); replace p20 := eq_true p20; replace q20 := eq_true q20; have hx21_0 : wr.cell? ⟨gb102, (x5_1).toNat, none⟩ = some (.int .i64 (rd [a1_0, a1_1, a1_2, a1_3] x5_1)) := (zi BK102.out _).trans (by rcases (show (x5_1 : Int) = 0 ∨ (x5_1 : Int) = 1 ∨ (x5_1 : Int) = 2 ∨ (x5_1 : Int) = 3 by have hp_ : 0 ≤ (x5_1 : Int) := of_decide_eq_true (by first | (with_reducible assumption) | assumption); have hq_ : x5_1 < (4 : Int) := of_decide_eq_true (by first | (with_reducible assumption) | assumption); omega) with h_ | h_ | h_ | h_ <;> rw [h_] <;> rfl)))
         go_ret
         exact ⟨by first | rfl | (simp [errW_none, errW_some] <;> rfl) | (simp [*, errW_none, errW_some] <;> rfl), by repeat (first | (with_reducible first | exact HB.out | apply zl | apply zj | apply zk | refine zg ?_ GE102.out) | exact HB.out)⟩
       ·rw [if_neg c10] at H
        have c10b0 : decide (a0 < x5_1) = false := decide_eq_false c10
        clear c10
        have H' := zh.mk H
        clear H
        have p22 : 0 ≤ (x5_1 : Int) := of_decide_eq_true (by first | (with_reducible assumption) | assumption)
        have q22 : x5_1 < (4 : Int) := of_decide_eq_true (by first | (with_reducible assumption) | assumption)
        replace p22 := eq_true p22
        replace q22 := eq_true q22
        have hcz23_0 : wr.cell? ⟨gb102, 0, none⟩ = some (.int .i64 a1_0) := (zi BK102.out 0).trans rfl
        have hcz23_1 : wr.cell? ⟨gb102, 1, none⟩ = some (.int .i64 a1_1) := (zi BK102.out 1).trans rfl
        have hcz23_2 : wr.cell? ⟨gb102, 2, none⟩ = some (.int .i64 a1_2) := (zi BK102.out 2).trans rfl
        have hcz23_3 : wr.cell? ⟨gb102, 3, none⟩ = some (.int .i64 a1_3) := (zi BK102.out 3).trans rfl
        have hfz23_0 := zm BK102.out 0
        have hfz23_1 := zm BK102.out 1
        have hfz23_2 := zm BK102.out 2
        have hfz23_3 := zm BK102.out 3
        have hx24_0 : wr.cell? ⟨gb102, (x5_1).toNat, none⟩ = some (.int .i64 (rd [a1_0, a1_1, a1_2, a1_3] x5_1)) := (zi BK102.out _).trans (by rcases (show (x5_1 : Int) = 0 ∨ (x5_1 : Int) = 1 ∨ (x5_1 : Int) = 2 ∨ (x5_1 : Int) = 3 by have hp_ : 0 ≤ (x5_1 : Int) := of_decide_eq_true (by first | (with_reducible assumption) | assumption); have hq_ : x5_1 < (4 : Int) := of_decide_eq_true (by first | (with_reducible assumption) | assumption); omega) with h_ | h_ | h_ | h_ <;> rw [h_] <;> rfl)
        go_wp2_with (first | ((with_reducible refine zea (f := 27) rfl ?_); refine zna (some 16) rfl rfl Try.func27 (by kernel_rfl) rfl #[.int .i64 (rd [a1_0, a1_1, a1_2, a1_3] x5_1), .int .i64 0, .int .i64 60] rfl (by (try simp only [List.map_toArray, List.map_cons, List.map_nil]); first | done | rfl | (simp only [List.length_drop, List.length_take]; rfl)) ?_; (with_reducible refine (spec_l00In.calls (rd [a1_0, a1_1, a1_2, a1_3] x5_1) 0 60 true _ A8.out).mono ?_); rintro e w' ⟨rfl, ⟨nd, rfl⟩⟩; refine ⟨_, rfl, ?_⟩))
        go_roundg k1
        case measure => have := HK1.out; omega
        case rel => exact ⟨(wrap64 (x5_1 + 1)), (by first | rfl | (simp; done) | (simp [*]; done)), H', ⟨by have := HK1.out; omega⟩, ⟨by (with_reducible repeat (first | refine ze ?_ _ | refine zf ?_ | refine za ?_ _)); exact BK102.out⟩, ⟨by repeat (first | (with_reducible first | exact HB.out | apply zl | apply zj | apply zk | refine zg ?_ GE102.out) | exact HB.out)⟩⟩
      ·replace c9 := Bool.eq_false_iff.mpr c9
       subst c9
       have H1 : (some false) = some r := by rw [if_neg (show ¬ (false = true) by decide)] at H; exact H
       clear H
       have H := H1
       clear H1
       obtain rfl := Option.some.inj H
       have p25 : 0 ≤ (x5_1 : Int) := of_decide_eq_true (by first | (with_reducible assumption) | assumption)
       have q25 : x5_1 < (4 : Int) := of_decide_eq_true (by first | (with_reducible assumption) | assumption)
       replace p25 := eq_true p25
       replace q25 := eq_true q25
       have hcz26_0 : wr.cell? ⟨gb102, 0, none⟩ = some (.int .i64 a1_0) := (zi BK102.out 0).trans rfl
       have hcz26_1 : wr.cell? ⟨gb102, 1, none⟩ = some (.int .i64 a1_1) := (zi BK102.out 1).trans rfl
       have hcz26_2 : wr.cell? ⟨gb102, 2, none⟩ = some (.int .i64 a1_2) := (zi BK102.out 2).trans rfl
       have hcz26_3 : wr.cell? ⟨gb102, 3, none⟩ = some (.int .i64 a1_3) := (zi BK102.out 3).trans rfl
       have hfz26_0 := zm BK102.out 0
       have hfz26_1 := zm BK102.out 1
       have hfz26_2 := zm BK102.out 2
       have hfz26_3 := zm BK102.out 3
       have hx27_0 : wr.cell? ⟨gb102, (x5_1).toNat, none⟩ = some (.int .i64 (rd [a1_0, a1_1, a1_2, a1_3] x5_1)) := (zi BK102.out _).trans (by rcases (show (x5_1 : Int) = 0 ∨ (x5_1 : Int) = 1 ∨ (x5_1 : Int) = 2 ∨ (x5_1 : Int) = 3 by have hp_ : 0 ≤ (x5_1 : Int) := of_decide_eq_true (by first | (with_reducible assumption) | assumption); have hq_ : x5_1 < (4 : Int) := of_decide_eq_true (by first | (with_reducible assumption) | assumption); omega) with h_ | h_ | h_ | h_ <;> rw [h_] <;> rfl)
       go_wp2_with (first | ((with_reducible refine zea (f := 27) rfl ?_); refine zna (some 16) rfl rfl Try.func27 (by kernel_rfl) rfl #[.int .i64 (rd [a1_0, a1_1, a1_2, a1_3] x5_1), .int .i64 0, .int .i64 60] rfl (by (try simp only [List.map_toArray, List.map_cons, List.map_nil]); first | done | rfl | (simp only [List.length_drop, List.length_take]; rfl)) ?_; (with_reducible refine (spec_l00In.calls (rd [a1_0, a1_1, a1_2, a1_3] x5_1) 0 60 false _ A8.out).mono ?_); rintro e w' ⟨rfl, ⟨nd, rfl⟩⟩; refine ⟨_, rfl, ?_⟩))
       go_ret
       exact ⟨by first | rfl | (simp [errW_none, errW_some] <;> rfl) | (simp [*, errW_none, errW_some] <;> rfl), by repeat (first | (with_reducible first | exact HB.out | apply zl | apply zj | apply zk | refine zg ?_ GE102.out) | exact HB.out)⟩
     ·rw [if_neg c7] at H
      exact absurd H (by simp)
    ·rw [if_neg c6] at H
     have c6b0 : decide (x5_1 < 4) = false := decide_eq_false c6
     clear c6
     replace H := Option.bind_eq_some_iff.mp H
     obtain ⟨t109, A280, H⟩ := H
     replace H : (some (decide (t109 ≤ 60))) = some r := H
     have A28 := zh.mk A280
     clear A280
     obtain rfl := Option.some.inj H
     have hcz29_0 : wr.cell? ⟨gb102, 0, none⟩ = some (.int .i64 a1_0) := (zi BK102.out 0).trans rfl
     have hcz29_1 : wr.cell? ⟨gb102, 1, none⟩ = some (.int .i64 a1_1) := (zi BK102.out 1).trans rfl
     have hcz29_2 : wr.cell? ⟨gb102, 2, none⟩ = some (.int .i64 a1_2) := (zi BK102.out 2).trans rfl
     have hcz29_3 : wr.cell? ⟨gb102, 3, none⟩ = some (.int .i64 a1_3) := (zi BK102.out 3).trans rfl
     have hfz29_0 := zm BK102.out 0
     have hfz29_1 := zm BK102.out 1
     have hfz29_2 := zm BK102.out 2
     have hfz29_3 := zm BK102.out 3
     go_wp2_with (first | ((with_reducible refine zea (f := 28) rfl ?_); refine zna (some 30) rfl rfl Try.func28 (by kernel_rfl) rfl #[.agg #[.int .i64 a1_0, .int .i64 a1_1, .int .i64 a1_2, .int .i64 a1_3]] rfl (by (try simp only [List.map_toArray, List.map_cons, List.map_nil]); first | done | rfl | (simp only [List.length_drop, List.length_take]; rfl)) ?_; (with_reducible refine (spec_l06Total.calls a1_0 a1_1 a1_2 a1_3 t109 _ A28.out).mono ?_); rintro e w30 ⟨rfl, hb⟩; refine ⟨_, rfl, ?_⟩; have n0_ := zh.mk (zo (g := gb102) (o := .cells #[.int .i64 a1_0, .int .i64 a1_1, .int .i64 a1_2, .int .i64 a1_3] 23 (0, 0)) (by (with_reducible repeat (first | refine ze ?_ _ | refine zf ?_ | refine za ?_ _)); exact BK102.out) hb); have n1_ := zh.mk (zs (by repeat (first | (with_reducible first | exact HB.out | apply zl | apply zj | apply zk | refine zg ?_ GE102.out) | exact HB.out)) hb); clear BK102; clear HB; have BK102 := n0_; have HB := n1_; clear n0_ n1_; (try clear hb); (try clear hb2); (try clear hk); (try clear hi)))
     go_ret
     exact ⟨by first | rfl | (simp [errW_none, errW_some] <;> rfl) | (simp [*, errW_none, errW_some] <;> rfl), by repeat (first | (with_reducible first | exact HB.out | apply zl | apply zj | apply zk | refine zg ?_ GE102.out) | exact HB.out)⟩
 ·replace c4 := Bool.eq_false_iff.mpr c4
  subst c4
  have H1 : (some false) = some r := by rw [if_neg (show ¬ (false = true) by decide)] at H; exact H
  clear H
  have H := H1
  clear H1
  obtain rfl := Option.some.inj H
  go_enter Try.func14, Try.ntmps14
  go_wp2_with (first | ((with_reducible refine zba (N := 3) rfl ?_); refine zaa ?hg (N := 3) ?hd (cs := #[.int .i64 a1_0, .int .i64 a1_1, .int .i64 a1_2, .int .i64 a1_3]) (t := 23) ?hr ?_; (case hd => rfl); (case hg => rfl); (case hr => first | (go_simp; done) | (go_simp; rfl)); intro gb102 hg w31 hbox hb; have n0_ := zh.mk (zs (by repeat (first | (with_reducible first | exact HB.out | apply zl | apply zj | apply zk) | exact HB.out)) hb); have n1_ := zh.mk (hbox); have n2_ := zh.mk ((by rw [hg]; exact (zq (by repeat (first | (with_reducible first | exact HB.out | apply zl | apply zj | apply zk) | exact HB.out))) : w.heap.size ≤ gb102)); have n3_ := zh.mk ((by rw [hg]; exact (zq (by repeat (first | (with_reducible first | exact HB.out | apply zl | apply zj | apply zk) | exact HB.out))) : w.heap.size ≤ gb102)); clear HB; have HB := n0_; have BK102 := n1_; have GW102 := n2_; have GE102 := n3_; clear n0_ n1_ n2_ n3_; clear hb hbox hg) | ((with_reducible refine zea (f := 27) rfl ?_); refine zna (some 7) rfl rfl Try.func27 (by kernel_rfl) rfl #[.int .i64 a0, .int .i64 0, .int .i64 3] rfl (by (try simp only [List.map_toArray, List.map_cons, List.map_nil]); first | done | rfl | (simp only [List.length_drop, List.length_take]; rfl)) ?_; (with_reducible refine (spec_l00In.calls a0 0 3 false _ A3.out).mono ?_); rintro e w' ⟨rfl, ⟨nd, rfl⟩⟩; refine ⟨_, rfl, ?_⟩))
  go_ret
  exact ⟨by first | rfl | (simp [errW_none, errW_some] <;> rfl) | (simp [*, errW_none, errW_some] <;> rfl), by repeat (first | (with_reducible first | exact HB.out | apply zl | apply zj | apply zk | refine zg ?_ GE102.out) | exact HB.out)⟩

end Go.Proofs.Ytidblojobcgkjaa.M
