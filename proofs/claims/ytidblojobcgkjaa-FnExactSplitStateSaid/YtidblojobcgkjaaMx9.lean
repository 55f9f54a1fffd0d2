-- Written by wip/tools/myprint.py, a program of this session, by way of the kit's print.
import Derived.Test.YtidblojobcgkjaaMx0
namespace Go.Proofs.Ytidblojobcgkjaa.M
open Go.RowKit Go.Proofs.YtidblojobcgkjaaW.PrintWords Go.Proofs.YtidblojobcgkjaaW.PrintLast Go.Proofs.YtidblojobcgkjaaW.PrintMore
attribute [local go_sem] wl_0 wl_1 wl_2 wl_3 wl_4 max2_int min2_int max_two min_two zpa zoa max_four min_four   -- for this text's walks alone
set_option linter.unusedVariables false
set_option linter.unusedSimpArgs false

/-! ### laws_eqState: function 8 -/
def laws_eqState.l0 : Nat → Int → Int → Int → Int → Int → Int → Int → Int → Int → Option (Bool)
 | 0, _, _, _, _, _, _, _, _, _ => none
 | k + 1, x5, x181000, x181001, x181002, x181003, x182000, x182001, x182002, x182003 => if x5 < 4 then (if 0 ≤ x5 then (if (rd [x181000, x181001, x181002, x181003] x5) = (rd [x182000, x182001, x182002, x182003] x5) then (laws_eqState.l0 k (wrap64 (x5 + 1)) x181000 x181001 x181002 x181003 x182000 x182001 x182002 x182003) else (some false)) else (none)) else (some true)
def laws_eqState.f (k : Nat) (a0_0 : Int) (a0_1 : Int) (a0_2 : Int) (a0_3 : Int) (a1_0 : Int) (a1_1 : Int) (a1_2 : Int) (a1_3 : Int) : Option (Bool) := laws_eqState.l0 k 0 a0_0 a0_1 a0_2 a0_3 a1_0 a1_1 a1_2 a1_3
theorem laws_eqState.mono_l : ∀ k, (∀ y0 y1 y2 y3 y4 y5 y6 y7 y8, LeO (laws_eqState.l0 k y0 y1 y2 y3 y4 y5 y6 y7 y8) (laws_eqState.l0 (k + 1) y0 y1 y2 y3 y4 y5 y6 y7 y8))
 | 0 => fun _ _ _ _ _ _ _ _ _ r h => by simp [laws_eqState.l0] at h
 | k + 1 => by
  have ih0 := laws_eqState.mono_l k
  ·intro y0 y1 y2 y3 y4 y5 y6 y7 y8
   unfold laws_eqState.l0
   repeat' first
   | (with_reducible exact ih0 _ _ _ _ _ _ _ _ _)
   | (with_reducible exact LeO.refl _)
   | (with_reducible exact LeO.none _)
   | (with_reducible refine LeO.ite ?_ ?_)
   | (with_reducible refine LeO.bind ?_ (fun _ => ?_))
   | exact ih0 _ _ _ _ _ _ _ _ _
   | exact LeO.none _
   | refine LeO.ite ?_ ?_
   | refine LeO.bind ?_ (fun _ => ?_)
theorem laws_eqState.mono : ∀ a0 a1 a2 a3 a4 a5 a6 a7 k, LeO (laws_eqState.f k a0 a1 a2 a3 a4 a5 a6 a7) (laws_eqState.f (k + 1) a0 a1 a2 a3 a4 a5 a6 a7) := by
 intro a0 a1 a2 a3 a4 a5 a6 a7 k
 have ih0 := laws_eqState.mono_l k
 unfold laws_eqState.f
 repeat' first
   | (with_reducible exact ih0 _ _ _ _ _ _ _ _ _)
   | (with_reducible exact LeO.refl _)
   | (with_reducible exact LeO.none _)
   | (with_reducible refine LeO.ite ?_ ?_)
   | (with_reducible refine LeO.bind ?_ (fun _ => ?_))
   | exact ih0 _ _ _ _ _ _ _ _ _
   | exact LeO.none _
   | refine LeO.ite ?_ ?_
   | refine LeO.bind ?_ (fun _ => ?_)
set_option maxHeartbeats 8000000 in
set_option maxRecDepth 100000 in
theorem laws_eqState.calls (k : Nat) (a0_0 : Int) (a0_1 : Int) (a0_2 : Int) (a0_3 : Int) (a1_0 : Int) (a1_1 : Int) (a1_2 : Int) (a1_3 : Int) (r : Bool) (w : World) (h : laws_eqState.f k a0_0 a0_1 a0_2 a0_3 a1_0 a1_1 a1_2 a1_3 = some r) :
  Calls Try.prog 8 #[.agg #[.int .i64 a0_0, .int .i64 a0_1, .int .i64 a0_2, .int .i64 a0_3], .agg #[.int .i64 a1_0, .int .i64 a1_1, .int .i64 a1_2, .int .i64 a1_3]] w fun e w' => e = .returned (.bool r) ∧ Below w.heap.size w w' := by
 have hu23 := Try.underlying23
 have HB := zh.mk (Below.refl w.heap.size w)
 have H : (laws_eqState.l0 k 0 a0_0 a0_1 a0_2 a0_3 a1_0 a1_1 a1_2 a1_3) = some r := h
 clear h
 have H' := zh.mk H
 clear H
 go_enter Try.func8, Try.ntmps8
 go_wp2_with (first | ((with_reducible refine zba (N := 2) rfl ?_); refine zaa ?hg (N := 2) ?hd (cs := #[.int .i64 a0_0, .int .i64 a0_1, .int .i64 a0_2, .int .i64 a0_3]) (t := 23) ?hr ?_; (case hd => rfl); (case hg => rfl); (case hr => first | (go_simp; done) | (go_simp; rfl)); intro gb180 hg w3 hbox hb; have n0_ := zh.mk (zs (by repeat (first | (with_reducible first | exact HB.out | apply zl | apply zj | apply zk) | exact HB.out)) hb); have n1_ := zh.mk (hbox); have n2_ := zh.mk ((by rw [hg]; exact (zq (by repeat (first | (with_reducible first | exact HB.out | apply zl | apply zj | apply zk) | exact HB.out))) : w.heap.size ≤ gb180)); have n3_ := zh.mk ((by rw [hg]; exact (zq (by repeat (first | (with_reducible first | exact HB.out | apply zl | apply zj | apply zk) | exact HB.out))) : w.heap.size ≤ gb180)); clear HB; have HB := n0_; have BK180 := n1_; have GW180 := n2_; have GE180 := n3_; clear n0_ n1_ n2_ n3_; clear hb hbox hg) | ((with_reducible refine zba (N := 3) rfl ?_); refine zaa ?hg (N := 3) ?hd (cs := #[.int .i64 a1_0, .int .i64 a1_1, .int .i64 a1_2, .int .i64 a1_3]) (t := 23) ?hr ?_; (case hd => rfl); (case hg => rfl); (case hr => first | (go_simp; done) | (go_simp; rfl)); intro gb181 hg w4 hbox hb; have n0_ := zh.mk (zo (g := gb180) (o := .cells #[.int .i64 a0_0, .int .i64 a0_1, .int .i64 a0_2, .int .i64 a0_3] 23 (0, 0)) (by (with_reducible repeat (first | refine ze ?_ _ | refine zf ?_ | refine za ?_ _)); exact BK180.out) hb); have n1_ := zh.mk (zs (by repeat (first | (with_reducible first | exact HB.out | apply zl | apply zj | apply zk | refine zg ?_ GE180.out) | exact HB.out)) hb); have n2_ := zh.mk (hbox); have n3_ := zh.mk ((by rw [hg]; exact (zq (by repeat (first | (with_reducible first | exact HB.out | apply zl | apply zj | apply zk | refine zg ?_ GE180.out) | exact HB.out))) : w.heap.size ≤ gb181)); have n4_ := zh.mk ((by rw [hg]; exact (zq (by repeat (first | (with_reducible first | exact HB.out | apply zl | apply zj | apply zk | refine zg ?_ GE180.out) | exact HB.out))) : w.heap.size ≤ gb181)); have n5_ := zh.mk ((by rw [hg]; exact Nat.ne_of_lt (zr (g := gb180) (o := .cells #[.int .i64 a0_0, .int .i64 a0_1, .int .i64 a0_2, .int .i64 a0_3] 23 (0, 0)) (by (with_reducible repeat (first | refine ze ?_ _ | refine zf ?_ | refine za ?_ _)); exact BK180.out)) : gb180 ≠ gb181)); have n6_ := zh.mk ((by rw [hg]; exact Nat.ne_of_gt (zr (g := gb180) (o := .cells #[.int .i64 a0_0, .int .i64 a0_1, .int .i64 a0_2, .int .i64 a0_3] 23 (0, 0)) (by (with_reducible repeat (first | refine ze ?_ _ | refine zf ?_ | refine za ?_ _)); exact BK180.out)) : gb181 ≠ gb180)); clear BK180; clear HB; have BK180 := n0_; have HB := n1_; have BK181 := n2_; have GW181 := n3_; have GE181 := n4_; have NB180_181 := n5_; have NB181_180 := n6_; clear n0_ n1_ n2_ n3_ n4_ n5_ n6_; clear hb hbox hg))
 repeat (go_quiet (first | ((with_reducible refine zba (N := 2) rfl ?_); refine zaa ?hg (N := 2) ?hd (cs := #[.int .i64 a0_0, .int .i64 a0_1, .int .i64 a0_2, .int .i64 a0_3]) (t := 23) ?hr ?_; (case hd => rfl); (case hg => rfl); (case hr => first | (go_simp; done) | (go_simp; rfl)); intro gb180 hg w3 hbox hb; have n0_ := zh.mk (zs (by repeat (first | (with_reducible first | exact HB.out | apply zl | apply zj | apply zk) | exact HB.out)) hb); have n1_ := zh.mk (hbox); have n2_ := zh.mk ((by rw [hg]; exact (zq (by repeat (first | (with_reducible first | exact HB.out | apply zl | apply zj | apply zk) | exact HB.out))) : w.heap.size ≤ gb180)); have n3_ := zh.mk ((by rw [hg]; exact (zq (by repeat (first | (with_reducible first | exact HB.out | apply zl | apply zj | apply zk) | exact HB.out))) : w.heap.size ≤ gb180)); clear HB; have HB := n0_; have BK180 := n1_; have GW180 := n2_; have GE180 := n3_; clear n0_ n1_ n2_ n3_; clear hb hbox hg) | ((with_reducible refine zba (N := 3) rfl ?_); refine zaa ?hg (N := 3) ?hd (cs := #[.int .i64 a1_0, .int .i64 a1_1, .int .i64 a1_2, .int .i64 a1_3]) (t := 23) ?hr ?_; (case hd => rfl); (case hg => rfl); (case hr => first | (go_simp; done) | (go_simp; rfl)); intro gb181 hg w4 hbox hb; have n0_ := zh.mk (zo (g := gb180) (o := .cells #[.int .i64 a0_0, .int .i64 a0_1, .int .i64 a0_2, .int .i64 a0_3] 23 (0, 0)) (by (with_reducible repeat (first | refine ze ?_ _ | refine zf ?_ | refine za ?_ _)); exact BK180.out) hb); have n1_ := zh.mk (zs (by repeat (first | (with_reducible first | exact HB.out | apply zl | apply zj | apply zk | refine zg ?_ GE180.out) | exact HB.out)) hb); have n2_ := zh.mk (hbox); have n3_ := zh.mk ((by rw [hg]; exact (zq (by repeat (first | (with_reducible first | exact HB.out | apply zl | apply zj | apply zk | refine zg ?_ GE180.out) | exact HB.out))) : w.heap.size ≤ gb181)); have n4_ := zh.mk ((by rw [hg]; exact (zq (by repeat (first | (with_reducible first | exact HB.out | apply zl | apply zj | apply zk | refine zg ?_ GE180.out) | exact HB.out))) : w.heap.size ≤ gb181)); have n5_ := zh.mk ((by rw [hg]; exact Nat.ne_of_lt (zr (g := gb180) (o := .cells #[.int .i64 a0_0, .int .i64 a0_1, .int .i64 a0_2, .int .i64 a0_3] 23 (0, 0)) (by (with_reducible repeat (first | refine ze ?_ _ | refine zf ?_ | refine za ?_ _)); exact BK180.out)) : gb180 ≠ gb181)); have n6_ := zh.mk ((by rw [hg]; exact Nat.ne_of_gt (zr (g := gb180) (o := .cells #[.int .i64 a0_0, .int .i64 a0_1, .int .i64 a0_2, .int .i64 a0_3] 23 (0, 0)) (by (with_reducible repeat (first | refine ze ?_ _ | refine zf ?_ | refine za ?_ _)); exact BK180.out)) : gb181 ≠ gb180)); clear BK180; clear HB; have BK180 := n0_; have HB := n1_; have BK181 := n2_; have GW181 := n3_; have GE181 := n4_; have NB180_181 := n5_; have NB181_180 := n6_; clear n0_ n1_ n2_ n3_ n4_ n5_ n6_; clear hb hbox hg)); try go_wp2_with (first | ((with_reducible refine zba (N := 2) rfl ?_); refine zaa ?hg (N := 2) ?hd (cs := #[.int .i64 a0_0, .int .i64 a0_1, .int .i64 a0_2, .int .i64 a0_3]) (t := 23) ?hr ?_; (case hd => rfl); (case hg => rfl); (case hr => first | (go_simp; done) | (go_simp; rfl)); intro gb180 hg w3 hbox hb; have n0_ := zh.mk (zs (by repeat (first | (with_reducible first | exact HB.out | apply zl | apply zj | apply zk) | exact HB.out)) hb); have n1_ := zh.mk (hbox); have n2_ := zh.mk ((by rw [hg]; exact (zq (by repeat (first | (with_reducible first | exact HB.out | apply zl | apply zj | apply zk) | exact HB.out))) : w.heap.size ≤ gb180)); have n3_ := zh.mk ((by rw [hg]; exact (zq (by repeat (first | (with_reducible first | exact HB.out | apply zl | apply zj | apply zk) | exact HB.out))) : w.heap.size ≤ gb180)); clear HB; have HB := n0_; have BK180 := n1_; have GW180 := n2_; have GE180 := n3_; clear n0_ n1_ n2_ n3_; clear hb hbox hg) | ((with_reducible refine zba (N := 3) rfl ?_); refine zaa ?hg (N := 3) ?hd (cs := #[.int .i64 a1_0, .int .i64 a1_1, .int .i64 a1_2, .int .i64 a1_3]) (t := 23) ?hr ?_; (case hd => rfl); (case hg => rfl); (case hr => first | (go_simp; done) | (go_simp; rfl)); intro gb181 hg w4 hbox hb; have n0_ := zh.mk (zo (g := gb180) (o := .cells #[.int .i64 a0_0, .int .i64 a0_1, .int .i64 a0_2, .int .i64 a0_3] 23 (0, 0)) (by (with_reducible repeat (first | refine ze ?_ _ | refine zf ?_ | refine za ?_ _)); exact BK180.out) hb); have n1_ := zh.mk (zs (by repeat (first | (with_reducible first | exact HB.out | apply zl | apply zj | apply zk | refine zg ?_ GE180.out) | exact HB.out)) hb); have n2_ := zh.mk (hbox); have n3_ := zh.mk ((by rw [hg]; exact (zq (by repeat (first | (with_reducible first | exact HB.out | apply zl | apply zj | apply zk | refine zg ?_ GE180.out) | exact HB.out))) : w.heap.size ≤ gb181)); have n4_ := zh.mk ((by rw [hg]; exact (zq (by repeat (first | (with_reducible first | exact HB.out | apply zl | apply zj | apply zk | refine zg ?_ GE180.out) | exact HB.out))) : w.heap.size ≤ gb181)); have n5_ := zh.mk ((by rw [hg]; exact Nat.ne_of_lt (zr (g := gb180) (o := .cells #[.int .i64 a0_0, .int .i64 a0_1, .int .i64 a0_2, .int .i64 a0_3] 23 (0, 0)) (by (with_reducible repeat (first | refine ze ?_ _ | refine zf ?_ | refine za ?_ _)); exact BK180.out)) : gb180 ≠ gb181)); have n6_ := zh.mk ((by rw [hg]; exact Nat.ne_of_gt (zr (g := gb180) (o := .cells #[.int .i64 a0_0, .int .i64 a0_1, .int .i64 a0_2, .int .i64 a0_3] 23 (0, 0)) (by (with_reducible repeat (first | refine ze ?_ _ | refine zf ?_ | refine za ?_ _)); exact BK180.out)) : gb181 ≠ gb180)); clear BK180; clear HB; have BK180 := n0_; have HB := n1_; have BK181 := n2_; have GW181 := n3_; have GE181 := n4_; have NB180_181 := n5_; have NB181_180 := n6_; clear n0_ n1_ n2_ n3_ n4_ n5_ n6_; clear hb hbox hg)))
 go_loopg [5] k (fun kq v5 w' => ∃ (x5_1 : Int), v5 = .int .i64 x5_1 ∧ zh (laws_eqState.l0 kq x5_1 a0_0 a0_1 a0_2 a0_3 a1_0 a1_1 a1_2 a1_3 = some r) ∧ zh (kq ≤ k) ∧ zh (w'.heap[gb180]? = some (.cells #[.int .i64 a0_0, .int .i64 a0_1, .int .i64 a0_2, .int .i64 a0_3] 23 (0, 0))) ∧ zh (w'.heap[gb181]? = some (.cells #[.int .i64 a1_0, .int .i64 a1_1, .int .i64 a1_2, .int .i64 a1_3] 23 (0, 0))) ∧ zh (Below w.heap.size w w'))
 case atStart => exact ⟨(0), (by first | rfl | (simp; done) | (simp [*]; done)), H', ⟨Nat.le_refl _⟩, ⟨by (with_reducible repeat (first | refine ze ?_ _ | refine zf ?_ | refine za ?_ _)); exact BK180.out⟩, ⟨by (with_reducible repeat (first | refine ze ?_ _ | refine zf ?_ | refine za ?_ _)); exact BK181.out⟩, ⟨by repeat (first | (with_reducible first | exact HB.out | apply zl | apply zj | apply zk | refine zg ?_ GE180.out | refine zg ?_ GE181.out) | exact HB.out)⟩⟩
 case round =>
  clear H'
  try clear p2
  obtain ⟨x5_1, rfl, HA, HK1, BK180, BK181, HB⟩ := hrel
  cases gk with
  | zero => exact absurd HA.out (by simp [laws_eqState.l0])
  | succ k1 =>
   have H := HA.out
   clear HA
   simp only [laws_eqState.l0] at H
   by_cases c5 : x5_1 < 4
   ·rw [if_pos c5] at H
    have c5b0 : decide (x5_1 < 4) = true := decide_eq_true c5
    clear c5
    by_cases c6 : 0 ≤ x5_1
    ·rw [if_pos c6] at H
     have c6b0 : decide (0 ≤ x5_1) = true := decide_eq_true c6
     clear c6
     by_cases c7 : (rd [a0_0, a0_1, a0_2, a0_3] x5_1) = (rd [a1_0, a1_1, a1_2, a1_3] x5_1)
     ·rw [if_pos c7] at H
      have c7b0 : ((rd [a0_0, a0_1, a0_2, a0_3] x5_1) == (rd [a1_0, a1_1, a1_2, a1_3] x5_1)) = true := beq_iff_eq.mpr c7
      have c7b1 : ((rd [a0_0, a0_1, a0_2, a0_3] x5_1) != (rd [a1_0, a1_1, a1_2, a1_3] x5_1)) = false := bne_eq_false_iff_eq.mpr c7
      clear c7
      have H' := zh.mk H
      clear H
      have p8 : 0 ≤ (x5_1 : Int) := of_decide_eq_true (by first | (with_reducible assumption) | assumption)
      have q8 : x5_1 < (4 : Int) := of_decide_eq_true (by first | (with_reducible assumption) | assumption)
      replace p8 := eq_true p8
      replace q8 := eq_true q8
      have hnb9 := NB180_181.out
      have hnc9 := NB181_180.out
      have hcz10_0 : wr.cell? ⟨gb180, 0, none⟩ = some (.int .i64 a0_0) := (zi BK180.out 0).trans rfl
      have hcz10_1 : wr.cell? ⟨gb180, 1, none⟩ = some (.int .i64 a0_1) := (zi BK180.out 1).trans rfl
      have hcz10_2 : wr.cell? ⟨gb180, 2, none⟩ = some (.int .i64 a0_2) := (zi BK180.out 2).trans rfl
      have hcz10_3 : wr.cell? ⟨gb180, 3, none⟩ = some (.int .i64 a0_3) := (zi BK180.out 3).trans rfl
      have hfz10_0 := zm BK180.out 0
      have hfz10_1 := zm BK180.out 1
      have hfz10_2 := zm BK180.out 2
      have hfz10_3 := zm BK180.out 3
      have hx11_0 : wr.cell? ⟨gb180, (x5_1).toNat, none⟩ = some (.int .i64 (rd [a0_0, a0_1, a0_2, a0_3] x5_1)) := (zi BK180.out _).trans (by rcases (show (x5_1 : Int) = 0 ∨ (x5_1 : Int) = 1 ∨ (x5_1 : Int) = 2 ∨ (x5_1 : Int) = 3 by have hp_ : 0 ≤ (x5_1 : Int) := of_decide_eq_true (by first | (with_reducible assumption) | assumption); have hq_ : x5_1 < (4 : Int) := of_decide_eq_true (by first | (with_reducible assumption) | assumption); omega) with h_ | h_ | h_ | h_ <;> rw [h_] <;> rfl)
      have p12 : 0 ≤ (x5_1 : Int) := of_decide_eq_true (by first | (with_reducible assumption) | assumption)
      have q12 : x5_1 < (4 : Int) := of_decide_eq_true (by first | (with_reducible assumption) | assumption)
      replace p12 := eq_true p12
      replace q12 := eq_true q12
      have hcz13_0 : wr.cell? ⟨gb181, 0, none⟩ = some (.int .i64 a1_0) := (zi BK181.out 0).trans rfl
      have hcz13_1 : wr.cell? ⟨gb181, 1, none⟩ = some (.int .i64 a1_1) := (zi BK181.out 1).trans rfl
      have hcz13_2 : wr.cell? ⟨gb181, 2, none⟩ = some (.int .i64 a1_2) := (zi BK181.out 2).trans rfl
      have hcz13_3 : wr.cell? ⟨gb181, 3, none⟩ = some (.int .i64 a1_3) := (zi BK181.out 3).trans rfl
      have hfz13_0 := zm BK181.out 0
      have hfz13_1 := zm BK181.out 1
      have hfz13_2 := zm BK181.out 2
      have hfz13_3 := zm BK181.out 3
      have hx14_0 : wr.cell? ⟨gb181, (x5_1).toNat, none⟩ = some (.int .i64 (rd [a1_0, a1_1, a1_2, a1_3] x5_1)) := (zi BK181.out _).trans (by rcases (show (x5_1 : Int) = 0 ∨ (x5_1 : Int) = 1 ∨ (x5_1 : Int) = 2 ∨ (x5_1 : Int) = 3 by have hp_ : 0 ≤ (x5_1 : Int) := of_decide_eq_true (by first | (with_reducible assumption) | assumption); have hq_ : x5_1 < (4 : Int) := of_decide_eq_true (by first | (with_reducible assumption) | assumption); omega) with h_ | h_ | h_ | h_ <;> rw [h_] <;> rfl)
      go_wp2
      repeat (go_quiet (fail); try go_wp2)
      go_roundg k1
      case measure => have := HK1.out; omega
      case rel => exact ⟨(wrap64 (x5_1 + 1)), (by first | rfl | (simp; done) | (simp [*]; done)), H', ⟨by have := HK1.out; omega⟩, ⟨by (with_reducible repeat (first | refine ze ?_ _ | refine zf ?_ | refine za ?_ _)); exact BK180.out⟩, ⟨by (with_reducible repeat (first | refine ze ?_ _ | refine zf ?_ | refine za ?_ _)); exact BK181.out⟩, ⟨by repeat (first | (with_reducible first | exact HB.out | apply zl | apply zj | apply zk | refine zg ?_ GE180.out | refine zg ?_ GE181.out) | exact HB.out)⟩⟩
     ·rw [if_neg c7] at H
      have c7b0 : ((rd [a0_0, a0_1, a0_2, a0_3] x5_1) == (rd [a1_0, a1_1, a1_2, a1_3] x5_1)) = false := beq_eq_false_iff_ne.mpr c7
      have c7b1 : ((rd [a0_0, a0_1, a0_2, a0_3] x5_1) != (rd [a1_0, a1_1, a1_2, a1_3] x5_1)) = true := bne_iff_ne.mpr c7
      obtain rfl := Option.some.inj H
      have p15 : 0 ≤ (x5_1 : Int) := of_decide_eq_true (by first | (with_reducible assumption) | assumption)
      have q15 : x5_1 < (4 : Int) := of_decide_eq_true (by first | (with_reducible assumption) | assumption)
      replace p15 := eq_true p15
      replace q15 := eq_true q15
      have hnb16 := NB180_181.out
      have hnc16 := NB181_180.out
      have hcz17_0 : wr.cell? ⟨gb180, 0, none⟩ = some (.int .i64 a0_0) := (zi BK180.out 0).trans rfl
      have hcz17_1 : wr.cell? ⟨gb180, 1, none⟩ = some (.int .i64 a0_1) := (zi BK180.out 1).trans rfl
      have hcz17_2 : wr.cell? ⟨gb180, 2, none⟩ = some (.int .i64 a0_2) := (zi BK180.out 2).trans rfl
      have hcz17_3 : wr.cell? ⟨gb180, 3, none⟩ = some (.int .i64 a0_3) := (zi BK180.out 3).trans rfl
      have hfz17_0 := zm BK180.out 0
      have hfz17_1 := zm BK180.out 1
      have hfz17_2 := zm BK180.out 2
      have hfz17_3 := zm BK180.out 3
      have hx18_0 : wr.cell? ⟨gb180, (x5_1).toNat, none⟩ = some (.int .i64 (rd [a0_0, a0_1, a0_2, a0_3] x5_1)) := (zi BK180.out _).trans (by rcases (show (x5_1 : Int) = 0 ∨ (x5_1 : Int) = 1 ∨ (x5_1 : Int) = 2 ∨ (x5_1 : Int) = 3 by have hp_ : 0 ≤ (x5_1 : Int) := of_decide_eq_true (by first | (with_reducible assumption) | assumption); have hq_ : x5_1 < (4 : Int) := of_decide_eq_true (by first | (with_reducible assumption) | assumption); omega) with h_ | h_ | h_ | h_ <;> rw [h_] <;> rfl)
      have p19 : 0 ≤ (x5_1 : Int) := of_decide_eq_true (by first | (with_reducible assumption) | assumption)
      have q19 : x5_1 < (4 : Int) := of_decide_eq_true (by first | (with_reducible assumption) | assumption)
      replace p19 := eq_true p19
      replace q19 := eq_true q19
      have hcz20_0 : wr.cell? ⟨gb181, 0, none⟩ = some (.int .i64 a1_0) := (zi BK181.out 0).trans rfl
      have hcz20_1 : wr.cell? ⟨gb181, 1, none⟩ = some (.int .i64 a1_1) := (zi BK181.out 1).trans rfl
      have hcz20_2 : wr.cell? ⟨gb181, 2, none⟩ = some (.int .i64 a1_2) := (zi BK181.out 2).trans rfl
      have hcz20_3 : wr.cell? ⟨gb181, 3, none⟩ = some (.int .i64 a1_3) := (zi BK181.out 3).trans rfl
      have hfz20_0 := zm BK181.out 0
      have hfz20_1 := zm BK181.out 1
      have hfz20_2 := zm BK181.out 2
      have hfz20_3 := zm BK181.out 3
      have hx21_0 : wr.cell? ⟨gb181, (x5_1).toNat, none⟩ = some (.int .i64 (rd [a1_0, a1_1, a1_2, a1_3] x5_1)) := (zi BK181.out _).trans (by rcases (show (x5_1 : Int) = 0 ∨ (x5_1 : Int) = 1 ∨ (x5_1 : Int) = 2 ∨ (x5_1 : Int) = 3 by have hp_ : 0 ≤ (x5_1 : Int) := of_decide_eq_true (by first | (with_reducible assumption) | assumption); have hq_ : x5_1 < (4 : Int) := of_decide_eq_true (by first | (with_reducible assumption) | assumption); omega) with h_ | h_ | h_ | h_ <;> rw [h_] <;> rfl)
      go_wp2
      repeat (go_quiet (fail); try go_wp2)
      go_ret
      exact ⟨by first | rfl | (simp [errW_none, errW_some] <;> rfl) | (simp [*, errW_none, errW_some] <;> rfl), by repeat (first | (with_reducible first | exact HB.out | apply zl | apply zj | apply zk | refine zg ?_ GE180.out | refine zg ?_ GE181.out) | exact HB.out)⟩
    ·rw [if_neg c6] at H
     exact absurd H (by simp)
   ·rw [if_neg c5] at H
    have c5b0 : decide (x5_1 < 4) = false := decide_eq_false c5
    clear c5
    obtain rfl := Option.some.inj H
    go_wp2
    repeat (go_quiet (fail); try go_wp2)
    go_ret
    exact ⟨by first | rfl | (simp [errW_none, errW_some] <;> rfl) | (simp [*, errW_none, errW_some] <;> rfl), by repeat (first | (with_reducible first | exact HB.out | apply zl | apply zj | apply zk | refine zg ?_ GE180.out | refine zg ?_ GE181.out) | exact HB.out)⟩

end Go.Proofs.Ytidblojobcgkjaa.M
