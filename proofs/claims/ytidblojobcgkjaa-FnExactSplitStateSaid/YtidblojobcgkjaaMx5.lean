-- Written by wip/tools/myprint.py, a program of this session, by way of the kit's print.
import Derived.Test.YtidblojobcgkjaaMx0
namespace Go.Proofs.Ytidblojobcgkjaa.M
open Go.RowKit Go.Proofs.YtidblojobcgkjaaW.PrintWords Go.Proofs.YtidblojobcgkjaaW.PrintLast Go.Proofs.YtidblojobcgkjaaW.PrintMore
attribute [local go_sem] wl_0 wl_1 wl_2 wl_3 wl_4 max2_int min2_int max_two min_two zpa zoa max_four min_four   -- for this text's walks alone
set_option linter.unusedVariables false
set_option linter.unusedSimpArgs false

/-! ### laws_toState: function 6 -/
def laws_toState.l0 : Nat → Int → Int → Int → Int → Int → Int → Int → Int → Int → Option (Int × Int × Int × Int)
 | 0, _, _, _, _, _, _, _, _, _ => none
 | k + 1, x4, x140000, x140001, x140002, x140003, x142000, x142001, x142002, x142003 => if x4 < 4 then (if 0 ≤ x4 then (laws_toState.l0 k (wrap64 (x4 + 1)) x140000 x140001 x140002 x140003 (pickA x4 0 (rd [x140000, x140001, x140002, x140003] x4) x142000) (pickA x4 1 (rd [x140000, x140001, x140002, x140003] x4) x142001) (pickA x4 2 (rd [x140000, x140001, x140002, x140003] x4) x142002) (pickA x4 3 (rd [x140000, x140001, x140002, x140003] x4) x142003)) else (none)) else (some (x142000, x142001, x142002, x142003))
def laws_toState.f (k : Nat) (a0_0 : Int) (a0_1 : Int) (a0_2 : Int) (a0_3 : Int) : Option (Int × Int × Int × Int) := laws_toState.l0 k 0 a0_0 a0_1 a0_2 a0_3 0 0 0 0
theorem laws_toState.mono_l : ∀ k, (∀ y0 y1 y2 y3 y4 y5 y6 y7 y8, LeO (laws_toState.l0 k y0 y1 y2 y3 y4 y5 y6 y7 y8) (laws_toState.l0 (k + 1) y0 y1 y2 y3 y4 y5 y6 y7 y8))
 | 0 => fun _ _ _ _ _ _ _ _ _ r h => by simp [laws_toState.l0] at h
 | k + 1 => by
  have ih0 := laws_toState.mono_l k
  ·intro y0 y1 y2 y3 y4 y5 y6 y7 y8
   unfold laws_toState.l0
   repeat' first
   | (with_reducible exact ih0 _ _ _ _ _ _ _ _ _)
   | (with_reducible exact LeO.refl _)
   | (with_reducible exact LeO.none _)
   | (with_reducible refine LeO.ite ?_ ?_)
   | (with_reducible refine LeO.bind ?_ (fun _ => ?_))
   | exact ih0 _ _ _ _ _ _ _ _ _
   | exact LeO.none _
   | refine LeO.ite ?_ ?_
   | refine LeO.bind ?_ (fun _ => ?_)
theorem laws_toState.mono : ∀ a0 a1 a2 a3 k, LeO (laws_toState.f k a0 a1 a2 a3) (laws_toState.f (k + 1) a0 a1 a2 a3) := by
 intro a0 a1 a2 a3 k
 have ih0 := laws_toState.mono_l k
 unfold laws_toState.f
 repeat' first
   | (with_reducible exact ih0 _ _ _ _ _ _ _ _ _)
   | (with_reducible exact LeO.refl _)
   | (with_reducible exact LeO.none _)
   | (with_reducible refine LeO.ite ?_ ?_)
   | (with_reducible refine LeO.bind ?_ (fun _ => ?_))
   | exact ih0 _ _ _ _ _ _ _ _ _
   | exact LeO.none _
   | refine LeO.ite ?_ ?_
   | refine LeO.bind ?_ (fun _ => ?_)
set_option maxHeartbeats 8000000 in
set_option maxRecDepth 100000 in
theorem laws_toState.calls (k : Nat) (a0_0 : Int) (a0_1 : Int) (a0_2 : Int) (a0_3 : Int) (r1 : Int) (r2 : Int) (r3 : Int) (r4 : Int) (w : World) (h : laws_toState.f k a0_0 a0_1 a0_2 a0_3 = some (r1, r2, r3, r4)) :
  Calls Try.prog 6 #[.agg #[.int .i64 a0_0, .int .i64 a0_1, .int .i64 a0_2, .int .i64 a0_3]] w fun e w' => e = .returned (.agg #[.int .i64 r1, .int .i64 r2, .int .i64 r3, .int .i64 r4]) ∧ Below w.heap.size w w' := by
 have hu22 := Try.underlying22
 have hu23 := Try.underlying23
 have HB := zh.mk (Below.refl w.heap.size w)
 have H : (laws_toState.l0 k 0 a0_0 a0_1 a0_2 a0_3 0 0 0 0) = some (r1, r2, r3, r4) := h
 clear h
 have H' := zh.mk H
 clear H
 go_enter Try.func6, Try.ntmps6
 go_wp2_with (first | ((with_reducible refine zba (N := 1) rfl ?_); refine zaa ?hg (N := 1) ?hd (cs := #[.int .i64 a0_0, .int .i64 a0_1, .int .i64 a0_2, .int .i64 a0_3]) (t := 22) ?hr ?_; (case hd => rfl); (case hg => rfl); (case hr => first | (go_simp; done) | (go_simp; rfl)); intro gb139 hg w2 hbox hb; have n0_ := zh.mk (zs (by repeat (first | (with_reducible first | exact HB.out | apply zl | apply zj | apply zk) | exact HB.out)) hb); have n1_ := zh.mk (hbox); have n2_ := zh.mk ((by rw [hg]; exact (zq (by repeat (first | (with_reducible first | exact HB.out | apply zl | apply zj | apply zk) | exact HB.out))) : w.heap.size ≤ gb139)); have n3_ := zh.mk ((by rw [hg]; exact (zq (by repeat (first | (with_reducible first | exact HB.out | apply zl | apply zj | apply zk) | exact HB.out))) : w.heap.size ≤ gb139)); clear HB; have HB := n0_; have BK139 := n1_; have GW139 := n2_; have GE139 := n3_; clear n0_ n1_ n2_ n3_; clear hb hbox hg) | ((with_reducible refine zba (N := 2) rfl ?_); refine zaa ?hg (N := 2) ?hd (cs := #[.int .i64 0, .int .i64 0, .int .i64 0, .int .i64 0]) (t := 23) ?hr ?_; (case hd => rfl); (case hg => rfl); (case hr => first | (go_simp; done) | (go_simp; rfl)); intro gb140 hg w3 hbox hb; have n0_ := zh.mk (zo (g := gb139) (o := .cells #[.int .i64 a0_0, .int .i64 a0_1, .int .i64 a0_2, .int .i64 a0_3] 22 (0, 0)) (by (with_reducible repeat (first | refine ze ?_ _ | refine zf ?_ | refine za ?_ _)); exact BK139.out) hb); have n1_ := zh.mk (zs (by repeat (first | (with_reducible first | exact HB.out | apply zl | apply zj | apply zk | refine zg ?_ GE139.out) | exact HB.out)) hb); have n2_ := zh.mk (hbox); have n3_ := zh.mk ((by rw [hg]; exact (zq (by repeat (first | (with_reducible first | exact HB.out | apply zl | apply zj | apply zk | refine zg ?_ GE139.out) | exact HB.out))) : w.heap.size ≤ gb140)); have n4_ := zh.mk ((by rw [hg]; exact (zq (by repeat (first | (with_reducible first | exact HB.out | apply zl | apply zj | apply zk | refine zg ?_ GE139.out) | exact HB.out))) : w.heap.size ≤ gb140)); have n5_ := zh.mk ((by rw [hg]; exact Nat.ne_of_lt (zr (g := gb139) (o := .cells #[.int .i64 a0_0, .int .i64 a0_1, .int .i64 a0_2, .int .i64 a0_3] 22 (0, 0)) (by (with_reducible repeat (first | refine ze ?_ _ | refine zf ?_ | refine za ?_ _)); exact BK139.out)) : gb139 ≠ gb140)); have n6_ := zh.mk ((by rw [hg]; exact Nat.ne_of_gt (zr (g := gb139) (o := .cells #[.int .i64 a0_0, .int .i64 a0_1, .int .i64 a0_2, .int .i64 a0_3] 22 (0, 0)) (by (with_reducible repeat (first | refine ze ?_ _ | refine zf ?_ | refine za ?_ _)); exact BK139.out)) : gb140 ≠ gb139)); clear BK139; clear HB; have BK139 := n0_; have HB := n1_; have BK140 := n2_; have GW140 := n3_; have GE140 := n4_; have NB139_140 := n5_; have NB140_139 := n6_; clear n0_ n1_ n2_ n3_ n4_ n5_ n6_; clear hb hbox hg) | ((with_reducible refine zba (N := 3) rfl ?_); refine zaa ?hg (N := 3) ?hd (cs := #[.int .i64 0, .int .i64 0, .int .i64 0, .int .i64 0]) (t := 23) ?hr ?_; (case hd => rfl); (case hg => rfl); (case hr => first | (go_simp; done) | (go_simp; rfl)); intro gb141 hg w4 hbox hb; have n0_ := zh.mk (zo (g := gb139) (o := .cells #[.int .i64 a0_0, .int .i64 a0_1, .int .i64 a0_2, .int .i64 a0_3] 22 (0, 0)) (by (with_reducible repeat (first | refine ze ?_ _ | refine zf ?_ | refine za ?_ _)); exact BK139.out) hb); have n1_ := zh.mk (zo (g := gb140) (o := .cells #[.int .i64 0, .int .i64 0, .int .i64 0, .int .i64 0] 23 (0, 0)) (by (with_reducible repeat (first | refine ze ?_ _ | refine zf ?_ | refine za ?_ _)); exact BK140.out) hb); have n2_ := zh.mk (zs (by repeat (first | (with_reducible first | exact HB.out | apply zl | apply zj | apply zk | refine zg ?_ GE139.out | refine zg ?_ GE140.out) | exact HB.out)) hb); have n3_ := zh.mk (hbox); have n4_ := zh.mk ((by rw [hg]; exact (zq (by repeat (first | (with_reducible first | exact HB.out | apply zl | apply zj | apply zk | refine zg ?_ GE139.out | refine zg ?_ GE140.out) | exact HB.out))) : w.heap.size ≤ gb141)); have n5_ := zh.mk ((by rw [hg]; exact (zq (by repeat (first | (with_reducible first | exact HB.out | apply zl | apply zj | apply zk | refine zg ?_ GE139.out | refine zg ?_ GE140.out) | exact HB.out))) : w.heap.size ≤ gb141)); have n6_ := zh.mk ((by rw [hg]; exact Nat.ne_of_lt (zr (g := gb139) (o := .cells #[.int .i64 a0_0, .int .i64 a0_1, .int .i64 a0_2, .int .i64 a0_3] 22 (0, 0)) (by (with_reducible repeat (first | refine ze ?_ _ | refine zf ?_ | refine za ?_ _)); exact BK139.out)) : gb139 ≠ gb141)); have n7_ := zh.mk ((by rw [hg]; exact Nat.ne_of_gt (zr (g := gb139) (o := .cells #[.int .i64 a0_0, .int .i64 a0_1, .int .i64 a0_2, .int .i64 a0_3] 22 (0, 0)) (by (with_reducible repeat (first | refine ze ?_ _ | refine zf ?_ | refine za ?_ _)); exact BK139.out)) : gb141 ≠ gb139)); have n8_ := zh.mk ((by rw [hg]; exact Nat.ne_of_lt (zr (g := gb140) (o := .cells #[.int .i64 0, .int .i64 0, .int .i64 0, .int .i64 0] 23 (0, 0)) (by (with_reducible repeat (first | refine ze ?_ _ | refine zf ?_ | refine za ?_ _)); exact BK140.out)) : gb140 ≠ gb141)); have n9_ := zh.mk ((by rw [hg]; exact Nat.ne_of_gt (zr (g := gb140) (o := .cells #[.int .i64 0, .int .i64 0, .int .i64 0, .int .i64 0] 23 (0, 0)) (by (with_reducible repeat (first | refine ze ?_ _ | refine zf ?_ | refine za ?_ _)); exact BK140.out)) : gb141 ≠ gb140)); clear BK139; clear BK140; clear HB; have BK139 := n0_; have BK140 := n1_; have HB := n2_; have BK141 := n3_; have GW141 := n4_; have GE141 := n5_; have NB139_141 := n6_; have NB141_139 := n7_; have NB140_141 := n8_; have NB141_140 := n9_; clear n0_ n1_ n2_ n3_ n4_ n5_ n6_ n7_ n8_ n9_; clear hb hbox hg))
 go_loopg [4] k (fun kq v4 w' => ∃ (x4_1 : Int) (x142000_1 : Int) (x142001_1 : Int) (x142002_1 : Int) (x142003_1 : Int), v4 = .int .i64 x4_1 ∧ zh (laws_toState.l0 kq x4_1 a0_0 a0_1 a0_2 a0_3 x142000_1 x142001_1 x142002_1 x142003_1 = some (r1, r2, r3, r4)) ∧ zh (kq ≤ k) ∧ zh (w'.heap[gb139]? = some (.cells #[.int .i64 a0_0, .int .i64 a0_1, .int .i64 a0_2, .int .i64 a0_3] 22 (0, 0))) ∧ zh (w'.heap[gb140]? = some (.cells #[.int .i64 0, .int .i64 0, .int .i64 0, .int .i64 0] 23 (0, 0))) ∧ zh (w'.heap[gb141]? = some (.cells #[.int .i64 x142000_1, .int .i64 x142001_1, .int .i64 x142002_1, .int .i64 x142003_1] 23 (0, 0))) ∧ zh (Below w.heap.size w w'))
 case atStart => exact ⟨(0), (0), (0), (0), (0), (by first | rfl | (simp; done) | (simp [*]; done)), H', ⟨Nat.le_refl _⟩, ⟨by (with_reducible repeat (first | refine ze ?_ _ | refine zf ?_ | refine za ?_ _)); exact BK139.out⟩, ⟨by (with_reducible repeat (first | refine ze ?_ _ | refine zf ?_ | refine za ?_ _)); exact BK140.out⟩, ⟨by (with_reducible repeat (first | refine ze ?_ _ | refine zf ?_ | refine za ?_ _)); exact BK141.out⟩, ⟨by repeat (first | (with_reducible first | exact HB.out | apply zl | apply zj | apply zk | refine zg ?_ GE139.out | refine zg ?_ GE140.out | refine zg ?_ GE141.out) | exact HB.out)⟩⟩
 case round =>
  clear H'
  try clear p2
  obtain ⟨x4_1, x142000_1, x142001_1, x142002_1, x142003_1, rfl, HA, HK1, BK139, BK140, BK141, HB⟩ := hrel
  cases gk with
  | zero => exact absurd HA.out (by simp [laws_toState.l0])
  | succ k1 =>
   have H := HA.out
   clear HA
   simp only [laws_toState.l0] at H
   by_cases c5 : x4_1 < 4
   ·rw [if_pos c5] at H
    have c5b0 : decide (x4_1 < 4) = true := decide_eq_true c5
    clear c5
    by_cases c6 : 0 ≤ x4_1
    ·rw [if_pos c6] at H
     have c6b0 : decide (0 ≤ x4_1) = true := decide_eq_true c6
     clear c6
     have H' := zh.mk H
     clear H
     have p7 : 0 ≤ (x4_1 : Int) := of_decide_eq_true (by first | (with_reducible assumption) | assumption)
     have q7 : x4_1 < (4 : Int) := of_decide_eq_true (by first | (with_reducible assumption) | assumption)
     replace p7 := eq_true p7
     replace q7 := eq_true q7
     have hnb8 := NB139_140.out
     have hnc8 := NB140_139.out
     have hnb9 := NB139_141.out
     have hnc9 := NB141_139.out
     have hcz10_0 : wr.cell? ⟨gb139, 0, none⟩ = some (.int .i64 a0_0) := (zi BK139.out 0).trans rfl
     have hcz10_1 : wr.cell? ⟨gb139, 1, none⟩ = some (.int .i64 a0_1) := (zi BK139.out 1).trans rfl
     have hcz10_2 : wr.cell? ⟨gb139, 2, none⟩ = some (.int .i64 a0_2) := (zi BK139.out 2).trans rfl
     have hcz10_3 : wr.cell? ⟨gb139, 3, none⟩ = some (.int .i64 a0_3) := (zi BK139.out 3).trans rfl
     have hfz10_0 := zm BK139.out 0
     have hfz10_1 := zm BK139.out 1
     have hfz10_2 := zm BK139.out 2
     have hfz10_3 := zm BK139.out 3
     have hx11_0 : wr.cell? ⟨gb139, (x4_1).toNat, none⟩ = some (.int .i64 (rd [a0_0, a0_1, a0_2, a0_3] x4_1)) := (zi BK139.out _).trans (by rcases (show (x4_1 : Int) = 0 ∨ (x4_1 : Int) = 1 ∨ (x4_1 : Int) = 2 ∨ (x4_1 : Int) = 3 by have hp_ : 0 ≤ (x4_1 : Int) := of_decide_eq_true (by first | (with_reducible assumption) | assumption); have hq_ : x4_1 < (4 : Int) := of_decide_eq_true (by first | (with_reducible assumption) | assumption); omega) with h_ | h_ | h_ | h_ <;> rw [h_] <;> rfl)
     have p12 : 0 ≤ (x4_1 : Int) := of_decide_eq_true (by first | (with_reducible assumption) | assumption)
     have q12 : x4_1 < (4 : Int) := of_decide_eq_true (by first | (with_reducible assumption) | assumption)
     replace p12 := eq_true p12
     replace q12 := eq_true q12
     have hnb13 := NB141_140.out
     have hnc13 := NB140_141.out
     have hcz14_0 : wr.cell? ⟨gb141, 0, none⟩ = some (.int .i64 x142000_1) := (zi BK141.out 0).trans rfl
     have hcz14_1 : wr.cell? ⟨gb141, 1, none⟩ = some (.int .i64 x142001_1) := (zi BK141.out 1).trans rfl
     have hcz14_2 : wr.cell? ⟨gb141, 2, none⟩ = some (.int .i64 x142002_1) := (zi BK141.out 2).trans rfl
     have hcz14_3 : wr.cell? ⟨gb141, 3, none⟩ = some (.int .i64 x142003_1) := (zi BK141.out 3).trans rfl
     have hfz14_0 := zm BK141.out 0
     have hfz14_1 := zm BK141.out 1
     have hfz14_2 := zm BK141.out 2
     have hfz14_3 := zm BK141.out 3
     go_wp2_with (first | ((with_reducible refine gate_store (t := 2) (p := 13) rfl ?_); have hx15_0 : wr.cell? ⟨gb141, (x4_1).toNat, none⟩ = some (.int .i64 (rd [x142000_1, x142001_1, x142002_1, x142003_1] x4_1)) := (zi BK141.out _).trans (by rcases (show (x4_1 : Int) = 0 ∨ (x4_1 : Int) = 1 ∨ (x4_1 : Int) = 2 ∨ (x4_1 : Int) = 3 by have hp_ : 0 ≤ (x4_1 : Int) := of_decide_eq_true (by first | (with_reducible assumption) | assumption); have hq_ : x4_1 < (4 : Int) := of_decide_eq_true (by first | (with_reducible assumption) | assumption); omega) with h_ | h_ | h_ | h_ <;> rw [h_] <;> rfl); have hfz15_0 := zm BK141.out ((x4_1).toNat); refine store_event (t := 2) (p := 13) (v := ?vo_w16) (w1 := (wr.setCell ⟨gb141, (x4_1).toNat, none⟩ (.int .i64 (rd [a0_0, a0_1, a0_2, a0_3] x4_1)))) ?hg ?ho ?hn ?hr ?_; (case ho => rfl); (case hg => rfl); (case hn => rfl); (case hr => first | (go_simp; done) | (go_simp; rfl)); intro w16 hw; have n0_ : zh (w16.heap[gb139]? = some (.cells #[.int .i64 a0_0, .int .i64 a0_1, .int .i64 a0_2, .int .i64 a0_3] 22 (0, 0))) := ⟨(by rw [hw]; exact (by (with_reducible repeat (first | refine ze ?_ _ | refine zf ?_ | refine za ?_ _)); refine zp ?_ NB139_141.out _; (with_reducible repeat (first | refine ze ?_ _ | refine zf ?_ | refine za ?_ _)); exact BK139.out))⟩; have n1_ : zh (w16.heap[gb140]? = some (.cells #[.int .i64 0, .int .i64 0, .int .i64 0, .int .i64 0] 23 (0, 0))) := ⟨(by rw [hw]; exact (by (with_reducible repeat (first | refine ze ?_ _ | refine zf ?_ | refine za ?_ _)); refine zp ?_ NB140_141.out _; (with_reducible repeat (first | refine ze ?_ _ | refine zf ?_ | refine za ?_ _)); exact BK140.out))⟩; have n2_ : zh (w16.heap[gb141]? = some (.cells #[.int .i64 (pickA x4_1 0 (rd [a0_0, a0_1, a0_2, a0_3] x4_1) x142000_1), .int .i64 (pickA x4_1 1 (rd [a0_0, a0_1, a0_2, a0_3] x4_1) x142001_1), .int .i64 (pickA x4_1 2 (rd [a0_0, a0_1, a0_2, a0_3] x4_1) x142002_1), .int .i64 (pickA x4_1 3 (rd [a0_0, a0_1, a0_2, a0_3] x4_1) x142003_1)] 23 (0, 0))) := ⟨(by rw [hw]; exact (by (with_reducible repeat (first | refine ze ?_ _ | refine zf ?_ | refine za ?_ _)); refine zw (cs := #[.int .i64 x142000_1, .int .i64 x142001_1, .int .i64 x142002_1, .int .i64 x142003_1]) ?_ ((x4_1).toNat) _ (by rcases (show (x4_1 : Int) = 0 ∨ (x4_1 : Int) = 1 ∨ (x4_1 : Int) = 2 ∨ (x4_1 : Int) = 3 by have hp_ : 0 ≤ (x4_1 : Int) := of_decide_eq_true (by first | (with_reducible assumption) | assumption); have hq_ : x4_1 < (4 : Int) := of_decide_eq_true (by first | (with_reducible assumption) | assumption); omega) with h_ | h_ | h_ | h_ <;> rw [h_] <;> rfl); (with_reducible repeat (first | refine ze ?_ _ | refine zf ?_ | refine za ?_ _)); exact BK141.out))⟩; have n3_ : zh (Below w.heap.size w w16) := ⟨(by rw [hw]; exact (by repeat (first | (with_reducible first | exact HB.out | apply zl | apply zj | apply zk | refine zg ?_ GE139.out | refine zg ?_ GE140.out | refine zg ?_ GE141.out) | exact HB.out)))⟩; clear hw; clear BK139; clear BK140; clear BK141; clear HB; have BK139 := n0_; have BK140 := n1_; have BK141 := n2_; have HB := n3_; clear n0_ n1_ n2_ n3_))
     go_roundg k1
     case measure => have := HK1.out; omega
     case rel => exact ⟨(wrap64 (x4_1 + 1)), ((pickA x4_1 0 (rd [a0_0, a0_1, a0_2, a0_3] x4_1) x142000_1)), ((pickA x4_1 1 (rd [a0_0, a0_1, a0_2, a0_3] x4_1) x142001_1)), ((pickA x4_1 2 (rd [a0_0, a0_1, a0_2, a0_3] x4_1) x142002_1)), ((pickA x4_1 3 (rd [a0_0, a0_1, a0_2, a0_3] x4_1) x142003_1)), (by first | rfl | (simp; done) | (simp [*]; done)), H', ⟨by have := HK1.out; omega⟩, ⟨by (with_reducible repeat (first | refine ze ?_ _ | refine zf ?_ | refine za ?_ _)); exact BK139.out⟩, ⟨by (with_reducible repeat (first | refine ze ?_ _ | refine zf ?_ | refine za ?_ _)); exact BK140.out⟩, ⟨by (with_reducible repeat (first | refine ze ?_ _ | refine zf ?_ | refine za ?_ _)); exact BK141.out⟩, ⟨by repeat (first | (with_reducible first | exact HB.out | apply zl | apply zj | apply zk | refine zg ?_ GE139.out | refine zg ?_ GE140.out | refine zg ?_ GE141.out) | exact HB.out)⟩⟩
    ·rw [if_neg c6] at H
     exact absurd H (by simp)
   ·rw [if_neg c5] at H
    have c5b0 : decide (x4_1 < 4) = false := decide_eq_false c5
    clear c5
    simp only [Option.some.injEq, Prod.mk.injEq] at H
    obtain ⟨rfl, rfl, rfl, rfl⟩ := H
    have hnb17 := NB141_139.out
    have hnc17 := NB139_141.out
    have hnb18 := NB141_140.out
    have hnc18 := NB140_141.out
    have hcz19_0 : wr.cell? ⟨gb141, 0, none⟩ = some (.int .i64 x142000_1) := (zi BK141.out 0).trans rfl
    have hcz19_1 : wr.cell? ⟨gb141, 1, none⟩ = some (.int .i64 x142001_1) := (zi BK141.out 1).trans rfl
    have hcz19_2 : wr.cell? ⟨gb141, 2, none⟩ = some (.int .i64 x142002_1) := (zi BK141.out 2).trans rfl
    have hcz19_3 : wr.cell? ⟨gb141, 3, none⟩ = some (.int .i64 x142003_1) := (zi BK141.out 3).trans rfl
    have hfz19_0 := zm BK141.out 0
    have hfz19_1 := zm BK141.out 1
    have hfz19_2 := zm BK141.out 2
    have hfz19_3 := zm BK141.out 3
    have hnb20 := NB140_139.out
    have hnc20 := NB139_140.out
    have hcz21_0 : wr.cell? ⟨gb140, 0, none⟩ = some (.int .i64 0) := (zi BK140.out 0).trans rfl
    have hcz21_1 : wr.cell? ⟨gb140, 1, none⟩ = some (.int .i64 0) := (zi BK140.out 1).trans rfl
    have hcz21_2 : wr.cell? ⟨gb140, 2, none⟩ = some (.int .i64 0) := (zi BK140.out 2).trans rfl
    have hcz21_3 : wr.cell? ⟨gb140, 3, none⟩ = some (.int .i64 0) := (zi BK140.out 3).trans rfl
    have hfz21_0 := zm BK140.out 0
    have hfz21_1 := zm BK140.out 1
    have hfz21_2 := zm BK140.out 2
    have hfz21_3 := zm BK140.out 3
    go_wp2
    refine bodyPost_ret (results_cell_row rfl _ _ gb140 23 #[.int .i64 x142000_1, .int .i64 x142001_1, .int .i64 x142002_1, .int .i64 x142003_1] (0, 0) _ rfl (by (with_reducible repeat (first | refine ze ?_ _ | refine zf ?_ | refine za ?_ _)); refine zw (cs := #[.int .i64 x142000_1, .int .i64 x142001_1, .int .i64 x142002_1, .int .i64 0]) ?_ 3 _ rfl; (with_reducible repeat (first | refine ze ?_ _ | refine zf ?_ | refine za ?_ _)); refine zw (cs := #[.int .i64 x142000_1, .int .i64 x142001_1, .int .i64 0, .int .i64 0]) ?_ 2 _ rfl; (with_reducible repeat (first | refine ze ?_ _ | refine zf ?_ | refine za ?_ _)); refine zw (cs := #[.int .i64 x142000_1, .int .i64 0, .int .i64 0, .int .i64 0]) ?_ 1 _ rfl; (with_reducible repeat (first | refine ze ?_ _ | refine zf ?_ | refine za ?_ _)); refine zw (cs := #[.int .i64 0, .int .i64 0, .int .i64 0, .int .i64 0]) ?_ 0 _ rfl; (with_reducible repeat (first | refine ze ?_ _ | refine zf ?_ | refine za ?_ _)); exact BK140.out) Try.underlying23 rfl (by kernel_rfl)) rfl ?_
    exact ⟨by first | rfl | (simp [errW_none, errW_some] <;> rfl) | (simp [*, errW_none, errW_some] <;> rfl), by repeat (first | (with_reducible first | exact HB.out | apply zl | apply zj | apply zk | refine zg ?_ GE139.out | refine zg ?_ GE140.out | refine zg ?_ GE141.out) | exact HB.out)⟩

/-! ### impl_within: function 29 -/
def impl_within.f (a0 : Int) (a1 : Int) (a2 : Int) : Option (Bool) := if a1 ≤ a0 then (some (decide (a0 ≤ a2))) else (some false)
set_option maxHeartbeats 8000000 in
set_option maxRecDepth 100000 in
theorem impl_within.calls (a0 : Int) (a1 : Int) (a2 : Int) (r : Bool) (w : World) (h : impl_within.f a0 a1 a2 = some r) :
  Calls Try.prog 29 #[.int .i64 a0, .int .i64 a1, .int .i64 a2] w fun e w' => e = .returned (.bool r) ∧ Drawn0 w w' := by
 have H : (if a1 ≤ a0 then (some (decide (a0 ≤ a2))) else (some false)) = some r := h
 clear h
 by_cases c4 : a1 ≤ a0
 ·rw [if_pos c4] at H
  have c4b0 : decide (a1 ≤ a0) = true := decide_eq_true c4
  clear c4
  obtain rfl := Option.some.inj H
  go_enter Try.func29, Try.ntmps29
  go_wp2
  go_ret
  exact ⟨by first | rfl | (simp; done) | (simp [*]; done), by repeat (first | exact Drawn0.refl _ | apply Drawn0.step)⟩
 ·rw [if_neg c4] at H
  have c4b0 : decide (a1 ≤ a0) = false := decide_eq_false c4
  clear c4
  obtain rfl := Option.some.inj H
  go_enter Try.func29, Try.ntmps29
  go_wp2
  go_ret
  exact ⟨by first | rfl | (simp; done) | (simp [*]; done), by repeat (first | exact Drawn0.refl _ | apply Drawn0.step)⟩

/-! ### impl_State_sum: function 30 -/
def impl_State_sum.f (a0_0 : Int) (a0_1 : Int) (a0_2 : Int) (a0_3 : Int) : Option (Int) := some (wrap64 ((wrap64 ((wrap64 (a0_0 + a0_1)) + a0_2)) + a0_3))
set_option maxHeartbeats 8000000 in
set_option maxRecDepth 100000 in
theorem impl_State_sum.calls (a0_0 : Int) (a0_1 : Int) (a0_2 : Int) (a0_3 : Int) (r : Int) (w : World) (h : impl_State_sum.f a0_0 a0_1 a0_2 a0_3 = some r) :
  Calls Try.prog 30 #[.agg #[.int .i64 a0_0, .int .i64 a0_1, .int .i64 a0_2, .int .i64 a0_3]] w fun e w' => e = .returned (.int .i64 r) ∧ Below w.heap.size w w' := by
 have hu23 := Try.underlying23
 have HB := zh.mk (Below.refl w.heap.size w)
 have H : (some (wrap64 ((wrap64 ((wrap64 (a0_0 + a0_1)) + a0_2)) + a0_3))) = some r := h
 clear h
 obtain rfl := Option.some.inj H
 go_enter Try.func30, Try.ntmps30
 go_wp2_with (first | ((with_reducible refine zba (N := 1) rfl ?_); refine zaa ?hg (N := 1) ?hd (cs := #[.int .i64 a0_0, .int .i64 a0_1, .int .i64 a0_2, .int .i64 a0_3]) (t := 23) ?hr ?_; (case hd => rfl); (case hg => rfl); (case hr => first | (go_simp; done) | (go_simp; rfl)); intro gb146 hg w2 hbox hb; have n0_ := zh.mk (zs (by repeat (first | (with_reducible first | exact HB.out | apply zl | apply zj | apply zk) | exact HB.out)) hb); have n1_ := zh.mk (hbox); have n2_ := zh.mk ((by rw [hg]; exact (zq (by repeat (first | (with_reducible first | exact HB.out | apply zl | apply zj | apply zk) | exact HB.out))) : w.heap.size ≤ gb146)); have n3_ := zh.mk ((by rw [hg]; exact (zq (by repeat (first | (with_reducible first | exact HB.out | apply zl | apply zj | apply zk) | exact HB.out))) : w.heap.size ≤ gb146)); clear HB; have HB := n0_; have BK146 := n1_; have GW146 := n2_; have GE146 := n3_; clear n0_ n1_ n2_ n3_; clear hb hbox hg; have hcz3_0 : w2.cell? ⟨gb146, 0, none⟩ = some (.int .i64 a0_0) := (zi BK146.out 0).trans rfl; have hcz3_1 : w2.cell? ⟨gb146, 1, none⟩ = some (.int .i64 a0_1) := (zi BK146.out 1).trans rfl; have hcz3_2 : w2.cell? ⟨gb146, 2, none⟩ = some (.int .i64 a0_2) := (zi BK146.out 2).trans rfl; have hcz3_3 : w2.cell? ⟨gb146, 3, none⟩ = some (.int .i64 a0_3) := (zi BK146.out 3).trans rfl; have hfz3_0 := zm BK146.out 0; have hfz3_1 := zm BK146.out 1; have hfz3_2 := zm BK146.out 2; have hfz3_3 := zm BK146.out 3))
 go_ret
 exact ⟨by first | rfl | (simp [errW_none, errW_some] <;> rfl) | (simp [*, errW_none, errW_some] <;> rfl), by repeat (first | (with_reducible first | exact HB.out | apply zl | apply zj | apply zk | refine zg ?_ GE146.out) | exact HB.out)⟩

end Go.Proofs.Ytidblojobcgkjaa.M
