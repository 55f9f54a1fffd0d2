-- Written by wip/tools/myprint.py, a program of this session, by way of the kit's print.
import Derived.Test.YtidblojobcgkjaaMx0
import Derived.Test.YtidblojobcgkjaaMx2
namespace Go.Proofs.Ytidblojobcgkjaa.M
open Go.RowKit Go.Proofs.YtidblojobcgkjaaW.PrintWords Go.Proofs.YtidblojobcgkjaaW.PrintLast Go.Proofs.YtidblojobcgkjaaW.PrintMore
attribute [local go_sem] wl_0 wl_1 wl_2 wl_3 wl_4 max2_int min2_int max_two min_two max_three min_three max_four min_four   -- for this text's walks alone
set_option linter.unusedVariables false
set_option linter.unusedSimpArgs false

/-! ### spec_l06Lies: function 33 -/
def spec_l06Lies.l0 : Nat → Int → Int → Int → Int → Int → List (S60) → Option (Int)
 | 0, _, _, _, _, _, _ => none
 | k + 1, x1, x5, x6, x1000, x1001, x1002 => if x6 < (x1002.length : Int) then (if 0 ≤ x6 then ((spec_l06Wrong.f ((rd_T60 x1002 x6).f0) ((rd_T60 x1002 x6).f1) x1).bind fun t116 => (if t116 = true then (spec_l06Lies.l0 k x1 (wrap64 (x5 + 1)) (wrap64 (x6 + 1)) x1000 x1001 x1002) else (spec_l06Lies.l0 k x1 x5 (wrap64 (x6 + 1)) x1000 x1001 x1002))) else (none)) else (some x5)
def spec_l06Lies.f (k : Nat) (a0_0 : Int) (a0_1 : Int) (l0_2 : List (S60)) (a1 : Int) : Option (Int) := spec_l06Lies.l0 k a1 0 0 a0_0 a0_1 l0_2
theorem spec_l06Lies.mono_l : ∀ k, (∀ y0 y1 y2 y3 y4 y5, LeO (spec_l06Lies.l0 k y0 y1 y2 y3 y4 y5) (spec_l06Lies.l0 (k + 1) y0 y1 y2 y3 y4 y5))
 | 0 => fun _ _ _ _ _ _ r h => by simp [spec_l06Lies.l0] at h
 | k + 1 => by
  have ih0 := spec_l06Lies.mono_l k
  ·intro y0 y1 y2 y3 y4 y5
   unfold spec_l06Lies.l0
   repeat' first
   | (with_reducible exact ih0 _ _ _ _ _ _)
   | (with_reducible exact LeO.refl _)
   | (with_reducible exact LeO.none _)
   | (with_reducible refine LeO.ite ?_ ?_)
   | (with_reducible refine LeO.bind ?_ (fun _ => ?_))
   | exact ih0 _ _ _ _ _ _
   | exact LeO.none _
   | refine LeO.ite ?_ ?_
   | refine LeO.bind ?_ (fun _ => ?_)
theorem spec_l06Lies.mono : ∀ a0 a1 a2 a3 k, LeO (spec_l06Lies.f k a0 a1 a2 a3) (spec_l06Lies.f (k + 1) a0 a1 a2 a3) := by
 intro a0 a1 a2 a3 k
 have ih0 := spec_l06Lies.mono_l k
 unfold spec_l06Lies.f
 repeat' first
   | (with_reducible exact ih0 _ _ _ _ _ _)
   | (with_reducible exact LeO.refl _)
   | (with_reducible exact LeO.none _)
   | (with_reducible refine LeO.ite ?_ ?_)
   | (with_reducible refine LeO.bind ?_ (fun _ => ?_))
   | exact ih0 _ _ _ _ _ _
   | exact LeO.none _
   | refine LeO.ite ?_ ?_
   | refine LeO.bind ?_ (fun _ => ?_)
set_option maxHeartbeats 8000000 in
set_option maxRecDepth 100000 in
theorem spec_l06Lies.calls (k : Nat) (g0 : Nat) (a0_0 : Int) (a0_1 : Int) (A0_2 : Option Addr) (c0_2 : Nat) (l0_2 : List (S60)) (a1 : Int) (r : Int) (w : World) (hb0 : w.heap[g0]? = some (.cells #[.int .i8 a0_0, .int .i8 a0_1, .slice A0_2 l0_2.length c0_2] 38 (0, 0))) (hr0_2 : Kd.C k60 w A0_2 l0_2.length l0_2) (hc0_2 : l0_2.length ≤ c0_2) (h : spec_l06Lies.f k a0_0 a0_1 l0_2 a1 = some r) :
  Calls Try.prog 33 #[.pointer (some ⟨g0, 0, none⟩), .int .i64 a1] w fun e w' => e = .returned (.int .i64 r) ∧ Below w.heap.size w w' := by
 have hu60 := Try.underlying60
 have HR0_2 := Aside0.mk hr0_2
 have HC0_2 := Aside0.mk hc0_2
 clear hr0_2 hc0_2
 have BK0 := Aside0.mk hb0
 clear hb0
 have HB := Aside0.mk (Below.refl w.heap.size w)
 have H : (spec_l06Lies.l0 k a1 0 0 a0_0 a0_1 l0_2) = some r := h
 clear h
 have H' := Aside0.mk H
 clear H
 go_enter Try.func33, Try.ntmps33
 go_wp2
 go_loopg [5, 6] k (fun kq v5 v6 w' => ∃ (x5_1 : Int) (x6_1 : Int), v5 = .int .i64 x5_1 ∧ v6 = .int .i64 x6_1 ∧ Aside0 (spec_l06Lies.l0 kq a1 x5_1 x6_1 a0_0 a0_1 l0_2 = some r) ∧ Aside0 (kq ≤ k) ∧ Aside0 (w'.heap[g0]? = some (.cells #[.int .i8 a0_0, .int .i8 a0_1, (.slice A0_2 l0_2.length c0_2)] 38 (0, 0))) ∧ Aside0 (Below w.heap.size w w'))
 case atStart => exact ⟨(0), (0), (by first | rfl | (simp; done) | (simp [*]; done)), (by first | rfl | (simp; done) | (simp [*]; done)), H', ⟨Nat.le_refl _⟩, ⟨by (with_reducible repeat (first | refine blk_drewN ?_ _ | refine blk_drew ?_ | refine blk_alloc ?_ _)); exact BK0.out⟩, ⟨by repeat (first | (with_reducible first | exact HB.out | apply below_alloc | apply pw_below_drewN | apply below_drew1) | exact HB.out)⟩⟩
 case round =>
  clear H'
  try clear p2
  obtain ⟨x5_1, x6_1, rfl, rfl, HA, HK1, BK0, HB⟩ := hrel
  cases gk with
  | zero => exact absurd HA.out (by simp [spec_l06Lies.l0])
  | succ k1 =>
   have H := HA.out
   clear HA
   simp only [spec_l06Lies.l0] at H
   by_cases c3 : x6_1 < (l0_2.length : Int)
   ·rw [if_pos c3] at H
    have c3b0 : decide (x6_1 < (l0_2.length : Int)) = true := decide_eq_true c3
    clear c3
    by_cases c4 : 0 ≤ x6_1
    ·rw [if_pos c4] at H
     have c4b0 : decide (0 ≤ x6_1) = true := decide_eq_true c4
     clear c4
     replace H := Option.bind_eq_some_iff.mp H
     obtain ⟨t116, A50, H⟩ := H
     replace H : (if t116 = true then (spec_l06Lies.l0 k1 a1 (wrap64 (x5_1 + 1)) (wrap64 (x6_1 + 1)) a0_0 a0_1 l0_2) else (spec_l06Lies.l0 k1 a1 x5_1 (wrap64 (x6_1 + 1)) a0_0 a0_1 l0_2)) = some r := H
     have A5 := Aside0.mk A50
     clear A50
     by_cases c6 : t116 = true
     ·subst c6
      have H1 : (spec_l06Lies.l0 k1 a1 (wrap64 (x5_1 + 1)) (wrap64 (x6_1 + 1)) a0_0 a0_1 l0_2) = some r := by rw [if_pos rfl] at H; exact H
      clear H
      have H := H1
      clear H1
      have H' := Aside0.mk H
      clear H
      have hcz7_0 : wr.cell? ⟨g0, 0, none⟩ = some (.int .i8 a0_0) := (blk_cell BK0.out 0).trans rfl
      have hcz7_1 : wr.cell? ⟨g0, 1, none⟩ = some (.int .i8 a0_1) := (blk_cell BK0.out 1).trans rfl
      have hcz7_2 : wr.cell? ⟨g0, 2, none⟩ = some (.slice A0_2 l0_2.length c0_2) := (blk_cell BK0.out 2).trans rfl
      have hfz7_0 := blk_frozen BK0.out 0
      have hfz7_1 := blk_frozen BK0.out 1
      have hfz7_2 := blk_frozen BK0.out 2
      have p115 : 0 ≤ (x6_1 : Int) := of_decide_eq_true (by first | (with_reducible assumption) | assumption)
      have q115 : x6_1 < (l0_2.length : Int) := of_decide_eq_true (by first | (with_reducible assumption) | assumption)
      obtain ⟨ad115, e115, hx115_0, hx115_1⟩ := at_T60 HR0_2.out x6_1 p115 q115
      cases e115
      replace hx115_0 := (HB.out.cell (World.block_lt_of_cell? w _ hx115_0)).trans hx115_0
      replace hx115_1 := (HB.out.cell (World.block_lt_of_cell? w _ hx115_1)).trans hx115_1
      replace p115 := eq_true p115
      replace q115 := eq_true q115
      go_wp2_with (first | ((with_reducible refine gate_callee (f := 42) rfl ?_); refine goesL_ (some 24) rfl rfl Try.func42 (by kernel_rfl) rfl #[.agg #[.int .u64 ((rd_T60 l0_2 x6_1).f0), .bool ((rd_T60 l0_2 x6_1).f1)], .int .i64 a1] rfl (by (try simp only [List.map_toArray, List.map_cons, List.map_nil]); first | done | rfl | (simp only [List.length_drop, List.length_take]; rfl)) ?_; (with_reducible refine (spec_l06Wrong.calls ((rd_T60 l0_2 x6_1).f0) ((rd_T60 l0_2 x6_1).f1) a1 true _ A5.out).mono ?_); rintro e w8 ⟨rfl, hb⟩; refine ⟨_, rfl, ?_⟩; have n0_ := Aside0.mk (blk_below (g := g0) (o := .cells #[.int .i8 a0_0, .int .i8 a0_1, .slice (some ad115) l0_2.length c0_2] 38 (0, 0)) (by (with_reducible repeat (first | refine blk_drewN ?_ _ | refine blk_drew ?_ | refine blk_alloc ?_ _)); exact BK0.out) hb); have n1_ := Aside0.mk (below_step (by repeat (first | (with_reducible first | exact HB.out | apply below_alloc | apply pw_below_drewN | apply below_drew1) | exact HB.out)) hb); clear BK0; clear HB; have BK0 := n0_; have HB := n1_; clear n0_ n1_; (try clear hb); (try clear hb2); (try clear hk); (try clear hi)))
      go_roundg k1
      case measure => have := HK1.out; omega
      case rel => exact ⟨(wrap64 (x5_1 + 1)), (wrap64 (x6_1 + 1)), (by first | rfl | (simp; done) | (simp [*]; done)), (by first | rfl | (simp; done) | (simp [*]; done)), H', ⟨by have := HK1.out; omega⟩, ⟨by (with_reducible repeat (first | refine blk_drewN ?_ _ | refine blk_drew ?_ | refine blk_alloc ?_ _)); exact BK0.out⟩, ⟨by repeat (first | (with_reducible first | exact HB.out | apply below_alloc | apply pw_below_drewN | apply below_drew1) | exact HB.out)⟩⟩
     ·replace c6 := Bool.eq_false_iff.mpr c6
      subst c6
      have H1 : (spec_l06Lies.l0 k1 a1 x5_1 (wrap64 (x6_1 + 1)) a0_0 a0_1 l0_2) = some r := by rw [if_neg (show ¬ (false = true) by decide)] at H; exact H
      clear H
      have H := H1
      clear H1
      have H' := Aside0.mk H
      clear H
      have hcz9_0 : wr.cell? ⟨g0, 0, none⟩ = some (.int .i8 a0_0) := (blk_cell BK0.out 0).trans rfl
      have hcz9_1 : wr.cell? ⟨g0, 1, none⟩ = some (.int .i8 a0_1) := (blk_cell BK0.out 1).trans rfl
      have hcz9_2 : wr.cell? ⟨g0, 2, none⟩ = some (.slice A0_2 l0_2.length c0_2) := (blk_cell BK0.out 2).trans rfl
      have hfz9_0 := blk_frozen BK0.out 0
      have hfz9_1 := blk_frozen BK0.out 1
      have hfz9_2 := blk_frozen BK0.out 2
      have p115 : 0 ≤ (x6_1 : Int) := of_decide_eq_true (by first | (with_reducible assumption) | assumption)
      have q115 : x6_1 < (l0_2.length : Int) := of_decide_eq_true (by first | (with_reducible assumption) | assumption)
      obtain ⟨ad115, e115, hx115_0, hx115_1⟩ := at_T60 HR0_2.out x6_1 p115 q115
      cases e115
      replace hx115_0 := (HB.out.cell (World.block_lt_of_cell? w _ hx115_0)).trans hx115_0
      replace hx115_1 := (HB.out.cell (World.block_lt_of_cell? w _ hx115_1)).trans hx115_1
      replace p115 := eq_true p115
      replace q115 := eq_true q115
      go_wp2_with (first | ((with_reducible refine gate_callee (f := 42) rfl ?_); refine goesL_ (some 24) rfl rfl Try.func42 (by kernel_rfl) rfl #[.agg #[.int .u64 ((rd_T60 l0_2 x6_1).f0), .bool ((rd_T60 l0_2 x6_1).f1)], .int .i64 a1] rfl (by (try simp only [List.map_toArray, List.map_cons, List.map_nil]); first | done | rfl | (simp only [List.length_drop, List.length_take]; rfl)) ?_; (with_reducible refine (spec_l06Wrong.calls ((rd_T60 l0_2 x6_1).f0) ((rd_T60 l0_2 x6_1).f1) a1 false _ A5.out).mono ?_); rintro e w10 ⟨rfl, hb⟩; refine ⟨_, rfl, ?_⟩; have n0_ := Aside0.mk (blk_below (g := g0) (o := .cells #[.int .i8 a0_0, .int .i8 a0_1, .slice (some ad115) l0_2.length c0_2] 38 (0, 0)) (by (with_reducible repeat (first | refine blk_drewN ?_ _ | refine blk_drew ?_ | refine blk_alloc ?_ _)); exact BK0.out) hb); have n1_ := Aside0.mk (below_step (by repeat (first | (with_reducible first | exact HB.out | apply below_alloc | apply pw_below_drewN | apply below_drew1) | exact HB.out)) hb); clear BK0; clear HB; have BK0 := n0_; have HB := n1_; clear n0_ n1_; (try clear hb); (try clear hb2); (try clear hk); (try clear hi)))
      go_roundg k1
      case measure => have := HK1.out; omega
      case rel => exact ⟨(x5_1), (wrap64 (x6_1 + 1)), (by first | rfl | (simp; done) | (simp [*]; done)), (by first | rfl | (simp; done) | (simp [*]; done)), H', ⟨by have := HK1.out; omega⟩, ⟨by (with_reducible repeat (first | refine blk_drewN ?_ _ | refine blk_drew ?_ | refine blk_alloc ?_ _)); exact BK0.out⟩, ⟨by repeat (first | (with_reducible first | exact HB.out | apply below_alloc | apply pw_below_drewN | apply below_drew1) | exact HB.out)⟩⟩
    ·rw [if_neg c4] at H
     exact absurd H (by simp)
   ·rw [if_neg c3] at H
    have c3b0 : decide (x6_1 < (l0_2.length : Int)) = false := decide_eq_false c3
    clear c3
    obtain rfl := Option.some.inj H
    have hcz11_0 : wr.cell? ⟨g0, 0, none⟩ = some (.int .i8 a0_0) := (blk_cell BK0.out 0).trans rfl
    have hcz11_1 : wr.cell? ⟨g0, 1, none⟩ = some (.int .i8 a0_1) := (blk_cell BK0.out 1).trans rfl
    have hcz11_2 : wr.cell? ⟨g0, 2, none⟩ = some (.slice A0_2 l0_2.length c0_2) := (blk_cell BK0.out 2).trans rfl
    have hfz11_0 := blk_frozen BK0.out 0
    have hfz11_1 := blk_frozen BK0.out 1
    have hfz11_2 := blk_frozen BK0.out 2
    go_wp2
    go_ret
    exact ⟨by first | rfl | (simp [errW_none, errW_some] <;> rfl) | (simp [*, errW_none, errW_some] <;> rfl), by repeat (first | (with_reducible first | exact HB.out | apply below_alloc | apply pw_below_drewN | apply below_drew1) | exact HB.out)⟩

/-! ### spec_l06State: function 22 -/
def spec_l06State.l0 : Nat → Int → Int → Int → List (S60) → Int → Int → Int → Int → Option (Int × Int × Int × Int)
 | 0, _, _, _, _, _, _, _, _ => none
 | k + 1, x4, x1000, x1001, x1002, x119000, x119001, x119002, x119003 => if x4 < (wrap64 (x1000)) then ((spec_l06Lies.f k x1000 x1001 x1002 x4).bind fun t119 => (if t119 ≤ (wrap64 (x1001)) then (if 0 ≤ t119 then (if t119 < 4 then (spec_l06State.l0 k (wrap64 (x4 + 1)) x1000 x1001 x1002 (pickA t119 0 (wrap64 ((rd [x119000, x119001, x119002, x119003] t119) + 1)) x119000) (pickA t119 1 (wrap64 ((rd [x119000, x119001, x119002, x119003] t119) + 1)) x119001) (pickA t119 2 (wrap64 ((rd [x119000, x119001, x119002, x119003] t119) + 1)) x119002) (pickA t119 3 (wrap64 ((rd [x119000, x119001, x119002, x119003] t119) + 1)) x119003)) else (none)) else (none)) else (spec_l06State.l0 k (wrap64 (x4 + 1)) x1000 x1001 x1002 x119000 x119001 x119002 x119003))) else (some (x119000, x119001, x119002, x119003))
def spec_l06State.f (k : Nat) (a0_0 : Int) (a0_1 : Int) (l0_2 : List (S60)) : Option (Int × Int × Int × Int) := spec_l06State.l0 k 0 a0_0 a0_1 l0_2 0 0 0 0
theorem spec_l06State.mono_l : ∀ k, (∀ y0 y1 y2 y3 y4 y5 y6 y7, LeO (spec_l06State.l0 k y0 y1 y2 y3 y4 y5 y6 y7) (spec_l06State.l0 (k + 1) y0 y1 y2 y3 y4 y5 y6 y7))
 | 0 => fun _ _ _ _ _ _ _ _ r h => by simp [spec_l06State.l0] at h
 | k + 1 => by
  have ih0 := spec_l06State.mono_l k
  ·intro y0 y1 y2 y3 y4 y5 y6 y7
   unfold spec_l06State.l0
   repeat' first
   | (with_reducible exact ih0 _ _ _ _ _ _ _ _)
   | (with_reducible exact spec_l06Lies.mono _ _ _ _ _)
   | (with_reducible exact LeO.refl _)
   | (with_reducible exact LeO.none _)
   | (with_reducible refine LeO.ite ?_ ?_)
   | (with_reducible refine LeO.bind ?_ (fun _ => ?_))
   | exact ih0 _ _ _ _ _ _ _ _
   | exact spec_l06Lies.mono _ _ _ _ _
   | exact LeO.none _
   | refine LeO.ite ?_ ?_
   | refine LeO.bind ?_ (fun _ => ?_)
theorem spec_l06State.mono : ∀ a0 a1 a2 k, LeO (spec_l06State.f k a0 a1 a2) (spec_l06State.f (k + 1) a0 a1 a2) := by
 intro a0 a1 a2 k
 have ih0 := spec_l06State.mono_l k
 unfold spec_l06State.f
 repeat' first
   | (with_reducible exact ih0 _ _ _ _ _ _ _ _)
   | (with_reducible exact spec_l06Lies.mono _ _ _ _ _)
   | (with_reducible exact LeO.refl _)
   | (with_reducible exact LeO.none _)
   | (with_reducible refine LeO.ite ?_ ?_)
   | (with_reducible refine LeO.bind ?_ (fun _ => ?_))
   | exact ih0 _ _ _ _ _ _ _ _
   | exact spec_l06Lies.mono _ _ _ _ _
   | exact LeO.none _
   | refine LeO.ite ?_ ?_
   | refine LeO.bind ?_ (fun _ => ?_)
set_option maxHeartbeats 8000000 in
set_option maxRecDepth 100000 in
theorem spec_l06State.calls (k : Nat) (g0 : Nat) (a0_0 : Int) (a0_1 : Int) (A0_2 : Option Addr) (c0_2 : Nat) (l0_2 : List (S60)) (r1 : Int) (r2 : Int) (r3 : Int) (r4 : Int) (w : World) (hb0 : w.heap[g0]? = some (.cells #[.int .i8 a0_0, .int .i8 a0_1, .slice A0_2 l0_2.length c0_2] 38 (0, 0))) (hr0_2 : Kd.C k60 w A0_2 l0_2.length l0_2) (hc0_2 : l0_2.length ≤ c0_2) (h : spec_l06State.f k a0_0 a0_1 l0_2 = some (r1, r2, r3, r4)) :
  Calls Try.prog 22 #[.pointer (some ⟨g0, 0, none⟩)] w fun e w' => e = .returned (.agg #[.int .i64 r1, .int .i64 r2, .int .i64 r3, .int .i64 r4]) ∧ Below w.heap.size w w' := by
 have hu23 := Try.underlying23
 have HR0_2 := Aside0.mk hr0_2
 have HC0_2 := Aside0.mk hc0_2
 clear hr0_2 hc0_2
 have BK0 := Aside0.mk hb0
 clear hb0
 have HB := Aside0.mk (Below.refl w.heap.size w)
 have H : (spec_l06State.l0 k 0 a0_0 a0_1 l0_2 0 0 0 0) = some (r1, r2, r3, r4) := h
 clear h
 have H' := Aside0.mk H
 clear H
 go_enter Try.func22, Try.ntmps22
 go_wp2_with (first | ((with_reducible refine gate_dst (N := 2) rfl ?_); refine box_event ?hg (N := 2) ?hd (cs := #[.int .i64 0, .int .i64 0, .int .i64 0, .int .i64 0]) (t := 23) ?hr ?_; (case hd => rfl); (case hg => rfl); (case hr => first | (go_simp; done) | (go_simp; rfl)); intro gb117 hg w2 hbox hb; have n0_ := Aside0.mk (blk_below (g := g0) (o := .cells #[.int .i8 a0_0, .int .i8 a0_1, .slice A0_2 l0_2.length c0_2] 38 (0, 0)) (by (with_reducible repeat (first | refine blk_drewN ?_ _ | refine blk_drew ?_ | refine blk_alloc ?_ _)); exact BK0.out) hb); have n1_ := Aside0.mk (below_step (by repeat (first | (with_reducible first | exact HB.out | apply below_alloc | apply pw_below_drewN | apply below_drew1) | exact HB.out)) hb); have n2_ := Aside0.mk (hbox); have n3_ := Aside0.mk ((by rw [hg]; exact (below_size (by repeat (first | (with_reducible first | exact HB.out | apply below_alloc | apply pw_below_drewN | apply below_drew1) | exact HB.out))) : w.heap.size ≤ gb117)); have n4_ := Aside0.mk ((by rw [hg]; exact (below_size (by repeat (first | (with_reducible first | exact HB.out | apply below_alloc | apply pw_below_drewN | apply below_drew1) | exact HB.out))) : w.heap.size ≤ gb117)); have n5_ := Aside0.mk ((by rw [hg]; exact Nat.ne_of_lt (blk_lt (g := g0) (o := .cells #[.int .i8 a0_0, .int .i8 a0_1, .slice A0_2 l0_2.length c0_2] 38 (0, 0)) (by (with_reducible repeat (first | refine blk_drewN ?_ _ | refine blk_drew ?_ | refine blk_alloc ?_ _)); exact BK0.out)) : g0 ≠ gb117)); have n6_ := Aside0.mk ((by rw [hg]; exact Nat.ne_of_gt (blk_lt (g := g0) (o := .cells #[.int .i8 a0_0, .int .i8 a0_1, .slice A0_2 l0_2.length c0_2] 38 (0, 0)) (by (with_reducible repeat (first | refine blk_drewN ?_ _ | refine blk_drew ?_ | refine blk_alloc ?_ _)); exact BK0.out)) : gb117 ≠ g0)); clear BK0; clear HB; have BK0 := n0_; have HB := n1_; have BK117 := n2_; have GW117 := n3_; have GE117 := n4_; have NB0_117 := n5_; have NB117_0 := n6_; clear n0_ n1_ n2_ n3_ n4_ n5_ n6_; clear hb hbox hg) | ((with_reducible refine gate_dst (N := 3) rfl ?_); refine box_event ?hg (N := 3) ?hd (cs := #[.int .i64 0, .int .i64 0, .int .i64 0, .int .i64 0]) (t := 23) ?hr ?_; (case hd => rfl); (case hg => rfl); (case hr => first | (go_simp; done) | (go_simp; rfl)); intro gb118 hg w3 hbox hb; have n0_ := Aside0.mk (blk_below (g := g0) (o := .cells #[.int .i8 a0_0, .int .i8 a0_1, .slice A0_2 l0_2.length c0_2] 38 (0, 0)) (by (with_reducible repeat (first | refine blk_drewN ?_ _ | refine blk_drew ?_ | refine blk_alloc ?_ _)); exact BK0.out) hb); have n1_ := Aside0.mk (blk_below (g := gb117) (o := .cells #[.int .i64 0, .int .i64 0, .int .i64 0, .int .i64 0] 23 (0, 0)) (by (with_reducible repeat (first | refine blk_drewN ?_ _ | refine blk_drew ?_ | refine blk_alloc ?_ _)); exact BK117.out) hb); have n2_ := Aside0.mk (below_step (by repeat (first | (with_reducible first | exact HB.out | apply below_alloc | apply pw_below_drewN | apply below_drew1 | refine below_set ?_ GE117.out) | exact HB.out)) hb); have n3_ := Aside0.mk (hbox); have n4_ := Aside0.mk ((by rw [hg]; exact (below_size (by repeat (first | (with_reducible first | exact HB.out | apply below_alloc | apply pw_below_drewN | apply below_drew1 | refine below_set ?_ GE117.out) | exact HB.out))) : w.heap.size ≤ gb118)); have n5_ := Aside0.mk ((by rw [hg]; exact (below_size (by repeat (first | (with_reducible first | exact HB.out | apply below_alloc | apply pw_below_drewN | apply below_drew1 | refine below_set ?_ GE117.out) | exact HB.out))) : w.heap.size ≤ gb118)); have n6_ := Aside0.mk ((by rw [hg]; exact Nat.ne_of_lt (blk_lt (g := g0) (o := .cells #[.int .i8 a0_0, .int .i8 a0_1, .slice A0_2 l0_2.length c0_2] 38 (0, 0)) (by (with_reducible repeat (first | refine blk_drewN ?_ _ | refine blk_drew ?_ | refine blk_alloc ?_ _)); exact BK0.out)) : g0 ≠ gb118)); have n7_ := Aside0.mk ((by rw [hg]; exact Nat.ne_of_gt (blk_lt (g := g0) (o := .cells #[.int .i8 a0_0, .int .i8 a0_1, .slice A0_2 l0_2.length c0_2] 38 (0, 0)) (by (with_reducible repeat (first | refine blk_drewN ?_ _ | refine blk_drew ?_ | refine blk_alloc ?_ _)); exact BK0.out)) : gb118 ≠ g0)); have n8_ := Aside0.mk ((by rw [hg]; exact Nat.ne_of_lt (blk_lt (g := gb117) (o := .cells #[.int .i64 0, .int .i64 0, .int .i64 0, .int .i64 0] 23 (0, 0)) (by (with_reducible repeat (first | refine blk_drewN ?_ _ | refine blk_drew ?_ | refine blk_alloc ?_ _)); exact BK117.out)) : gb117 ≠ gb118)); have n9_ := Aside0.mk ((by rw [hg]; exact Nat.ne_of_gt (blk_lt (g := gb117) (o := .cells #[.int .i64 0, .int .i64 0, .int .i64 0, .int .i64 0] 23 (0, 0)) (by (with_reducible repeat (first | refine blk_drewN ?_ _ | refine blk_drew ?_ | refine blk_alloc ?_ _)); exact BK117.out)) : gb118 ≠ gb117)); clear BK0; clear BK117; clear HB; have BK0 := n0_; have BK117 := n1_; have HB := n2_; have BK118 := n3_; have GW118 := n4_; have GE118 := n5_; have NB0_118 := n6_; have NB118_0 := n7_; have NB117_118 := n8_; have NB118_117 := n9_; clear n0_ n1_ n2_ n3_ n4_ n5_ n6_ n7_ n8_ n9_; clear hb hbox hg; have hnb4 := NB118_0.out; have hnc4 := NB0_118.out; have hnb5 := NB118_117.out; have hnc5 := NB117_118.out; have hcz6_0 : w3.cell? ⟨gb118, 0, none⟩ = some (.int .i64 0) := (blk_cell BK118.out 0).trans rfl; have hcz6_1 : w3.cell? ⟨gb118, 1, none⟩ = some (.int .i64 0) := (blk_cell BK118.out 1).trans rfl; have hcz6_2 : w3.cell? ⟨gb118, 2, none⟩ = some (.int .i64 0) := (blk_cell BK118.out 2).trans rfl; have hcz6_3 : w3.cell? ⟨gb118, 3, none⟩ = some (.int .i64 0) := (blk_cell BK118.out 3).trans rfl; have hfz6_0 := blk_frozen BK118.out 0; have hfz6_1 := blk_frozen BK118.out 1; have hfz6_2 := blk_frozen BK118.out 2; have hfz6_3 := blk_frozen BK118.out 3))
 go_loopg [4] k (fun kq v4 w' => ∃ (x4_1 : Int) (x1000_1 : Int) (x1001_1 : Int) (x119000_1 : Int) (x119001_1 : Int) (x119002_1 : Int) (x119003_1 : Int), v4 = .int .i64 x4_1 ∧ Aside0 (spec_l06State.l0 kq x4_1 x1000_1 x1001_1 l0_2 x119000_1 x119001_1 x119002_1 x119003_1 = some (r1, r2, r3, r4)) ∧ Aside0 (kq ≤ k) ∧ Aside0 (w'.heap[g0]? = some (.cells #[.int .i8 x1000_1, .int .i8 x1001_1, (.slice A0_2 l0_2.length c0_2)] 38 (0, 0))) ∧ Aside0 (w'.heap[gb117]? = some (.cells #[.int .i64 0, .int .i64 0, .int .i64 0, .int .i64 0] 23 (0, 0))) ∧ Aside0 (w'.heap[gb118]? = some (.cells #[.int .i64 x119000_1, .int .i64 x119001_1, .int .i64 x119002_1, .int .i64 x119003_1] 23 (0, 0))) ∧ Aside0 (Below w.heap.size w w'))
 case atStart => exact ⟨(0), (a0_0), (a0_1), (0), (0), (0), (0), (by first | rfl | (simp; done) | (simp [*]; done)), H', ⟨Nat.le_refl _⟩, ⟨by (with_reducible repeat (first | refine blk_drewN ?_ _ | refine blk_drew ?_ | refine blk_alloc ?_ _)); refine blk_far ?_ NB0_118.out _; (with_reducible repeat (first | refine blk_drewN ?_ _ | refine blk_drew ?_ | refine blk_alloc ?_ _)); refine blk_far ?_ NB0_118.out _; (with_reducible repeat (first | refine blk_drewN ?_ _ | refine blk_drew ?_ | refine blk_alloc ?_ _)); refine blk_far ?_ NB0_118.out _; (with_reducible repeat (first | refine blk_drewN ?_ _ | refine blk_drew ?_ | refine blk_alloc ?_ _)); refine blk_far ?_ NB0_118.out _; (with_reducible repeat (first | refine blk_drewN ?_ _ | refine blk_drew ?_ | refine blk_alloc ?_ _)); exact BK0.out⟩, ⟨by (with_reducible repeat (first | refine blk_drewN ?_ _ | refine blk_drew ?_ | refine blk_alloc ?_ _)); refine blk_far ?_ NB117_118.out _; (with_reducible repeat (first | refine blk_drewN ?_ _ | refine blk_drew ?_ | refine blk_alloc ?_ _)); refine blk_far ?_ NB117_118.out _; (with_reducible repeat (first | refine blk_drewN ?_ _ | refine blk_drew ?_ | refine blk_alloc ?_ _)); refine blk_far ?_ NB117_118.out _; (with_reducible repeat (first | refine blk_drewN ?_ _ | refine blk_drew ?_ | refine blk_alloc ?_ _)); refine blk_far ?_ NB117_118.out _; (with_reducible repeat (first | refine blk_drewN ?_ _ | refine blk_drew ?_ | refine blk_alloc ?_ _)); exact BK117.out⟩, ⟨by (with_reducible repeat (first | refine blk_drewN ?_ _ | refine blk_drew ?_ | refine blk_alloc ?_ _)); refine blk_put (cs := #[.int .i64 0, .int .i64 0, .int .i64 0, .int .i64 0]) ?_ 3 _ rfl; (with_reducible repeat (first | refine blk_drewN ?_ _ | refine blk_drew ?_ | refine blk_alloc ?_ _)); refine blk_put (cs := #[.int .i64 0, .int .i64 0, .int .i64 0, .int .i64 0]) ?_ 2 _ rfl; (with_reducible repeat (first | refine blk_drewN ?_ _ | refine blk_drew ?_ | refine blk_alloc ?_ _)); refine blk_put (cs := #[.int .i64 0, .int .i64 0, .int .i64 0, .int .i64 0]) ?_ 1 _ rfl; (with_reducible repeat (first | refine blk_drewN ?_ _ | refine blk_drew ?_ | refine blk_alloc ?_ _)); refine blk_put (cs := #[.int .i64 0, .int .i64 0, .int .i64 0, .int .i64 0]) ?_ 0 _ rfl; (with_reducible repeat (first | refine blk_drewN ?_ _ | refine blk_drew ?_ | refine blk_alloc ?_ _)); exact BK118.out⟩, ⟨by repeat (first | (with_reducible first | exact HB.out | apply below_alloc | apply pw_below_drewN | apply below_drew1 | refine below_set ?_ GE117.out | refine below_set ?_ GE118.out) | exact HB.out)⟩⟩
 case round =>
  clear H'
  try clear c2
  try clear p2
  try clear c4
  try clear c5
  try clear hcz6_0
  try clear hcz6_1
  try clear hcz6_2
  try clear hcz6_3
  try clear hfz6_0
  try clear hfz6_1
  try clear hfz6_2
  try clear hfz6_3
  obtain ⟨x4_1, x1000_1, x1001_1, x119000_1, x119001_1, x119002_1, x119003_1, rfl, HA, HK1, BK0, BK117, BK118, HB⟩ := hrel
  cases gk with
  | zero => exact absurd HA.out (by simp [spec_l06State.l0])
  | succ k1 =>
   have H := HA.out
   clear HA
   simp only [spec_l06State.l0] at H
   by_cases c7 : x4_1 < (wrap64 (x1000_1))
   ·rw [if_pos c7] at H
    have c7b0 : decide (x4_1 < (wrap64 (x1000_1))) = true := decide_eq_true c7
    (try (have c7b1 : decide (x4_1 < (IntKind.i64.wrap (x1000_1))) = true := by have h_ : decide (x4_1 < (wrap64 (x1000_1))) = true := decide_eq_true c7; simpa only [i64_w, i32_w] using h_))
    clear c7
    replace H := Option.bind_eq_some_iff.mp H
    obtain ⟨t119, A80, H⟩ := H
    replace H : (if t119 ≤ (wrap64 (x1001_1)) then (if 0 ≤ t119 then (if t119 < 4 then (spec_l06State.l0 k1 (wrap64 (x4_1 + 1)) x1000_1 x1001_1 l0_2 (pickA t119 0 (wrap64 ((rd [x119000_1, x119001_1, x119002_1, x119003_1] t119) + 1)) x119000_1) (pickA t119 1 (wrap64 ((rd [x119000_1, x119001_1, x119002_1, x119003_1] t119) + 1)) x119001_1) (pickA t119 2 (wrap64 ((rd [x119000_1, x119001_1, x119002_1, x119003_1] t119) + 1)) x119002_1) (pickA t119 3 (wrap64 ((rd [x119000_1, x119001_1, x119002_1, x119003_1] t119) + 1)) x119003_1)) else (none)) else (none)) else (spec_l06State.l0 k1 (wrap64 (x4_1 + 1)) x1000_1 x1001_1 l0_2 x119000_1 x119001_1 x119002_1 x119003_1)) = some (r1, r2, r3, r4) := H
    have A8 := Aside0.mk A80
    clear A80
    by_cases c9 : t119 ≤ (wrap64 (x1001_1))
    ·rw [if_pos c9] at H
     have c9b0 : decide (t119 ≤ (wrap64 (x1001_1))) = true := decide_eq_true c9
     (try (have c9b1 : decide (t119 ≤ (IntKind.i64.wrap (x1001_1))) = true := by have h_ : decide (t119 ≤ (wrap64 (x1001_1))) = true := decide_eq_true c9; simpa only [i64_w, i32_w] using h_))
     clear c9
     by_cases c10 : 0 ≤ t119
     ·rw [if_pos c10] at H
      have c10b0 : decide (0 ≤ t119) = true := decide_eq_true c10
      clear c10
      by_cases c11 : t119 < 4
      ·rw [if_pos c11] at H
       have c11b0 : decide (t119 < 4) = true := decide_eq_true c11
       clear c11
       have H' := Aside0.mk H
       clear H
       have hnb12 := NB0_117.out
       have hnc12 := NB117_0.out
       have hnb13 := NB0_118.out
       have hnc13 := NB118_0.out
       have hcz14_0 : wr.cell? ⟨g0, 0, none⟩ = some (.int .i8 x1000_1) := (blk_cell BK0.out 0).trans rfl
       have hcz14_1 : wr.cell? ⟨g0, 1, none⟩ = some (.int .i8 x1001_1) := (blk_cell BK0.out 1).trans rfl
       have hcz14_2 : wr.cell? ⟨g0, 2, none⟩ = some (.slice A0_2 l0_2.length c0_2) := (blk_cell BK0.out 2).trans rfl
       have hfz14_0 := blk_frozen BK0.out 0
       have hfz14_1 := blk_frozen BK0.out 1
       have hfz14_2 := blk_frozen BK0.out 2
       go_wp2_with (first | ((with_reducible refine gate_callee (f := 33) rfl ?_); refine goesL_ (some 18) rfl rfl Try.func33 (by kernel_rfl) rfl #[.pointer (some ⟨g0, 0, none⟩), .int .i64 x4_1] rfl (by (try simp only [List.map_toArray, List.map_cons, List.map_nil]); first | done | rfl | (simp only [List.length_drop, List.length_take]; rfl)) ?_; (with_reducible refine (spec_l06Lies.calls k1 g0 x1000_1 x1001_1 A0_2 c0_2 l0_2 x4_1 t119 _ ?side1 ?side2 ?side3 A8.out).mono ?_); (case side1 => (with_reducible repeat (first | refine blk_drewN ?_ _ | refine blk_drew ?_ | refine blk_alloc ?_ _)); exact BK0.out); (case side2 => repeat (first | exact (Kd.C_below HR0_2.out HB.out) | (with_reducible refine Kd.C_alloc ?_ _) | (with_reducible refine Kd.C_drewN ?_ _) | (with_reducible refine Kd.C_drew ?_))); (case side3 => exact HC0_2.out); rintro e w15 ⟨rfl, hb⟩; refine ⟨_, rfl, ?_⟩; have n0_ := Aside0.mk (blk_below (g := g0) (o := .cells #[.int .i8 x1000_1, .int .i8 x1001_1, .slice A0_2 l0_2.length c0_2] 38 (0, 0)) (by (with_reducible repeat (first | refine blk_drewN ?_ _ | refine blk_drew ?_ | refine blk_alloc ?_ _)); exact BK0.out) hb); have n1_ := Aside0.mk (blk_below (g := gb117) (o := .cells #[.int .i64 0, .int .i64 0, .int .i64 0, .int .i64 0] 23 (0, 0)) (by (with_reducible repeat (first | refine blk_drewN ?_ _ | refine blk_drew ?_ | refine blk_alloc ?_ _)); exact BK117.out) hb); have n2_ := Aside0.mk (blk_below (g := gb118) (o := .cells #[.int .i64 x119000_1, .int .i64 x119001_1, .int .i64 x119002_1, .int .i64 x119003_1] 23 (0, 0)) (by (with_reducible repeat (first | refine blk_drewN ?_ _ | refine blk_drew ?_ | refine blk_alloc ?_ _)); exact BK118.out) hb); have n3_ := Aside0.mk (below_step (by repeat (first | (with_reducible first | exact HB.out | apply below_alloc | apply pw_below_drewN | apply below_drew1 | refine below_set ?_ GE117.out | refine below_set ?_ GE118.out) | exact HB.out)) hb); clear BK0; clear BK117; clear BK118; clear HB; have BK0 := n0_; have BK117 := n1_; have BK118 := n2_; have HB := n3_; clear n0_ n1_ n2_ n3_; (try clear hb); (try clear hb2); (try clear hk); (try clear hi); have hcz16_0 : w15.cell? ⟨g0, 0, none⟩ = some (.int .i8 x1000_1) := (blk_cell BK0.out 0).trans rfl; have hcz16_1 : w15.cell? ⟨g0, 1, none⟩ = some (.int .i8 x1001_1) := (blk_cell BK0.out 1).trans rfl; have hcz16_2 : w15.cell? ⟨g0, 2, none⟩ = some (.slice A0_2 l0_2.length c0_2) := (blk_cell BK0.out 2).trans rfl; have hfz16_0 := blk_frozen BK0.out 0; have hfz16_1 := blk_frozen BK0.out 1; have hfz16_2 := blk_frozen BK0.out 2; have p17 : 0 ≤ (t119 : Int) := of_decide_eq_true (by first | (with_reducible assumption) | assumption); have q17 : t119 < (4 : Int) := of_decide_eq_true (by first | (with_reducible assumption) | assumption); replace p17 := eq_true p17; replace q17 := eq_true q17; have hnb18 := NB118_117.out; have hnc18 := NB117_118.out; have hcz19_0 : w15.cell? ⟨gb118, 0, none⟩ = some (.int .i64 x119000_1) := (blk_cell BK118.out 0).trans rfl; have hcz19_1 : w15.cell? ⟨gb118, 1, none⟩ = some (.int .i64 x119001_1) := (blk_cell BK118.out 1).trans rfl; have hcz19_2 : w15.cell? ⟨gb118, 2, none⟩ = some (.int .i64 x119002_1) := (blk_cell BK118.out 2).trans rfl; have hcz19_3 : w15.cell? ⟨gb118, 3, none⟩ = some (.int .i64 x119003_1) := (blk_cell BK118.out 3).trans rfl; have hfz19_0 := blk_frozen BK118.out 0; have hfz19_1 := blk_frozen BK118.out 1; have hfz19_2 := blk_frozen BK118.out 2; have hfz19_3 := blk_frozen BK118.out 3; have hx20_0 : w15.cell? ⟨gb118, (t119).toNat, none⟩ = some (.int .i64 (rd [x119000_1, x119001_1, x119002_1, x119003_1] t119)) := (blk_cell BK118.out _).trans (by rcases (show (t119 : Int) = 0 ∨ (t119 : Int) = 1 ∨ (t119 : Int) = 2 ∨ (t119 : Int) = 3 by have hp_ : 0 ≤ (t119 : Int) := of_decide_eq_true (by first | (with_reducible assumption) | assumption); have hq_ : t119 < (4 : Int) := of_decide_eq_true (by first | (with_reducible assumption) | assumption); omega) with h_ | h_ | h_ | h_ <;> rw [h_] <;> rfl); have p21 : 0 ≤ (t119 : Int) := of_decide_eq_true (by first | (with_reducible assumption) | assumption); have q21 : t119 < (4 : Int) := of_decide_eq_true (by first | (with_reducible assumption) | assumption); replace p21 := eq_true p21; replace q21 := eq_true q21) | ((with_reducible refine gate_store (t := 2) (p := 30) rfl ?_); have hx22_0 : w15.cell? ⟨gb118, (t119).toNat, none⟩ = some (.int .i64 (rd [x119000_1, x119001_1, x119002_1, x119003_1] t119)) := (blk_cell BK118.out _).trans (by rcases (show (t119 : Int) = 0 ∨ (t119 : Int) = 1 ∨ (t119 : Int) = 2 ∨ (t119 : Int) = 3 by have hp_ : 0 ≤ (t119 : Int) := of_decide_eq_true (by first | (with_reducible assumption) | assumption); have hq_ : t119 < (4 : Int) := of_decide_eq_true (by first | (with_reducible assumption) | assumption); omega) with h_ | h_ | h_ | h_ <;> rw [h_] <;> rfl); have hfz22_0 := blk_frozen BK118.out ((t119).toNat); refine store_event (t := 2) (p := 30) (v := ?vo_w23) (w1 := (w15.setCell ⟨gb118, (t119).toNat, none⟩ (.int .i64 (wrap64 ((rd [x119000_1, x119001_1, x119002_1, x119003_1] t119) + 1))))) ?hg ?ho ?hn ?hr ?_; (case ho => rfl); (case hg => rfl); (case hn => rfl); (case hr => first | (go_simp; done) | (go_simp; rfl)); intro w23 hw; have n0_ : Aside0 (w23.heap[g0]? = some (.cells #[.int .i8 x1000_1, .int .i8 x1001_1, .slice A0_2 l0_2.length c0_2] 38 (0, 0))) := ⟨(by rw [hw]; exact (by (with_reducible repeat (first | refine blk_drewN ?_ _ | refine blk_drew ?_ | refine blk_alloc ?_ _)); refine blk_far ?_ NB0_118.out _; (with_reducible repeat (first | refine blk_drewN ?_ _ | refine blk_drew ?_ | refine blk_alloc ?_ _)); exact BK0.out))⟩; have n1_ : Aside0 (w23.heap[gb117]? = some (.cells #[.int .i64 0, .int .i64 0, .int .i64 0, .int .i64 0] 23 (0, 0))) := ⟨(by rw [hw]; exact (by (with_reducible repeat (first | refine blk_drewN ?_ _ | refine blk_drew ?_ | refine blk_alloc ?_ _)); refine blk_far ?_ NB117_118.out _; (with_reducible repeat (first | refine blk_drewN ?_ _ | refine blk_drew ?_ | refine blk_alloc ?_ _)); exact BK117.out))⟩; have n2_ : Aside0 (w23.heap[gb118]? = some (.cells #[.int .i64 (pickA t119 0 (wrap64 ((rd [x119000_1, x119001_1, x119002_1, x119003_1] t119) + 1)) x119000_1), .int .i64 (pickA t119 1 (wrap64 ((rd [x119000_1, x119001_1, x119002_1, x119003_1] t119) + 1)) x119001_1), .int .i64 (pickA t119 2 (wrap64 ((rd [x119000_1, x119001_1, x119002_1, x119003_1] t119) + 1)) x119002_1), .int .i64 (pickA t119 3 (wrap64 ((rd [x119000_1, x119001_1, x119002_1, x119003_1] t119) + 1)) x119003_1)] 23 (0, 0))) := ⟨(by rw [hw]; exact (by (with_reducible repeat (first | refine blk_drewN ?_ _ | refine blk_drew ?_ | refine blk_alloc ?_ _)); refine blk_put (cs := #[.int .i64 x119000_1, .int .i64 x119001_1, .int .i64 x119002_1, .int .i64 x119003_1]) ?_ ((t119).toNat) _ (by rcases (show (t119 : Int) = 0 ∨ (t119 : Int) = 1 ∨ (t119 : Int) = 2 ∨ (t119 : Int) = 3 by have hp_ : 0 ≤ (t119 : Int) := of_decide_eq_true (by first | (with_reducible assumption) | assumption); have hq_ : t119 < (4 : Int) := of_decide_eq_true (by first | (with_reducible assumption) | assumption); omega) with h_ | h_ | h_ | h_ <;> rw [h_] <;> rfl); (with_reducible repeat (first | refine blk_drewN ?_ _ | refine blk_drew ?_ | refine blk_alloc ?_ _)); exact BK118.out))⟩; have n3_ : Aside0 (Below w.heap.size w w23) := ⟨(by rw [hw]; exact (by repeat (first | (with_reducible first | exact HB.out | apply below_alloc | apply pw_below_drewN | apply below_drew1 | refine below_set ?_ GE117.out | refine below_set ?_ GE118.out) | exact HB.out)))⟩; clear hw; clear BK0; clear BK117; clear BK118; clear HB; have BK0 := n0_; have BK117 := n1_; have BK118 := n2_; have HB := n3_; clear n0_ n1_ n2_ n3_))
       go_roundg k1
       case measure => have := HK1.out; omega
       case rel => exact ⟨(wrap64 (x4_1 + 1)), (x1000_1), (x1001_1), ((pickA t119 0 (wrap64 ((rd [x119000_1, x119001_1, x119002_1, x119003_1] t119) + 1)) x119000_1)), ((pickA t119 1 (wrap64 ((rd [x119000_1, x119001_1, x119002_1, x119003_1] t119) + 1)) x119001_1)), ((pickA t119 2 (wrap64 ((rd [x119000_1, x119001_1, x119002_1, x119003_1] t119) + 1)) x119002_1)), ((pickA t119 3 (wrap64 ((rd [x119000_1, x119001_1, x119002_1, x119003_1] t119) + 1)) x119003_1)), (by first | rfl | (simp; done) | (simp [*]; done)), H', ⟨by have := HK1.out; omega⟩, ⟨by (with_reducible repeat (first | refine blk_drewN ?_ _ | refine blk_drew ?_ | refine blk_alloc ?_ _)); exact BK0.out⟩, ⟨by (with_reducible repeat (first | refine blk_drewN ?_ _ | refine blk_drew ?_ | refine blk_alloc ?_ _)); exact BK117.out⟩, ⟨by (with_reducible repeat (first | refine blk_drewN ?_ _ | refine blk_drew ?_ | refine blk_alloc ?_ _)); exact BK118.out⟩, ⟨by repeat (first | (with_reducible first | exact HB.out | apply below_alloc | apply pw_below_drewN | apply below_drew1 | refine below_set ?_ GE117.out | refine below_set ?_ GE118.out) | exact HB.out)⟩⟩
      ·rw [if_neg c11] at H
       exact absurd H (by simp)
     ·rw [if_neg c10] at H
      exact absurd H (by simp)
    ·rw [if_neg c9] at H
     have c9b0 : decide (t119 ≤ (wrap64 (x1001_1))) = false := decide_eq_false c9
     (try (have c9b1 : decide (t119 ≤ (IntKind.i64.wrap (x1001_1))) = false := by have h_ : decide (t119 ≤ (wrap64 (x1001_1))) = false := decide_eq_false c9; simpa only [i64_w, i32_w] using h_))
     clear c9
     have H' := Aside0.mk H
     clear H
     have hnb24 := NB0_117.out
     have hnc24 := NB117_0.out
     have hnb25 := NB0_118.out
     have hnc25 := NB118_0.out
     have hcz26_0 : wr.cell? ⟨g0, 0, none⟩ = some (.int .i8 x1000_1) := (blk_cell BK0.out 0).trans rfl
     have hcz26_1 : wr.cell? ⟨g0, 1, none⟩ = some (.int .i8 x1001_1) := (blk_cell BK0.out 1).trans rfl
     have hcz26_2 : wr.cell? ⟨g0, 2, none⟩ = some (.slice A0_2 l0_2.length c0_2) := (blk_cell BK0.out 2).trans rfl
     have hfz26_0 := blk_frozen BK0.out 0
     have hfz26_1 := blk_frozen BK0.out 1
     have hfz26_2 := blk_frozen BK0.out 2
     go_wp2_with (first | ((with_reducible refine gate_callee (f := 33) rfl ?_); refine goesL_ (some 18) rfl rfl Try.func33 (by kernel_rfl) rfl #[.pointer (some ⟨g0, 0, none⟩), .int .i64 x4_1] rfl (by (try simp only [List.map_toArray, List.map_cons, List.map_nil]); first | done | rfl | (simp only [List.length_drop, List.length_take]; rfl)) ?_; (with_reducible refine (spec_l06Lies.calls k1 g0 x1000_1 x1001_1 A0_2 c0_2 l0_2 x4_1 t119 _ ?side1 ?side2 ?side3 A8.out).mono ?_); (case side1 => (with_reducible repeat (first | refine blk_drewN ?_ _ | refine blk_drew ?_ | refine blk_alloc ?_ _)); exact BK0.out); (case side2 => repeat (first | exact (Kd.C_below HR0_2.out HB.out) | (with_reducible refine Kd.C_alloc ?_ _) | (with_reducible refine Kd.C_drewN ?_ _) | (with_reducible refine Kd.C_drew ?_))); (case side3 => exact HC0_2.out); rintro e w27 ⟨rfl, hb⟩; refine ⟨_, rfl, ?_⟩; have n0_ := Aside0.mk (blk_below (g := g0) (o := .cells #[.int .i8 x1000_1, .int .i8 x1001_1, .slice A0_2 l0_2.length c0_2] 38 (0, 0)) (by (with_reducible repeat (first | refine blk_drewN ?_ _ | refine blk_drew ?_ | refine blk_alloc ?_ _)); exact BK0.out) hb); have n1_ := Aside0.mk (blk_below (g := gb117) (o := .cells #[.int .i64 0, .int .i64 0, .int .i64 0, .int .i64 0] 23 (0, 0)) (by (with_reducible repeat (first | refine blk_drewN ?_ _ | refine blk_drew ?_ | refine blk_alloc ?_ _)); exact BK117.out) hb); have n2_ := Aside0.mk (blk_below (g := gb118) (o := .cells #[.int .i64 x119000_1, .int .i64 x119001_1, .int .i64 x119002_1, .int .i64 x119003_1] 23 (0, 0)) (by (with_reducible repeat (first | refine blk_drewN ?_ _ | refine blk_drew ?_ | refine blk_alloc ?_ _)); exact BK118.out) hb); have n3_ := Aside0.mk (below_step (by repeat (first | (with_reducible first | exact HB.out | apply below_alloc | apply pw_below_drewN | apply below_drew1 | refine below_set ?_ GE117.out | refine below_set ?_ GE118.out) | exact HB.out)) hb); clear BK0; clear BK117; clear BK118; clear HB; have BK0 := n0_; have BK117 := n1_; have BK118 := n2_; have HB := n3_; clear n0_ n1_ n2_ n3_; (try clear hb); (try clear hb2); (try clear hk); (try clear hi); have hcz28_0 : w27.cell? ⟨g0, 0, none⟩ = some (.int .i8 x1000_1) := (blk_cell BK0.out 0).trans rfl; have hcz28_1 : w27.cell? ⟨g0, 1, none⟩ = some (.int .i8 x1001_1) := (blk_cell BK0.out 1).trans rfl; have hcz28_2 : w27.cell? ⟨g0, 2, none⟩ = some (.slice A0_2 l0_2.length c0_2) := (blk_cell BK0.out 2).trans rfl; have hfz28_0 := blk_frozen BK0.out 0; have hfz28_1 := blk_frozen BK0.out 1; have hfz28_2 := blk_frozen BK0.out 2))
     go_roundg k1
     case measure => have := HK1.out; omega
     case rel => exact ⟨(wrap64 (x4_1 + 1)), (x1000_1), (x1001_1), (x119000_1), (x119001_1), (x119002_1), (x119003_1), (by first | rfl | (simp; done) | (simp [*]; done)), H', ⟨by have := HK1.out; omega⟩, ⟨by (with_reducible repeat (first | refine blk_drewN ?_ _ | refine blk_drew ?_ | refine blk_alloc ?_ _)); exact BK0.out⟩, ⟨by (with_reducible repeat (first | refine blk_drewN ?_ _ | refine blk_drew ?_ | refine blk_alloc ?_ _)); exact BK117.out⟩, ⟨by (with_reducible repeat (first | refine blk_drewN ?_ _ | refine blk_drew ?_ | refine blk_alloc ?_ _)); exact BK118.out⟩, ⟨by repeat (first | (with_reducible first | exact HB.out | apply below_alloc | apply pw_below_drewN | apply below_drew1 | refine below_set ?_ GE117.out | refine below_set ?_ GE118.out) | exact HB.out)⟩⟩
   ·rw [if_neg c7] at H
    have c7b0 : decide (x4_1 < (wrap64 (x1000_1))) = false := decide_eq_false c7
    (try (have c7b1 : decide (x4_1 < (IntKind.i64.wrap (x1000_1))) = false := by have h_ : decide (x4_1 < (wrap64 (x1000_1))) = false := decide_eq_false c7; simpa only [i64_w, i32_w] using h_))
    clear c7
    simp only [Option.some.injEq, Prod.mk.injEq] at H
    obtain ⟨rfl, rfl, rfl, rfl⟩ := H
    have hnb29 := NB0_117.out
    have hnc29 := NB117_0.out
    have hnb30 := NB0_118.out
    have hnc30 := NB118_0.out
    have hcz31_0 : wr.cell? ⟨g0, 0, none⟩ = some (.int .i8 x1000_1) := (blk_cell BK0.out 0).trans rfl
    have hcz31_1 : wr.cell? ⟨g0, 1, none⟩ = some (.int .i8 x1001_1) := (blk_cell BK0.out 1).trans rfl
    have hcz31_2 : wr.cell? ⟨g0, 2, none⟩ = some (.slice A0_2 l0_2.length c0_2) := (blk_cell BK0.out 2).trans rfl
    have hfz31_0 := blk_frozen BK0.out 0
    have hfz31_1 := blk_frozen BK0.out 1
    have hfz31_2 := blk_frozen BK0.out 2
    have hnb32 := NB118_117.out
    have hnc32 := NB117_118.out
    have hcz33_0 : wr.cell? ⟨gb118, 0, none⟩ = some (.int .i64 x119000_1) := (blk_cell BK118.out 0).trans rfl
    have hcz33_1 : wr.cell? ⟨gb118, 1, none⟩ = some (.int .i64 x119001_1) := (blk_cell BK118.out 1).trans rfl
    have hcz33_2 : wr.cell? ⟨gb118, 2, none⟩ = some (.int .i64 x119002_1) := (blk_cell BK118.out 2).trans rfl
    have hcz33_3 : wr.cell? ⟨gb118, 3, none⟩ = some (.int .i64 x119003_1) := (blk_cell BK118.out 3).trans rfl
    have hfz33_0 := blk_frozen BK118.out 0
    have hfz33_1 := blk_frozen BK118.out 1
    have hfz33_2 := blk_frozen BK118.out 2
    have hfz33_3 := blk_frozen BK118.out 3
    have hcz34_0 : wr.cell? ⟨gb117, 0, none⟩ = some (.int .i64 0) := (blk_cell BK117.out 0).trans rfl
    have hcz34_1 : wr.cell? ⟨gb117, 1, none⟩ = some (.int .i64 0) := (blk_cell BK117.out 1).trans rfl
    have hcz34_2 : wr.cell? ⟨gb117, 2, none⟩ = some (.int .i64 0) := (blk_cell BK117.out 2).trans rfl
    have hcz34_3 : wr.cell? ⟨gb117, 3, none⟩ = some (.int .i64 0) := (blk_cell BK117.out 3).trans rfl
    have hfz34_0 := blk_frozen BK117.out 0
    have hfz34_1 := blk_frozen BK117.out 1
    have hfz34_2 := blk_frozen BK117.out 2
    have hfz34_3 := blk_frozen BK117.out 3
    go_wp2
    refine bodyPost_ret (results_cell_row rfl _ _ gb117 23 #[.int .i64 x119000_1, .int .i64 x119001_1, .int .i64 x119002_1, .int .i64 x119003_1] (0, 0) _ rfl (by (with_reducible repeat (first | refine blk_drewN ?_ _ | refine blk_drew ?_ | refine blk_alloc ?_ _)); refine blk_put (cs := #[.int .i64 x119000_1, .int .i64 x119001_1, .int .i64 x119002_1, .int .i64 0]) ?_ 3 _ rfl; (with_reducible repeat (first | refine blk_drewN ?_ _ | refine blk_drew ?_ | refine blk_alloc ?_ _)); refine blk_put (cs := #[.int .i64 x119000_1, .int .i64 x119001_1, .int .i64 0, .int .i64 0]) ?_ 2 _ rfl; (with_reducible repeat (first | refine blk_drewN ?_ _ | refine blk_drew ?_ | refine blk_alloc ?_ _)); refine blk_put (cs := #[.int .i64 x119000_1, .int .i64 0, .int .i64 0, .int .i64 0]) ?_ 1 _ rfl; (with_reducible repeat (first | refine blk_drewN ?_ _ | refine blk_drew ?_ | refine blk_alloc ?_ _)); refine blk_put (cs := #[.int .i64 0, .int .i64 0, .int .i64 0, .int .i64 0]) ?_ 0 _ rfl; (with_reducible repeat (first | refine blk_drewN ?_ _ | refine blk_drew ?_ | refine blk_alloc ?_ _)); exact BK117.out) Try.underlying23 rfl (by kernel_rfl)) rfl ?_
    exact ⟨by first | rfl | (simp [errW_none, errW_some] <;> rfl) | (simp [*, errW_none, errW_some] <;> rfl), by repeat (first | (with_reducible first | exact HB.out | apply below_alloc | apply pw_below_drewN | apply below_drew1 | refine below_set ?_ GE117.out | refine below_set ?_ GE118.out) | exact HB.out)⟩

end Go.Proofs.Ytidblojobcgkjaa.M
