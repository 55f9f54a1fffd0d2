-- Written by wip/tools/myprint.py, a program of this session, by way of the kit's print.
import Derived.Test.YtmfbcklaomigaaaDoorDx0
import Derived.Test.YtmfbcklaomigaaaDoorDx7
namespace Go.Proofs.YtmfbcklaomigaaaDoor.D
open Go.RowKit Go.Proofs.YtmfbcklaomigaaaDoorW.PrintWords Go.Proofs.YtmfbcklaomigaaaDoorW.PrintLast Go.Proofs.YtmfbcklaomigaaaDoorW.PrintMore
attribute [local go_sem] max2_int min2_int max_two min_two max_three min_three max_four min_four   -- for this text's walks alone
set_option linter.unusedVariables false
set_option linter.unusedSimpArgs false

/-! ### spec_l04Read: function 51 -/
def spec_l04Read.l0 : Nat → ByteArray → Int → Int → Int → Int → Int → Option (Int × Int × Int × Int × Bool)
 | 0, _, _, _, _, _, _ => none
 | k + 1, x0, x5, x176000, x176001, x176002, x176003 => if x5 < (x0.size : Int) then (if 0 ≤ x5 then (if (bt x0 x5) = 45 then (if x5 < 4 then (spec_l04Read.l0 k x0 (wrap64 (x5 + 1)) (pickA x5 0 (-1) x176000) (pickA x5 1 (-1) x176001) (pickA x5 2 (-1) x176002) (pickA x5 3 (-1) x176003)) else (none)) else (if (bt x0 x5) = 43 then (if x5 < 4 then (spec_l04Read.l0 k x0 (wrap64 (x5 + 1)) (pickA x5 0 1 x176000) (pickA x5 1 1 x176001) (pickA x5 2 1 x176002) (pickA x5 3 1 x176003)) else (none)) else (if (bt x0 x5) = 48 then (spec_l04Read.l0 k x0 (wrap64 (x5 + 1)) x176000 x176001 x176002 x176003) else (some (0, 0, 0, 0, false))))) else (none)) else (some (x176000, x176001, x176002, x176003, true))
def spec_l04Read.f (k : Nat) (a0 : ByteArray) : Option (Int × Int × Int × Int × Bool) := (spec_l04Letters.f (a0.size : Int)).bind fun t176 => (if t176 = true then (spec_l04Read.l0 k a0 0 0 0 0 0) else (some (0, 0, 0, 0, false)))
theorem spec_l04Read.mono_l : ∀ k, (∀ y0 y1 y2 y3 y4 y5, LeO (spec_l04Read.l0 k y0 y1 y2 y3 y4 y5) (spec_l04Read.l0 (k + 1) y0 y1 y2 y3 y4 y5))
 | 0 => fun _ _ _ _ _ _ r h => by simp [spec_l04Read.l0] at h
 | k + 1 => by
  have ih0 := spec_l04Read.mono_l k
  ·intro y0 y1 y2 y3 y4 y5
   unfold spec_l04Read.l0
   repeat' first
   | (with_reducible exact ih0 _ _ _ _ _ _)
   | (with_reducible exact LeO.refl _)
   | (with_reducible exact LeO.none _)
   | (with_reducible refine LeO.ite ?_ ?_)
   | (with_reducible refine LeO.bind ?_ (fun _ => ?_))
   | exact ih0 _ _ _ _ _ _
   | exact LeO.none _
   | refine LeO.ite ?_ ?_
   | refine LeO.bind ?_ (fun _ => ?_)
theorem spec_l04Read.mono : ∀ a0 k, LeO (spec_l04Read.f k a0) (spec_l04Read.f (k + 1) a0) := by
 intro a0 k
 have ih0 := spec_l04Read.mono_l k
 unfold spec_l04Read.f
 repeat' first
   | (with_reducible exact ih0 _ _ _ _ _ _)
   | (with_reducible exact LeO.refl _)
   | (with_reducible exact LeO.none _)
   | (with_reducible refine LeO.ite ?_ ?_)
   | (with_reducible refine LeO.bind ?_ (fun _ => ?_))
   | exact ih0 _ _ _ _ _ _
   | exact LeO.none _
   | refine LeO.ite ?_ ?_
   | refine LeO.bind ?_ (fun _ => ?_)
set_option maxHeartbeats 8000000 in
set_option maxRecDepth 100000 in
theorem spec_l04Read.calls (k : Nat) (a0 : ByteArray) (r1 : Int) (r2 : Int) (r3 : Int) (r4 : Int) (r5 : Bool) (w : World) (h : spec_l04Read.f k a0 = some (r1, r2, r3, r4, r5)) :
  Calls Tryd.prog 51 #[.string a0] w fun e w' => e = .returned (.tuple #[.agg #[.int .i8 r1, .int .i8 r2, .int .i8 r3, .int .i8 r4], .bool r5]) ∧ Below w.heap.size w w' := by
 have hu35 := Tryd.underlying35
 have HB := Aside0.mk (Below.refl w.heap.size w)
 have H : ((spec_l04Letters.f (a0.size : Int)).bind fun t176 => (if t176 = true then (spec_l04Read.l0 k a0 0 0 0 0 0) else (some (0, 0, 0, 0, false)))) = some (r1, r2, r3, r4, r5) := h
 clear h
 replace H := Option.bind_eq_some_iff.mp H
 obtain ⟨t176, A20, H⟩ := H
 replace H : (if t176 = true then (spec_l04Read.l0 k a0 0 0 0 0 0) else (some (0, 0, 0, 0, false))) = some (r1, r2, r3, r4, r5) := H
 have A2 := Aside0.mk A20
 clear A20
 by_cases c3 : t176 = true
 ·subst c3
  have H1 : (spec_l04Read.l0 k a0 0 0 0 0 0) = some (r1, r2, r3, r4, r5) := by rw [if_pos rfl] at H; exact H
  clear H
  have H := H1
  clear H1
  have H' := Aside0.mk H
  clear H
  go_enter Tryd.func51, Tryd.ntmps51
  go_wp2_with (first | ((with_reducible refine gate_dst (N := 2) rfl ?_); refine box_event ?hg (N := 2) ?hd (cs := #[.int .i8 0, .int .i8 0, .int .i8 0, .int .i8 0]) (t := 35) ?hr ?_; (case hd => rfl); (case hg => rfl); (case hr => first | (go_simp; done) | (go_simp; rfl)); intro gb174 hg w4 hbox hb; have n0_ := Aside0.mk (below_step (by repeat (first | (with_reducible first | exact HB.out | apply below_alloc | apply pw_below_drewN | apply below_drew1) | exact HB.out)) hb); have n1_ := Aside0.mk (hbox); have n2_ := Aside0.mk ((by rw [hg]; exact (below_size (by repeat (first | (with_reducible first | exact HB.out | apply below_alloc | apply pw_below_drewN | apply below_drew1) | exact HB.out))) : w.heap.size ≤ gb174)); have n3_ := Aside0.mk ((by rw [hg]; exact (below_size (by repeat (first | (with_reducible first | exact HB.out | apply below_alloc | apply pw_below_drewN | apply below_drew1) | exact HB.out))) : w.heap.size ≤ gb174)); clear HB; have HB := n0_; have BK174 := n1_; have GW174 := n2_; have GE174 := n3_; clear n0_ n1_ n2_ n3_; clear hb hbox hg) | ((with_reducible refine gate_dst (N := 4) rfl ?_); refine box_event ?hg (N := 4) ?hd (cs := #[.int .i8 0, .int .i8 0, .int .i8 0, .int .i8 0]) (t := 35) ?hr ?_; (case hd => rfl); (case hg => rfl); (case hr => first | (go_simp; done) | (go_simp; rfl)); intro gb175 hg w5 hbox hb; have n0_ := Aside0.mk (blk_below (g := gb174) (o := .cells #[.int .i8 0, .int .i8 0, .int .i8 0, .int .i8 0] 35 (0, 0)) (by (with_reducible repeat (first | refine blk_drewN ?_ _ | refine blk_drew ?_ | refine blk_alloc ?_ _)); exact BK174.out) hb); have n1_ := Aside0.mk (below_step (by repeat (first | (with_reducible first | exact HB.out | apply below_alloc | apply pw_below_drewN | apply below_drew1 | refine below_set ?_ GE174.out) | exact HB.out)) hb); have n2_ := Aside0.mk (hbox); have n3_ := Aside0.mk ((by rw [hg]; exact (below_size (by repeat (first | (with_reducible first | exact HB.out | apply below_alloc | apply pw_below_drewN | apply below_drew1 | refine below_set ?_ GE174.out) | exact HB.out))) : w.heap.size ≤ gb175)); have n4_ := Aside0.mk ((by rw [hg]; exact (below_size (by repeat (first | (with_reducible first | exact HB.out | apply below_alloc | apply pw_below_drewN | apply below_drew1 | refine below_set ?_ GE174.out) | exact HB.out))) : w.heap.size ≤ gb175)); have n5_ := Aside0.mk ((by rw [hg]; exact Nat.ne_of_lt (blk_lt (g := gb174) (o := .cells #[.int .i8 0, .int .i8 0, .int .i8 0, .int .i8 0] 35 (0, 0)) (by (with_reducible repeat (first | refine blk_drewN ?_ _ | refine blk_drew ?_ | refine blk_alloc ?_ _)); exact BK174.out)) : gb174 ≠ gb175)); have n6_ := Aside0.mk ((by rw [hg]; exact Nat.ne_of_gt (blk_lt (g := gb174) (o := .cells #[.int .i8 0, .int .i8 0, .int .i8 0, .int .i8 0] 35 (0, 0)) (by (with_reducible repeat (first | refine blk_drewN ?_ _ | refine blk_drew ?_ | refine blk_alloc ?_ _)); exact BK174.out)) : gb175 ≠ gb174)); clear BK174; clear HB; have BK174 := n0_; have HB := n1_; have BK175 := n2_; have GW175 := n3_; have GE175 := n4_; have NB174_175 := n5_; have NB175_174 := n6_; clear n0_ n1_ n2_ n3_ n4_ n5_ n6_; clear hb hbox hg; have hnb6 := NB175_174.out; have hnc6 := NB174_175.out; have hcz7_0 : w5.cell? ⟨gb175, 0, none⟩ = some (.int .i8 0) := (blk_cell BK175.out 0).trans rfl; have hcz7_1 : w5.cell? ⟨gb175, 1, none⟩ = some (.int .i8 0) := (blk_cell BK175.out 1).trans rfl; have hcz7_2 : w5.cell? ⟨gb175, 2, none⟩ = some (.int .i8 0) := (blk_cell BK175.out 2).trans rfl; have hcz7_3 : w5.cell? ⟨gb175, 3, none⟩ = some (.int .i8 0) := (blk_cell BK175.out 3).trans rfl; have hfz7_0 := blk_frozen BK175.out 0; have hfz7_1 := blk_frozen BK175.out 1; have hfz7_2 := blk_frozen BK175.out 2; have hfz7_3 := blk_frozen BK175.out 3) | ((with_reducible refine gate_callee (f := 69) rfl ?_); refine goesL_ (some 9) rfl rfl Tryd.func69 (by kernel_rfl) rfl #[.int .i64 (a0.size : Int)] rfl (by (try simp only [List.map_toArray, List.map_cons, List.map_nil]); first | done | rfl | (simp only [List.length_drop, List.length_take]; rfl)) ?_; (with_reducible refine (spec_l04Letters.calls (a0.size : Int) true _ A2.out).mono ?_); rintro e w' ⟨rfl, ⟨nd, rfl⟩⟩; refine ⟨_, rfl, ?_⟩))
  go_loopg [5] k (fun kq v5 w' => ∃ (x5_1 : Int) (x175000_1 : Int) (x175001_1 : Int) (x175002_1 : Int) (x175003_1 : Int) (x176000_1 : Int) (x176001_1 : Int) (x176002_1 : Int) (x176003_1 : Int), v5 = .int .i64 x5_1 ∧ Aside0 (spec_l04Read.l0 kq a0 x5_1 x176000_1 x176001_1 x176002_1 x176003_1 = some (r1, r2, r3, r4, r5)) ∧ Aside0 (kq ≤ k) ∧ Aside0 (w'.heap[gb174]? = some (.cells #[.int .i8 x175000_1, .int .i8 x175001_1, .int .i8 x175002_1, .int .i8 x175003_1] 35 (0, 0))) ∧ Aside0 (w'.heap[gb175]? = some (.cells #[.int .i8 x176000_1, .int .i8 x176001_1, .int .i8 x176002_1, .int .i8 x176003_1] 35 (0, 0))) ∧ Aside0 (Below w.heap.size w w'))
  case atStart => exact ⟨(0), (0), (0), (0), (0), (0), (0), (0), (0), (by first | rfl | (simp; done) | (simp [*]; done)), H', ⟨Nat.le_refl _⟩, ⟨by (with_reducible repeat (first | refine blk_drewN ?_ _ | refine blk_drew ?_ | refine blk_alloc ?_ _)); refine blk_far ?_ NB174_175.out _; (with_reducible repeat (first | refine blk_drewN ?_ _ | refine blk_drew ?_ | refine blk_alloc ?_ _)); refine blk_far ?_ NB174_175.out _; (with_reducible repeat (first | refine blk_drewN ?_ _ | refine blk_drew ?_ | refine blk_alloc ?_ _)); refine blk_far ?_ NB174_175.out _; (with_reducible repeat (first | refine blk_drewN ?_ _ | refine blk_drew ?_ | refine blk_alloc ?_ _)); refine blk_far ?_ NB174_175.out _; (with_reducible repeat (first | refine blk_drewN ?_ _ | refine blk_drew ?_ | refine blk_alloc ?_ _)); exact BK174.out⟩, ⟨by (with_reducible repeat (first | refine blk_drewN ?_ _ | refine blk_drew ?_ | refine blk_alloc ?_ _)); refine blk_put (cs := #[.int .i8 0, .int .i8 0, .int .i8 0, .int .i8 0]) ?_ 3 _ rfl; (with_reducible repeat (first | refine blk_drewN ?_ _ | refine blk_drew ?_ | refine blk_alloc ?_ _)); refine blk_put (cs := #[.int .i8 0, .int .i8 0, .int .i8 0, .int .i8 0]) ?_ 2 _ rfl; (with_reducible repeat (first | refine blk_drewN ?_ _ | refine blk_drew ?_ | refine blk_alloc ?_ _)); refine blk_put (cs := #[.int .i8 0, .int .i8 0, .int .i8 0, .int .i8 0]) ?_ 1 _ rfl; (with_reducible repeat (first | refine blk_drewN ?_ _ | refine blk_drew ?_ | refine blk_alloc ?_ _)); refine blk_put (cs := #[.int .i8 0, .int .i8 0, .int .i8 0, .int .i8 0]) ?_ 0 _ rfl; (with_reducible repeat (first | refine blk_drewN ?_ _ | refine blk_drew ?_ | refine blk_alloc ?_ _)); exact BK175.out⟩, ⟨by repeat (first | (with_reducible first | exact HB.out | apply below_alloc | apply pw_below_drewN | apply below_drew1 | refine below_set ?_ GE174.out | refine below_set ?_ GE175.out) | exact HB.out)⟩⟩
  case round =>
   clear H'
   try clear p2
   try clear c3
   try clear c5
   try clear c6
   try clear hcz7_0
   try clear hcz7_1
   try clear hcz7_2
   try clear hcz7_3
   try clear hfz7_0
   try clear hfz7_1
   try clear hfz7_2
   try clear hfz7_3
   obtain ⟨x5_1, x175000_1, x175001_1, x175002_1, x175003_1, x176000_1, x176001_1, x176002_1, x176003_1, rfl, HA, HK1, BK174, BK175, HB⟩ := hrel
   cases gk with
   | zero => exact absurd HA.out (by simp [spec_l04Read.l0])
   | succ k1 =>
    have H := HA.out
    clear HA
    simp only [spec_l04Read.l0] at H
    by_cases c8 : x5_1 < (a0.size : Int)
    ·rw [if_pos c8] at H
     have c8b0 : decide (x5_1 < (a0.size : Int)) = true := decide_eq_true c8
     clear c8
     by_cases c9 : 0 ≤ x5_1
     ·rw [if_pos c9] at H
      have c9b0 : decide (0 ≤ x5_1) = true := decide_eq_true c9
      clear c9
      by_cases c11 : (bt a0 x5_1) = 45
      ·rw [if_pos c11] at H
       have c11b0 : ((bt a0 x5_1) == 45) = true := beq_iff_eq.mpr c11
       have c11b1 : ((bt a0 x5_1) != 45) = false := bne_eq_false_iff_eq.mpr c11
       clear c11
       by_cases c12 : x5_1 < 4
       ·rw [if_pos c12] at H
        have c12b0 : decide (x5_1 < 4) = true := decide_eq_true c12
        clear c12
        have H' := Aside0.mk H
        clear H
        have p10 : 0 ≤ (x5_1 : Int) := of_decide_eq_true (by first | (with_reducible assumption) | assumption)
        have q10 : x5_1 < (a0.size : Int) := of_decide_eq_true (by first | (with_reducible assumption) | assumption)
        have hx10 := bt_at a0 x5_1
        replace p10 := eq_true p10
        replace q10 := eq_true q10
        have p13 : 0 ≤ (x5_1 : Int) := of_decide_eq_true (by first | (with_reducible assumption) | assumption)
        have q13 : x5_1 < (4 : Int) := of_decide_eq_true (by first | (with_reducible assumption) | assumption)
        replace p13 := eq_true p13
        replace q13 := eq_true q13
        have hnb14 := NB175_174.out
        have hnc14 := NB174_175.out
        have hcz15_0 : wr.cell? ⟨gb175, 0, none⟩ = some (.int .i8 x176000_1) := (blk_cell BK175.out 0).trans rfl
        have hcz15_1 : wr.cell? ⟨gb175, 1, none⟩ = some (.int .i8 x176001_1) := (blk_cell BK175.out 1).trans rfl
        have hcz15_2 : wr.cell? ⟨gb175, 2, none⟩ = some (.int .i8 x176002_1) := (blk_cell BK175.out 2).trans rfl
        have hcz15_3 : wr.cell? ⟨gb175, 3, none⟩ = some (.int .i8 x176003_1) := (blk_cell BK175.out 3).trans rfl
        have hfz15_0 := blk_frozen BK175.out 0
        have hfz15_1 := blk_frozen BK175.out 1
        have hfz15_2 := blk_frozen BK175.out 2
        have hfz15_3 := blk_frozen BK175.out 3
        go_wp2_with (first | ((with_reducible refine gate_store (t := 24) (p := 25) rfl ?_); have hx16_0 : wr.cell? ⟨gb175, (x5_1).toNat, none⟩ = some (.int .i8 (rd [x176000_1, x176001_1, x176002_1, x176003_1] x5_1)) := (blk_cell BK175.out _).trans (by rcases (show (x5_1 : Int) = 0 ∨ (x5_1 : Int) = 1 ∨ (x5_1 : Int) = 2 ∨ (x5_1 : Int) = 3 by have hp_ : 0 ≤ (x5_1 : Int) := of_decide_eq_true (by first | (with_reducible assumption) | assumption); have hq_ : x5_1 < (4 : Int) := of_decide_eq_true (by first | (with_reducible assumption) | assumption); omega) with h_ | h_ | h_ | h_ <;> rw [h_] <;> rfl); have hfz16_0 := blk_frozen BK175.out ((x5_1).toNat); refine store_event (t := 24) (p := 25) (v := ?vo_w17) (w1 := (wr.setCell ⟨gb175, (x5_1).toNat, none⟩ (.int .i8 (-1)))) ?hg ?ho ?hn ?hr ?_; (case ho => rfl); (case hg => rfl); (case hn => rfl); (case hr => first | (go_simp; done) | (go_simp; rfl)); intro w17 hw; have n0_ : Aside0 (w17.heap[gb174]? = some (.cells #[.int .i8 x175000_1, .int .i8 x175001_1, .int .i8 x175002_1, .int .i8 x175003_1] 35 (0, 0))) := ⟨(by rw [hw]; exact (by (with_reducible repeat (first | refine blk_drewN ?_ _ | refine blk_drew ?_ | refine blk_alloc ?_ _)); refine blk_far ?_ NB174_175.out _; (with_reducible repeat (first | refine blk_drewN ?_ _ | refine blk_drew ?_ | refine blk_alloc ?_ _)); exact BK174.out))⟩; have n1_ : Aside0 (w17.heap[gb175]? = some (.cells #[.int .i8 (pickA x5_1 0 (-1) x176000_1), .int .i8 (pickA x5_1 1 (-1) x176001_1), .int .i8 (pickA x5_1 2 (-1) x176002_1), .int .i8 (pickA x5_1 3 (-1) x176003_1)] 35 (0, 0))) := ⟨(by rw [hw]; exact (by (with_reducible repeat (first | refine blk_drewN ?_ _ | refine blk_drew ?_ | refine blk_alloc ?_ _)); refine blk_put (cs := #[.int .i8 x176000_1, .int .i8 x176001_1, .int .i8 x176002_1, .int .i8 x176003_1]) ?_ ((x5_1).toNat) _ (by rcases (show (x5_1 : Int) = 0 ∨ (x5_1 : Int) = 1 ∨ (x5_1 : Int) = 2 ∨ (x5_1 : Int) = 3 by have hp_ : 0 ≤ (x5_1 : Int) := of_decide_eq_true (by first | (with_reducible assumption) | assumption); have hq_ : x5_1 < (4 : Int) := of_decide_eq_true (by first | (with_reducible assumption) | assumption); omega) with h_ | h_ | h_ | h_ <;> rw [h_] <;> rfl); (with_reducible repeat (first | refine blk_drewN ?_ _ | refine blk_drew ?_ | refine blk_alloc ?_ _)); exact BK175.out))⟩; have n2_ : Aside0 (Below w.heap.size w w17) := ⟨(by rw [hw]; exact (by repeat (first | (with_reducible first | exact HB.out | apply below_alloc | apply pw_below_drewN | apply below_drew1 | refine below_set ?_ GE174.out | refine below_set ?_ GE175.out) | exact HB.out)))⟩; clear hw; clear BK174; clear BK175; clear HB; have BK174 := n0_; have BK175 := n1_; have HB := n2_; clear n0_ n1_ n2_))
        go_roundg k1
        case measure => have := HK1.out; omega
        case rel => exact ⟨(wrap64 (x5_1 + 1)), (x175000_1), (x175001_1), (x175002_1), (x175003_1), ((pickA x5_1 0 (-1) x176000_1)), ((pickA x5_1 1 (-1) x176001_1)), ((pickA x5_1 2 (-1) x176002_1)), ((pickA x5_1 3 (-1) x176003_1)), (by first | rfl | (simp; done) | (simp [*]; done)), H', ⟨by have := HK1.out; omega⟩, ⟨by (with_reducible repeat (first | refine blk_drewN ?_ _ | refine blk_drew ?_ | refine blk_alloc ?_ _)); exact BK174.out⟩, ⟨by (with_reducible repeat (first | refine blk_drewN ?_ _ | refine blk_drew ?_ | refine blk_alloc ?_ _)); exact BK175.out⟩, ⟨by repeat (first | (with_reducible first | exact HB.out | apply below_alloc | apply pw_below_drewN | apply below_drew1 | refine below_set ?_ GE174.out | refine below_set ?_ GE175.out) | exact HB.out)⟩⟩
       ·rw [if_neg c12] at H
        exact absurd H (by simp)
      ·rw [if_neg c11] at H
       have c11b0 : ((bt a0 x5_1) == 45) = false := beq_eq_false_iff_ne.mpr c11
       have c11b1 : ((bt a0 x5_1) != 45) = true := bne_iff_ne.mpr c11
       by_cases c18 : (bt a0 x5_1) = 43
       ·rw [if_pos c18] at H
        have c18b0 : ((bt a0 x5_1) == 43) = true := beq_iff_eq.mpr c18
        have c18b1 : ((bt a0 x5_1) != 43) = false := bne_eq_false_iff_eq.mpr c18
        clear c18
        by_cases c19 : x5_1 < 4
        ·rw [if_pos c19] at H
         have c19b0 : decide (x5_1 < 4) = true := decide_eq_true c19
         clear c19
         have H' := Aside0.mk H
         clear H
         have p10 : 0 ≤ (x5_1 : Int) := of_decide_eq_true (by first | (with_reducible assumption) | assumption)
         have q10 : x5_1 < (a0.size : Int) := of_decide_eq_true (by first | (with_reducible assumption) | assumption)
         have hx10 := bt_at a0 x5_1
         replace p10 := eq_true p10
         replace q10 := eq_true q10
         have p20 : 0 ≤ (x5_1 : Int) := of_decide_eq_true (by first | (with_reducible assumption) | assumption)
         have q20 : x5_1 < (4 : Int) := of_decide_eq_true (by first | (with_reducible assumption) | assumption)
         replace p20 := eq_true p20
         replace q20 := eq_true q20
         have hnb21 := NB175_174.out
         have hnc21 := NB174_175.out
         have hcz22_0 : wr.cell? ⟨gb175, 0, none⟩ = some (.int .i8 x176000_1) := (blk_cell BK175.out 0).trans rfl
         have hcz22_1 : wr.cell? ⟨gb175, 1, none⟩ = some (.int .i8 x176001_1) := (blk_cell BK175.out 1).trans rfl
         have hcz22_2 : wr.cell? ⟨gb175, 2, none⟩ = some (.int .i8 x176002_1) := (blk_cell BK175.out 2).trans rfl
         have hcz22_3 : wr.cell? ⟨gb175, 3, none⟩ = some (.int .i8 x176003_1) := (blk_cell BK175.out 3).trans rfl
         have hfz22_0 := blk_frozen BK175.out 0
         have hfz22_1 := blk_frozen BK175.out 1
         have hfz22_2 := blk_frozen BK175.out 2
         have hfz22_3 := blk_frozen BK175.out 3
         go_wp2_with (first | ((with_reducible refine gate_store (t := 24) (p := 29) rfl ?_); have hx23_0 : wr.cell? ⟨gb175, (x5_1).toNat, none⟩ = some (.int .i8 (rd [x176000_1, x176001_1, x176002_1, x176003_1] x5_1)) := (blk_cell BK175.out _).trans (by rcases (show (x5_1 : Int) = 0 ∨ (x5_1 : Int) = 1 ∨ (x5_1 : Int) = 2 ∨ (x5_1 : Int) = 3 by have hp_ : 0 ≤ (x5_1 : Int) := of_decide_eq_true (by first | (with_reducible assumption) | assumption); have hq_ : x5_1 < (4 : Int) := of_decide_eq_true (by first | (with_reducible assumption) | assumption); omega) with h_ | h_ | h_ | h_ <;> rw [h_] <;> rfl); have hfz23_0 := blk_frozen BK175.out ((x5_1).toNat); refine store_event (t := 24) (p := 29) (v := ?vo_w24) (w1 := (wr.setCell ⟨gb175, (x5_1).toNat, none⟩ (.int .i8 1))) ?hg ?ho ?hn ?hr ?_; (case ho => rfl); (case hg => rfl); (case hn => rfl); (case hr => first | (go_simp; done) | (go_simp; rfl)); intro w24 hw; have n0_ : Aside0 (w24.heap[gb174]? = some (.cells #[.int .i8 x175000_1, .int .i8 x175001_1, .int .i8 x175002_1, .int .i8 x175003_1] 35 (0, 0))) := ⟨(by rw [hw]; exact (by (with_reducible repeat (first | refine blk_drewN ?_ _ | refine blk_drew ?_ | refine blk_alloc ?_ _)); refine blk_far ?_ NB174_175.out _; (with_reducible repeat (first | refine blk_drewN ?_ _ | refine blk_drew ?_ | refine blk_alloc ?_ _)); exact BK174.out))⟩; have n1_ : Aside0 (w24.heap[gb175]? = some (.cells #[.int .i8 (pickA x5_1 0 1 x176000_1), .int .i8 (pickA x5_1 1 1 x176001_1), .int .i8 (pickA x5_1 2 1 x176002_1), .int .i8 (pickA x5_1 3 1 x176003_1)] 35 (0, 0))) := ⟨(by rw [hw]; exact (by (with_reducible repeat (first | refine blk_drewN ?_ _ | refine blk_drew ?_ | refine blk_alloc ?_ _)); refine blk_put (cs := #[.int .i8 x176000_1, .int .i8 x176001_1, .int .i8 x176002_1, .int .i8 x176003_1]) ?_ ((x5_1).toNat) _ (by rcases (show (x5_1 : Int) = 0 ∨ (x5_1 : Int) = 1 ∨ (x5_1 : Int) = 2 ∨ (x5_1 : Int) = 3 by have hp_ : 0 ≤ (x5_1 : Int) := of_decide_eq_true (by first | (with_reducible assumption) | assumption); have hq_ : x5_1 < (4 : Int) := of_decide_eq_true (by first | (with_reducible assumption) | assumption); omega) with h_ | h_ | h_ | h_ <;> rw [h_] <;> rfl); (with_reducible repeat (first | refine blk_drewN ?_ _ | refine blk_drew ?_ | refine blk_alloc ?_ _)); exact BK175.out))⟩; have n2_ : Aside0 (Below w.heap.size w w24) := ⟨(by rw [hw]; exact (by repeat (first | (with_reducible first | exact HB.out | apply below_alloc | apply pw_below_drewN | apply below_drew1 | refine below_set ?_ GE174.out | refine below_set ?_ GE175.out) | exact HB.out)))⟩; clear hw; clear BK174; clear BK175; clear HB; have BK174 := n0_; have BK175 := n1_; have HB := n2_; clear n0_ n1_ n2_))
         go_roundg k1
         case measure => have := HK1.out; omega
         case rel => exact ⟨(wrap64 (x5_1 + 1)), (x175000_1), (x175001_1), (x175002_1), (x175003_1), ((pickA x5_1 0 1 x176000_1)), ((pickA x5_1 1 1 x176001_1)), ((pickA x5_1 2 1 x176002_1)), ((pickA x5_1 3 1 x176003_1)), (by first | rfl | (simp; done) | (simp [*]; done)), H', ⟨by have := HK1.out; omega⟩, ⟨by (with_reducible repeat (first | refine blk_drewN ?_ _ | refine blk_drew ?_ | refine blk_alloc ?_ _)); exact BK174.out⟩, ⟨by (with_reducible repeat (first | refine blk_drewN ?_ _ | refine blk_drew ?_ | refine blk_alloc ?_ _)); exact BK175.out⟩, ⟨by repeat (first | (with_reducible first | exact HB.out | apply below_alloc | apply pw_below_drewN | apply below_drew1 | refine below_set ?_ GE174.out | refine below_set ?_ GE175.out) | exact HB.out)⟩⟩
        ·rw [if_neg c19] at H
         exact absurd H (by simp)
       ·rw [if_neg c18] at H
        have c18b0 : ((bt a0 x5_1) == 43) = false := beq_eq_false_iff_ne.mpr c18
        have c18b1 : ((bt a0 x5_1) != 43) = true := bne_iff_ne.mpr c18
        by_cases c25 : (bt a0 x5_1) = 48
        ·rw [if_pos c25] at H
         have c25b0 : ((bt a0 x5_1) == 48) = true := beq_iff_eq.mpr c25
         have c25b1 : ((bt a0 x5_1) != 48) = false := bne_eq_false_iff_eq.mpr c25
         clear c25
         have H' := Aside0.mk H
         clear H
         have p10 : 0 ≤ (x5_1 : Int) := of_decide_eq_true (by first | (with_reducible assumption) | assumption)
         have q10 : x5_1 < (a0.size : Int) := of_decide_eq_true (by first | (with_reducible assumption) | assumption)
         have hx10 := bt_at a0 x5_1
         replace p10 := eq_true p10
         replace q10 := eq_true q10
         go_wp2
         go_roundg k1
         case measure => have := HK1.out; omega
         case rel => exact ⟨(wrap64 (x5_1 + 1)), (x175000_1), (x175001_1), (x175002_1), (x175003_1), (x176000_1), (x176001_1), (x176002_1), (x176003_1), (by first | rfl | (simp; done) | (simp [*]; done)), H', ⟨by have := HK1.out; omega⟩, ⟨by (with_reducible repeat (first | refine blk_drewN ?_ _ | refine blk_drew ?_ | refine blk_alloc ?_ _)); exact BK174.out⟩, ⟨by (with_reducible repeat (first | refine blk_drewN ?_ _ | refine blk_drew ?_ | refine blk_alloc ?_ _)); exact BK175.out⟩, ⟨by repeat (first | (with_reducible first | exact HB.out | apply below_alloc | apply pw_below_drewN | apply below_drew1 | refine below_set ?_ GE174.out | refine below_set ?_ GE175.out) | exact HB.out)⟩⟩
        ·rw [if_neg c25] at H
         have c25b0 : ((bt a0 x5_1) == 48) = false := beq_eq_false_iff_ne.mpr c25
         have c25b1 : ((bt a0 x5_1) != 48) = true := bne_iff_ne.mpr c25
         simp only [Option.some.injEq, Prod.mk.injEq] at H
         obtain ⟨rfl, rfl, rfl, rfl, rfl⟩ := H
         have p10 : 0 ≤ (x5_1 : Int) := of_decide_eq_true (by first | (with_reducible assumption) | assumption)
         have q10 : x5_1 < (a0.size : Int) := of_decide_eq_true (by first | (with_reducible assumption) | assumption)
         have hx10 := bt_at a0 x5_1
         replace p10 := eq_true p10
         replace q10 := eq_true q10
         have hnb26 := NB174_175.out
         have hnc26 := NB175_174.out
         have hcz27_0 : wr.cell? ⟨gb174, 0, none⟩ = some (.int .i8 x175000_1) := (blk_cell BK174.out 0).trans rfl
         have hcz27_1 : wr.cell? ⟨gb174, 1, none⟩ = some (.int .i8 x175001_1) := (blk_cell BK174.out 1).trans rfl
         have hcz27_2 : wr.cell? ⟨gb174, 2, none⟩ = some (.int .i8 x175002_1) := (blk_cell BK174.out 2).trans rfl
         have hcz27_3 : wr.cell? ⟨gb174, 3, none⟩ = some (.int .i8 x175003_1) := (blk_cell BK174.out 3).trans rfl
         have hfz27_0 := blk_frozen BK174.out 0
         have hfz27_1 := blk_frozen BK174.out 1
         have hfz27_2 := blk_frozen BK174.out 2
         have hfz27_3 := blk_frozen BK174.out 3
         go_wp2
         refine bodyPost_ret (results_ct rfl _ _ gb174 35 #[.int .i8 0, .int .i8 0, .int .i8 0, .int .i8 0] (0, 0) _ rfl (by (with_reducible repeat (first | refine blk_drewN ?_ _ | refine blk_drew ?_ | refine blk_alloc ?_ _)); refine blk_put (cs := #[.int .i8 0, .int .i8 0, .int .i8 0, .int .i8 x175003_1]) ?_ 3 _ rfl; (with_reducible repeat (first | refine blk_drewN ?_ _ | refine blk_drew ?_ | refine blk_alloc ?_ _)); refine blk_put (cs := #[.int .i8 0, .int .i8 0, .int .i8 x175002_1, .int .i8 x175003_1]) ?_ 2 _ rfl; (with_reducible repeat (first | refine blk_drewN ?_ _ | refine blk_drew ?_ | refine blk_alloc ?_ _)); refine blk_put (cs := #[.int .i8 0, .int .i8 x175001_1, .int .i8 x175002_1, .int .i8 x175003_1]) ?_ 1 _ rfl; (with_reducible repeat (first | refine blk_drewN ?_ _ | refine blk_drew ?_ | refine blk_alloc ?_ _)); refine blk_put (cs := #[.int .i8 x175000_1, .int .i8 x175001_1, .int .i8 x175002_1, .int .i8 x175003_1]) ?_ 0 _ rfl; (with_reducible repeat (first | refine blk_drewN ?_ _ | refine blk_drew ?_ | refine blk_alloc ?_ _)); exact BK174.out) Tryd.underlying35 rfl (by kernel_rfl)) rfl ?_
         exact ⟨by first | rfl | (simp [errW_none, errW_some] <;> rfl) | (simp [*, errW_none, errW_some] <;> rfl), by repeat (first | (with_reducible first | exact HB.out | apply below_alloc | apply pw_below_drewN | apply below_drew1 | refine below_set ?_ GE174.out | refine below_set ?_ GE175.out) | exact HB.out)⟩
     ·rw [if_neg c9] at H
      exact absurd H (by simp)
    ·rw [if_neg c8] at H
     have c8b0 : decide (x5_1 < (a0.size : Int)) = false := decide_eq_false c8
     clear c8
     simp only [Option.some.injEq, Prod.mk.injEq] at H
     obtain ⟨rfl, rfl, rfl, rfl, rfl⟩ := H
     have hnb28 := NB175_174.out
     have hnc28 := NB174_175.out
     have hcz29_0 : wr.cell? ⟨gb175, 0, none⟩ = some (.int .i8 x176000_1) := (blk_cell BK175.out 0).trans rfl
     have hcz29_1 : wr.cell? ⟨gb175, 1, none⟩ = some (.int .i8 x176001_1) := (blk_cell BK175.out 1).trans rfl
     have hcz29_2 : wr.cell? ⟨gb175, 2, none⟩ = some (.int .i8 x176002_1) := (blk_cell BK175.out 2).trans rfl
     have hcz29_3 : wr.cell? ⟨gb175, 3, none⟩ = some (.int .i8 x176003_1) := (blk_cell BK175.out 3).trans rfl
     have hfz29_0 := blk_frozen BK175.out 0
     have hfz29_1 := blk_frozen BK175.out 1
     have hfz29_2 := blk_frozen BK175.out 2
     have hfz29_3 := blk_frozen BK175.out 3
     have hcz30_0 : wr.cell? ⟨gb174, 0, none⟩ = some (.int .i8 x175000_1) := (blk_cell BK174.out 0).trans rfl
     have hcz30_1 : wr.cell? ⟨gb174, 1, none⟩ = some (.int .i8 x175001_1) := (blk_cell BK174.out 1).trans rfl
     have hcz30_2 : wr.cell? ⟨gb174, 2, none⟩ = some (.int .i8 x175002_1) := (blk_cell BK174.out 2).trans rfl
     have hcz30_3 : wr.cell? ⟨gb174, 3, none⟩ = some (.int .i8 x175003_1) := (blk_cell BK174.out 3).trans rfl
     have hfz30_0 := blk_frozen BK174.out 0
     have hfz30_1 := blk_frozen BK174.out 1
     have hfz30_2 := blk_frozen BK174.out 2
     have hfz30_3 := blk_frozen BK174.out 3
     go_wp2
     refine bodyPost_ret (results_ct rfl _ _ gb174 35 #[.int .i8 x176000_1, .int .i8 x176001_1, .int .i8 x176002_1, .int .i8 x176003_1] (0, 0) _ rfl (by (with_reducible repeat (first | refine blk_drewN ?_ _ | refine blk_drew ?_ | refine blk_alloc ?_ _)); refine blk_put (cs := #[.int .i8 x176000_1, .int .i8 x176001_1, .int .i8 x176002_1, .int .i8 x175003_1]) ?_ 3 _ rfl; (with_reducible repeat (first | refine blk_drewN ?_ _ | refine blk_drew ?_ | refine blk_alloc ?_ _)); refine blk_put (cs := #[.int .i8 x176000_1, .int .i8 x176001_1, .int .i8 x175002_1, .int .i8 x175003_1]) ?_ 2 _ rfl; (with_reducible repeat (first | refine blk_drewN ?_ _ | refine blk_drew ?_ | refine blk_alloc ?_ _)); refine blk_put (cs := #[.int .i8 x176000_1, .int .i8 x175001_1, .int .i8 x175002_1, .int .i8 x175003_1]) ?_ 1 _ rfl; (with_reducible repeat (first | refine blk_drewN ?_ _ | refine blk_drew ?_ | refine blk_alloc ?_ _)); refine blk_put (cs := #[.int .i8 x175000_1, .int .i8 x175001_1, .int .i8 x175002_1, .int .i8 x175003_1]) ?_ 0 _ rfl; (with_reducible repeat (first | refine blk_drewN ?_ _ | refine blk_drew ?_ | refine blk_alloc ?_ _)); exact BK174.out) Tryd.underlying35 rfl (by kernel_rfl)) rfl ?_
     exact ⟨by first | rfl | (simp [errW_none, errW_some] <;> rfl) | (simp [*, errW_none, errW_some] <;> rfl), by repeat (first | (with_reducible first | exact HB.out | apply below_alloc | apply pw_below_drewN | apply below_drew1 | refine below_set ?_ GE174.out | refine below_set ?_ GE175.out) | exact HB.out)⟩
 ·replace c3 := Bool.eq_false_iff.mpr c3
  subst c3
  have H1 : (some (0, 0, 0, 0, false)) = some (r1, r2, r3, r4, r5) := by rw [if_neg (show ¬ (false = true) by decide)] at H; exact H
  clear H
  have H := H1
  clear H1
  simp only [Option.some.injEq, Prod.mk.injEq] at H
  obtain ⟨rfl, rfl, rfl, rfl, rfl⟩ := H
  go_enter Tryd.func51, Tryd.ntmps51
  go_wp2_with (first | ((with_reducible refine gate_dst (N := 2) rfl ?_); refine box_event ?hg (N := 2) ?hd (cs := #[.int .i8 0, .int .i8 0, .int .i8 0, .int .i8 0]) (t := 35) ?hr ?_; (case hd => rfl); (case hg => rfl); (case hr => first | (go_simp; done) | (go_simp; rfl)); intro gb174 hg w31 hbox hb; have n0_ := Aside0.mk (below_step (by repeat (first | (with_reducible first | exact HB.out | apply below_alloc | apply pw_below_drewN | apply below_drew1) | exact HB.out)) hb); have n1_ := Aside0.mk (hbox); have n2_ := Aside0.mk ((by rw [hg]; exact (below_size (by repeat (first | (with_reducible first | exact HB.out | apply below_alloc | apply pw_below_drewN | apply below_drew1) | exact HB.out))) : w.heap.size ≤ gb174)); have n3_ := Aside0.mk ((by rw [hg]; exact (below_size (by repeat (first | (with_reducible first | exact HB.out | apply below_alloc | apply pw_below_drewN | apply below_drew1) | exact HB.out))) : w.heap.size ≤ gb174)); clear HB; have HB := n0_; have BK174 := n1_; have GW174 := n2_; have GE174 := n3_; clear n0_ n1_ n2_ n3_; clear hb hbox hg) | ((with_reducible refine gate_dst (N := 4) rfl ?_); refine box_event ?hg (N := 4) ?hd (cs := #[.int .i8 0, .int .i8 0, .int .i8 0, .int .i8 0]) (t := 35) ?hr ?_; (case hd => rfl); (case hg => rfl); (case hr => first | (go_simp; done) | (go_simp; rfl)); intro gb175 hg w32 hbox hb; have n0_ := Aside0.mk (blk_below (g := gb174) (o := .cells #[.int .i8 0, .int .i8 0, .int .i8 0, .int .i8 0] 35 (0, 0)) (by (with_reducible repeat (first | refine blk_drewN ?_ _ | refine blk_drew ?_ | refine blk_alloc ?_ _)); exact BK174.out) hb); have n1_ := Aside0.mk (below_step (by repeat (first | (with_reducible first | exact HB.out | apply below_alloc | apply pw_below_drewN | apply below_drew1 | refine below_set ?_ GE174.out) | exact HB.out)) hb); have n2_ := Aside0.mk (hbox); have n3_ := Aside0.mk ((by rw [hg]; exact (below_size (by repeat (first | (with_reducible first | exact HB.out | apply below_alloc | apply pw_below_drewN | apply below_drew1 | refine below_set ?_ GE174.out) | exact HB.out))) : w.heap.size ≤ gb175)); have n4_ := Aside0.mk ((by rw [hg]; exact (below_size (by repeat (first | (with_reducible first | exact HB.out | apply below_alloc | apply pw_below_drewN | apply below_drew1 | refine below_set ?_ GE174.out) | exact HB.out))) : w.heap.size ≤ gb175)); have n5_ := Aside0.mk ((by rw [hg]; exact Nat.ne_of_lt (blk_lt (g := gb174) (o := .cells #[.int .i8 0, .int .i8 0, .int .i8 0, .int .i8 0] 35 (0, 0)) (by (with_reducible repeat (first | refine blk_drewN ?_ _ | refine blk_drew ?_ | refine blk_alloc ?_ _)); exact BK174.out)) : gb174 ≠ gb175)); have n6_ := Aside0.mk ((by rw [hg]; exact Nat.ne_of_gt (blk_lt (g := gb174) (o := .cells #[.int .i8 0, .int .i8 0, .int .i8 0, .int .i8 0] 35 (0, 0)) (by (with_reducible repeat (first | refine blk_drewN ?_ _ | refine blk_drew ?_ | refine blk_alloc ?_ _)); exact BK174.out)) : gb175 ≠ gb174)); clear BK174; clear HB; have BK174 := n0_; have HB := n1_; have BK175 := n2_; have GW175 := n3_; have GE175 := n4_; have NB174_175 := n5_; have NB175_174 := n6_; clear n0_ n1_ n2_ n3_ n4_ n5_ n6_; clear hb hbox hg; have hnb33 := NB175_174.out; have hnc33 := NB174_175.out; have hcz34_0 : w32.cell? ⟨gb175, 0, none⟩ = some (.int .i8 0) := (blk_cell BK175.out 0).trans rfl; have hcz34_1 : w32.cell? ⟨gb175, 1, none⟩ = some (.int .i8 0) := (blk_cell BK175.out 1).trans rfl; have hcz34_2 : w32.cell? ⟨gb175, 2, none⟩ = some (.int .i8 0) := (blk_cell BK175.out 2).trans rfl; have hcz34_3 : w32.cell? ⟨gb175, 3, none⟩ = some (.int .i8 0) := (blk_cell BK175.out 3).trans rfl; have hfz34_0 := blk_frozen BK175.out 0; have hfz34_1 := blk_frozen BK175.out 1; have hfz34_2 := blk_frozen BK175.out 2; have hfz34_3 := blk_frozen BK175.out 3) | ((with_reducible refine gate_callee (f := 69) rfl ?_); refine goesL_ (some 9) rfl rfl Tryd.func69 (by kernel_rfl) rfl #[.int .i64 (a0.size : Int)] rfl (by (try simp only [List.map_toArray, List.map_cons, List.map_nil]); first | done | rfl | (simp only [List.length_drop, List.length_take]; rfl)) ?_; (with_reducible refine (spec_l04Letters.calls (a0.size : Int) false _ A2.out).mono ?_); rintro e w' ⟨rfl, ⟨nd, rfl⟩⟩; refine ⟨_, rfl, ?_⟩; have hcz35_0 : w32.cell? ⟨gb174, 0, none⟩ = some (.int .i8 0) := (blk_cell BK174.out 0).trans rfl; have hcz35_1 : w32.cell? ⟨gb174, 1, none⟩ = some (.int .i8 0) := (blk_cell BK174.out 1).trans rfl; have hcz35_2 : w32.cell? ⟨gb174, 2, none⟩ = some (.int .i8 0) := (blk_cell BK174.out 2).trans rfl; have hcz35_3 : w32.cell? ⟨gb174, 3, none⟩ = some (.int .i8 0) := (blk_cell BK174.out 3).trans rfl; have hfz35_0 := blk_frozen BK174.out 0; have hfz35_1 := blk_frozen BK174.out 1; have hfz35_2 := blk_frozen BK174.out 2; have hfz35_3 := blk_frozen BK174.out 3))
  refine bodyPost_ret (results_ct rfl _ _ gb174 35 #[.int .i8 0, .int .i8 0, .int .i8 0, .int .i8 0] (0, 0) _ rfl (by (with_reducible repeat (first | refine blk_drewN ?_ _ | refine blk_drew ?_ | refine blk_alloc ?_ _)); refine blk_put (cs := #[.int .i8 0, .int .i8 0, .int .i8 0, .int .i8 0]) ?_ 3 _ rfl; (with_reducible repeat (first | refine blk_drewN ?_ _ | refine blk_drew ?_ | refine blk_alloc ?_ _)); refine blk_put (cs := #[.int .i8 0, .int .i8 0, .int .i8 0, .int .i8 0]) ?_ 2 _ rfl; (with_reducible repeat (first | refine blk_drewN ?_ _ | refine blk_drew ?_ | refine blk_alloc ?_ _)); refine blk_put (cs := #[.int .i8 0, .int .i8 0, .int .i8 0, .int .i8 0]) ?_ 1 _ rfl; (with_reducible repeat (first | refine blk_drewN ?_ _ | refine blk_drew ?_ | refine blk_alloc ?_ _)); refine blk_put (cs := #[.int .i8 0, .int .i8 0, .int .i8 0, .int .i8 0]) ?_ 0 _ rfl; (with_reducible repeat (first | refine blk_drewN ?_ _ | refine blk_drew ?_ | refine blk_alloc ?_ _)); refine blk_far ?_ NB174_175.out _; (with_reducible repeat (first | refine blk_drewN ?_ _ | refine blk_drew ?_ | refine blk_alloc ?_ _)); refine blk_far ?_ NB174_175.out _; (with_reducible repeat (first | refine blk_drewN ?_ _ | refine blk_drew ?_ | refine blk_alloc ?_ _)); refine blk_far ?_ NB174_175.out _; (with_reducible repeat (first | refine blk_drewN ?_ _ | refine blk_drew ?_ | refine blk_alloc ?_ _)); refine blk_far ?_ NB174_175.out _; (with_reducible repeat (first | refine blk_drewN ?_ _ | refine blk_drew ?_ | refine blk_alloc ?_ _)); exact BK174.out) Tryd.underlying35 rfl (by kernel_rfl)) rfl ?_
  exact ⟨by first | rfl | (simp [errW_none, errW_some] <;> rfl) | (simp [*, errW_none, errW_some] <;> rfl), by repeat (first | (with_reducible first | exact HB.out | apply below_alloc | apply pw_below_drewN | apply below_drew1 | refine below_set ?_ GE174.out | refine below_set ?_ GE175.out) | exact HB.out)⟩

/-! ### spec_l04Kind: function 70 -/
def spec_l04Kind.f (a0 : Int) : Option (Bool) := (spec_l00In.f a0 0 2).bind fun t181 => (some t181)
set_option maxHeartbeats 8000000 in
set_option maxRecDepth 100000 in
theorem spec_l04Kind.calls (a0 : Int) (r : Bool) (w : World) (h : spec_l04Kind.f a0 = some r) :
  Calls Tryd.prog 70 #[.int .i64 a0] w fun e w' => e = .returned (.bool r) ∧ Drawn0 w w' := by
 have H : ((spec_l00In.f a0 0 2).bind fun t181 => (some t181)) = some r := h
 clear h
 replace H := Option.bind_eq_some_iff.mp H
 obtain ⟨t181, A20, H⟩ := H
 replace H : (some t181) = some r := H
 have A2 := Aside0.mk A20
 clear A20
 obtain rfl := Option.some.inj H
 go_enter Tryd.func70, Tryd.ntmps70
 go_wp2_with (first | ((with_reducible refine gate_callee (f := 71) rfl ?_); refine goesL_ (some 4) rfl rfl Tryd.func71 (by kernel_rfl) rfl #[.int .i64 a0, .int .i64 0, .int .i64 2] rfl (by (try simp only [List.map_toArray, List.map_cons, List.map_nil]); first | done | rfl | (simp only [List.length_drop, List.length_take]; rfl)) ?_; (with_reducible refine (spec_l00In.calls a0 0 2 t181 _ A2.out).mono ?_); rintro e w' ⟨rfl, ⟨nd, rfl⟩⟩; refine ⟨_, rfl, ?_⟩))
 go_ret
 exact ⟨by first | rfl | (simp; done) | (simp [*]; done), by repeat (first | exact Drawn0.refl _ | apply Drawn0.step)⟩

end Go.Proofs.YtmfbcklaomigaaaDoor.D
