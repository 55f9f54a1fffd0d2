-- Written by wip/tools/myprint.py, a program of this session, by way of the kit's print.
import Derived.Test.YtikdnhhegknplaaMx0
import Derived.Test.YtikdnhhegknplaaMx7
import Derived.Test.YtikdnhhegknplaaMx8
import Derived.Test.YtikdnhhegknplaaMx29
namespace Go.Proofs.Ytikdnhhegknplaa.M
open Go.RowKit Go.Proofs.YtikdnhhegknplaaW.PrintWords Go.Proofs.YtikdnhhegknplaaW.PrintLast Go.Proofs.YtikdnhhegknplaaW.PrintMore
attribute [local go_sem] max2_int min2_int max_two min_two max_three min_three max_four min_four   -- for this text's walks alone
set_option linter.unusedVariables false
set_option linter.unusedSimpArgs false

/-! ### spec_WithoutThing: function 30 -/
def spec_WithoutThing.l0 : Nat → Int → Int → Int → Int → Int → List Int → Int → Int → List Int → Option (Int × Int × List Int × Int)
  | 0, _, _, _, _, _, _, _, _, _ => none
  | k + 1, x1, x7, x8, x411000, x411001, x411002, x416000, x416001, x416002 => if x8 < (x411002.length : Int) then (if 0 ≤ x8 then (if 0 ≤ (IntKind.u64.wrap (x1)) then (if (Int.tmod (shr .u16 (rd x411002 x8) (IntKind.u64.wrap (x1))) 2) = 0 then (if x416002.length < 70368744177664 then (spec_WithoutThing.l0 k x1 x7 (wrap64 (x8 + 1)) x411000 x411001 x411002 x416000 x416001 (x416002 ++ [Go.bits .or .u16 (Go.bits .and .u16 (rd x411002 x8) x7) (Go.bits .andNot .u16 ((rd x411002 x8) / 2) x7)])) else (none)) else (spec_WithoutThing.l0 k x1 x7 (wrap64 (x8 + 1)) x411000 x411001 x411002 x416000 x416001 x416002)) else (none)) else (none)) else (some (x416000, x416001, x416002, 0))
def spec_WithoutThing.f (k : Nat) (a0_0 : Int) (a0_1 : Int) (l0_2 : List Int) (a1 : Int) : Option (Int × Int × List Int × Int) := (spec_l05Ok.f k a0_0 a0_1 l0_2).bind fun t412 => (if t412 = true then ((spec_l00In.f a1 0 (wrap64 ((wrap64 (a0_0)) - 1))).bind fun t413 => (if t413 = true then (if a0_0 = 1 then (some (0, 0, ([] : List Int), 4)) else ((spec_l00Min.f (wrap64 (a0_1)) (wrap64 ((wrap64 (a0_0)) - 1))).bind fun t414 => (if 0 ≤ (IntKind.u64.wrap (a1)) then (spec_WithoutThing.l0 k a1 (IntKind.u16.wrap ((shl .u16 1 (IntKind.u64.wrap (a1))) - 1)) 0 a0_0 a0_1 l0_2 (IntKind.i8.wrap (a0_0 - 1)) (IntKind.i8.wrap (t414)) ([] : List Int)) else (none)))) else (some (0, 0, ([] : List Int), 2)))) else (some (0, 0, ([] : List Int), 1)))
theorem spec_WithoutThing.mono_l : ∀ k, (∀ y0 y1 y2 y3 y4 y5 y6 y7 y8, LeO (spec_WithoutThing.l0 k y0 y1 y2 y3 y4 y5 y6 y7 y8) (spec_WithoutThing.l0 (k + 1) y0 y1 y2 y3 y4 y5 y6 y7 y8))
  | 0 => fun _ _ _ _ _ _ _ _ _ r h => by simp [spec_WithoutThing.l0] at h
  | k + 1 => by
    have ih0 := spec_WithoutThing.mono_l k
    · intro y0 y1 y2 y3 y4 y5 y6 y7 y8
      unfold spec_WithoutThing.l0
      repeat' first
      | (with_reducible exact ih0 _ _ _ _ _ _ _ _ _)
      | (with_reducible exact spec_l05Ok.mono _ _ _ _)
      | (with_reducible exact LeO.refl _)
      | (with_reducible exact LeO.none _)
      | (with_reducible refine LeO.ite ?_ ?_)
      | (with_reducible refine LeO.bind ?_ (fun _ => ?_))
      | exact ih0 _ _ _ _ _ _ _ _ _
      | exact spec_l05Ok.mono _ _ _ _
      | exact LeO.none _
      | refine LeO.ite ?_ ?_
      | refine LeO.bind ?_ (fun _ => ?_)
theorem spec_WithoutThing.mono : ∀ a0 a1 a2 a3 k, LeO (spec_WithoutThing.f k a0 a1 a2 a3) (spec_WithoutThing.f (k + 1) a0 a1 a2 a3) := by
  intro a0 a1 a2 a3 k
  have ih0 := spec_WithoutThing.mono_l k
  unfold spec_WithoutThing.f
  repeat' first
      | (with_reducible exact ih0 _ _ _ _ _ _ _ _ _)
      | (with_reducible exact spec_l05Ok.mono _ _ _ _)
      | (with_reducible exact LeO.refl _)
      | (with_reducible exact LeO.none _)
      | (with_reducible refine LeO.ite ?_ ?_)
      | (with_reducible refine LeO.bind ?_ (fun _ => ?_))
      | exact ih0 _ _ _ _ _ _ _ _ _
      | exact spec_l05Ok.mono _ _ _ _
      | exact LeO.none _
      | refine LeO.ite ?_ ?_
      | refine LeO.bind ?_ (fun _ => ?_)
def spec_WithoutThing.T7 : Bool × List (List Nat × List Nat) := (true, [([], []), ([0], [0]), ([1], [1]), ([], []), ([3], [3]), ([4], [4]), ([], []), ([6], [6]), ([7], [7]), ([8], [8]), ([5, 9], [5, 9]), ([10], [10]), ([2, 11], [2, 11]), ([], []), ([13, 12, 10, 0, 1, 2, 3, 4, 5, 6, 7, 8, 9, 10, 11, 12, 13], [12, 13])])
def spec_WithoutThing.B7 : List Nat := [0, 1, 3, 0, 8, 24, 0, 64, 192, 448, 1016, 2040, 4095, 0, 16383]
theorem spec_WithoutThing.tab7 : rtab .any (opsOf Try.f30 7) = spec_WithoutThing.T7 := by kernel_rfl
theorem spec_WithoutThing.bits7 : waitsOk spec_WithoutThing.T7.2 spec_WithoutThing.B7 = true := by kernel_rfl
set_option maxHeartbeats 8000000 in
set_option maxRecDepth 100000 in
theorem spec_WithoutThing.calls (k : Nat) (a0_0 : Int) (a0_1 : Int) (A0_2 : Option Addr) (c0_2 : Nat) (l0_2 : List Int) (a1 : Int) (r1 : Int) (r2 : Int) (r3 : List Int) (r4 : Int) (w : World) (hr0_2 : Kd.C (Kd.int .u16) w A0_2 l0_2.length l0_2) (hc0_2 : l0_2.length ≤ c0_2) (h : spec_WithoutThing.f k a0_0 a0_1 l0_2 a1 = some (r1, r2, r3, r4)) :
    Calls Try.prog 30 #[.agg #[.int .i8 a0_0, .int .i8 a0_1, .slice A0_2 l0_2.length c0_2], .int .i64 a1] w fun e w' => ∃ v2_ : Value, e = .returned (.tuple #[.agg #[.int .i8 r1, .int .i8 r2, v2_], .int .i64 r4]) ∧ Kd.R (Kd.int .u16) 35 w' w.heap.size (fun _ => True) v2_ r3 ∧ Below w.heap.size w w' := by
  have hu28 := Try.underlying28
  have HR0_2 := Aside0.mk hr0_2
  have HC0_2 := Aside0.mk hc0_2
  clear hr0_2 hc0_2
  have HB := Aside0.mk (Below.refl w.heap.size w)
  have H : ((spec_l05Ok.f k a0_0 a0_1 l0_2).bind fun t412 => (if t412 = true then ((spec_l00In.f a1 0 (wrap64 ((wrap64 (a0_0)) - 1))).bind fun t413 => (if t413 = true then (if a0_0 = 1 then (some (0, 0, ([] : List Int), 4)) else ((spec_l00Min.f (wrap64 (a0_1)) (wrap64 ((wrap64 (a0_0)) - 1))).bind fun t414 => (if 0 ≤ (IntKind.u64.wrap (a1)) then (spec_WithoutThing.l0 k a1 (IntKind.u16.wrap ((shl .u16 1 (IntKind.u64.wrap (a1))) - 1)) 0 a0_0 a0_1 l0_2 (IntKind.i8.wrap (a0_0 - 1)) (IntKind.i8.wrap (t414)) ([] : List Int)) else (none)))) else (some (0, 0, ([] : List Int), 2)))) else (some (0, 0, ([] : List Int), 1)))) = some (r1, r2, r3, r4) := h
  clear h
  replace H := Option.bind_eq_some_iff.mp H
  obtain ⟨t412, A30, H⟩ := H
  replace H : (if t412 = true then ((spec_l00In.f a1 0 (wrap64 ((wrap64 (a0_0)) - 1))).bind fun t413 => (if t413 = true then (if a0_0 = 1 then (some (0, 0, ([] : List Int), 4)) else ((spec_l00Min.f (wrap64 (a0_1)) (wrap64 ((wrap64 (a0_0)) - 1))).bind fun t414 => (if 0 ≤ (IntKind.u64.wrap (a1)) then (spec_WithoutThing.l0 k a1 (IntKind.u16.wrap ((shl .u16 1 (IntKind.u64.wrap (a1))) - 1)) 0 a0_0 a0_1 l0_2 (IntKind.i8.wrap (a0_0 - 1)) (IntKind.i8.wrap (t414)) ([] : List Int)) else (none)))) else (some (0, 0, ([] : List Int), 2)))) else (some (0, 0, ([] : List Int), 1))) = some (r1, r2, r3, r4) := H
  have A3 := Aside0.mk A30
  clear A30
  by_cases c4 : t412 = true
  · subst c4
    have H1 : ((spec_l00In.f a1 0 (wrap64 ((wrap64 (a0_0)) - 1))).bind fun t413 => (if t413 = true then (if a0_0 = 1 then (some (0, 0, ([] : List Int), 4)) else ((spec_l00Min.f (wrap64 (a0_1)) (wrap64 ((wrap64 (a0_0)) - 1))).bind fun t414 => (if 0 ≤ (IntKind.u64.wrap (a1)) then (spec_WithoutThing.l0 k a1 (IntKind.u16.wrap ((shl .u16 1 (IntKind.u64.wrap (a1))) - 1)) 0 a0_0 a0_1 l0_2 (IntKind.i8.wrap (a0_0 - 1)) (IntKind.i8.wrap (t414)) ([] : List Int)) else (none)))) else (some (0, 0, ([] : List Int), 2)))) = some (r1, r2, r3, r4) := by rw [if_pos rfl] at H; exact H
    clear H
    have H := H1
    clear H1
    replace H := Option.bind_eq_some_iff.mp H
    obtain ⟨t413, A50, H⟩ := H
    replace H : (if t413 = true then (if a0_0 = 1 then (some (0, 0, ([] : List Int), 4)) else ((spec_l00Min.f (wrap64 (a0_1)) (wrap64 ((wrap64 (a0_0)) - 1))).bind fun t414 => (if 0 ≤ (IntKind.u64.wrap (a1)) then (spec_WithoutThing.l0 k a1 (IntKind.u16.wrap ((shl .u16 1 (IntKind.u64.wrap (a1))) - 1)) 0 a0_0 a0_1 l0_2 (IntKind.i8.wrap (a0_0 - 1)) (IntKind.i8.wrap (t414)) ([] : List Int)) else (none)))) else (some (0, 0, ([] : List Int), 2))) = some (r1, r2, r3, r4) := H
    have A5 := Aside0.mk A50
    clear A50
    by_cases c6 : t413 = true
    · subst c6
      have H1 : (if a0_0 = 1 then (some (0, 0, ([] : List Int), 4)) else ((spec_l00Min.f (wrap64 (a0_1)) (wrap64 ((wrap64 (a0_0)) - 1))).bind fun t414 => (if 0 ≤ (IntKind.u64.wrap (a1)) then (spec_WithoutThing.l0 k a1 (IntKind.u16.wrap ((shl .u16 1 (IntKind.u64.wrap (a1))) - 1)) 0 a0_0 a0_1 l0_2 (IntKind.i8.wrap (a0_0 - 1)) (IntKind.i8.wrap (t414)) ([] : List Int)) else (none)))) = some (r1, r2, r3, r4) := by rw [if_pos rfl] at H; exact H
      clear H
      have H := H1
      clear H1
      by_cases c7 : a0_0 = 1
      · rw [if_pos c7] at H
        have c7b0 : (a0_0 == 1) = true := beq_iff_eq.mpr c7
        have c7b1 : (a0_0 != 1) = false := bne_eq_false_iff_eq.mpr c7
        clear c7
        simp only [Option.some.injEq, Prod.mk.injEq] at H
        obtain ⟨rfl, rfl, rfl, rfl⟩ := H
        go_enter Try.func30, Try.ntmps30
        go_wp2_with (first | ((with_reducible refine gate_dst (N := 2) rfl ?_); refine box_event ?hg (N := 2) ?hd (cs := #[.int .i8 a0_0, .int .i8 a0_1, .slice A0_2 l0_2.length c0_2]) (t := 28) ?hr ?_; (case hd => rfl); (case hg => rfl); (case hr => first | (go_simp; done) | (go_simp; rfl)); intro gb410 hg w8 hbox hb; have n0_ := Aside0.mk (below_step (by repeat (first | (with_reducible first | exact HB.out | apply below_alloc | apply pw_below_drewN | apply below_drew1) | exact HB.out)) hb); have n1_ := Aside0.mk (hbox); have n2_ := Aside0.mk ((by rw [hg]; exact (below_size (by repeat (first | (with_reducible first | exact HB.out | apply below_alloc | apply pw_below_drewN | apply below_drew1) | exact HB.out))) : w.heap.size ≤ gb410)); have n3_ := Aside0.mk ((by rw [hg]; exact (below_size (by repeat (first | (with_reducible first | exact HB.out | apply below_alloc | apply pw_below_drewN | apply below_drew1) | exact HB.out))) : w.heap.size ≤ gb410)); clear HB; have HB := n0_; have BK410 := n1_; have GW410 := n2_; have GE410 := n3_; clear n0_ n1_ n2_ n3_; clear hb hbox hg) | ((with_reducible refine gate_dst (N := 4) rfl ?_); refine box_event ?hg (N := 4) ?hd (cs := #[.int .i8 0, .int .i8 0, .slice none 0 0]) (t := 28) ?hr ?_; (case hd => rfl); (case hg => rfl); (case hr => first | (go_simp; done) | (go_simp; rfl)); intro gb411 hg w9 hbox hb; have n0_ := Aside0.mk (blk_below (g := gb410) (o := .cells #[.int .i8 a0_0, .int .i8 a0_1, .slice A0_2 l0_2.length c0_2] 28 (0, 0)) (by (with_reducible repeat (first | refine blk_drewN ?_ _ | refine blk_drew ?_ | refine blk_alloc ?_ _)); exact BK410.out) hb); have n1_ := Aside0.mk (below_step (by repeat (first | (with_reducible first | exact HB.out | apply below_alloc | apply pw_below_drewN | apply below_drew1 | refine below_set ?_ GE410.out) | exact HB.out)) hb); have n2_ := Aside0.mk (hbox); have n3_ := Aside0.mk ((by rw [hg]; exact (below_size (by repeat (first | (with_reducible first | exact HB.out | apply below_alloc | apply pw_below_drewN | apply below_drew1 | refine below_set ?_ GE410.out) | exact HB.out))) : w.heap.size ≤ gb411)); have n4_ := Aside0.mk ((by rw [hg]; exact (below_size (by repeat (first | (with_reducible first | exact HB.out | apply below_alloc | apply pw_below_drewN | apply below_drew1 | refine below_set ?_ GE410.out) | exact HB.out))) : w.heap.size ≤ gb411)); have n5_ := Aside0.mk ((by rw [hg]; exact Nat.ne_of_lt (blk_lt (g := gb410) (o := .cells #[.int .i8 a0_0, .int .i8 a0_1, .slice A0_2 l0_2.length c0_2] 28 (0, 0)) (by (with_reducible repeat (first | refine blk_drewN ?_ _ | refine blk_drew ?_ | refine blk_alloc ?_ _)); exact BK410.out)) : gb410 ≠ gb411)); have n6_ := Aside0.mk ((by rw [hg]; exact Nat.ne_of_gt (blk_lt (g := gb410) (o := .cells #[.int .i8 a0_0, .int .i8 a0_1, .slice A0_2 l0_2.length c0_2] 28 (0, 0)) (by (with_reducible repeat (first | refine blk_drewN ?_ _ | refine blk_drew ?_ | refine blk_alloc ?_ _)); exact BK410.out)) : gb411 ≠ gb410)); clear BK410; clear HB; have BK410 := n0_; have HB := n1_; have BK411 := n2_; have GW411 := n3_; have GE411 := n4_; have NB410_411 := n5_; have NB411_410 := n6_; clear n0_ n1_ n2_ n3_ n4_ n5_ n6_; clear hb hbox hg) | ((with_reducible refine gate_callee (f := 42) rfl ?_); refine goesL_ (some 10) rfl rfl Try.func42 (by kernel_rfl) rfl #[.pointer (some ⟨gb410, 0, none⟩)] rfl (by (try simp only [List.map_toArray, List.map_cons, List.map_nil]); first | done | rfl | (simp only [List.length_drop, List.length_take]; rfl)) ?_; (with_reducible refine (spec_l05Ok.calls k gb410 a0_0 a0_1 A0_2 c0_2 l0_2 true _ ?side1 ?side2 ?side3 A3.out).mono ?_); (case side1 => (with_reducible repeat (first | refine blk_drewN ?_ _ | refine blk_drew ?_ | refine blk_alloc ?_ _)); exact BK410.out); (case side2 => repeat (first | exact (Kd.C_below HR0_2.out HB.out) | (with_reducible refine Kd.C_alloc ?_ _) | (with_reducible refine Kd.C_drewN ?_ _) | (with_reducible refine Kd.C_drew ?_))); (case side3 => exact HC0_2.out); rintro e w' ⟨rfl, ⟨nd, rfl⟩⟩; refine ⟨_, rfl, ?_⟩; (try (rw [drewN_self w9]; generalize hq_ : World.drewN w9 _ = w9; have n0_ : Aside0 (w9.heap[gb410]? = some (.cells #[.int .i8 a0_0, .int .i8 a0_1, .slice A0_2 l0_2.length c0_2] 28 (0, 0))) := ⟨by rw [← hq_]; exact (by (with_reducible repeat (first | refine blk_drewN ?_ _ | refine blk_drew ?_ | refine blk_alloc ?_ _)); exact BK410.out)⟩; have n1_ : Aside0 (w9.heap[gb411]? = some (.cells #[.int .i8 0, .int .i8 0, .slice none 0 0] 28 (0, 0))) := ⟨by rw [← hq_]; exact (by (with_reducible repeat (first | refine blk_drewN ?_ _ | refine blk_drew ?_ | refine blk_alloc ?_ _)); exact BK411.out)⟩; have n2_ : Aside0 (Below w.heap.size w w9) := ⟨by rw [← hq_]; exact (by repeat (first | (with_reducible first | exact HB.out | apply below_alloc | apply pw_below_drewN | apply below_drew1 | refine below_set ?_ GE410.out | refine below_set ?_ GE411.out) | exact HB.out))⟩; clear BK410 BK411 HB hq_; have BK410 := n0_; have BK411 := n1_; have HB := n2_; clear n0_ n1_ n2_)); have hnb10 := NB410_411.out; have hnc10 := NB411_410.out; have hcz11_0 : w9.cell? ⟨gb410, 0, none⟩ = some (.int .i8 a0_0) := (blk_cell BK410.out 0).trans rfl; have hcz11_1 : w9.cell? ⟨gb410, 1, none⟩ = some (.int .i8 a0_1) := (blk_cell BK410.out 1).trans rfl; have hcz11_2 : w9.cell? ⟨gb410, 2, none⟩ = some (.slice A0_2 l0_2.length c0_2) := (blk_cell BK410.out 2).trans rfl; have hfz11_0 := blk_frozen BK410.out 0; have hfz11_1 := blk_frozen BK410.out 1; have hfz11_2 := blk_frozen BK410.out 2) | ((with_reducible refine gate_callee (f := 59) rfl ?_); refine goesL_ (some 18) rfl rfl Try.func59 (by kernel_rfl) rfl #[.int .i64 a1, .int .i64 0, .int .i64 (wrap64 ((wrap64 (a0_0)) - 1))] rfl (by (try simp only [List.map_toArray, List.map_cons, List.map_nil]); first | done | rfl | (simp only [List.length_drop, List.length_take]; rfl)) ?_; (with_reducible refine (spec_l00In.calls a1 0 (wrap64 ((wrap64 (a0_0)) - 1)) true _ A5.out).mono ?_); rintro e w' ⟨rfl, ⟨nd, rfl⟩⟩; refine ⟨_, rfl, ?_⟩; (try (rw [drewN_self w9]; generalize hq_ : World.drewN w9 _ = w9; have n0_ : Aside0 (w9.heap[gb410]? = some (.cells #[.int .i8 a0_0, .int .i8 a0_1, .slice A0_2 l0_2.length c0_2] 28 (0, 0))) := ⟨by rw [← hq_]; exact (by (with_reducible repeat (first | refine blk_drewN ?_ _ | refine blk_drew ?_ | refine blk_alloc ?_ _)); exact BK410.out)⟩; have n1_ : Aside0 (w9.heap[gb411]? = some (.cells #[.int .i8 0, .int .i8 0, .slice none 0 0] 28 (0, 0))) := ⟨by rw [← hq_]; exact (by (with_reducible repeat (first | refine blk_drewN ?_ _ | refine blk_drew ?_ | refine blk_alloc ?_ _)); exact BK411.out)⟩; have n2_ : Aside0 (Below w.heap.size w w9) := ⟨by rw [← hq_]; exact (by repeat (first | (with_reducible first | exact HB.out | apply below_alloc | apply pw_below_drewN | apply below_drew1 | refine below_set ?_ GE410.out | refine below_set ?_ GE411.out) | exact HB.out))⟩; clear BK410 BK411 HB hq_; have BK410 := n0_; have BK411 := n1_; have HB := n2_; clear n0_ n1_ n2_)); have hcz12_0 : w9.cell? ⟨gb410, 0, none⟩ = some (.int .i8 a0_0) := (blk_cell BK410.out 0).trans rfl; have hcz12_1 : w9.cell? ⟨gb410, 1, none⟩ = some (.int .i8 a0_1) := (blk_cell BK410.out 1).trans rfl; have hcz12_2 : w9.cell? ⟨gb410, 2, none⟩ = some (.slice A0_2 l0_2.length c0_2) := (blk_cell BK410.out 2).trans rfl; have hfz12_0 := blk_frozen BK410.out 0; have hfz12_1 := blk_frozen BK410.out 1; have hfz12_2 := blk_frozen BK410.out 2; have hcz13_0 : w9.cell? ⟨gb411, 0, none⟩ = some (.int .i8 0) := (blk_cell BK411.out 0).trans rfl; have hcz13_1 : w9.cell? ⟨gb411, 1, none⟩ = some (.int .i8 0) := (blk_cell BK411.out 1).trans rfl; have hcz13_2 : w9.cell? ⟨gb411, 2, none⟩ = some (.slice none 0 0) := (blk_cell BK411.out 2).trans rfl; have hfz13_0 := blk_frozen BK411.out 0; have hfz13_1 := blk_frozen BK411.out 1; have hfz13_2 := blk_frozen BK411.out 2))
        refine bodyPost_ret (results_ct rfl _ _ gb411 28 #[.int .i8 0, .int .i8 0, .slice none 0 0] (0, 0) _ rfl (by (with_reducible repeat (first | refine blk_drewN ?_ _ | refine blk_drew ?_ | refine blk_alloc ?_ _)); refine blk_put (cs := #[.int .i8 0, .int .i8 0, .slice none 0 0]) ?_ 2 _ rfl; (with_reducible repeat (first | refine blk_drewN ?_ _ | refine blk_drew ?_ | refine blk_alloc ?_ _)); refine blk_put (cs := #[.int .i8 0, .int .i8 0, .slice none 0 0]) ?_ 1 _ rfl; (with_reducible repeat (first | refine blk_drewN ?_ _ | refine blk_drew ?_ | refine blk_alloc ?_ _)); refine blk_put (cs := #[.int .i8 0, .int .i8 0, .slice none 0 0]) ?_ 0 _ rfl; (with_reducible repeat (first | refine blk_drewN ?_ _ | refine blk_drew ?_ | refine blk_alloc ?_ _)); exact BK411.out) Try.underlying28 rfl (by kernel_rfl)) rfl ?_
        exact ⟨_, by first | rfl | (simp [errW_none, errW_some] <;> rfl) | (simp [*, errW_none, errW_some] <;> rfl), by first | exact Kd.R_nil _ _ _ _ _ | exact Kd.N_nil _ _ _ _ _ | exact Kd.V_nil _ _ _ _ _ | exact Kd.Q_nil _ _ _ _ _ | exact Kd.S_nil _ _ _ _ _, by repeat (first | (with_reducible first | exact HB.out | apply below_alloc | apply pw_below_drewN | apply below_drew1 | refine below_set ?_ GE410.out | refine below_set ?_ GE411.out) | exact HB.out)⟩
      · rw [if_neg c7] at H
        have c7b0 : (a0_0 == 1) = false := beq_eq_false_iff_ne.mpr c7
        have c7b1 : (a0_0 != 1) = true := bne_iff_ne.mpr c7
        replace H := Option.bind_eq_some_iff.mp H
        obtain ⟨t414, A140, H⟩ := H
        replace H : (if 0 ≤ (IntKind.u64.wrap (a1)) then (spec_WithoutThing.l0 k a1 (IntKind.u16.wrap ((shl .u16 1 (IntKind.u64.wrap (a1))) - 1)) 0 a0_0 a0_1 l0_2 (IntKind.i8.wrap (a0_0 - 1)) (IntKind.i8.wrap (t414)) ([] : List Int)) else (none)) = some (r1, r2, r3, r4) := H
        have A14 := Aside0.mk A140
        clear A140
        obtain ⟨ji15, hji15⟩ : ∃ j_ : Int, (IntKind.u64.wrap (a1)) = j_ := ⟨_, rfl⟩
        replace H : (if 0 ≤ (ji15) then (spec_WithoutThing.l0 k a1 (IntKind.u16.wrap ((shl .u16 1 (ji15)) - 1)) 0 a0_0 a0_1 l0_2 (IntKind.i8.wrap (a0_0 - 1)) (IntKind.i8.wrap (t414)) ([] : List Int)) else (none)) = some (r1, r2, r3, r4) := by first | (rw [hji15] at H; exact H) | (simp only [hji15] at H ⊢; exact H)
        (try rw [hji15] at A3)
        (try rw [hji15] at A5)
        (try rw [hji15] at A14)
        by_cases c16 : 0 ≤ (ji15)
        · rw [if_pos c16] at H
          have c16b0 := eq_true c16
          have c16b1 : decide (0 ≤ (ji15)) = true := decide_eq_true c16
          clear c16
          obtain ⟨ji17, hji17⟩ : ∃ j_ : Int, (shl .u16 1 (ji15)) = j_ := ⟨_, rfl⟩
          replace H : (spec_WithoutThing.l0 k a1 (IntKind.u16.wrap ((ji17) - 1)) 0 a0_0 a0_1 l0_2 (IntKind.i8.wrap (a0_0 - 1)) (IntKind.i8.wrap (t414)) ([] : List Int)) = some (r1, r2, r3, r4) := by first | (rw [hji17] at H; exact H) | (simp only [hji17] at H ⊢; exact H)
          (try rw [hji17] at A3)
          (try rw [hji17] at A5)
          (try rw [hji17] at A14)
          have hji17_ : (IntKind.u16.wrap (1 * 2 ^ min (ji15).toNat 16)) = ji17 := hji17
          have hji17z : (ji15) ≤ 16 → (IntKind.u16.wrap (1 * 2 ^ (ji15).toNat)) = ji17 := shl_small hji17
          have hji17u : (IntKind.u16.wrap (2 ^ min (ji15).toNat 16)) = ji17 := by have h_ := hji17_; rw [Int.one_mul] at h_; exact h_
          have hji17v : (ji15) ≤ 16 → (IntKind.u16.wrap (2 ^ (ji15).toNat)) = ji17 := fun hle_ => by have h_ := hji17z hle_; rw [Int.one_mul] at h_; exact h_
          have H' := Aside0.mk H
          clear H
          go_enter Try.func30, Try.ntmps30
          try go_wp2_with (first | ((with_reducible refine gate_dst (N := 2) rfl ?_); refine box_event ?hg (N := 2) ?hd (cs := #[.int .i8 a0_0, .int .i8 a0_1, .slice A0_2 l0_2.length c0_2]) (t := 28) ?hr ?_; (case hd => rfl); (case hg => rfl); (case hr => first | (go_simp; done) | (go_simp; rfl)); intro gb410 hg w18 hbox hb; have n0_ := Aside0.mk (below_step (by repeat (first | (with_reducible first | exact HB.out | apply below_alloc | apply pw_below_drewN | apply below_drew1) | exact HB.out)) hb); have n1_ := Aside0.mk (hbox); have n2_ := Aside0.mk ((by rw [hg]; exact (below_size (by repeat (first | (with_reducible first | exact HB.out | apply below_alloc | apply pw_below_drewN | apply below_drew1) | exact HB.out))) : w.heap.size ≤ gb410)); have n3_ := Aside0.mk ((by rw [hg]; exact (below_size (by repeat (first | (with_reducible first | exact HB.out | apply below_alloc | apply pw_below_drewN | apply below_drew1) | exact HB.out))) : w.heap.size ≤ gb410)); clear HB; have HB := n0_; have BK410 := n1_; have GW410 := n2_; have GE410 := n3_; clear n0_ n1_ n2_ n3_; clear hb hbox hg) | ((with_reducible refine gate_dst (N := 4) rfl ?_); refine box_event ?hg (N := 4) ?hd (cs := #[.int .i8 0, .int .i8 0, .slice none 0 0]) (t := 28) ?hr ?_; (case hd => rfl); (case hg => rfl); (case hr => first | (go_simp; done) | (go_simp; rfl)); intro gb411 hg w19 hbox hb; have n0_ := Aside0.mk (blk_below (g := gb410) (o := .cells #[.int .i8 a0_0, .int .i8 a0_1, .slice A0_2 l0_2.length c0_2] 28 (0, 0)) (by (with_reducible repeat (first | refine blk_drewN ?_ _ | refine blk_drew ?_ | refine blk_alloc ?_ _)); exact BK410.out) hb); have n1_ := Aside0.mk (below_step (by repeat (first | (with_reducible first | exact HB.out | apply below_alloc | apply pw_below_drewN | apply below_drew1 | refine below_set ?_ GE410.out) | exact HB.out)) hb); have n2_ := Aside0.mk (hbox); have n3_ := Aside0.mk ((by rw [hg]; exact (below_size (by repeat (first | (with_reducible first | exact HB.out | apply below_alloc | apply pw_below_drewN | apply below_drew1 | refine below_set ?_ GE410.out) | exact HB.out))) : w.heap.size ≤ gb411)); have n4_ := Aside0.mk ((by rw [hg]; exact (below_size (by repeat (first | (with_reducible first | exact HB.out | apply below_alloc | apply pw_below_drewN | apply below_drew1 | refine below_set ?_ GE410.out) | exact HB.out))) : w.heap.size ≤ gb411)); have n5_ := Aside0.mk ((by rw [hg]; exact Nat.ne_of_lt (blk_lt (g := gb410) (o := .cells #[.int .i8 a0_0, .int .i8 a0_1, .slice A0_2 l0_2.length c0_2] 28 (0, 0)) (by (with_reducible repeat (first | refine blk_drewN ?_ _ | refine blk_drew ?_ | refine blk_alloc ?_ _)); exact BK410.out)) : gb410 ≠ gb411)); have n6_ := Aside0.mk ((by rw [hg]; exact Nat.ne_of_gt (blk_lt (g := gb410) (o := .cells #[.int .i8 a0_0, .int .i8 a0_1, .slice A0_2 l0_2.length c0_2] 28 (0, 0)) (by (with_reducible repeat (first | refine blk_drewN ?_ _ | refine blk_drew ?_ | refine blk_alloc ?_ _)); exact BK410.out)) : gb411 ≠ gb410)); clear BK410; clear HB; have BK410 := n0_; have HB := n1_; have BK411 := n2_; have GW411 := n3_; have GE411 := n4_; have NB410_411 := n5_; have NB411_410 := n6_; clear n0_ n1_ n2_ n3_ n4_ n5_ n6_; clear hb hbox hg) | ((with_reducible refine gate_callee (f := 42) rfl ?_); refine goesL_ (some 10) rfl rfl Try.func42 (by kernel_rfl) rfl #[.pointer (some ⟨gb410, 0, none⟩)] rfl (by (try simp only [List.map_toArray, List.map_cons, List.map_nil]); first | done | rfl | (simp only [List.length_drop, List.length_take]; rfl)) ?_; (with_reducible refine (spec_l05Ok.calls k gb410 a0_0 a0_1 A0_2 c0_2 l0_2 true _ ?side1 ?side2 ?side3 A3.out).mono ?_); (case side1 => (with_reducible repeat (first | refine blk_drewN ?_ _ | refine blk_drew ?_ | refine blk_alloc ?_ _)); exact BK410.out); (case side2 => repeat (first | exact (Kd.C_below HR0_2.out HB.out) | (with_reducible refine Kd.C_alloc ?_ _) | (with_reducible refine Kd.C_drewN ?_ _) | (with_reducible refine Kd.C_drew ?_))); (case side3 => exact HC0_2.out); rintro e w' ⟨rfl, ⟨nd, rfl⟩⟩; refine ⟨_, rfl, ?_⟩; (try (rw [drewN_self w19]; generalize hq_ : World.drewN w19 _ = w19; have n0_ : Aside0 (w19.heap[gb410]? = some (.cells #[.int .i8 a0_0, .int .i8 a0_1, .slice A0_2 l0_2.length c0_2] 28 (0, 0))) := ⟨by rw [← hq_]; exact (by (with_reducible repeat (first | refine blk_drewN ?_ _ | refine blk_drew ?_ | refine blk_alloc ?_ _)); exact BK410.out)⟩; have n1_ : Aside0 (w19.heap[gb411]? = some (.cells #[.int .i8 0, .int .i8 0, .slice none 0 0] 28 (0, 0))) := ⟨by rw [← hq_]; exact (by (with_reducible repeat (first | refine blk_drewN ?_ _ | refine blk_drew ?_ | refine blk_alloc ?_ _)); exact BK411.out)⟩; have n2_ : Aside0 (Below w.heap.size w w19) := ⟨by rw [← hq_]; exact (by repeat (first | (with_reducible first | exact HB.out | apply below_alloc | apply pw_below_drewN | apply below_drew1 | refine below_set ?_ GE410.out | refine below_set ?_ GE411.out) | exact HB.out))⟩; clear BK410 BK411 HB hq_; have BK410 := n0_; have BK411 := n1_; have HB := n2_; clear n0_ n1_ n2_)); have hnb20 := NB410_411.out; have hnc20 := NB411_410.out; have hcz21_0 : w19.cell? ⟨gb410, 0, none⟩ = some (.int .i8 a0_0) := (blk_cell BK410.out 0).trans rfl; have hcz21_1 : w19.cell? ⟨gb410, 1, none⟩ = some (.int .i8 a0_1) := (blk_cell BK410.out 1).trans rfl; have hcz21_2 : w19.cell? ⟨gb410, 2, none⟩ = some (.slice A0_2 l0_2.length c0_2) := (blk_cell BK410.out 2).trans rfl; have hfz21_0 := blk_frozen BK410.out 0; have hfz21_1 := blk_frozen BK410.out 1; have hfz21_2 := blk_frozen BK410.out 2) | ((with_reducible refine gate_callee (f := 59) rfl ?_); refine goesL_ (some 18) rfl rfl Try.func59 (by kernel_rfl) rfl #[.int .i64 a1, .int .i64 0, .int .i64 (wrap64 ((wrap64 (a0_0)) - 1))] rfl (by (try simp only [List.map_toArray, List.map_cons, List.map_nil]); first | done | rfl | (simp only [List.length_drop, List.length_take]; rfl)) ?_; (with_reducible refine (spec_l00In.calls a1 0 (wrap64 ((wrap64 (a0_0)) - 1)) true _ A5.out).mono ?_); rintro e w' ⟨rfl, ⟨nd, rfl⟩⟩; refine ⟨_, rfl, ?_⟩; (try (rw [drewN_self w19]; generalize hq_ : World.drewN w19 _ = w19; have n0_ : Aside0 (w19.heap[gb410]? = some (.cells #[.int .i8 a0_0, .int .i8 a0_1, .slice A0_2 l0_2.length c0_2] 28 (0, 0))) := ⟨by rw [← hq_]; exact (by (with_reducible repeat (first | refine blk_drewN ?_ _ | refine blk_drew ?_ | refine blk_alloc ?_ _)); exact BK410.out)⟩; have n1_ : Aside0 (w19.heap[gb411]? = some (.cells #[.int .i8 0, .int .i8 0, .slice none 0 0] 28 (0, 0))) := ⟨by rw [← hq_]; exact (by (with_reducible repeat (first | refine blk_drewN ?_ _ | refine blk_drew ?_ | refine blk_alloc ?_ _)); exact BK411.out)⟩; have n2_ : Aside0 (Below w.heap.size w w19) := ⟨by rw [← hq_]; exact (by repeat (first | (with_reducible first | exact HB.out | apply below_alloc | apply pw_below_drewN | apply below_drew1 | refine below_set ?_ GE410.out | refine below_set ?_ GE411.out) | exact HB.out))⟩; clear BK410 BK411 HB hq_; have BK410 := n0_; have BK411 := n1_; have HB := n2_; clear n0_ n1_ n2_)); have hcz22_0 : w19.cell? ⟨gb410, 0, none⟩ = some (.int .i8 a0_0) := (blk_cell BK410.out 0).trans rfl; have hcz22_1 : w19.cell? ⟨gb410, 1, none⟩ = some (.int .i8 a0_1) := (blk_cell BK410.out 1).trans rfl; have hcz22_2 : w19.cell? ⟨gb410, 2, none⟩ = some (.slice A0_2 l0_2.length c0_2) := (blk_cell BK410.out 2).trans rfl; have hfz22_0 := blk_frozen BK410.out 0; have hfz22_1 := blk_frozen BK410.out 1; have hfz22_2 := blk_frozen BK410.out 2))
          have n0_ := Aside0.mk (blk_drew BK410.out)
          have n1_ := Aside0.mk (blk_drew BK411.out)
          have n2_ := Aside0.mk (below_drew1 HB.out)
          clear BK410
          clear BK411
          clear HB
          have BK410 := n0_
          have BK411 := n1_
          have HB := n2_
          clear n0_ n1_ n2_
          refine start_ (n := 15) (S := fun w' => w'.cell? ⟨gb410, 0, none⟩ = some (.int .i8 a0_0) ∧ w'.cell? ⟨gb410, 1, none⟩ = some (.int .i8 a0_1) ∧ w'.cell? ⟨gb410, 2, none⟩ = some (.slice A0_2 l0_2.length c0_2)) (ds := []) #[false, false, false, false, false, false, false, false, false, false, false, false, false, false, false] (by kernel_rfl) rfl rfl ⟨(blk_cell BK410.out 0).trans rfl, (blk_cell BK410.out 1).trans rfl, (blk_cell BK410.out 2).trans rfl⟩ (fun hHeld => ?_); refine with_tabW spec_WithoutThing.tab7 spec_WithoutThing.bits7 (fun HT_ HW_ => ?_)
          generalize w19.drew = w23 at BK410 BK411 HB hHeld ⊢
          refine pure_ (i := 0) (N := some 25) (v := ?_) (a' := ?_) #[true, false, false, false, false, false, false, false, false, false, false, false, false, false, false] rfl rfl (any_of HT_.out (by kernel_rfl)) (fun _ _ _ h => h) (Or.inl ⟨by rfl, ?_⟩) ?_ ?_
          rotate_left
          · intro w'
            go_simp
            with_reducible rfl
          rotate_left
          · simp only [Act.put, List.setIfInBounds_toArray, List.set_cons_zero, List.set_cons_succ, i64_w, i32_w]
            rfl
          refine pure_ (i := 3) (N := some 28) (v := ?_) (a' := ?_) #[true, false, false, true, false, false, false, false, false, false, false, false, false, false, false] rfl rfl (any_of HT_.out (by kernel_rfl)) (fun _ _ _ h => h) (Or.inl ⟨by rfl, ?_⟩) ?_ ?_
          rotate_left
          · intro w'
            go_simp
            with_reducible rfl
          rotate_left
          · simp only [Act.put, List.setIfInBounds_toArray, List.set_cons_zero, List.set_cons_succ, i64_w, i32_w]
            rfl
          refine pure_ (i := 6) (N := some 31) (v := ?_) (a' := ?_) #[true, false, false, true, false, false, true, false, false, false, false, false, false, false, false] rfl rfl (any_of HT_.out (by kernel_rfl)) (fun _ _ _ h => h) (Or.inl ⟨by rfl, ?_⟩) ?_ ?_
          rotate_left
          · intro w'
            go_simp
            with_reducible rfl
          rotate_left
          · simp only [Act.put, List.setIfInBounds_toArray, List.set_cons_zero, List.set_cons_succ, i64_w, i32_w]
            rfl
          refine take_ (i := 1) (N := some 26) (v := ?_) (a' := ?_) #[true, true, false, true, false, false, true, false, false, false, false, false, false, false, false] rfl rfl (take_ofW HT_.out HW_.out (by kernel_rfl)) (fun _ _ _ h => h) (Or.inl ⟨by rfl, ?_⟩) hHeld ?_ ?_
          rotate_left
          · rintro w' ⟨s0, s1, s2⟩
            go_simp
            with_reducible rfl
          rotate_left
          · simp only [Act.put, List.setIfInBounds_toArray, List.set_cons_zero, List.set_cons_succ, i64_w, i32_w]
            rfl
          refine pure_ (i := 2) (N := some 27) (v := ?_) (a' := ?_) #[true, true, true, true, false, false, true, false, false, false, false, false, false, false, false] rfl rfl (any_of HT_.out (by kernel_rfl)) (fun _ _ _ h => h) (Or.inl ⟨by rfl, ?_⟩) ?_ ?_
          rotate_left
          · intro w'
            go_simp
            with_reducible rfl
          rotate_left
          · simp only [Act.put, List.setIfInBounds_toArray, List.set_cons_zero, List.set_cons_succ, i64_w, i32_w]
            rfl
          refine take_ (i := 4) (N := some 29) (v := ?_) (a' := ?_) #[true, true, true, true, true, false, true, false, false, false, false, false, false, false, false] rfl rfl (take_ofW HT_.out HW_.out (by kernel_rfl)) (fun _ _ _ h => h) (Or.inl ⟨by rfl, ?_⟩) hHeld ?_ ?_
          rotate_left
          · rintro w' ⟨s0, s1, s2⟩
            go_simp
            with_reducible rfl
          rotate_left
          · simp only [Act.put, List.setIfInBounds_toArray, List.set_cons_zero, List.set_cons_succ, i64_w, i32_w]
            rfl
          refine pure_ (i := 5) (N := some 30) (v := ?_) (a' := ?_) #[true, true, true, true, true, true, true, false, false, false, false, false, false, false, false] rfl rfl (any_of HT_.out (by kernel_rfl)) (fun _ _ _ h => h) (Or.inl ⟨by rfl, ?_⟩) ?_ ?_
          rotate_left
          · intro w'
            go_simp
            with_reducible rfl
          rotate_left
          · simp only [Act.put, List.setIfInBounds_toArray, List.set_cons_zero, List.set_cons_succ, i64_w, i32_w]
            rfl
          refine take_ (i := 7) (N := some 32) (v := ?_) (a' := ?_) #[true, true, true, true, true, true, true, true, false, false, false, false, false, false, false] rfl rfl (take_ofW HT_.out HW_.out (by kernel_rfl)) (fun _ _ _ h => h) (Or.inl ⟨by rfl, ?_⟩) hHeld ?_ ?_
          rotate_left
          · rintro w' ⟨s0, s1, s2⟩
            go_simp
            with_reducible rfl
          rotate_left
          · simp only [Act.put, List.setIfInBounds_toArray, List.set_cons_zero, List.set_cons_succ, i64_w, i32_w]
            rfl
          refine pure_ (i := 8) (N := some 33) (v := ?_) (a' := ?_) #[true, true, true, true, true, true, true, true, true, false, false, false, false, false, false] rfl rfl (any_of HT_.out (by kernel_rfl)) (fun _ _ _ h => h) (Or.inl ⟨by rfl, ?_⟩) ?_ ?_
          rotate_left
          · intro w'
            go_simp
            with_reducible rfl
          rotate_left
          · simp only [Act.put, List.setIfInBounds_toArray, List.set_cons_zero, List.set_cons_succ, i64_w, i32_w]
            rfl
          refine pure_ (i := 9) (N := some 34) (v := ?_) (a' := ?_) #[true, true, true, true, true, true, true, true, true, true, false, false, false, false, false] rfl rfl (any_of HT_.out (by kernel_rfl)) (fun _ _ _ h => h) (Or.inl ⟨by rfl, ?_⟩) ?_ ?_
          rotate_left
          · intro w'
            go_simp
            with_reducible rfl
          rotate_left
          · simp only [Act.put, List.setIfInBounds_toArray, List.set_cons_zero, List.set_cons_succ, i64_w, i32_w]
            rfl
          refine join_ (σ := Nat) 1 #[true, true, true, true, true, true, true, true, true, true, true, true, true, true, false] (fun s_ => [(35, .int .i64 t414), (6, .pointer (some ⟨s_, 0, none⟩)), (36, .int .i8 (IntKind.i8.wrap (t414))), (37, .agg #[.int .i8 (IntKind.i8.wrap (a0_0 - 1)), .int .i8 (IntKind.i8.wrap (t414)), .slice none 0 0])]) (fun s_ w' => (w'.cell? ⟨gb410, 0, none⟩ = some (.int .i8 a0_0) ∧ w'.cell? ⟨gb410, 1, none⟩ = some (.int .i8 a0_1) ∧ w'.cell? ⟨gb410, 2, none⟩ = some (.slice A0_2 l0_2.length c0_2)) ∧ (w'.heap[gb410]? = some (.cells #[.int .i8 a0_0, .int .i8 a0_1, .slice A0_2 l0_2.length c0_2] 28 (0, 0))) ∧ (w'.heap[gb411]? = some (.cells #[.int .i8 0, .int .i8 0, .slice none 0 0] 28 (0, 0))) ∧ (w'.heap[s_]? = some (.cells #[.int .i8 0, .int .i8 0, .slice none 0 0] 28 (0, 0))) ∧ (w.heap.size ≤ s_) ∧ (w.heap.size ≤ s_) ∧ (gb410 ≠ s_) ∧ (s_ ≠ gb410) ∧ (gb411 ≠ s_) ∧ (s_ ≠ gb411) ∧ (Below w.heap.size w w')) ?_ ?_
          rotate_left
          · intro hCont
            refine two_ (i := 10) (j := 13) (Ni := some 35) (Nj := some 6) #[true, true, true, true, true, true, true, true, true, true, true, false, false, false, false] #[true, true, true, true, true, true, true, true, true, true, false, false, false, true, false] rfl rfl rfl rfl (two_of HT_.out (by kernel_rfl)) (by decide) (by decide) (fun K hK => ?_) (fun K hK => ?_)
            · skip
              refine goes_ Try.func60 (by kernel_rfl) rfl #[.int .i64 (wrap64 (a0_1)), .int .i64 (wrap64 ((wrap64 (a0_0)) - 1))] (by rfl) rfl rfl (by (try simp only [List.map_toArray, List.map_cons, List.map_nil]); first | done | rfl | (simp only [List.length_drop, List.length_take]; rfl)) ?_
              with_reducible refine (spec_l00Min.calls (wrap64 (a0_1)) (wrap64 ((wrap64 (a0_0)) - 1)) t414 _ A14.out).mono ?_
              rintro e w' ⟨rfl, ⟨nd, rfl⟩⟩
              refine ⟨_, rfl, ?_⟩
              refine hK.out _ _ ⟨(blk_cell BK410.out 0).trans rfl, (blk_cell BK410.out 1).trans rfl, (blk_cell BK410.out 2).trans rfl⟩ (fun hHeld => ?_)
              clear hK K
              refine norm_ (a' := ?_) ?_ ?_
              rotate_left
              · show Act.put _ (some 35) _ = _
                simp only [Act.put, List.setIfInBounds_toArray, List.set_cons_zero, List.set_cons_succ, i64_w, i32_w]
                rfl
              refine pure_ (i := 11) (N := some 36) (v := ?_) (a' := ?_) #[true, true, true, true, true, true, true, true, true, true, true, true, false, false, false] rfl rfl (any_of HT_.out (by kernel_rfl)) (fun _ _ _ h => h) (Or.inl ⟨by rfl, ?_⟩) ?_ ?_
              rotate_left
              · intro w'
                go_simp
                with_reducible rfl
              rotate_left
              · simp only [Act.put, List.setIfInBounds_toArray, List.set_cons_zero, List.set_cons_succ, i64_w, i32_w]
                rfl
              refine pure_ (i := 12) (N := some 37) (v := ?_) (a' := ?_) #[true, true, true, true, true, true, true, true, true, true, true, true, true, false, false] rfl rfl (any_of HT_.out (by kernel_rfl)) (fun _ _ _ h => h) (Or.inl ⟨by rfl, ?_⟩) ?_ ?_
              rotate_left
              · intro w'
                go_simp
                with_reducible rfl
              rotate_left
              · simp only [Act.put, List.setIfInBounds_toArray, List.set_cons_zero, List.set_cons_succ, i64_w, i32_w]
                rfl
              refine one_ (i := 13) (N := some 6) #[true, true, true, true, true, true, true, true, true, true, true, true, true, true, false] rfl rfl (one_of HT_.out (by kernel_rfl)) (by decide) (fun K hK => ?_)
              refine box_step ?hg (N := 6) ?hd (cs := #[.int .i8 0, .int .i8 0, .slice none 0 0]) (t := 28) ?hr ?_; (case hd => rfl); (case hg => rfl); (case hr => first | (go_simp; done) | (go_simp; rfl))
              intro gb415 hg w24 hbox hb
              have n0_ := Aside0.mk (blk_below (g := gb410) (o := .cells #[.int .i8 a0_0, .int .i8 a0_1, .slice A0_2 l0_2.length c0_2] 28 (0, 0)) (by (with_reducible repeat (first | refine blk_drewN ?_ _ | refine blk_drew ?_ | refine blk_alloc ?_ _)); exact BK410.out) hb)
              have n1_ := Aside0.mk (blk_below (g := gb411) (o := .cells #[.int .i8 0, .int .i8 0, .slice none 0 0] 28 (0, 0)) (by (with_reducible repeat (first | refine blk_drewN ?_ _ | refine blk_drew ?_ | refine blk_alloc ?_ _)); exact BK411.out) hb)
              have n2_ := Aside0.mk (below_step (by repeat (first | (with_reducible first | exact HB.out | apply below_alloc | apply pw_below_drewN | apply below_drew1 | refine below_set ?_ GE410.out | refine below_set ?_ GE411.out) | exact HB.out)) hb)
              have n3_ := Aside0.mk (hbox)
              have n4_ := Aside0.mk ((by rw [hg]; exact (below_size (by repeat (first | (with_reducible first | exact HB.out | apply below_alloc | apply pw_below_drewN | apply below_drew1 | refine below_set ?_ GE410.out | refine below_set ?_ GE411.out) | exact HB.out))) : w.heap.size ≤ gb415))
              have n5_ := Aside0.mk ((by rw [hg]; exact (below_size (by repeat (first | (with_reducible first | exact HB.out | apply below_alloc | apply pw_below_drewN | apply below_drew1 | refine below_set ?_ GE410.out | refine below_set ?_ GE411.out) | exact HB.out))) : w.heap.size ≤ gb415))
              have n6_ := Aside0.mk ((by rw [hg]; exact Nat.ne_of_lt (blk_lt (g := gb410) (o := .cells #[.int .i8 a0_0, .int .i8 a0_1, .slice A0_2 l0_2.length c0_2] 28 (0, 0)) (by (with_reducible repeat (first | refine blk_drewN ?_ _ | refine blk_drew ?_ | refine blk_alloc ?_ _)); exact BK410.out)) : gb410 ≠ gb415))
              have n7_ := Aside0.mk ((by rw [hg]; exact Nat.ne_of_gt (blk_lt (g := gb410) (o := .cells #[.int .i8 a0_0, .int .i8 a0_1, .slice A0_2 l0_2.length c0_2] 28 (0, 0)) (by (with_reducible repeat (first | refine blk_drewN ?_ _ | refine blk_drew ?_ | refine blk_alloc ?_ _)); exact BK410.out)) : gb415 ≠ gb410))
              have n8_ := Aside0.mk ((by rw [hg]; exact Nat.ne_of_lt (blk_lt (g := gb411) (o := .cells #[.int .i8 0, .int .i8 0, .slice none 0 0] 28 (0, 0)) (by (with_reducible repeat (first | refine blk_drewN ?_ _ | refine blk_drew ?_ | refine blk_alloc ?_ _)); exact BK411.out)) : gb411 ≠ gb415))
              have n9_ := Aside0.mk ((by rw [hg]; exact Nat.ne_of_gt (blk_lt (g := gb411) (o := .cells #[.int .i8 0, .int .i8 0, .slice none 0 0] 28 (0, 0)) (by (with_reducible repeat (first | refine blk_drewN ?_ _ | refine blk_drew ?_ | refine blk_alloc ?_ _)); exact BK411.out)) : gb415 ≠ gb411))
              clear BK410
              clear BK411
              clear HB
              have BK410 := n0_
              have BK411 := n1_
              have HB := n2_
              have BK415 := n3_
              have GW415 := n4_
              have GE415 := n5_
              have NB410_415 := n6_
              have NB415_410 := n7_
              have NB411_415 := n8_
              have NB415_411 := n9_
              clear n0_ n1_ n2_ n3_ n4_ n5_ n6_ n7_ n8_ n9_
              clear hb hbox hg
              refine hK.out _ _ ⟨(blk_cell BK410.out 0).trans rfl, (blk_cell BK410.out 1).trans rfl, (blk_cell BK410.out 2).trans rfl⟩ (fun hHeld => ?_)
              clear hK K
              refine norm_ (a' := ?_) ?_ ?_
              rotate_left
              · show Act.put _ (some 6) _ = _
                simp only [Act.put, List.setIfInBounds_toArray, List.set_cons_zero, List.set_cons_succ, i64_w, i32_w]
                rfl
              exact norm_ (by simp only [putAll, Act.put, List.setIfInBounds_toArray, List.set_cons_zero, List.set_cons_succ]) (hCont (gb415) _ ⟨hHeld, (by (with_reducible repeat (first | refine blk_drewN ?_ _ | refine blk_drew ?_ | refine blk_alloc ?_ _)); exact BK410.out), (by (with_reducible repeat (first | refine blk_drewN ?_ _ | refine blk_drew ?_ | refine blk_alloc ?_ _)); exact BK411.out), (by (with_reducible repeat (first | refine blk_drewN ?_ _ | refine blk_drew ?_ | refine blk_alloc ?_ _)); exact BK415.out), GW415.out, GE415.out, NB410_415.out, NB415_410.out, NB411_415.out, NB415_411.out, (by repeat (first | (with_reducible first | exact HB.out | apply below_alloc | apply pw_below_drewN | apply below_drew1 | refine below_set ?_ GE410.out | refine below_set ?_ GE411.out | refine below_set ?_ GE415.out) | exact HB.out))⟩)
            · skip
              refine box_step ?hg (N := 6) ?hd (cs := #[.int .i8 0, .int .i8 0, .slice none 0 0]) (t := 28) ?hr ?_; (case hd => rfl); (case hg => rfl); (case hr => first | (go_simp; done) | (go_simp; rfl))
              intro gb415 hg w24 hbox hb
              have n0_ := Aside0.mk (blk_below (g := gb410) (o := .cells #[.int .i8 a0_0, .int .i8 a0_1, .slice A0_2 l0_2.length c0_2] 28 (0, 0)) (by (with_reducible repeat (first | refine blk_drewN ?_ _ | refine blk_drew ?_ | refine blk_alloc ?_ _)); exact BK410.out) hb)
              have n1_ := Aside0.mk (blk_below (g := gb411) (o := .cells #[.int .i8 0, .int .i8 0, .slice none 0 0] 28 (0, 0)) (by (with_reducible repeat (first | refine blk_drewN ?_ _ | refine blk_drew ?_ | refine blk_alloc ?_ _)); exact BK411.out) hb)
              have n2_ := Aside0.mk (below_step (by repeat (first | (with_reducible first | exact HB.out | apply below_alloc | apply pw_below_drewN | apply below_drew1 | refine below_set ?_ GE410.out | refine below_set ?_ GE411.out) | exact HB.out)) hb)
              have n3_ := Aside0.mk (hbox)
              have n4_ := Aside0.mk ((by rw [hg]; exact (below_size (by repeat (first | (with_reducible first | exact HB.out | apply below_alloc | apply pw_below_drewN | apply below_drew1 | refine below_set ?_ GE410.out | refine below_set ?_ GE411.out) | exact HB.out))) : w.heap.size ≤ gb415))
              have n5_ := Aside0.mk ((by rw [hg]; exact (below_size (by repeat (first | (with_reducible first | exact HB.out | apply below_alloc | apply pw_below_drewN | apply below_drew1 | refine below_set ?_ GE410.out | refine below_set ?_ GE411.out) | exact HB.out))) : w.heap.size ≤ gb415))
              have n6_ := Aside0.mk ((by rw [hg]; exact Nat.ne_of_lt (blk_lt (g := gb410) (o := .cells #[.int .i8 a0_0, .int .i8 a0_1, .slice A0_2 l0_2.length c0_2] 28 (0, 0)) (by (with_reducible repeat (first | refine blk_drewN ?_ _ | refine blk_drew ?_ | refine blk_alloc ?_ _)); exact BK410.out)) : gb410 ≠ gb415))
              have n7_ := Aside0.mk ((by rw [hg]; exact Nat.ne_of_gt (blk_lt (g := gb410) (o := .cells #[.int .i8 a0_0, .int .i8 a0_1, .slice A0_2 l0_2.length c0_2] 28 (0, 0)) (by (with_reducible repeat (first | refine blk_drewN ?_ _ | refine blk_drew ?_ | refine blk_alloc ?_ _)); exact BK410.out)) : gb415 ≠ gb410))
              have n8_ := Aside0.mk ((by rw [hg]; exact Nat.ne_of_lt (blk_lt (g := gb411) (o := .cells #[.int .i8 0, .int .i8 0, .slice none 0 0] 28 (0, 0)) (by (with_reducible repeat (first | refine blk_drewN ?_ _ | refine blk_drew ?_ | refine blk_alloc ?_ _)); exact BK411.out)) : gb411 ≠ gb415))
              have n9_ := Aside0.mk ((by rw [hg]; exact Nat.ne_of_gt (blk_lt (g := gb411) (o := .cells #[.int .i8 0, .int .i8 0, .slice none 0 0] 28 (0, 0)) (by (with_reducible repeat (first | refine blk_drewN ?_ _ | refine blk_drew ?_ | refine blk_alloc ?_ _)); exact BK411.out)) : gb415 ≠ gb411))
              clear BK410
              clear BK411
              clear HB
              have BK410 := n0_
              have BK411 := n1_
              have HB := n2_
              have BK415 := n3_
              have GW415 := n4_
              have GE415 := n5_
              have NB410_415 := n6_
              have NB415_410 := n7_
              have NB411_415 := n8_
              have NB415_411 := n9_
              clear n0_ n1_ n2_ n3_ n4_ n5_ n6_ n7_ n8_ n9_
              clear hb hbox hg
              refine hK.out _ _ ⟨(blk_cell BK410.out 0).trans rfl, (blk_cell BK410.out 1).trans rfl, (blk_cell BK410.out 2).trans rfl⟩ (fun hHeld => ?_)
              clear hK K
              refine norm_ (a' := ?_) ?_ ?_
              rotate_left
              · show Act.put _ (some 6) _ = _
                simp only [Act.put, List.setIfInBounds_toArray, List.set_cons_zero, List.set_cons_succ, i64_w, i32_w]
                rfl
              refine one_ (i := 10) (N := some 35) #[true, true, true, true, true, true, true, true, true, true, true, false, false, true, false] rfl rfl (one_of HT_.out (by kernel_rfl)) (by decide) (fun K hK => ?_)
              refine goes_ Try.func60 (by kernel_rfl) rfl #[.int .i64 (wrap64 (a0_1)), .int .i64 (wrap64 ((wrap64 (a0_0)) - 1))] (by rfl) rfl rfl (by (try simp only [List.map_toArray, List.map_cons, List.map_nil]); first | done | rfl | (simp only [List.length_drop, List.length_take]; rfl)) ?_
              with_reducible refine (spec_l00Min.calls (wrap64 (a0_1)) (wrap64 ((wrap64 (a0_0)) - 1)) t414 _ A14.out).mono ?_
              rintro e w' ⟨rfl, ⟨nd, rfl⟩⟩
              refine ⟨_, rfl, ?_⟩
              refine hK.out _ _ ⟨(blk_cell BK410.out 0).trans rfl, (blk_cell BK410.out 1).trans rfl, (blk_cell BK410.out 2).trans rfl⟩ (fun hHeld => ?_)
              clear hK K
              refine norm_ (a' := ?_) ?_ ?_
              rotate_left
              · show Act.put _ (some 35) _ = _
                simp only [Act.put, List.setIfInBounds_toArray, List.set_cons_zero, List.set_cons_succ, i64_w, i32_w]
                rfl
              refine pure_ (i := 11) (N := some 36) (v := ?_) (a' := ?_) #[true, true, true, true, true, true, true, true, true, true, true, true, false, true, false] rfl rfl (any_of HT_.out (by kernel_rfl)) (fun _ _ _ h => h) (Or.inl ⟨by rfl, ?_⟩) ?_ ?_
              rotate_left
              · intro w'
                go_simp
                with_reducible rfl
              rotate_left
              · simp only [Act.put, List.setIfInBounds_toArray, List.set_cons_zero, List.set_cons_succ, i64_w, i32_w]
                rfl
              refine pure_ (i := 12) (N := some 37) (v := ?_) (a' := ?_) #[true, true, true, true, true, true, true, true, true, true, true, true, true, true, false] rfl rfl (any_of HT_.out (by kernel_rfl)) (fun _ _ _ h => h) (Or.inl ⟨by rfl, ?_⟩) ?_ ?_
              rotate_left
              · intro w'
                go_simp
                with_reducible rfl
              rotate_left
              · simp only [Act.put, List.setIfInBounds_toArray, List.set_cons_zero, List.set_cons_succ, i64_w, i32_w]
                rfl
              exact norm_ (by simp only [putAll, Act.put, List.setIfInBounds_toArray, List.set_cons_zero, List.set_cons_succ]) (hCont (gb415) _ ⟨hHeld, (by (with_reducible repeat (first | refine blk_drewN ?_ _ | refine blk_drew ?_ | refine blk_alloc ?_ _)); exact BK410.out), (by (with_reducible repeat (first | refine blk_drewN ?_ _ | refine blk_drew ?_ | refine blk_alloc ?_ _)); exact BK411.out), (by (with_reducible repeat (first | refine blk_drewN ?_ _ | refine blk_drew ?_ | refine blk_alloc ?_ _)); exact BK415.out), GW415.out, GE415.out, NB410_415.out, NB415_410.out, NB411_415.out, NB415_411.out, (by repeat (first | (with_reducible first | exact HB.out | apply below_alloc | apply pw_below_drewN | apply below_drew1 | refine below_set ?_ GE410.out | refine below_set ?_ GE411.out | refine below_set ?_ GE415.out) | exact HB.out))⟩)
          rintro gb415 w25 ⟨hS_, h0_, h1_, h2_, h3_, h4_, h5_, h6_, h7_, h8_, h9_⟩
          have n0_ : Aside0 (w25.heap[gb410]? = some (.cells #[.int .i8 a0_0, .int .i8 a0_1, .slice A0_2 l0_2.length c0_2] 28 (0, 0))) := ⟨h0_⟩
          have n1_ : Aside0 (w25.heap[gb411]? = some (.cells #[.int .i8 0, .int .i8 0, .slice none 0 0] 28 (0, 0))) := ⟨h1_⟩
          have n2_ : Aside0 (w25.heap[gb415]? = some (.cells #[.int .i8 0, .int .i8 0, .slice none 0 0] 28 (0, 0))) := ⟨h2_⟩
          have n3_ : Aside0 (w.heap.size ≤ gb415) := ⟨h3_⟩
          have n4_ : Aside0 (w.heap.size ≤ gb415) := ⟨h4_⟩
          have n5_ : Aside0 (gb410 ≠ gb415) := ⟨h5_⟩
          have n6_ : Aside0 (gb415 ≠ gb410) := ⟨h6_⟩
          have n7_ : Aside0 (gb411 ≠ gb415) := ⟨h7_⟩
          have n8_ : Aside0 (gb415 ≠ gb411) := ⟨h8_⟩
          have n9_ : Aside0 (Below w.heap.size w w25) := ⟨h9_⟩
          clear BK410
          clear BK411
          clear HB
          clear h0_ h1_ h2_ h3_ h4_ h5_ h6_ h7_ h8_ h9_
          have BK410 := n0_
          have BK411 := n1_
          have BK415 := n2_
          have GW415 := n3_
          have GE415 := n4_
          have NB410_415 := n5_
          have NB415_410 := n6_
          have NB411_415 := n7_
          have NB415_411 := n8_
          have HB := n9_
          clear n0_ n1_ n2_ n3_ n4_ n5_ n6_ n7_ n8_ n9_
          have hHeld : w25.cell? ⟨gb410, 0, none⟩ = some (.int .i8 a0_0) ∧ w25.cell? ⟨gb410, 1, none⟩ = some (.int .i8 a0_1) ∧ w25.cell? ⟨gb410, 2, none⟩ = some (.slice A0_2 l0_2.length c0_2) := hS_
          refine norm_ (a' := ?_) ?_ ?_
          rotate_left
          · simp only [putAll, Act.put, List.setIfInBounds_toArray, List.set_cons_zero, List.set_cons_succ]
            rfl
          refine one_ (i := 14) (N := none) #[true, true, true, true, true, true, true, true, true, true, true, true, true, true, true] rfl rfl (one_of HT_.out (by kernel_rfl)) (by decide) (fun K hK => ?_)
          have hs26 : w25.cell? ⟨gb415, 0, none⟩ = some (.int .i8 0) := (blk_cell BK415.out 0).trans rfl
          have hfs26 := blk_frozen BK415.out 0
          have hns26_0 := NB410_415.out
          have hns26_1 := NB411_415.out
          have hms26_0 := NB415_410.out
          have hms26_1 := NB415_411.out
          have hs27 : w25.cell? ⟨gb415, 1, none⟩ = some (.int .i8 0) := (blk_cell BK415.out 1).trans rfl
          have hfs27 := blk_frozen BK415.out 1
          have hns27_0 := NB410_415.out
          have hns27_1 := NB411_415.out
          have hms27_0 := NB415_410.out
          have hms27_1 := NB415_411.out
          have hs28 : w25.cell? ⟨gb415, 2, none⟩ = some (.slice none 0 0) := (blk_cell BK415.out 2).trans rfl
          have hfs28 := blk_frozen BK415.out 2
          have hns28_0 := NB410_415.out
          have hns28_1 := NB411_415.out
          have hms28_0 := NB415_410.out
          have hms28_1 := NB415_411.out
          refine skip_ (w1 := ?_) (by rfl) rfl ?_ ?_
          rotate_left
          · go_simp
            rfl
          refine hK.out _ _ ⟨((cell_far (p := ⟨gb415, _, none⟩) NB410_415.out _).trans (((cell_far (p := ⟨gb415, _, none⟩) NB410_415.out _).trans (((cell_far (p := ⟨gb415, _, none⟩) NB410_415.out _).trans (hHeld.1)))))), ((cell_far (p := ⟨gb415, _, none⟩) NB410_415.out _).trans (((cell_far (p := ⟨gb415, _, none⟩) NB410_415.out _).trans (((cell_far (p := ⟨gb415, _, none⟩) NB410_415.out _).trans (hHeld.2.1)))))), ((cell_far (p := ⟨gb415, _, none⟩) NB410_415.out _).trans (((cell_far (p := ⟨gb415, _, none⟩) NB410_415.out _).trans (((cell_far (p := ⟨gb415, _, none⟩) NB410_415.out _).trans (hHeld.2.2))))))⟩ (fun hHeld => ?_)
          clear hK K
          refine done_ (done_of HT_.out (by kernel_rfl)) ?_
          try go_wp2
          go_loopg [8] k (fun kq v8 w' => ∃ (x8_1 : Int) (x416002_1 : List Int) (u416002 : Value), v8 = .int .i64 x8_1 ∧ Aside0 (spec_WithoutThing.l0 kq a1 (IntKind.u16.wrap ((ji17) - 1)) x8_1 a0_0 a0_1 l0_2 (IntKind.i8.wrap (a0_0 - 1)) (IntKind.i8.wrap (t414)) x416002_1 = some (r1, r2, r3, r4)) ∧ Aside0 (kq ≤ k) ∧ Aside0 (Kd.R (Kd.int .u16) 35 w' w.heap.size (fun _ => True) u416002 x416002_1) ∧ Aside0 (w'.heap[gb410]? = some (.cells #[.int .i8 a0_0, .int .i8 a0_1, (.slice A0_2 l0_2.length c0_2)] 28 (0, 0))) ∧ Aside0 (w'.heap[gb411]? = some (.cells #[.int .i8 0, .int .i8 0, (.slice none 0 0)] 28 (0, 0))) ∧ Aside0 (w'.heap[gb415]? = some (.cells #[.int .i8 (IntKind.i8.wrap (a0_0 - 1)), .int .i8 (IntKind.i8.wrap (t414)), u416002] 28 (0, 0))) ∧ Aside0 (Below w.heap.size w w'))
          case atStart => exact ⟨(0), (([] : List Int)), (.slice none 0 0), (by first | rfl | (simp; done) | (simp [*]; done)), H', ⟨Nat.le_refl _⟩, ⟨by first | exact Kd.R_nil _ _ _ _ _ | exact Kd.N_nil _ _ _ _ _ | exact Kd.V_nil _ _ _ _ _ | exact Kd.Q_nil _ _ _ _ _ | exact Kd.S_nil _ _ _ _ _⟩, ⟨by (with_reducible repeat (first | refine blk_drewN ?_ _ | refine blk_drew ?_ | refine blk_alloc ?_ _)); refine blk_far ?_ NB410_415.out _; (with_reducible repeat (first | refine blk_drewN ?_ _ | refine blk_drew ?_ | refine blk_alloc ?_ _)); refine blk_far ?_ NB410_415.out _; (with_reducible repeat (first | refine blk_drewN ?_ _ | refine blk_drew ?_ | refine blk_alloc ?_ _)); refine blk_far ?_ NB410_415.out _; (with_reducible repeat (first | refine blk_drewN ?_ _ | refine blk_drew ?_ | refine blk_alloc ?_ _)); exact BK410.out⟩, ⟨by (with_reducible repeat (first | refine blk_drewN ?_ _ | refine blk_drew ?_ | refine blk_alloc ?_ _)); refine blk_far ?_ NB411_415.out _; (with_reducible repeat (first | refine blk_drewN ?_ _ | refine blk_drew ?_ | refine blk_alloc ?_ _)); refine blk_far ?_ NB411_415.out _; (with_reducible repeat (first | refine blk_drewN ?_ _ | refine blk_drew ?_ | refine blk_alloc ?_ _)); refine blk_far ?_ NB411_415.out _; (with_reducible repeat (first | refine blk_drewN ?_ _ | refine blk_drew ?_ | refine blk_alloc ?_ _)); exact BK411.out⟩, ⟨by (with_reducible repeat (first | refine blk_drewN ?_ _ | refine blk_drew ?_ | refine blk_alloc ?_ _)); refine blk_put (cs := #[.int .i8 (IntKind.i8.wrap (a0_0 - 1)), .int .i8 (IntKind.i8.wrap (t414)), .slice none 0 0]) ?_ 2 _ rfl; (with_reducible repeat (first | refine blk_drewN ?_ _ | refine blk_drew ?_ | refine blk_alloc ?_ _)); refine blk_put (cs := #[.int .i8 (IntKind.i8.wrap (a0_0 - 1)), .int .i8 0, .slice none 0 0]) ?_ 1 _ rfl; (with_reducible repeat (first | refine blk_drewN ?_ _ | refine blk_drew ?_ | refine blk_alloc ?_ _)); refine blk_put (cs := #[.int .i8 0, .int .i8 0, .slice none 0 0]) ?_ 0 _ rfl; (with_reducible repeat (first | refine blk_drewN ?_ _ | refine blk_drew ?_ | refine blk_alloc ?_ _)); exact BK415.out⟩, ⟨by repeat (first | (with_reducible first | exact HB.out | apply below_alloc | apply pw_below_drewN | apply below_drew1 | refine below_set ?_ GE410.out | refine below_set ?_ GE411.out | refine below_set ?_ GE415.out) | exact HB.out)⟩⟩
          case round =>
            clear H'
            try clear c1
            try clear c2
            try clear p2
            try clear c3
            try clear c4
            try clear c5
            try clear c6
            try clear p6
            try clear c7
            try clear c7b0
            try clear c7b1
            try clear c10
            try clear c16
            try clear c16b0
            try clear c16b1
            try clear c20
            try clear hcz11_0
            try clear hcz11_1
            try clear hcz11_2
            try clear hcz12_0
            try clear hcz12_1
            try clear hcz12_2
            try clear hcz13_0
            try clear hcz13_1
            try clear hcz13_2
            try clear hcz21_0
            try clear hcz21_1
            try clear hcz21_2
            try clear hcz22_0
            try clear hcz22_1
            try clear hcz22_2
            try clear hfz11_0
            try clear hfz11_1
            try clear hfz11_2
            try clear hfz12_0
            try clear hfz12_1
            try clear hfz12_2
            try clear hfz13_0
            try clear hfz13_1
            try clear hfz13_2
            try clear hfz21_0
            try clear hfz21_1
            try clear hfz21_2
            try clear hfz22_0
            try clear hfz22_1
            try clear hfz22_2
            obtain ⟨x8_1, x416002_1, u416002, rfl, HA, HK1, HO_416002, BK410, BK411, BK415, HB⟩ := hrel
            cases gk with
            | zero => exact absurd HA.out (by simp [spec_WithoutThing.l0])
            | succ k1 =>
              have H := HA.out
              clear HA
              simp only [spec_WithoutThing.l0] at H
              by_cases c29 : x8_1 < (l0_2.length : Int)
              · rw [if_pos c29] at H
                have c29b0 : decide (x8_1 < (l0_2.length : Int)) = true := decide_eq_true c29
                clear c29
                by_cases c30 : 0 ≤ x8_1
                · rw [if_pos c30] at H
                  have c30b0 : decide (0 ≤ x8_1) = true := decide_eq_true c30
                  clear c30
                  replace H : (if 0 ≤ (ji15) then (if (Int.tmod (shr .u16 (rd l0_2 x8_1) (ji15)) 2) = 0 then (if x416002_1.length < 70368744177664 then (spec_WithoutThing.l0 k1 a1 (IntKind.u16.wrap ((ji17) - 1)) (wrap64 (x8_1 + 1)) a0_0 a0_1 l0_2 (IntKind.i8.wrap (a0_0 - 1)) (IntKind.i8.wrap (t414)) (x416002_1 ++ [Go.bits .or .u16 (Go.bits .and .u16 (rd l0_2 x8_1) (IntKind.u16.wrap ((ji17) - 1))) (Go.bits .andNot .u16 ((rd l0_2 x8_1) / 2) (IntKind.u16.wrap ((ji17) - 1)))])) else (none)) else (spec_WithoutThing.l0 k1 a1 (IntKind.u16.wrap ((ji17) - 1)) (wrap64 (x8_1 + 1)) a0_0 a0_1 l0_2 (IntKind.i8.wrap (a0_0 - 1)) (IntKind.i8.wrap (t414)) x416002_1)) else (none)) = some (r1, r2, r3, r4) := by first | (rw [hji15] at H; exact H) | (simp only [hji15] at H ⊢; exact H)
                  by_cases c31 : 0 ≤ (ji15)
                  · rw [if_pos c31] at H
                    have c31b0 := eq_true c31
                    have c31b1 : decide (0 ≤ (ji15)) = true := decide_eq_true c31
                    clear c31
                    obtain ⟨ji32, hji32⟩ : ∃ j_ : Int, (shr .u16 (rd l0_2 x8_1) (ji15)) = j_ := ⟨_, rfl⟩
                    replace H : (if (Int.tmod (ji32) 2) = 0 then (if x416002_1.length < 70368744177664 then (spec_WithoutThing.l0 k1 a1 (IntKind.u16.wrap ((ji17) - 1)) (wrap64 (x8_1 + 1)) a0_0 a0_1 l0_2 (IntKind.i8.wrap (a0_0 - 1)) (IntKind.i8.wrap (t414)) (x416002_1 ++ [Go.bits .or .u16 (Go.bits .and .u16 (rd l0_2 x8_1) (IntKind.u16.wrap ((ji17) - 1))) (Go.bits .andNot .u16 ((rd l0_2 x8_1) / 2) (IntKind.u16.wrap ((ji17) - 1)))])) else (none)) else (spec_WithoutThing.l0 k1 a1 (IntKind.u16.wrap ((ji17) - 1)) (wrap64 (x8_1 + 1)) a0_0 a0_1 l0_2 (IntKind.i8.wrap (a0_0 - 1)) (IntKind.i8.wrap (t414)) x416002_1)) = some (r1, r2, r3, r4) := by first | (rw [hji32] at H; exact H) | (simp only [hji32] at H ⊢; exact H)
                    have hji32_ : ((rd l0_2 x8_1) / 2 ^ min (ji15).toNat 16) = ji32 := hji32
                    have hji32z : (ji15) ≤ 16 → ((rd l0_2 x8_1) / 2 ^ (ji15).toNat) = ji32 := shr_small hji32
                    by_cases c33 : (Int.tmod (ji32) 2) = 0
                    · rw [if_pos c33] at H
                      have c33b0 : ((Int.tmod (ji32) 2) == 0) = true := beq_iff_eq.mpr c33
                      have c33b1 : ((Int.tmod (ji32) 2) != 0) = false := bne_eq_false_iff_eq.mpr c33
                      clear c33
                      by_cases c34 : x416002_1.length < 70368744177664
                      · rw [if_pos c34] at H
                        have LMc34 := Aside0.mk c34
                        clear c34
                        obtain ⟨y417, hy417⟩ : ∃ y_ : List Int, y_ = (x416002_1 ++ [Go.bits .or .u16 (Go.bits .and .u16 (rd l0_2 x8_1) (IntKind.u16.wrap ((ji17) - 1))) (Go.bits .andNot .u16 ((rd l0_2 x8_1) / 2) (IntKind.u16.wrap ((ji17) - 1)))]) := ⟨_, rfl⟩
                        replace H : (spec_WithoutThing.l0 k1 a1 (IntKind.u16.wrap ((ji17) - 1)) (wrap64 (x8_1 + 1)) a0_0 a0_1 l0_2 (IntKind.i8.wrap (a0_0 - 1)) (IntKind.i8.wrap (t414)) y417) = some (r1, r2, r3, r4) := by first | (rw [hy417]; with_reducible exact H) | (have H2_ := (Option.bind_some _ _).symm.trans H; rw [hy417]; with_reducible exact H2_) | (have H2_ := (Option.bind_some _ _).symm.trans H; with_reducible exact H2_) | with_reducible exact H | (rw [hy417]; exact H) | exact H
                        have Ny417 := Aside0.mk hy417
                        clear hy417
                        have H' := Aside0.mk H
                        clear H
                        have hnb35 := NB410_411.out
                        have hnc35 := NB411_410.out
                        have hnb36 := NB410_415.out
                        have hnc36 := NB415_410.out
                        have hcz37_0 : wr.cell? ⟨gb410, 0, none⟩ = some (.int .i8 a0_0) := (blk_cell BK410.out 0).trans rfl
                        have hcz37_1 : wr.cell? ⟨gb410, 1, none⟩ = some (.int .i8 a0_1) := (blk_cell BK410.out 1).trans rfl
                        have hcz37_2 : wr.cell? ⟨gb410, 2, none⟩ = some (.slice A0_2 l0_2.length c0_2) := (blk_cell BK410.out 2).trans rfl
                        have hfz37_0 := blk_frozen BK410.out 0
                        have hfz37_1 := blk_frozen BK410.out 1
                        have hfz37_2 := blk_frozen BK410.out 2
                        have p416 : 0 ≤ (x8_1 : Int) := of_decide_eq_true (by first | (with_reducible assumption) | assumption)
                        have q416 : x8_1 < (l0_2.length : Int) := of_decide_eq_true (by first | (with_reducible assumption) | assumption)
                        obtain ⟨ad416, e416, hx416_0⟩ := Kd.at_int HR0_2.out x8_1 p416 q416
                        cases e416
                        replace hx416_0 := (HB.out.cell (World.block_lt_of_cell? w _ hx416_0)).trans hx416_0
                        replace p416 := eq_true p416
                        replace q416 := eq_true q416
                        have hnb38 := NB415_411.out
                        have hnc38 := NB411_415.out
                        have hcz39_0 : wr.cell? ⟨gb415, 0, none⟩ = some (.int .i8 (IntKind.i8.wrap (a0_0 - 1))) := (blk_cell BK415.out 0).trans rfl
                        have hcz39_1 : wr.cell? ⟨gb415, 1, none⟩ = some (.int .i8 (IntKind.i8.wrap (t414))) := (blk_cell BK415.out 1).trans rfl
                        have hcz39_2 : wr.cell? ⟨gb415, 2, none⟩ = some (u416002) := (blk_cell BK415.out 2).trans rfl
                        have hfz39_0 := blk_frozen BK415.out 0
                        have hfz39_1 := blk_frozen BK415.out 1
                        have hfz39_2 := blk_frozen BK415.out 2
                        go_wp2_with (first | ((with_reducible refine gate_builtin (b := .append) (xs := #[.tmp 61, .tmp 70]) rfl ?_); at_builtin; refine Kd.R_append (Kd.int .u16) (w0 := w) w.heap.size rfl (.tmp 61) (.tmp 70) 23 35 (.int .u16 0) 2 rfl Try.underlying23 info35 rfl (by decide) (by omega) u416002 x416002_1 (Go.bits .or .u16 (Go.bits .and .u16 (rd l0_2 x8_1) (IntKind.u16.wrap ((ji17) - 1))) (Go.bits .andNot .u16 ((rd l0_2 x8_1) / 2) (IntKind.u16.wrap ((ji17) - 1)))) [.int .u16 (Go.bits .or .u16 (Go.bits .and .u16 (rd l0_2 x8_1) (IntKind.u16.wrap ((ji17) - 1))) (Go.bits .andNot .u16 ((rd l0_2 x8_1) / 2) (IntKind.u16.wrap ((ji17) - 1))))] (fun _ => True) (fun _ => False) rfl rfl ?aP (fun _ hk => hk.elim) ?aF ?aO ?aB ?aS ?aL ?_; (case aP => exact rfl); (case aB => exact (by repeat (first | (with_reducible first | exact HB.out | apply below_alloc | apply pw_below_drewN | apply below_drew1 | refine below_set ?_ GE410.out | refine below_set ?_ GE411.out | refine below_set ?_ GE415.out) | exact HB.out))); (case aF => exact (fun _ _ => trivial)); (case aO => exact (by (with_reducible repeat (first | apply Kd.R_alloc | apply Kd.R_drewN | apply Kd.R_drew)); exact HO_416002.out)); (case aS => exact (below_size (by repeat (first | (with_reducible first | exact HB.out | apply below_alloc | apply pw_below_drewN | apply below_drew1 | refine below_set ?_ GE410.out | refine below_set ?_ GE411.out | refine below_set ?_ GE415.out) | exact HB.out)))); (case aL => have := LMc34.out; omega); intro v418 w40 ho hb hg hat; rw [← Ny417.out] at ho; have n0_ := Aside0.mk (blk_grown (g := gb410) (o := .cells #[.int .i8 a0_0, .int .i8 a0_1, .slice (some ad416) l0_2.length c0_2] 28 (0, 0)) (by (with_reducible repeat (first | refine blk_drewN ?_ _ | refine blk_drew ?_ | refine blk_alloc ?_ _)); exact BK410.out) hg (Kd.R_ne HO_416002.out BK410.out (by decide))); have n1_ := Aside0.mk (blk_grown (g := gb411) (o := .cells #[.int .i8 0, .int .i8 0, .slice none 0 0] 28 (0, 0)) (by (with_reducible repeat (first | refine blk_drewN ?_ _ | refine blk_drew ?_ | refine blk_alloc ?_ _)); exact BK411.out) hg (Kd.R_ne HO_416002.out BK411.out (by decide))); have n2_ := Aside0.mk (blk_grown (g := gb415) (o := .cells #[.int .i8 (IntKind.i8.wrap (a0_0 - 1)), .int .i8 (IntKind.i8.wrap (t414)), u416002] 28 (0, 0)) (by (with_reducible repeat (first | refine blk_drewN ?_ _ | refine blk_drew ?_ | refine blk_alloc ?_ _)); exact BK415.out) hg (Kd.R_ne HO_416002.out BK415.out (by decide))); have n3_ := Aside0.mk (hb); have n4_ := Aside0.mk (ho); clear BK410; clear BK411; clear BK415; clear HB; clear HO_416002; have BK410 := n0_; have BK411 := n1_; have BK415 := n2_; have HB := n3_; have HO419 := n4_; clear n0_ n1_ n2_ n3_ n4_; clear ho hb hg hat; obtain ⟨Ao41, co41, eo41⟩ := Kd.R_slice HO419.out; subst eo41; have hcz42_0 : w40.cell? ⟨gb415, 0, none⟩ = some (.int .i8 (IntKind.i8.wrap (a0_0 - 1))) := (blk_cell BK415.out 0).trans rfl; have hcz42_1 : w40.cell? ⟨gb415, 1, none⟩ = some (.int .i8 (IntKind.i8.wrap (t414))) := (blk_cell BK415.out 1).trans rfl; have hcz42_2 : w40.cell? ⟨gb415, 2, none⟩ = some (u416002) := (blk_cell BK415.out 2).trans rfl; have hfz42_0 := blk_frozen BK415.out 0; have hfz42_1 := blk_frozen BK415.out 1; have hfz42_2 := blk_frozen BK415.out 2))
                        go_roundg k1
                        case measure => have := HK1.out; omega
                        case rel => exact ⟨(wrap64 (x8_1 + 1)), (y417), (.slice Ao41 y417.length co41), (by first | rfl | (simp; done) | (simp [*]; done)), H', ⟨by have := HK1.out; omega⟩, ⟨by (with_reducible repeat (first | apply Kd.R_alloc | apply Kd.R_drewN | apply Kd.R_drew)); exact Kd.R_mono (Kd.R_far (p := ⟨gb415, 2, none⟩) (Kd.R_types HO419.out BK415.out (by decide)) (fun _ hk => hk.2) (.slice Ao41 y417.length co41)) (fun _ hk => trivial)⟩, ⟨by (with_reducible repeat (first | refine blk_drewN ?_ _ | refine blk_drew ?_ | refine blk_alloc ?_ _)); refine blk_far ?_ NB410_415.out _; (with_reducible repeat (first | refine blk_drewN ?_ _ | refine blk_drew ?_ | refine blk_alloc ?_ _)); exact BK410.out⟩, ⟨by (with_reducible repeat (first | refine blk_drewN ?_ _ | refine blk_drew ?_ | refine blk_alloc ?_ _)); refine blk_far ?_ NB411_415.out _; (with_reducible repeat (first | refine blk_drewN ?_ _ | refine blk_drew ?_ | refine blk_alloc ?_ _)); exact BK411.out⟩, ⟨by (with_reducible repeat (first | refine blk_drewN ?_ _ | refine blk_drew ?_ | refine blk_alloc ?_ _)); refine blk_put (cs := #[.int .i8 (IntKind.i8.wrap (a0_0 - 1)), .int .i8 (IntKind.i8.wrap (t414)), u416002]) ?_ 2 _ rfl; (with_reducible repeat (first | refine blk_drewN ?_ _ | refine blk_drew ?_ | refine blk_alloc ?_ _)); exact BK415.out⟩, ⟨by repeat (first | (with_reducible first | exact HB.out | apply below_alloc | apply pw_below_drewN | apply below_drew1 | refine below_set ?_ GE410.out | refine below_set ?_ GE411.out | refine below_set ?_ GE415.out) | exact HB.out)⟩⟩
                      · rw [if_neg c34] at H
                        exact absurd H (by simp)
                    · rw [if_neg c33] at H
                      have c33b0 : ((Int.tmod (ji32) 2) == 0) = false := beq_eq_false_iff_ne.mpr c33
                      have c33b1 : ((Int.tmod (ji32) 2) != 0) = true := bne_iff_ne.mpr c33
                      have H' := Aside0.mk H
                      clear H
                      have hnb43 := NB410_411.out
                      have hnc43 := NB411_410.out
                      have hnb44 := NB410_415.out
                      have hnc44 := NB415_410.out
                      have hcz45_0 : wr.cell? ⟨gb410, 0, none⟩ = some (.int .i8 a0_0) := (blk_cell BK410.out 0).trans rfl
                      have hcz45_1 : wr.cell? ⟨gb410, 1, none⟩ = some (.int .i8 a0_1) := (blk_cell BK410.out 1).trans rfl
                      have hcz45_2 : wr.cell? ⟨gb410, 2, none⟩ = some (.slice A0_2 l0_2.length c0_2) := (blk_cell BK410.out 2).trans rfl
                      have hfz45_0 := blk_frozen BK410.out 0
                      have hfz45_1 := blk_frozen BK410.out 1
                      have hfz45_2 := blk_frozen BK410.out 2
                      have p416 : 0 ≤ (x8_1 : Int) := of_decide_eq_true (by first | (with_reducible assumption) | assumption)
                      have q416 : x8_1 < (l0_2.length : Int) := of_decide_eq_true (by first | (with_reducible assumption) | assumption)
                      obtain ⟨ad416, e416, hx416_0⟩ := Kd.at_int HR0_2.out x8_1 p416 q416
                      cases e416
                      replace hx416_0 := (HB.out.cell (World.block_lt_of_cell? w _ hx416_0)).trans hx416_0
                      replace p416 := eq_true p416
                      replace q416 := eq_true q416
                      go_wp2
                      go_roundg k1
                      case measure => have := HK1.out; omega
                      case rel => exact ⟨(wrap64 (x8_1 + 1)), (x416002_1), (u416002), (by first | rfl | (simp; done) | (simp [*]; done)), H', ⟨by have := HK1.out; omega⟩, ⟨by (with_reducible repeat (first | apply Kd.R_alloc | apply Kd.R_drewN | apply Kd.R_drew)); exact HO_416002.out⟩, ⟨by (with_reducible repeat (first | refine blk_drewN ?_ _ | refine blk_drew ?_ | refine blk_alloc ?_ _)); exact BK410.out⟩, ⟨by (with_reducible repeat (first | refine blk_drewN ?_ _ | refine blk_drew ?_ | refine blk_alloc ?_ _)); exact BK411.out⟩, ⟨by (with_reducible repeat (first | refine blk_drewN ?_ _ | refine blk_drew ?_ | refine blk_alloc ?_ _)); exact BK415.out⟩, ⟨by repeat (first | (with_reducible first | exact HB.out | apply below_alloc | apply pw_below_drewN | apply below_drew1 | refine below_set ?_ GE410.out | refine below_set ?_ GE411.out | refine below_set ?_ GE415.out) | exact HB.out)⟩⟩
                  · rw [if_neg c31] at H
                    exact absurd H (by simp)
                · rw [if_neg c30] at H
                  exact absurd H (by simp)
              · rw [if_neg c29] at H
                have c29b0 : decide (x8_1 < (l0_2.length : Int)) = false := decide_eq_false c29
                clear c29
                simp only [Option.some.injEq, Prod.mk.injEq] at H
                obtain ⟨rfl, rfl, rfl, rfl⟩ := H
                have hnb46 := NB410_411.out
                have hnc46 := NB411_410.out
                have hnb47 := NB410_415.out
                have hnc47 := NB415_410.out
                have hcz48_0 : wr.cell? ⟨gb410, 0, none⟩ = some (.int .i8 a0_0) := (blk_cell BK410.out 0).trans rfl
                have hcz48_1 : wr.cell? ⟨gb410, 1, none⟩ = some (.int .i8 a0_1) := (blk_cell BK410.out 1).trans rfl
                have hcz48_2 : wr.cell? ⟨gb410, 2, none⟩ = some (.slice A0_2 l0_2.length c0_2) := (blk_cell BK410.out 2).trans rfl
                have hfz48_0 := blk_frozen BK410.out 0
                have hfz48_1 := blk_frozen BK410.out 1
                have hfz48_2 := blk_frozen BK410.out 2
                have hnb49 := NB415_411.out
                have hnc49 := NB411_415.out
                have hcz50_0 : wr.cell? ⟨gb415, 0, none⟩ = some (.int .i8 (IntKind.i8.wrap (a0_0 - 1))) := (blk_cell BK415.out 0).trans rfl
                have hcz50_1 : wr.cell? ⟨gb415, 1, none⟩ = some (.int .i8 (IntKind.i8.wrap (t414))) := (blk_cell BK415.out 1).trans rfl
                have hcz50_2 : wr.cell? ⟨gb415, 2, none⟩ = some (u416002) := (blk_cell BK415.out 2).trans rfl
                have hfz50_0 := blk_frozen BK415.out 0
                have hfz50_1 := blk_frozen BK415.out 1
                have hfz50_2 := blk_frozen BK415.out 2
                have hcz51_0 : wr.cell? ⟨gb411, 0, none⟩ = some (.int .i8 0) := (blk_cell BK411.out 0).trans rfl
                have hcz51_1 : wr.cell? ⟨gb411, 1, none⟩ = some (.int .i8 0) := (blk_cell BK411.out 1).trans rfl
                have hcz51_2 : wr.cell? ⟨gb411, 2, none⟩ = some (.slice none 0 0) := (blk_cell BK411.out 2).trans rfl
                have hfz51_0 := blk_frozen BK411.out 0
                have hfz51_1 := blk_frozen BK411.out 1
                have hfz51_2 := blk_frozen BK411.out 2
                obtain ⟨Ao52, co52, eo52⟩ := Kd.R_slice HO_416002.out
                subst eo52
                go_wp2
                refine bodyPost_ret (results_ct rfl _ _ gb411 28 #[.int .i8 (IntKind.i8.wrap (a0_0 - 1)), .int .i8 (IntKind.i8.wrap (t414)), .slice Ao52 x416002_1.length co52] (0, 0) _ rfl (by (with_reducible repeat (first | refine blk_drewN ?_ _ | refine blk_drew ?_ | refine blk_alloc ?_ _)); refine blk_put (cs := #[.int .i8 (IntKind.i8.wrap (a0_0 - 1)), .int .i8 (IntKind.i8.wrap (t414)), .slice none 0 0]) ?_ 2 _ rfl; (with_reducible repeat (first | refine blk_drewN ?_ _ | refine blk_drew ?_ | refine blk_alloc ?_ _)); refine blk_put (cs := #[.int .i8 (IntKind.i8.wrap (a0_0 - 1)), .int .i8 0, .slice none 0 0]) ?_ 1 _ rfl; (with_reducible repeat (first | refine blk_drewN ?_ _ | refine blk_drew ?_ | refine blk_alloc ?_ _)); refine blk_put (cs := #[.int .i8 0, .int .i8 0, .slice none 0 0]) ?_ 0 _ rfl; (with_reducible repeat (first | refine blk_drewN ?_ _ | refine blk_drew ?_ | refine blk_alloc ?_ _)); exact BK411.out) Try.underlying28 rfl (by kernel_rfl)) rfl ?_
                exact ⟨_, by first | rfl | (simp [errW_none, errW_some] <;> rfl) | (simp only [← hji15, ← hji17]; first | rfl | (simp [errW_none, errW_some] <;> rfl)) | (simp [*, errW_none, errW_some] <;> rfl), by (with_reducible repeat (first | apply Kd.R_alloc | apply Kd.R_drewN | apply Kd.R_drew)); exact Kd.R_mono (Kd.R_far (p := ⟨gb411, 2, none⟩) (Kd.R_far (p := ⟨gb411, 1, none⟩) (Kd.R_far (p := ⟨gb411, 0, none⟩) (Kd.R_types HO_416002.out BK411.out (by decide)) (fun _ hk => hk.2) (.int .i8 (IntKind.i8.wrap (a0_0 - 1)))) (fun _ hk => hk.2) (.int .i8 (IntKind.i8.wrap (t414)))) (fun _ hk => hk.2) (.slice Ao52 x416002_1.length co52)) (fun _ hk => trivial), by repeat (first | (with_reducible first | exact HB.out | apply below_alloc | apply pw_below_drewN | apply below_drew1 | refine below_set ?_ GE410.out | refine below_set ?_ GE411.out | refine below_set ?_ GE415.out) | exact HB.out)⟩
        · rw [if_neg c16] at H
          exact absurd H (by simp)
    · replace c6 := Bool.eq_false_iff.mpr c6
      subst c6
      have H1 : (some (0, 0, ([] : List Int), 2)) = some (r1, r2, r3, r4) := by rw [if_neg (show ¬ (false = true) by decide)] at H; exact H
      clear H
      have H := H1
      clear H1
      simp only [Option.some.injEq, Prod.mk.injEq] at H
      obtain ⟨rfl, rfl, rfl, rfl⟩ := H
      go_enter Try.func30, Try.ntmps30
      go_wp2_with (first | ((with_reducible refine gate_dst (N := 2) rfl ?_); refine box_event ?hg (N := 2) ?hd (cs := #[.int .i8 a0_0, .int .i8 a0_1, .slice A0_2 l0_2.length c0_2]) (t := 28) ?hr ?_; (case hd => rfl); (case hg => rfl); (case hr => first | (go_simp; done) | (go_simp; rfl)); intro gb410 hg w53 hbox hb; have n0_ := Aside0.mk (below_step (by repeat (first | (with_reducible first | exact HB.out | apply below_alloc | apply pw_below_drewN | apply below_drew1) | exact HB.out)) hb); have n1_ := Aside0.mk (hbox); have n2_ := Aside0.mk ((by rw [hg]; exact (below_size (by repeat (first | (with_reducible first | exact HB.out | apply below_alloc | apply pw_below_drewN | apply below_drew1) | exact HB.out))) : w.heap.size ≤ gb410)); have n3_ := Aside0.mk ((by rw [hg]; exact (below_size (by repeat (first | (with_reducible first | exact HB.out | apply below_alloc | apply pw_below_drewN | apply below_drew1) | exact HB.out))) : w.heap.size ≤ gb410)); clear HB; have HB := n0_; have BK410 := n1_; have GW410 := n2_; have GE410 := n3_; clear n0_ n1_ n2_ n3_; clear hb hbox hg) | ((with_reducible refine gate_dst (N := 4) rfl ?_); refine box_event ?hg (N := 4) ?hd (cs := #[.int .i8 0, .int .i8 0, .slice none 0 0]) (t := 28) ?hr ?_; (case hd => rfl); (case hg => rfl); (case hr => first | (go_simp; done) | (go_simp; rfl)); intro gb411 hg w54 hbox hb; have n0_ := Aside0.mk (blk_below (g := gb410) (o := .cells #[.int .i8 a0_0, .int .i8 a0_1, .slice A0_2 l0_2.length c0_2] 28 (0, 0)) (by (with_reducible repeat (first | refine blk_drewN ?_ _ | refine blk_drew ?_ | refine blk_alloc ?_ _)); exact BK410.out) hb); have n1_ := Aside0.mk (below_step (by repeat (first | (with_reducible first | exact HB.out | apply below_alloc | apply pw_below_drewN | apply below_drew1 | refine below_set ?_ GE410.out) | exact HB.out)) hb); have n2_ := Aside0.mk (hbox); have n3_ := Aside0.mk ((by rw [hg]; exact (below_size (by repeat (first | (with_reducible first | exact HB.out | apply below_alloc | apply pw_below_drewN | apply below_drew1 | refine below_set ?_ GE410.out) | exact HB.out))) : w.heap.size ≤ gb411)); have n4_ := Aside0.mk ((by rw [hg]; exact (below_size (by repeat (first | (with_reducible first | exact HB.out | apply below_alloc | apply pw_below_drewN | apply below_drew1 | refine below_set ?_ GE410.out) | exact HB.out))) : w.heap.size ≤ gb411)); have n5_ := Aside0.mk ((by rw [hg]; exact Nat.ne_of_lt (blk_lt (g := gb410) (o := .cells #[.int .i8 a0_0, .int .i8 a0_1, .slice A0_2 l0_2.length c0_2] 28 (0, 0)) (by (with_reducible repeat (first | refine blk_drewN ?_ _ | refine blk_drew ?_ | refine blk_alloc ?_ _)); exact BK410.out)) : gb410 ≠ gb411)); have n6_ := Aside0.mk ((by rw [hg]; exact Nat.ne_of_gt (blk_lt (g := gb410) (o := .cells #[.int .i8 a0_0, .int .i8 a0_1, .slice A0_2 l0_2.length c0_2] 28 (0, 0)) (by (with_reducible repeat (first | refine blk_drewN ?_ _ | refine blk_drew ?_ | refine blk_alloc ?_ _)); exact BK410.out)) : gb411 ≠ gb410)); clear BK410; clear HB; have BK410 := n0_; have HB := n1_; have BK411 := n2_; have GW411 := n3_; have GE411 := n4_; have NB410_411 := n5_; have NB411_410 := n6_; clear n0_ n1_ n2_ n3_ n4_ n5_ n6_; clear hb hbox hg) | ((with_reducible refine gate_callee (f := 42) rfl ?_); refine goesL_ (some 10) rfl rfl Try.func42 (by kernel_rfl) rfl #[.pointer (some ⟨gb410, 0, none⟩)] rfl (by (try simp only [List.map_toArray, List.map_cons, List.map_nil]); first | done | rfl | (simp only [List.length_drop, List.length_take]; rfl)) ?_; (with_reducible refine (spec_l05Ok.calls k gb410 a0_0 a0_1 A0_2 c0_2 l0_2 true _ ?side1 ?side2 ?side3 A3.out).mono ?_); (case side1 => (with_reducible repeat (first | refine blk_drewN ?_ _ | refine blk_drew ?_ | refine blk_alloc ?_ _)); exact BK410.out); (case side2 => repeat (first | exact (Kd.C_below HR0_2.out HB.out) | (with_reducible refine Kd.C_alloc ?_ _) | (with_reducible refine Kd.C_drewN ?_ _) | (with_reducible refine Kd.C_drew ?_))); (case side3 => exact HC0_2.out); rintro e w' ⟨rfl, ⟨nd, rfl⟩⟩; refine ⟨_, rfl, ?_⟩; (try (rw [drewN_self w54]; generalize hq_ : World.drewN w54 _ = w54; have n0_ : Aside0 (w54.heap[gb410]? = some (.cells #[.int .i8 a0_0, .int .i8 a0_1, .slice A0_2 l0_2.length c0_2] 28 (0, 0))) := ⟨by rw [← hq_]; exact (by (with_reducible repeat (first | refine blk_drewN ?_ _ | refine blk_drew ?_ | refine blk_alloc ?_ _)); exact BK410.out)⟩; have n1_ : Aside0 (w54.heap[gb411]? = some (.cells #[.int .i8 0, .int .i8 0, .slice none 0 0] 28 (0, 0))) := ⟨by rw [← hq_]; exact (by (with_reducible repeat (first | refine blk_drewN ?_ _ | refine blk_drew ?_ | refine blk_alloc ?_ _)); exact BK411.out)⟩; have n2_ : Aside0 (Below w.heap.size w w54) := ⟨by rw [← hq_]; exact (by repeat (first | (with_reducible first | exact HB.out | apply below_alloc | apply pw_below_drewN | apply below_drew1 | refine below_set ?_ GE410.out | refine below_set ?_ GE411.out) | exact HB.out))⟩; clear BK410 BK411 HB hq_; have BK410 := n0_; have BK411 := n1_; have HB := n2_; clear n0_ n1_ n2_)); have hnb55 := NB410_411.out; have hnc55 := NB411_410.out; have hcz56_0 : w54.cell? ⟨gb410, 0, none⟩ = some (.int .i8 a0_0) := (blk_cell BK410.out 0).trans rfl; have hcz56_1 : w54.cell? ⟨gb410, 1, none⟩ = some (.int .i8 a0_1) := (blk_cell BK410.out 1).trans rfl; have hcz56_2 : w54.cell? ⟨gb410, 2, none⟩ = some (.slice A0_2 l0_2.length c0_2) := (blk_cell BK410.out 2).trans rfl; have hfz56_0 := blk_frozen BK410.out 0; have hfz56_1 := blk_frozen BK410.out 1; have hfz56_2 := blk_frozen BK410.out 2) | ((with_reducible refine gate_callee (f := 59) rfl ?_); refine goesL_ (some 18) rfl rfl Try.func59 (by kernel_rfl) rfl #[.int .i64 a1, .int .i64 0, .int .i64 (wrap64 ((wrap64 (a0_0)) - 1))] rfl (by (try simp only [List.map_toArray, List.map_cons, List.map_nil]); first | done | rfl | (simp only [List.length_drop, List.length_take]; rfl)) ?_; (with_reducible refine (spec_l00In.calls a1 0 (wrap64 ((wrap64 (a0_0)) - 1)) false _ A5.out).mono ?_); rintro e w' ⟨rfl, ⟨nd, rfl⟩⟩; refine ⟨_, rfl, ?_⟩; (try (rw [drewN_self w54]; generalize hq_ : World.drewN w54 _ = w54; have n0_ : Aside0 (w54.heap[gb410]? = some (.cells #[.int .i8 a0_0, .int .i8 a0_1, .slice A0_2 l0_2.length c0_2] 28 (0, 0))) := ⟨by rw [← hq_]; exact (by (with_reducible repeat (first | refine blk_drewN ?_ _ | refine blk_drew ?_ | refine blk_alloc ?_ _)); exact BK410.out)⟩; have n1_ : Aside0 (w54.heap[gb411]? = some (.cells #[.int .i8 0, .int .i8 0, .slice none 0 0] 28 (0, 0))) := ⟨by rw [← hq_]; exact (by (with_reducible repeat (first | refine blk_drewN ?_ _ | refine blk_drew ?_ | refine blk_alloc ?_ _)); exact BK411.out)⟩; have n2_ : Aside0 (Below w.heap.size w w54) := ⟨by rw [← hq_]; exact (by repeat (first | (with_reducible first | exact HB.out | apply below_alloc | apply pw_below_drewN | apply below_drew1 | refine below_set ?_ GE410.out | refine below_set ?_ GE411.out) | exact HB.out))⟩; clear BK410 BK411 HB hq_; have BK410 := n0_; have BK411 := n1_; have HB := n2_; clear n0_ n1_ n2_)); have hcz57_0 : w54.cell? ⟨gb411, 0, none⟩ = some (.int .i8 0) := (blk_cell BK411.out 0).trans rfl; have hcz57_1 : w54.cell? ⟨gb411, 1, none⟩ = some (.int .i8 0) := (blk_cell BK411.out 1).trans rfl; have hcz57_2 : w54.cell? ⟨gb411, 2, none⟩ = some (.slice none 0 0) := (blk_cell BK411.out 2).trans rfl; have hfz57_0 := blk_frozen BK411.out 0; have hfz57_1 := blk_frozen BK411.out 1; have hfz57_2 := blk_frozen BK411.out 2))
      refine bodyPost_ret (results_ct rfl _ _ gb411 28 #[.int .i8 0, .int .i8 0, .slice none 0 0] (0, 0) _ rfl (by (with_reducible repeat (first | refine blk_drewN ?_ _ | refine blk_drew ?_ | refine blk_alloc ?_ _)); refine blk_put (cs := #[.int .i8 0, .int .i8 0, .slice none 0 0]) ?_ 2 _ rfl; (with_reducible repeat (first | refine blk_drewN ?_ _ | refine blk_drew ?_ | refine blk_alloc ?_ _)); refine blk_put (cs := #[.int .i8 0, .int .i8 0, .slice none 0 0]) ?_ 1 _ rfl; (with_reducible repeat (first | refine blk_drewN ?_ _ | refine blk_drew ?_ | refine blk_alloc ?_ _)); refine blk_put (cs := #[.int .i8 0, .int .i8 0, .slice none 0 0]) ?_ 0 _ rfl; (with_reducible repeat (first | refine blk_drewN ?_ _ | refine blk_drew ?_ | refine blk_alloc ?_ _)); exact BK411.out) Try.underlying28 rfl (by kernel_rfl)) rfl ?_
      exact ⟨_, by first | rfl | (simp [errW_none, errW_some] <;> rfl) | (simp [*, errW_none, errW_some] <;> rfl), by first | exact Kd.R_nil _ _ _ _ _ | exact Kd.N_nil _ _ _ _ _ | exact Kd.V_nil _ _ _ _ _ | exact Kd.Q_nil _ _ _ _ _ | exact Kd.S_nil _ _ _ _ _, by repeat (first | (with_reducible first | exact HB.out | apply below_alloc | apply pw_below_drewN | apply below_drew1 | refine below_set ?_ GE410.out | refine below_set ?_ GE411.out) | exact HB.out)⟩
  · replace c4 := Bool.eq_false_iff.mpr c4
    subst c4
    have H1 : (some (0, 0, ([] : List Int), 1)) = some (r1, r2, r3, r4) := by rw [if_neg (show ¬ (false = true) by decide)] at H; exact H
    clear H
    have H := H1
    clear H1
    simp only [Option.some.injEq, Prod.mk.injEq] at H
    obtain ⟨rfl, rfl, rfl, rfl⟩ := H
    go_enter Try.func30, Try.ntmps30
    go_wp2_with (first | ((with_reducible refine gate_dst (N := 2) rfl ?_); refine box_event ?hg (N := 2) ?hd (cs := #[.int .i8 a0_0, .int .i8 a0_1, .slice A0_2 l0_2.length c0_2]) (t := 28) ?hr ?_; (case hd => rfl); (case hg => rfl); (case hr => first | (go_simp; done) | (go_simp; rfl)); intro gb410 hg w58 hbox hb; have n0_ := Aside0.mk (below_step (by repeat (first | (with_reducible first | exact HB.out | apply below_alloc | apply pw_below_drewN | apply below_drew1) | exact HB.out)) hb); have n1_ := Aside0.mk (hbox); have n2_ := Aside0.mk ((by rw [hg]; exact (below_size (by repeat (first | (with_reducible first | exact HB.out | apply below_alloc | apply pw_below_drewN | apply below_drew1) | exact HB.out))) : w.heap.size ≤ gb410)); have n3_ := Aside0.mk ((by rw [hg]; exact (below_size (by repeat (first | (with_reducible first | exact HB.out | apply below_alloc | apply pw_below_drewN | apply below_drew1) | exact HB.out))) : w.heap.size ≤ gb410)); clear HB; have HB := n0_; have BK410 := n1_; have GW410 := n2_; have GE410 := n3_; clear n0_ n1_ n2_ n3_; clear hb hbox hg) | ((with_reducible refine gate_dst (N := 4) rfl ?_); refine box_event ?hg (N := 4) ?hd (cs := #[.int .i8 0, .int .i8 0, .slice none 0 0]) (t := 28) ?hr ?_; (case hd => rfl); (case hg => rfl); (case hr => first | (go_simp; done) | (go_simp; rfl)); intro gb411 hg w59 hbox hb; have n0_ := Aside0.mk (blk_below (g := gb410) (o := .cells #[.int .i8 a0_0, .int .i8 a0_1, .slice A0_2 l0_2.length c0_2] 28 (0, 0)) (by (with_reducible repeat (first | refine blk_drewN ?_ _ | refine blk_drew ?_ | refine blk_alloc ?_ _)); exact BK410.out) hb); have n1_ := Aside0.mk (below_step (by repeat (first | (with_reducible first | exact HB.out | apply below_alloc | apply pw_below_drewN | apply below_drew1 | refine below_set ?_ GE410.out) | exact HB.out)) hb); have n2_ := Aside0.mk (hbox); have n3_ := Aside0.mk ((by rw [hg]; exact (below_size (by repeat (first | (with_reducible first | exact HB.out | apply below_alloc | apply pw_below_drewN | apply below_drew1 | refine below_set ?_ GE410.out) | exact HB.out))) : w.heap.size ≤ gb411)); have n4_ := Aside0.mk ((by rw [hg]; exact (below_size (by repeat (first | (with_reducible first | exact HB.out | apply below_alloc | apply pw_below_drewN | apply below_drew1 | refine below_set ?_ GE410.out) | exact HB.out))) : w.heap.size ≤ gb411)); have n5_ := Aside0.mk ((by rw [hg]; exact Nat.ne_of_lt (blk_lt (g := gb410) (o := .cells #[.int .i8 a0_0, .int .i8 a0_1, .slice A0_2 l0_2.length c0_2] 28 (0, 0)) (by (with_reducible repeat (first | refine blk_drewN ?_ _ | refine blk_drew ?_ | refine blk_alloc ?_ _)); exact BK410.out)) : gb410 ≠ gb411)); have n6_ := Aside0.mk ((by rw [hg]; exact Nat.ne_of_gt (blk_lt (g := gb410) (o := .cells #[.int .i8 a0_0, .int .i8 a0_1, .slice A0_2 l0_2.length c0_2] 28 (0, 0)) (by (with_reducible repeat (first | refine blk_drewN ?_ _ | refine blk_drew ?_ | refine blk_alloc ?_ _)); exact BK410.out)) : gb411 ≠ gb410)); clear BK410; clear HB; have BK410 := n0_; have HB := n1_; have BK411 := n2_; have GW411 := n3_; have GE411 := n4_; have NB410_411 := n5_; have NB411_410 := n6_; clear n0_ n1_ n2_ n3_ n4_ n5_ n6_; clear hb hbox hg) | ((with_reducible refine gate_callee (f := 42) rfl ?_); refine goesL_ (some 10) rfl rfl Try.func42 (by kernel_rfl) rfl #[.pointer (some ⟨gb410, 0, none⟩)] rfl (by (try simp only [List.map_toArray, List.map_cons, List.map_nil]); first | done | rfl | (simp only [List.length_drop, List.length_take]; rfl)) ?_; (with_reducible refine (spec_l05Ok.calls k gb410 a0_0 a0_1 A0_2 c0_2 l0_2 false _ ?side1 ?side2 ?side3 A3.out).mono ?_); (case side1 => (with_reducible repeat (first | refine blk_drewN ?_ _ | refine blk_drew ?_ | refine blk_alloc ?_ _)); exact BK410.out); (case side2 => repeat (first | exact (Kd.C_below HR0_2.out HB.out) | (with_reducible refine Kd.C_alloc ?_ _) | (with_reducible refine Kd.C_drewN ?_ _) | (with_reducible refine Kd.C_drew ?_))); (case side3 => exact HC0_2.out); rintro e w' ⟨rfl, ⟨nd, rfl⟩⟩; refine ⟨_, rfl, ?_⟩; (try (rw [drewN_self w59]; generalize hq_ : World.drewN w59 _ = w59; have n0_ : Aside0 (w59.heap[gb410]? = some (.cells #[.int .i8 a0_0, .int .i8 a0_1, .slice A0_2 l0_2.length c0_2] 28 (0, 0))) := ⟨by rw [← hq_]; exact (by (with_reducible repeat (first | refine blk_drewN ?_ _ | refine blk_drew ?_ | refine blk_alloc ?_ _)); exact BK410.out)⟩; have n1_ : Aside0 (w59.heap[gb411]? = some (.cells #[.int .i8 0, .int .i8 0, .slice none 0 0] 28 (0, 0))) := ⟨by rw [← hq_]; exact (by (with_reducible repeat (first | refine blk_drewN ?_ _ | refine blk_drew ?_ | refine blk_alloc ?_ _)); exact BK411.out)⟩; have n2_ : Aside0 (Below w.heap.size w w59) := ⟨by rw [← hq_]; exact (by repeat (first | (with_reducible first | exact HB.out | apply below_alloc | apply pw_below_drewN | apply below_drew1 | refine below_set ?_ GE410.out | refine below_set ?_ GE411.out) | exact HB.out))⟩; clear BK410 BK411 HB hq_; have BK410 := n0_; have BK411 := n1_; have HB := n2_; clear n0_ n1_ n2_)); have hnb60 := NB411_410.out; have hnc60 := NB410_411.out; have hcz61_0 : w59.cell? ⟨gb411, 0, none⟩ = some (.int .i8 0) := (blk_cell BK411.out 0).trans rfl; have hcz61_1 : w59.cell? ⟨gb411, 1, none⟩ = some (.int .i8 0) := (blk_cell BK411.out 1).trans rfl; have hcz61_2 : w59.cell? ⟨gb411, 2, none⟩ = some (.slice none 0 0) := (blk_cell BK411.out 2).trans rfl; have hfz61_0 := blk_frozen BK411.out 0; have hfz61_1 := blk_frozen BK411.out 1; have hfz61_2 := blk_frozen BK411.out 2))
    refine bodyPost_ret (results_ct rfl _ _ gb411 28 #[.int .i8 0, .int .i8 0, .slice none 0 0] (0, 0) _ rfl (by (with_reducible repeat (first | refine blk_drewN ?_ _ | refine blk_drew ?_ | refine blk_alloc ?_ _)); refine blk_put (cs := #[.int .i8 0, .int .i8 0, .slice none 0 0]) ?_ 2 _ rfl; (with_reducible repeat (first | refine blk_drewN ?_ _ | refine blk_drew ?_ | refine blk_alloc ?_ _)); refine blk_put (cs := #[.int .i8 0, .int .i8 0, .slice none 0 0]) ?_ 1 _ rfl; (with_reducible repeat (first | refine blk_drewN ?_ _ | refine blk_drew ?_ | refine blk_alloc ?_ _)); refine blk_put (cs := #[.int .i8 0, .int .i8 0, .slice none 0 0]) ?_ 0 _ rfl; (with_reducible repeat (first | refine blk_drewN ?_ _ | refine blk_drew ?_ | refine blk_alloc ?_ _)); exact BK411.out) Try.underlying28 rfl (by kernel_rfl)) rfl ?_
    exact ⟨_, by first | rfl | (simp [errW_none, errW_some] <;> rfl) | (simp [*, errW_none, errW_some] <;> rfl), by first | exact Kd.R_nil _ _ _ _ _ | exact Kd.N_nil _ _ _ _ _ | exact Kd.V_nil _ _ _ _ _ | exact Kd.Q_nil _ _ _ _ _ | exact Kd.S_nil _ _ _ _ _, by repeat (first | (with_reducible first | exact HB.out | apply below_alloc | apply pw_below_drewN | apply below_drew1 | refine below_set ?_ GE410.out | refine below_set ?_ GE411.out) | exact HB.out)⟩

end Go.Proofs.Ytikdnhhegknplaa.M
