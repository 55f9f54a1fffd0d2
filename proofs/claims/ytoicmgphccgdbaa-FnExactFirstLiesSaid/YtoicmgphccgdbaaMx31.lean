-- Written by wip/tools/myprint.py, a program of this session, by way of the kit's print.
import Derived.Test.YtoicmgphccgdbaaMx0
import Derived.Test.YtoicmgphccgdbaaMx2
import Derived.Test.YtoicmgphccgdbaaMx27
namespace Go.Proofs.Ytoicmgphccgdbaa.M
open Go.RowKit Go.Proofs.YtoicmgphccgdbaaW.PrintWords Go.Proofs.YtoicmgphccgdbaaW.PrintLast Go.Proofs.YtoicmgphccgdbaaW.PrintMore
attribute [local go_sem] max2_int min2_int max_two min_two max_three min_three max_four min_four   -- for this text's walks alone
set_option linter.unusedVariables false
set_option linter.unusedSimpArgs false

/-! ### spec_l06Asked: function 73 -/
def spec_l06Asked.f (k : Nat) (a0_0 : Int) (a0_1 : Int) (l0_2 : List (S75)) (a1 : Int) : Option (Int) := (spec_l06Ok.f k a0_0 a0_1 l0_2).bind fun t500 => (if t500 = true then ((spec_l00In.f a1 0 (wrap64 ((wrap64 (a0_0)) - 1))).bind fun t501 => (if t501 = true then (some 0) else (some 2))) else (some 1))
theorem spec_l06Asked.mono : ∀ a0 a1 a2 a3 k, LeO (spec_l06Asked.f k a0 a1 a2 a3) (spec_l06Asked.f (k + 1) a0 a1 a2 a3) := by
  intro a0 a1 a2 a3 k
  unfold spec_l06Asked.f
  repeat' first
      | (with_reducible exact spec_l06Ok.mono _ _ _ _)
      | (with_reducible exact LeO.refl _)
      | (with_reducible exact LeO.none _)
      | (with_reducible refine LeO.ite ?_ ?_)
      | (with_reducible refine LeO.bind ?_ (fun _ => ?_))
      | exact spec_l06Ok.mono _ _ _ _
      | exact LeO.none _
      | refine LeO.ite ?_ ?_
      | refine LeO.bind ?_ (fun _ => ?_)
set_option maxHeartbeats 8000000 in
set_option maxRecDepth 100000 in
theorem spec_l06Asked.calls (k : Nat) (g0 : Nat) (a0_0 : Int) (a0_1 : Int) (A0_2 : Option Addr) (c0_2 : Nat) (l0_2 : List (S75)) (a1 : Int) (r : Int) (w : World) (hb0 : w.heap[g0]? = some (.cells #[.int .i8 a0_0, .int .i8 a0_1, .slice A0_2 l0_2.length c0_2] 37 (0, 0))) (hr0_2 : Kd.C k75 w A0_2 l0_2.length l0_2) (hc0_2 : l0_2.length ≤ c0_2) (h : spec_l06Asked.f k a0_0 a0_1 l0_2 a1 = some r) :
    Calls Try.prog 73 #[.pointer (some ⟨g0, 0, none⟩), .int .i64 a1] w fun e w' => e = .returned (.int .i64 r) ∧ Drawn0 w w' := by
  have HR0_2 := Aside0.mk hr0_2
  have HC0_2 := Aside0.mk hc0_2
  clear hr0_2 hc0_2
  have BK0 := Aside0.mk hb0
  clear hb0
  have H : ((spec_l06Ok.f k a0_0 a0_1 l0_2).bind fun t500 => (if t500 = true then ((spec_l00In.f a1 0 (wrap64 ((wrap64 (a0_0)) - 1))).bind fun t501 => (if t501 = true then (some 0) else (some 2))) else (some 1))) = some r := h
  clear h
  replace H := Option.bind_eq_some_iff.mp H
  obtain ⟨t500, A30, H⟩ := H
  replace H : (if t500 = true then ((spec_l00In.f a1 0 (wrap64 ((wrap64 (a0_0)) - 1))).bind fun t501 => (if t501 = true then (some 0) else (some 2))) else (some 1)) = some r := H
  have A3 := Aside0.mk A30
  clear A30
  by_cases c4 : t500 = true
  · subst c4
    have H1 : ((spec_l00In.f a1 0 (wrap64 ((wrap64 (a0_0)) - 1))).bind fun t501 => (if t501 = true then (some 0) else (some 2))) = some r := by rw [if_pos rfl] at H; exact H
    clear H
    have H := H1
    clear H1
    replace H := Option.bind_eq_some_iff.mp H
    obtain ⟨t501, A50, H⟩ := H
    replace H : (if t501 = true then (some 0) else (some 2)) = some r := H
    have A5 := Aside0.mk A50
    clear A50
    by_cases c6 : t501 = true
    · subst c6
      have H1 : (some 0) = some r := by rw [if_pos rfl] at H; exact H
      clear H
      have H := H1
      clear H1
      obtain rfl := Option.some.inj H
      go_enter Try.func73, Try.ntmps73
      go_wp2_with (first | ((with_reducible refine gate_callee (f := 69) rfl ?_); refine goesL_ (some 6) rfl rfl Try.func69 (by kernel_rfl) rfl #[.pointer (some ⟨g0, 0, none⟩)] rfl (by (try simp only [List.map_toArray, List.map_cons, List.map_nil]); first | done | rfl | (simp only [List.length_drop, List.length_take]; rfl)) ?_; (with_reducible refine (spec_l06Ok.calls k g0 a0_0 a0_1 A0_2 c0_2 l0_2 true _ ?side1 ?side2 ?side3 A3.out).mono ?_); (case side1 => (with_reducible repeat (first | refine blk_drewN ?_ _ | refine blk_drew ?_ | refine blk_alloc ?_ _)); exact BK0.out); (case side2 => repeat (first | exact HR0_2.out | (with_reducible refine Kd.C_alloc ?_ _) | (with_reducible refine Kd.C_drewN ?_ _) | (with_reducible refine Kd.C_drew ?_))); (case side3 => exact HC0_2.out); rintro e w' ⟨rfl, ⟨nd, rfl⟩⟩; refine ⟨_, rfl, ?_⟩; have hcz7_0 : w.cell? ⟨g0, 0, none⟩ = some (.int .i8 a0_0) := (blk_cell BK0.out 0).trans rfl; have hcz7_1 : w.cell? ⟨g0, 1, none⟩ = some (.int .i8 a0_1) := (blk_cell BK0.out 1).trans rfl; have hcz7_2 : w.cell? ⟨g0, 2, none⟩ = some (.slice A0_2 l0_2.length c0_2) := (blk_cell BK0.out 2).trans rfl; have hfz7_0 := blk_frozen BK0.out 0; have hfz7_1 := blk_frozen BK0.out 1; have hfz7_2 := blk_frozen BK0.out 2) | ((with_reducible refine gate_callee (f := 54) rfl ?_); refine goesL_ (some 15) rfl rfl Try.func54 (by kernel_rfl) rfl #[.int .i64 a1, .int .i64 0, .int .i64 (wrap64 ((wrap64 (a0_0)) - 1))] rfl (by (try simp only [List.map_toArray, List.map_cons, List.map_nil]); first | done | rfl | (simp only [List.length_drop, List.length_take]; rfl)) ?_; (with_reducible refine (spec_l00In.calls a1 0 (wrap64 ((wrap64 (a0_0)) - 1)) true _ A5.out).mono ?_); rintro e w' ⟨rfl, ⟨nd, rfl⟩⟩; refine ⟨_, rfl, ?_⟩))
      go_ret
      exact ⟨by first | rfl | (simp; done) | (simp [*]; done), by repeat (first | exact Drawn0.refl _ | apply Drawn0.step)⟩
    · replace c6 := Bool.eq_false_iff.mpr c6
      subst c6
      have H1 : (some 2) = some r := by rw [if_neg (show ¬ (false = true) by decide)] at H; exact H
      clear H
      have H := H1
      clear H1
      obtain rfl := Option.some.inj H
      go_enter Try.func73, Try.ntmps73
      go_wp2_with (first | ((with_reducible refine gate_callee (f := 69) rfl ?_); refine goesL_ (some 6) rfl rfl Try.func69 (by kernel_rfl) rfl #[.pointer (some ⟨g0, 0, none⟩)] rfl (by (try simp only [List.map_toArray, List.map_cons, List.map_nil]); first | done | rfl | (simp only [List.length_drop, List.length_take]; rfl)) ?_; (with_reducible refine (spec_l06Ok.calls k g0 a0_0 a0_1 A0_2 c0_2 l0_2 true _ ?side1 ?side2 ?side3 A3.out).mono ?_); (case side1 => (with_reducible repeat (first | refine blk_drewN ?_ _ | refine blk_drew ?_ | refine blk_alloc ?_ _)); exact BK0.out); (case side2 => repeat (first | exact HR0_2.out | (with_reducible refine Kd.C_alloc ?_ _) | (with_reducible refine Kd.C_drewN ?_ _) | (with_reducible refine Kd.C_drew ?_))); (case side3 => exact HC0_2.out); rintro e w' ⟨rfl, ⟨nd, rfl⟩⟩; refine ⟨_, rfl, ?_⟩; have hcz8_0 : w.cell? ⟨g0, 0, none⟩ = some (.int .i8 a0_0) := (blk_cell BK0.out 0).trans rfl; have hcz8_1 : w.cell? ⟨g0, 1, none⟩ = some (.int .i8 a0_1) := (blk_cell BK0.out 1).trans rfl; have hcz8_2 : w.cell? ⟨g0, 2, none⟩ = some (.slice A0_2 l0_2.length c0_2) := (blk_cell BK0.out 2).trans rfl; have hfz8_0 := blk_frozen BK0.out 0; have hfz8_1 := blk_frozen BK0.out 1; have hfz8_2 := blk_frozen BK0.out 2) | ((with_reducible refine gate_callee (f := 54) rfl ?_); refine goesL_ (some 15) rfl rfl Try.func54 (by kernel_rfl) rfl #[.int .i64 a1, .int .i64 0, .int .i64 (wrap64 ((wrap64 (a0_0)) - 1))] rfl (by (try simp only [List.map_toArray, List.map_cons, List.map_nil]); first | done | rfl | (simp only [List.length_drop, List.length_take]; rfl)) ?_; (with_reducible refine (spec_l00In.calls a1 0 (wrap64 ((wrap64 (a0_0)) - 1)) false _ A5.out).mono ?_); rintro e w' ⟨rfl, ⟨nd, rfl⟩⟩; refine ⟨_, rfl, ?_⟩))
      go_ret
      exact ⟨by first | rfl | (simp; done) | (simp [*]; done), by repeat (first | exact Drawn0.refl _ | apply Drawn0.step)⟩
  · replace c4 := Bool.eq_false_iff.mpr c4
    subst c4
    have H1 : (some 1) = some r := by rw [if_neg (show ¬ (false = true) by decide)] at H; exact H
    clear H
    have H := H1
    clear H1
    obtain rfl := Option.some.inj H
    go_enter Try.func73, Try.ntmps73
    go_wp2_with (first | ((with_reducible refine gate_callee (f := 69) rfl ?_); refine goesL_ (some 6) rfl rfl Try.func69 (by kernel_rfl) rfl #[.pointer (some ⟨g0, 0, none⟩)] rfl (by (try simp only [List.map_toArray, List.map_cons, List.map_nil]); first | done | rfl | (simp only [List.length_drop, List.length_take]; rfl)) ?_; (with_reducible refine (spec_l06Ok.calls k g0 a0_0 a0_1 A0_2 c0_2 l0_2 false _ ?side1 ?side2 ?side3 A3.out).mono ?_); (case side1 => (with_reducible repeat (first | refine blk_drewN ?_ _ | refine blk_drew ?_ | refine blk_alloc ?_ _)); exact BK0.out); (case side2 => repeat (first | exact HR0_2.out | (with_reducible refine Kd.C_alloc ?_ _) | (with_reducible refine Kd.C_drewN ?_ _) | (with_reducible refine Kd.C_drew ?_))); (case side3 => exact HC0_2.out); rintro e w' ⟨rfl, ⟨nd, rfl⟩⟩; refine ⟨_, rfl, ?_⟩))
    go_ret
    exact ⟨by first | rfl | (simp; done) | (simp [*]; done), by repeat (first | exact Drawn0.refl _ | apply Drawn0.step)⟩

/-! ### spec_l06Wrong: function 81 -/
def spec_l06Wrong.f (a0_0 : Int) (a0_1 : Bool) (a1 : Int) : Option (Bool) := if 0 ≤ (IntKind.u64.wrap (a1)) then (some (((Go.bits .and .u64 (shr .u64 a0_0 (IntKind.u64.wrap (a1))) 1) == 1) != a0_1)) else (none)
set_option maxHeartbeats 8000000 in
set_option maxRecDepth 100000 in
theorem spec_l06Wrong.calls (a0_0 : Int) (a0_1 : Bool) (a1 : Int) (r : Bool) (w : World) (h : spec_l06Wrong.f a0_0 a0_1 a1 = some r) :
    Calls Try.prog 81 #[.agg #[.int .u64 a0_0, .bool a0_1], .int .i64 a1] w fun e w' => e = .returned (.bool r) ∧ Below w.heap.size w w' := by
  have hu75 := Try.underlying75
  have HB := Aside0.mk (Below.refl w.heap.size w)
  have H : (if 0 ≤ (IntKind.u64.wrap (a1)) then (some (((Go.bits .and .u64 (shr .u64 a0_0 (IntKind.u64.wrap (a1))) 1) == 1) != a0_1)) else (none)) = some r := h
  clear h
  obtain ⟨ji3, hji3⟩ : ∃ j_ : Int, (IntKind.u64.wrap (a1)) = j_ := ⟨_, rfl⟩
  replace H : (if 0 ≤ (ji3) then (some (((Go.bits .and .u64 (shr .u64 a0_0 (ji3)) 1) == 1) != a0_1)) else (none)) = some r := by first | (rw [hji3] at H; exact H) | (simp only [hji3] at H ⊢; exact H)
  by_cases c4 : 0 ≤ (ji3)
  · rw [if_pos c4] at H
    have c4b0 := eq_true c4
    have c4b1 : decide (0 ≤ (ji3)) = true := decide_eq_true c4
    clear c4
    obtain ⟨ji5, hji5⟩ : ∃ j_ : Int, (shr .u64 a0_0 (ji3)) = j_ := ⟨_, rfl⟩
    replace H : (some (((Go.bits .and .u64 (ji5) 1) == 1) != a0_1)) = some r := by first | (rw [hji5] at H; exact H) | (simp only [hji5] at H ⊢; exact H)
    have hji5_ : (a0_0 / 2 ^ min (ji3).toNat 64) = ji5 := hji5
    have hji5z : (ji3) ≤ 64 → (a0_0 / 2 ^ (ji3).toNat) = ji5 := shr_small hji5
    obtain rfl := Option.some.inj H
    go_enter Try.func81, Try.ntmps81
    go_wp2_with (first | ((with_reducible refine gate_dst (N := 2) rfl ?_); refine box_event ?hg (N := 2) ?hd (cs := #[.int .u64 a0_0, .bool a0_1]) (t := 75) ?hr ?_; (case hd => rfl); (case hg => rfl); (case hr => first | (go_simp; done) | (go_simp; rfl)); intro gb502 hg w6 hbox hb; have n0_ := Aside0.mk (below_step (by repeat (first | (with_reducible first | exact HB.out | apply below_alloc | apply pw_below_drewN | apply below_drew1) | exact HB.out)) hb); have n1_ := Aside0.mk (hbox); have n2_ := Aside0.mk ((by rw [hg]; exact (below_size (by repeat (first | (with_reducible first | exact HB.out | apply below_alloc | apply pw_below_drewN | apply below_drew1) | exact HB.out))) : w.heap.size ≤ gb502)); have n3_ := Aside0.mk ((by rw [hg]; exact (below_size (by repeat (first | (with_reducible first | exact HB.out | apply below_alloc | apply pw_below_drewN | apply below_drew1) | exact HB.out))) : w.heap.size ≤ gb502)); clear HB; have HB := n0_; have BK502 := n1_; have GW502 := n2_; have GE502 := n3_; clear n0_ n1_ n2_ n3_; clear hb hbox hg; have hcz7_0 : w6.cell? ⟨gb502, 0, none⟩ = some (.int .u64 a0_0) := (blk_cell BK502.out 0).trans rfl; have hcz7_1 : w6.cell? ⟨gb502, 1, none⟩ = some (.bool a0_1) := (blk_cell BK502.out 1).trans rfl; have hfz7_0 := blk_frozen BK502.out 0; have hfz7_1 := blk_frozen BK502.out 1))
    go_ret
    exact ⟨by first | rfl | (simp [errW_none, errW_some] <;> rfl) | (simp only [← hji3, ← hji5]; first | rfl | (simp [errW_none, errW_some] <;> rfl)) | (simp [*, errW_none, errW_some] <;> rfl), by repeat (first | (with_reducible first | exact HB.out | apply below_alloc | apply pw_below_drewN | apply below_drew1 | refine below_set ?_ GE502.out) | exact HB.out)⟩
  · rw [if_neg c4] at H
    exact absurd H (by simp)

/-! ### spec_l06Lies: function 74 -/
def spec_l06Lies.l0 : Nat → Int → Int → Int → Int → Int → List (S75) → Option (Int)
  | 0, _, _, _, _, _, _ => none
  | k + 1, x1, x5, x6, x1000, x1001, x1002 => if x6 < (x1002.length : Int) then (if 0 ≤ x6 then ((spec_l06Wrong.f ((rd_T75 x1002 x6).f0) ((rd_T75 x1002 x6).f1) x1).bind fun t504 => (if t504 = true then (spec_l06Lies.l0 k x1 (wrap64 (x5 + 1)) (wrap64 (x6 + 1)) x1000 x1001 x1002) else (spec_l06Lies.l0 k x1 x5 (wrap64 (x6 + 1)) x1000 x1001 x1002))) else (none)) else (some x5)
def spec_l06Lies.f (k : Nat) (a0_0 : Int) (a0_1 : Int) (l0_2 : List (S75)) (a1 : Int) : Option (Int) := spec_l06Lies.l0 k a1 0 0 a0_0 a0_1 l0_2
theorem spec_l06Lies.mono_l : ∀ k, (∀ y0 y1 y2 y3 y4 y5, LeO (spec_l06Lies.l0 k y0 y1 y2 y3 y4 y5) (spec_l06Lies.l0 (k + 1) y0 y1 y2 y3 y4 y5))
  | 0 => fun _ _ _ _ _ _ r h => by simp [spec_l06Lies.l0] at h
  | k + 1 => by
    have ih0 := spec_l06Lies.mono_l k
    · intro y0 y1 y2 y3 y4 y5
      unfold spec_l06Lies.l0
      repeat' first
      | (with_reducible exact ih0 _ _ _ _ _ _)
      | (with_reducible exact LeO.refl _)
      | (with_reducible exact LeO.none _)
      | (with_reducible refine LeO.ite ?_ ?_)
      | (with_reducible refine LeO.bind ?_ (fun _ => ?_))
      | exact ih0 _ _ _ _ _ _
      | exact LeO.none _
      | refine LeO.ite ?_ ?_
      | refine LeO.bind ?_ (fun _ => ?_)
theorem spec_l06Lies.mono : ∀ a0 a1 a2 a3 k, LeO (spec_l06Lies.f k a0 a1 a2 a3) (spec_l06Lies.f (k + 1) a0 a1 a2 a3) := by
  intro a0 a1 a2 a3 k
  have ih0 := spec_l06Lies.mono_l k
  unfold spec_l06Lies.f
  repeat' first
      | (with_reducible exact ih0 _ _ _ _ _ _)
      | (with_reducible exact LeO.refl _)
      | (with_reducible exact LeO.none _)
      | (with_reducible refine LeO.ite ?_ ?_)
      | (with_reducible refine LeO.bind ?_ (fun _ => ?_))
      | exact ih0 _ _ _ _ _ _
      | exact LeO.none _
      | refine LeO.ite ?_ ?_
      | refine LeO.bind ?_ (fun _ => ?_)
set_option maxHeartbeats 8000000 in
set_option maxRecDepth 100000 in
theorem spec_l06Lies.calls (k : Nat) (g0 : Nat) (a0_0 : Int) (a0_1 : Int) (A0_2 : Option Addr) (c0_2 : Nat) (l0_2 : List (S75)) (a1 : Int) (r : Int) (w : World) (hb0 : w.heap[g0]? = some (.cells #[.int .i8 a0_0, .int .i8 a0_1, .slice A0_2 l0_2.length c0_2] 37 (0, 0))) (hr0_2 : Kd.C k75 w A0_2 l0_2.length l0_2) (hc0_2 : l0_2.length ≤ c0_2) (h : spec_l06Lies.f k a0_0 a0_1 l0_2 a1 = some r) :
    Calls Try.prog 74 #[.pointer (some ⟨g0, 0, none⟩), .int .i64 a1] w fun e w' => e = .returned (.int .i64 r) ∧ Below w.heap.size w w' := by
  have hu75 := Try.underlying75
  have HR0_2 := Aside0.mk hr0_2
  have HC0_2 := Aside0.mk hc0_2
  clear hr0_2 hc0_2
  have BK0 := Aside0.mk hb0
  clear hb0
  have HB := Aside0.mk (Below.refl w.heap.size w)
  have H : (spec_l06Lies.l0 k a1 0 0 a0_0 a0_1 l0_2) = some r := h
  clear h
  have H' := Aside0.mk H
  clear H
  go_enter Try.func74, Try.ntmps74
  go_wp2
  go_loopg [5, 6] k (fun kq v5 v6 w' => ∃ (x5_1 : Int) (x6_1 : Int), v5 = .int .i64 x5_1 ∧ v6 = .int .i64 x6_1 ∧ Aside0 (spec_l06Lies.l0 kq a1 x5_1 x6_1 a0_0 a0_1 l0_2 = some r) ∧ Aside0 (kq ≤ k) ∧ Aside0 (w'.heap[g0]? = some (.cells #[.int .i8 a0_0, .int .i8 a0_1, (.slice A0_2 l0_2.length c0_2)] 37 (0, 0))) ∧ Aside0 (Below w.heap.size w w'))
  case atStart => exact ⟨(0), (0), (by first | rfl | (simp; done) | (simp [*]; done)), (by first | rfl | (simp; done) | (simp [*]; done)), H', ⟨Nat.le_refl _⟩, ⟨by (with_reducible repeat (first | refine blk_drewN ?_ _ | refine blk_drew ?_ | refine blk_alloc ?_ _)); exact BK0.out⟩, ⟨by repeat (first | (with_reducible first | exact HB.out | apply below_alloc | apply pw_below_drewN | apply below_drew1) | exact HB.out)⟩⟩
  case round =>
    clear H'
    try clear p2
    obtain ⟨x5_1, x6_1, rfl, rfl, HA, HK1, BK0, HB⟩ := hrel
    cases gk with
    | zero => exact absurd HA.out (by simp [spec_l06Lies.l0])
    | succ k1 =>
      have H := HA.out
      clear HA
      simp only [spec_l06Lies.l0] at H
      by_cases c3 : x6_1 < (l0_2.length : Int)
      · rw [if_pos c3] at H
        have c3b0 : decide (x6_1 < (l0_2.length : Int)) = true := decide_eq_true c3
        clear c3
        by_cases c4 : 0 ≤ x6_1
        · rw [if_pos c4] at H
          have c4b0 : decide (0 ≤ x6_1) = true := decide_eq_true c4
          clear c4
          replace H := Option.bind_eq_some_iff.mp H
          obtain ⟨t504, A50, H⟩ := H
          replace H : (if t504 = true then (spec_l06Lies.l0 k1 a1 (wrap64 (x5_1 + 1)) (wrap64 (x6_1 + 1)) a0_0 a0_1 l0_2) else (spec_l06Lies.l0 k1 a1 x5_1 (wrap64 (x6_1 + 1)) a0_0 a0_1 l0_2)) = some r := H
          have A5 := Aside0.mk A50
          clear A50
          by_cases c6 : t504 = true
          · subst c6
            have H1 : (spec_l06Lies.l0 k1 a1 (wrap64 (x5_1 + 1)) (wrap64 (x6_1 + 1)) a0_0 a0_1 l0_2) = some r := by rw [if_pos rfl] at H; exact H
            clear H
            have H := H1
            clear H1
            have H' := Aside0.mk H
            clear H
            have hcz7_0 : wr.cell? ⟨g0, 0, none⟩ = some (.int .i8 a0_0) := (blk_cell BK0.out 0).trans rfl
            have hcz7_1 : wr.cell? ⟨g0, 1, none⟩ = some (.int .i8 a0_1) := (blk_cell BK0.out 1).trans rfl
            have hcz7_2 : wr.cell? ⟨g0, 2, none⟩ = some (.slice A0_2 l0_2.length c0_2) := (blk_cell BK0.out 2).trans rfl
            have hfz7_0 := blk_frozen BK0.out 0
            have hfz7_1 := blk_frozen BK0.out 1
            have hfz7_2 := blk_frozen BK0.out 2
            have p503 : 0 ≤ (x6_1 : Int) := of_decide_eq_true (by first | (with_reducible assumption) | assumption)
            have q503 : x6_1 < (l0_2.length : Int) := of_decide_eq_true (by first | (with_reducible assumption) | assumption)
            obtain ⟨ad503, e503, hx503_0, hx503_1⟩ := at_T75 HR0_2.out x6_1 p503 q503
            cases e503
            replace hx503_0 := (HB.out.cell (World.block_lt_of_cell? w _ hx503_0)).trans hx503_0
            replace hx503_1 := (HB.out.cell (World.block_lt_of_cell? w _ hx503_1)).trans hx503_1
            replace p503 := eq_true p503
            replace q503 := eq_true q503
            go_wp2_with (first | ((with_reducible refine gate_callee (f := 81) rfl ?_); refine goesL_ (some 24) rfl rfl Try.func81 (by kernel_rfl) rfl #[.agg #[.int .u64 ((rd_T75 l0_2 x6_1).f0), .bool ((rd_T75 l0_2 x6_1).f1)], .int .i64 a1] rfl (by (try simp only [List.map_toArray, List.map_cons, List.map_nil]); first | done | rfl | (simp only [List.length_drop, List.length_take]; rfl)) ?_; (with_reducible refine (spec_l06Wrong.calls ((rd_T75 l0_2 x6_1).f0) ((rd_T75 l0_2 x6_1).f1) a1 true _ A5.out).mono ?_); rintro e w8 ⟨rfl, hb⟩; refine ⟨_, rfl, ?_⟩; have n0_ := Aside0.mk (blk_below (g := g0) (o := .cells #[.int .i8 a0_0, .int .i8 a0_1, .slice (some ad503) l0_2.length c0_2] 37 (0, 0)) (by (with_reducible repeat (first | refine blk_drewN ?_ _ | refine blk_drew ?_ | refine blk_alloc ?_ _)); exact BK0.out) hb); have n1_ := Aside0.mk (below_step (by repeat (first | (with_reducible first | exact HB.out | apply below_alloc | apply pw_below_drewN | apply below_drew1) | exact HB.out)) hb); clear BK0; clear HB; have BK0 := n0_; have HB := n1_; clear n0_ n1_; (try clear hb); (try clear hb2); (try clear hk); (try clear hi)))
            go_roundg k1
            case measure => have := HK1.out; omega
            case rel => exact ⟨(wrap64 (x5_1 + 1)), (wrap64 (x6_1 + 1)), (by first | rfl | (simp; done) | (simp [*]; done)), (by first | rfl | (simp; done) | (simp [*]; done)), H', ⟨by have := HK1.out; omega⟩, ⟨by (with_reducible repeat (first | refine blk_drewN ?_ _ | refine blk_drew ?_ | refine blk_alloc ?_ _)); exact BK0.out⟩, ⟨by repeat (first | (with_reducible first | exact HB.out | apply below_alloc | apply pw_below_drewN | apply below_drew1) | exact HB.out)⟩⟩
          · replace c6 := Bool.eq_false_iff.mpr c6
            subst c6
            have H1 : (spec_l06Lies.l0 k1 a1 x5_1 (wrap64 (x6_1 + 1)) a0_0 a0_1 l0_2) = some r := by rw [if_neg (show ¬ (false = true) by decide)] at H; exact H
            clear H
            have H := H1
            clear H1
            have H' := Aside0.mk H
            clear H
            have hcz9_0 : wr.cell? ⟨g0, 0, none⟩ = some (.int .i8 a0_0) := (blk_cell BK0.out 0).trans rfl
            have hcz9_1 : wr.cell? ⟨g0, 1, none⟩ = some (.int .i8 a0_1) := (blk_cell BK0.out 1).trans rfl
            have hcz9_2 : wr.cell? ⟨g0, 2, none⟩ = some (.slice A0_2 l0_2.length c0_2) := (blk_cell BK0.out 2).trans rfl
            have hfz9_0 := blk_frozen BK0.out 0
            have hfz9_1 := blk_frozen BK0.out 1
            have hfz9_2 := blk_frozen BK0.out 2
            have p503 : 0 ≤ (x6_1 : Int) := of_decide_eq_true (by first | (with_reducible assumption) | assumption)
            have q503 : x6_1 < (l0_2.length : Int) := of_decide_eq_true (by first | (with_reducible assumption) | assumption)
            obtain ⟨ad503, e503, hx503_0, hx503_1⟩ := at_T75 HR0_2.out x6_1 p503 q503
            cases e503
            replace hx503_0 := (HB.out.cell (World.block_lt_of_cell? w _ hx503_0)).trans hx503_0
            replace hx503_1 := (HB.out.cell (World.block_lt_of_cell? w _ hx503_1)).trans hx503_1
            replace p503 := eq_true p503
            replace q503 := eq_true q503
            go_wp2_with (first | ((with_reducible refine gate_callee (f := 81) rfl ?_); refine goesL_ (some 24) rfl rfl Try.func81 (by kernel_rfl) rfl #[.agg #[.int .u64 ((rd_T75 l0_2 x6_1).f0), .bool ((rd_T75 l0_2 x6_1).f1)], .int .i64 a1] rfl (by (try simp only [List.map_toArray, List.map_cons, List.map_nil]); first | done | rfl | (simp only [List.length_drop, List.length_take]; rfl)) ?_; (with_reducible refine (spec_l06Wrong.calls ((rd_T75 l0_2 x6_1).f0) ((rd_T75 l0_2 x6_1).f1) a1 false _ A5.out).mono ?_); rintro e w10 ⟨rfl, hb⟩; refine ⟨_, rfl, ?_⟩; have n0_ := Aside0.mk (blk_below (g := g0) (o := .cells #[.int .i8 a0_0, .int .i8 a0_1, .slice (some ad503) l0_2.length c0_2] 37 (0, 0)) (by (with_reducible repeat (first | refine blk_drewN ?_ _ | refine blk_drew ?_ | refine blk_alloc ?_ _)); exact BK0.out) hb); have n1_ := Aside0.mk (below_step (by repeat (first | (with_reducible first | exact HB.out | apply below_alloc | apply pw_below_drewN | apply below_drew1) | exact HB.out)) hb); clear BK0; clear HB; have BK0 := n0_; have HB := n1_; clear n0_ n1_; (try clear hb); (try clear hb2); (try clear hk); (try clear hi)))
            go_roundg k1
            case measure => have := HK1.out; omega
            case rel => exact ⟨(x5_1), (wrap64 (x6_1 + 1)), (by first | rfl | (simp; done) | (simp [*]; done)), (by first | rfl | (simp; done) | (simp [*]; done)), H', ⟨by have := HK1.out; omega⟩, ⟨by (with_reducible repeat (first | refine blk_drewN ?_ _ | refine blk_drew ?_ | refine blk_alloc ?_ _)); exact BK0.out⟩, ⟨by repeat (first | (with_reducible first | exact HB.out | apply below_alloc | apply pw_below_drewN | apply below_drew1) | exact HB.out)⟩⟩
        · rw [if_neg c4] at H
          exact absurd H (by simp)
      · rw [if_neg c3] at H
        have c3b0 : decide (x6_1 < (l0_2.length : Int)) = false := decide_eq_false c3
        clear c3
        obtain rfl := Option.some.inj H
        have hcz11_0 : wr.cell? ⟨g0, 0, none⟩ = some (.int .i8 a0_0) := (blk_cell BK0.out 0).trans rfl
        have hcz11_1 : wr.cell? ⟨g0, 1, none⟩ = some (.int .i8 a0_1) := (blk_cell BK0.out 1).trans rfl
        have hcz11_2 : wr.cell? ⟨g0, 2, none⟩ = some (.slice A0_2 l0_2.length c0_2) := (blk_cell BK0.out 2).trans rfl
        have hfz11_0 := blk_frozen BK0.out 0
        have hfz11_1 := blk_frozen BK0.out 1
        have hfz11_2 := blk_frozen BK0.out 2
        go_wp2
        go_ret
        exact ⟨by first | rfl | (simp [errW_none, errW_some] <;> rfl) | (simp [*, errW_none, errW_some] <;> rfl), by repeat (first | (with_reducible first | exact HB.out | apply below_alloc | apply pw_below_drewN | apply below_drew1) | exact HB.out)⟩

/-! ### spec_LiesFor: function 38 -/
def spec_LiesFor.f (k : Nat) (a0_0 : Int) (a0_1 : Int) (l0_2 : List (S75)) (a1 : Int) : Option (Int × Int) := (spec_l06Asked.f k a0_0 a0_1 l0_2 a1).bind fun t506 => (if t506 = 0 then ((spec_l06Lies.f k a0_0 a0_1 l0_2 a1).bind fun t507 => (some (t507, 0))) else (some (0, t506)))
theorem spec_LiesFor.mono : ∀ a0 a1 a2 a3 k, LeO (spec_LiesFor.f k a0 a1 a2 a3) (spec_LiesFor.f (k + 1) a0 a1 a2 a3) := by
  intro a0 a1 a2 a3 k
  unfold spec_LiesFor.f
  repeat' first
      | (with_reducible exact spec_l06Asked.mono _ _ _ _ _)
      | (with_reducible exact spec_l06Lies.mono _ _ _ _ _)
      | (with_reducible exact LeO.refl _)
      | (with_reducible exact LeO.none _)
      | (with_reducible refine LeO.ite ?_ ?_)
      | (with_reducible refine LeO.bind ?_ (fun _ => ?_))
      | exact spec_l06Asked.mono _ _ _ _ _
      | exact spec_l06Lies.mono _ _ _ _ _
      | exact LeO.none _
      | refine LeO.ite ?_ ?_
      | refine LeO.bind ?_ (fun _ => ?_)
set_option maxHeartbeats 8000000 in
set_option maxRecDepth 100000 in
theorem spec_LiesFor.calls (k : Nat) (a0_0 : Int) (a0_1 : Int) (A0_2 : Option Addr) (c0_2 : Nat) (l0_2 : List (S75)) (a1 : Int) (r1 : Int) (r2 : Int) (w : World) (hr0_2 : Kd.C k75 w A0_2 l0_2.length l0_2) (hc0_2 : l0_2.length ≤ c0_2) (h : spec_LiesFor.f k a0_0 a0_1 l0_2 a1 = some (r1, r2)) :
    Calls Try.prog 38 #[.agg #[.int .i8 a0_0, .int .i8 a0_1, .slice A0_2 l0_2.length c0_2], .int .i64 a1] w fun e w' => e = .returned (.tuple #[.int .i64 r1, .int .i64 r2]) ∧ Below w.heap.size w w' := by
  have hu37 := Try.underlying37
  have HR0_2 := Aside0.mk hr0_2
  have HC0_2 := Aside0.mk hc0_2
  clear hr0_2 hc0_2
  have HB := Aside0.mk (Below.refl w.heap.size w)
  have H : ((spec_l06Asked.f k a0_0 a0_1 l0_2 a1).bind fun t506 => (if t506 = 0 then ((spec_l06Lies.f k a0_0 a0_1 l0_2 a1).bind fun t507 => (some (t507, 0))) else (some (0, t506)))) = some (r1, r2) := h
  clear h
  replace H := Option.bind_eq_some_iff.mp H
  obtain ⟨t506, A30, H⟩ := H
  replace H : (if t506 = 0 then ((spec_l06Lies.f k a0_0 a0_1 l0_2 a1).bind fun t507 => (some (t507, 0))) else (some (0, t506))) = some (r1, r2) := H
  have A3 := Aside0.mk A30
  clear A30
  by_cases c4 : t506 = 0
  · rw [if_pos c4] at H
    have c4b0 : (t506 == 0) = true := beq_iff_eq.mpr c4
    have c4b1 : (t506 != 0) = false := bne_eq_false_iff_eq.mpr c4
    clear c4
    replace H := Option.bind_eq_some_iff.mp H
    obtain ⟨t507, A50, H⟩ := H
    replace H : (some (t507, 0)) = some (r1, r2) := H
    have A5 := Aside0.mk A50
    clear A50
    simp only [Option.some.injEq, Prod.mk.injEq] at H
    obtain ⟨rfl, rfl⟩ := H
    go_enter Try.func38, Try.ntmps38
    go_wp2_with (first | ((with_reducible refine gate_dst (N := 2) rfl ?_); refine box_event ?hg (N := 2) ?hd (cs := #[.int .i8 a0_0, .int .i8 a0_1, .slice A0_2 l0_2.length c0_2]) (t := 37) ?hr ?_; (case hd => rfl); (case hg => rfl); (case hr => first | (go_simp; done) | (go_simp; rfl)); intro gb505 hg w6 hbox hb; have n0_ := Aside0.mk (below_step (by repeat (first | (with_reducible first | exact HB.out | apply below_alloc | apply pw_below_drewN | apply below_drew1) | exact HB.out)) hb); have n1_ := Aside0.mk (hbox); have n2_ := Aside0.mk ((by rw [hg]; exact (below_size (by repeat (first | (with_reducible first | exact HB.out | apply below_alloc | apply pw_below_drewN | apply below_drew1) | exact HB.out))) : w.heap.size ≤ gb505)); have n3_ := Aside0.mk ((by rw [hg]; exact (below_size (by repeat (first | (with_reducible first | exact HB.out | apply below_alloc | apply pw_below_drewN | apply below_drew1) | exact HB.out))) : w.heap.size ≤ gb505)); clear HB; have HB := n0_; have BK505 := n1_; have GW505 := n2_; have GE505 := n3_; clear n0_ n1_ n2_ n3_; clear hb hbox hg) | ((with_reducible refine gate_callee (f := 73) rfl ?_); refine goesL_ (some 8) rfl rfl Try.func73 (by kernel_rfl) rfl #[.pointer (some ⟨gb505, 0, none⟩), .int .i64 a1] rfl (by (try simp only [List.map_toArray, List.map_cons, List.map_nil]); first | done | rfl | (simp only [List.length_drop, List.length_take]; rfl)) ?_; (with_reducible refine (spec_l06Asked.calls k gb505 a0_0 a0_1 A0_2 c0_2 l0_2 a1 t506 _ ?side1 ?side2 ?side3 A3.out).mono ?_); (case side1 => (with_reducible repeat (first | refine blk_drewN ?_ _ | refine blk_drew ?_ | refine blk_alloc ?_ _)); exact BK505.out); (case side2 => repeat (first | exact (Kd.C_below HR0_2.out HB.out) | (with_reducible refine Kd.C_alloc ?_ _) | (with_reducible refine Kd.C_drewN ?_ _) | (with_reducible refine Kd.C_drew ?_))); (case side3 => exact HC0_2.out); rintro e w' ⟨rfl, ⟨nd, rfl⟩⟩; refine ⟨_, rfl, ?_⟩) | ((with_reducible refine gate_callee (f := 74) rfl ?_); refine goesL_ (some 13) rfl rfl Try.func74 (by kernel_rfl) rfl #[.pointer (some ⟨gb505, 0, none⟩), .int .i64 a1] rfl (by (try simp only [List.map_toArray, List.map_cons, List.map_nil]); first | done | rfl | (simp only [List.length_drop, List.length_take]; rfl)) ?_; (with_reducible refine (spec_l06Lies.calls k gb505 a0_0 a0_1 A0_2 c0_2 l0_2 a1 t507 _ ?side1 ?side2 ?side3 A5.out).mono ?_); (case side1 => (with_reducible repeat (first | refine blk_drewN ?_ _ | refine blk_drew ?_ | refine blk_alloc ?_ _)); exact BK505.out); (case side2 => repeat (first | exact (Kd.C_below HR0_2.out (by repeat (first | (with_reducible first | exact HB.out | apply below_alloc | apply pw_below_drewN | apply below_drew1 | refine below_set ?_ GE505.out) | exact HB.out))) | (with_reducible refine Kd.C_alloc ?_ _) | (with_reducible refine Kd.C_drewN ?_ _) | (with_reducible refine Kd.C_drew ?_))); (case side3 => exact HC0_2.out); rintro e w7 ⟨rfl, hb⟩; refine ⟨_, rfl, ?_⟩; have n0_ := Aside0.mk (blk_below (g := gb505) (o := .cells #[.int .i8 a0_0, .int .i8 a0_1, .slice A0_2 l0_2.length c0_2] 37 (0, 0)) (by (with_reducible repeat (first | refine blk_drewN ?_ _ | refine blk_drew ?_ | refine blk_alloc ?_ _)); exact BK505.out) hb); have n1_ := Aside0.mk (below_step (by repeat (first | (with_reducible first | exact HB.out | apply below_alloc | apply pw_below_drewN | apply below_drew1 | refine below_set ?_ GE505.out) | exact HB.out)) hb); clear BK505; clear HB; have BK505 := n0_; have HB := n1_; clear n0_ n1_; (try clear hb); (try clear hb2); (try clear hk); (try clear hi)))
    go_ret2
    exact ⟨by first | rfl | (simp [errW_none, errW_some] <;> rfl) | (simp [*, errW_none, errW_some] <;> rfl), by repeat (first | (with_reducible first | exact HB.out | apply below_alloc | apply pw_below_drewN | apply below_drew1 | refine below_set ?_ GE505.out) | exact HB.out)⟩
  · rw [if_neg c4] at H
    have c4b0 : (t506 == 0) = false := beq_eq_false_iff_ne.mpr c4
    have c4b1 : (t506 != 0) = true := bne_iff_ne.mpr c4
    simp only [Option.some.injEq, Prod.mk.injEq] at H
    obtain ⟨rfl, rfl⟩ := H
    go_enter Try.func38, Try.ntmps38
    go_wp2_with (first | ((with_reducible refine gate_dst (N := 2) rfl ?_); refine box_event ?hg (N := 2) ?hd (cs := #[.int .i8 a0_0, .int .i8 a0_1, .slice A0_2 l0_2.length c0_2]) (t := 37) ?hr ?_; (case hd => rfl); (case hg => rfl); (case hr => first | (go_simp; done) | (go_simp; rfl)); intro gb505 hg w8 hbox hb; have n0_ := Aside0.mk (below_step (by repeat (first | (with_reducible first | exact HB.out | apply below_alloc | apply pw_below_drewN | apply below_drew1) | exact HB.out)) hb); have n1_ := Aside0.mk (hbox); have n2_ := Aside0.mk ((by rw [hg]; exact (below_size (by repeat (first | (with_reducible first | exact HB.out | apply below_alloc | apply pw_below_drewN | apply below_drew1) | exact HB.out))) : w.heap.size ≤ gb505)); have n3_ := Aside0.mk ((by rw [hg]; exact (below_size (by repeat (first | (with_reducible first | exact HB.out | apply below_alloc | apply pw_below_drewN | apply below_drew1) | exact HB.out))) : w.heap.size ≤ gb505)); clear HB; have HB := n0_; have BK505 := n1_; have GW505 := n2_; have GE505 := n3_; clear n0_ n1_ n2_ n3_; clear hb hbox hg) | ((with_reducible refine gate_callee (f := 73) rfl ?_); refine goesL_ (some 8) rfl rfl Try.func73 (by kernel_rfl) rfl #[.pointer (some ⟨gb505, 0, none⟩), .int .i64 a1] rfl (by (try simp only [List.map_toArray, List.map_cons, List.map_nil]); first | done | rfl | (simp only [List.length_drop, List.length_take]; rfl)) ?_; (with_reducible refine (spec_l06Asked.calls k gb505 a0_0 a0_1 A0_2 c0_2 l0_2 a1 t506 _ ?side1 ?side2 ?side3 A3.out).mono ?_); (case side1 => (with_reducible repeat (first | refine blk_drewN ?_ _ | refine blk_drew ?_ | refine blk_alloc ?_ _)); exact BK505.out); (case side2 => repeat (first | exact (Kd.C_below HR0_2.out HB.out) | (with_reducible refine Kd.C_alloc ?_ _) | (with_reducible refine Kd.C_drewN ?_ _) | (with_reducible refine Kd.C_drew ?_))); (case side3 => exact HC0_2.out); rintro e w' ⟨rfl, ⟨nd, rfl⟩⟩; refine ⟨_, rfl, ?_⟩))
    go_ret2
    exact ⟨by first | rfl | (simp [errW_none, errW_some] <;> rfl) | (simp [*, errW_none, errW_some] <;> rfl), by repeat (first | (with_reducible first | exact HB.out | apply below_alloc | apply pw_below_drewN | apply below_drew1 | refine below_set ?_ GE505.out) | exact HB.out)⟩

end Go.Proofs.Ytoicmgphccgdbaa.M
