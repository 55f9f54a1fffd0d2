-- Written by wip/tools/myprint.py, a program of this session, by way of the kit's print.
import Derived.Test.YtoicmgphccgdbaaMx0
import Derived.Test.YtoicmgphccgdbaaMx18
import Derived.Test.YtoicmgphccgdbaaMx21
import Derived.Test.YtoicmgphccgdbaaMx23
import Derived.Test.YtoicmgphccgdbaaMx34
import Derived.Test.YtoicmgphccgdbaaMx38
import Derived.Test.YtoicmgphccgdbaaMx39
import Derived.Test.YtoicmgphccgdbaaMx40
namespace Go.Proofs.Ytoicmgphccgdbaa.M
open Go.RowKit Go.Proofs.YtoicmgphccgdbaaW.PrintWords Go.Proofs.YtoicmgphccgdbaaW.PrintLast Go.Proofs.YtoicmgphccgdbaaW.PrintMore
attribute [local go_sem] max2_int min2_int max_two min_two max_three min_three max_four min_four   -- for this text's walks alone
set_option linter.unusedVariables false
set_option linter.unusedSimpArgs false

/-! ### laws_FnExactFirstLies: function 14 -/
mutual
def laws_FnExactFirstLies.j0 : Nat → Int → List Int → Int → List Int → Int → Bool → Int → Int → List (S97) → Int → Int → List (S75) → Option (Bool)
  | 0, _, _, _, _, _, _, _, _, _, _, _, _ => none
  | k + 1, x1, x6, x7, x9, x10, x44, x665000, x665001, x665002, x681000, x681001, x681002 => if x44 = true then (some false) else ((laws_toGame.f k x665000 x665001 x665002).bind fun bt686 => ((laws_eqGame.f k x681000 x681001 x681002 bt686.1 bt686.2.1 bt686.2.2).bind fun t691 => (if t691 = true then ((laws_markGame.f k x681000 x681001 x681002 1).bind fun bt692 => (if bt692.1 < 0 then (laws_FnExactFirstLies.j1 k x1 x6 x7 x9 true x665000 x665001 x665002) else ((laws_eqInt64S.f k x9 x6).bind fun t694 => (if t694 = true then (laws_FnExactFirstLies.j1 k x1 x6 x7 x9 (x10 != x7) x665000 x665001 x665002) else (laws_FnExactFirstLies.j1 k x1 x6 x7 x9 true x665000 x665001 x665002))))) else (some false))))
def laws_FnExactFirstLies.j1 : Nat → Int → List Int → Int → List Int → Bool → Int → Int → List (S97) → Option (Bool)
  | 0, _, _, _, _, _, _, _, _ => none
  | k + 1, x1, x6, x7, x9, x65, x665000, x665001, x665002 => if x65 = true then (some false) else ((laws_markInt64S.f k x9 1).bind fun bt695 => ((laws_heldInt64S.f k bt695.2 1).bind fun t697 => (if t697 < 0 then (some false) else (if t697 = bt695.1 then ((laws_toGame.f k x665000 x665001 x665002).bind fun bt698 => ((impl_FirstLies.f k bt698.1 bt698.2.1 bt698.2.2 x1).bind fun bt703 => ((laws_eqInt64S.f k bt703.1 x6).bind fun t707 => (if t707 = true then (laws_FnExactFirstLies.j2 k bt695.2 bt695.1 (bt703.2 != x7)) else (laws_FnExactFirstLies.j2 k bt695.2 bt695.1 true))))) else (some false)))))
def laws_FnExactFirstLies.j2 : Nat → List Int → Int → Bool → Option (Bool)
  | 0, _, _, _ => none
  | k + 1, x9, x12, x92 => if x92 = true then (some false) else ((laws_heldInt64S.f k x9 1).bind fun t708 => (if t708 < 0 then (some false) else (if t708 = x12 then (some true) else (some false))))
end
def laws_FnExactFirstLies.f (k : Nat) (a0_0 : Int) (a0_1 : Int) (l0_2 : List (S97)) (a1 : Int) : Option (Bool) := (laws_szGame.f a0_0 a0_1 l0_2 1048576).bind fun t665 => (if t665 < 0 then (some true) else ((laws_toGame.f k a0_0 a0_1 l0_2).bind fun bt666 => ((spec_FirstLies.f k bt666.1 bt666.2.1 bt666.2.2 a1).bind fun bt671 => ((laws_toGame.f k a0_0 a0_1 l0_2).bind fun bt675 => ((impl_FirstLies.f k bt675.1 bt675.2.1 bt675.2.2 a1).bind fun bt681 => ((laws_eqInt64S.f k bt681.1 bt671.1).bind fun t685 => (if t685 = true then (laws_FnExactFirstLies.j0 k a1 bt671.1 bt671.2 bt681.1 bt681.2 (bt681.2 != bt671.2) a0_0 a0_1 l0_2 bt675.1 bt675.2.1 bt675.2.2) else (laws_FnExactFirstLies.j0 k a1 bt671.1 bt671.2 bt681.1 bt681.2 true a0_0 a0_1 l0_2 bt675.1 bt675.2.1 bt675.2.2))))))))
theorem laws_FnExactFirstLies.mono_l : ∀ k, (∀ y0 y1 y2 y3 y4 y5 y6 y7 y8 y9 y10 y11, LeO (laws_FnExactFirstLies.j0 k y0 y1 y2 y3 y4 y5 y6 y7 y8 y9 y10 y11) (laws_FnExactFirstLies.j0 (k + 1) y0 y1 y2 y3 y4 y5 y6 y7 y8 y9 y10 y11)) ∧ (∀ y0 y1 y2 y3 y4 y5 y6 y7, LeO (laws_FnExactFirstLies.j1 k y0 y1 y2 y3 y4 y5 y6 y7) (laws_FnExactFirstLies.j1 (k + 1) y0 y1 y2 y3 y4 y5 y6 y7)) ∧ (∀ y0 y1 y2, LeO (laws_FnExactFirstLies.j2 k y0 y1 y2) (laws_FnExactFirstLies.j2 (k + 1) y0 y1 y2))
  | 0 => ⟨fun _ _ _ _ _ _ _ _ _ _ _ _ r h => by simp [laws_FnExactFirstLies.j0] at h, fun _ _ _ _ _ _ _ _ r h => by simp [laws_FnExactFirstLies.j1] at h, fun _ _ _ r h => by simp [laws_FnExactFirstLies.j2] at h⟩
  | k + 1 => by
    obtain ⟨ih0, ih1, ih2⟩ := laws_FnExactFirstLies.mono_l k
    refine ⟨?_, ?_, ?_⟩
    · intro y0 y1 y2 y3 y4 y5 y6 y7 y8 y9 y10 y11
      unfold laws_FnExactFirstLies.j0
      repeat' first
      | (with_reducible exact ih0 _ _ _ _ _ _ _ _ _ _ _ _)
      | (with_reducible exact ih1 _ _ _ _ _ _ _ _)
      | (with_reducible exact ih2 _ _ _)
      | (with_reducible exact impl_FirstLies.mono _ _ _ _ _)
      | (with_reducible exact laws_eqGame.mono _ _ _ _ _ _ _)
      | (with_reducible exact laws_eqInt64S.mono _ _ _)
      | (with_reducible exact laws_heldInt64S.mono _ _ _)
      | (with_reducible exact laws_markGame.mono _ _ _ _ _)
      | (with_reducible exact laws_markInt64S.mono _ _ _)
      | (with_reducible exact laws_toGame.mono _ _ _ _)
      | (with_reducible exact spec_FirstLies.mono _ _ _ _ _)
      | (with_reducible exact LeO.refl _)
      | (with_reducible exact LeO.none _)
      | (with_reducible refine LeO.ite ?_ ?_)
      | (with_reducible refine LeO.bind ?_ (fun _ => ?_))
      | exact ih0 _ _ _ _ _ _ _ _ _ _ _ _
      | exact ih1 _ _ _ _ _ _ _ _
      | exact ih2 _ _ _
      | exact impl_FirstLies.mono _ _ _ _ _
      | exact laws_eqGame.mono _ _ _ _ _ _ _
      | exact laws_eqInt64S.mono _ _ _
      | exact laws_heldInt64S.mono _ _ _
      | exact laws_markGame.mono _ _ _ _ _
      | exact laws_markInt64S.mono _ _ _
      | exact laws_toGame.mono _ _ _ _
      | exact spec_FirstLies.mono _ _ _ _ _
      | exact LeO.none _
      | refine LeO.ite ?_ ?_
      | refine LeO.bind ?_ (fun _ => ?_)
    · intro y0 y1 y2 y3 y4 y5 y6 y7
      unfold laws_FnExactFirstLies.j1
      repeat' first
      | (with_reducible exact ih0 _ _ _ _ _ _ _ _ _ _ _ _)
      | (with_reducible exact ih1 _ _ _ _ _ _ _ _)
      | (with_reducible exact ih2 _ _ _)
      | (with_reducible exact impl_FirstLies.mono _ _ _ _ _)
      | (with_reducible exact laws_eqGame.mono _ _ _ _ _ _ _)
      | (with_reducible exact laws_eqInt64S.mono _ _ _)
      | (with_reducible exact laws_heldInt64S.mono _ _ _)
      | (with_reducible exact laws_markGame.mono _ _ _ _ _)
      | (with_reducible exact laws_markInt64S.mono _ _ _)
      | (with_reducible exact laws_toGame.mono _ _ _ _)
      | (with_reducible exact spec_FirstLies.mono _ _ _ _ _)
      | (with_reducible exact LeO.refl _)
      | (with_reducible exact LeO.none _)
      | (with_reducible refine LeO.ite ?_ ?_)
      | (with_reducible refine LeO.bind ?_ (fun _ => ?_))
      | exact ih0 _ _ _ _ _ _ _ _ _ _ _ _
      | exact ih1 _ _ _ _ _ _ _ _
      | exact ih2 _ _ _
      | exact impl_FirstLies.mono _ _ _ _ _
      | exact laws_eqGame.mono _ _ _ _ _ _ _
      | exact laws_eqInt64S.mono _ _ _
      | exact laws_heldInt64S.mono _ _ _
      | exact laws_markGame.mono _ _ _ _ _
      | exact laws_markInt64S.mono _ _ _
      | exact laws_toGame.mono _ _ _ _
      | exact spec_FirstLies.mono _ _ _ _ _
      | exact LeO.none _
      | refine LeO.ite ?_ ?_
      | refine LeO.bind ?_ (fun _ => ?_)
    · intro y0 y1 y2
      unfold laws_FnExactFirstLies.j2
      repeat' first
      | (with_reducible exact ih0 _ _ _ _ _ _ _ _ _ _ _ _)
      | (with_reducible exact ih1 _ _ _ _ _ _ _ _)
      | (with_reducible exact ih2 _ _ _)
      | (with_reducible exact impl_FirstLies.mono _ _ _ _ _)
      | (with_reducible exact laws_eqGame.mono _ _ _ _ _ _ _)
      | (with_reducible exact laws_eqInt64S.mono _ _ _)
      | (with_reducible exact laws_heldInt64S.mono _ _ _)
      | (with_reducible exact laws_markGame.mono _ _ _ _ _)
      | (with_reducible exact laws_markInt64S.mono _ _ _)
      | (with_reducible exact laws_toGame.mono _ _ _ _)
      | (with_reducible exact spec_FirstLies.mono _ _ _ _ _)
      | (with_reducible exact LeO.refl _)
      | (with_reducible exact LeO.none _)
      | (with_reducible refine LeO.ite ?_ ?_)
      | (with_reducible refine LeO.bind ?_ (fun _ => ?_))
      | exact ih0 _ _ _ _ _ _ _ _ _ _ _ _
      | exact ih1 _ _ _ _ _ _ _ _
      | exact ih2 _ _ _
      | exact impl_FirstLies.mono _ _ _ _ _
      | exact laws_eqGame.mono _ _ _ _ _ _ _
      | exact laws_eqInt64S.mono _ _ _
      | exact laws_heldInt64S.mono _ _ _
      | exact laws_markGame.mono _ _ _ _ _
      | exact laws_markInt64S.mono _ _ _
      | exact laws_toGame.mono _ _ _ _
      | exact spec_FirstLies.mono _ _ _ _ _
      | exact LeO.none _
      | refine LeO.ite ?_ ?_
      | refine LeO.bind ?_ (fun _ => ?_)
theorem laws_FnExactFirstLies.mono : ∀ a0 a1 a2 a3 k, LeO (laws_FnExactFirstLies.f k a0 a1 a2 a3) (laws_FnExactFirstLies.f (k + 1) a0 a1 a2 a3) := by
  intro a0 a1 a2 a3 k
  obtain ⟨ih0, ih1, ih2⟩ := laws_FnExactFirstLies.mono_l k
  unfold laws_FnExactFirstLies.f
  repeat' first
      | (with_reducible exact ih0 _ _ _ _ _ _ _ _ _ _ _ _)
      | (with_reducible exact ih1 _ _ _ _ _ _ _ _)
      | (with_reducible exact ih2 _ _ _)
      | (with_reducible exact impl_FirstLies.mono _ _ _ _ _)
      | (with_reducible exact laws_eqGame.mono _ _ _ _ _ _ _)
      | (with_reducible exact laws_eqInt64S.mono _ _ _)
      | (with_reducible exact laws_heldInt64S.mono _ _ _)
      | (with_reducible exact laws_markGame.mono _ _ _ _ _)
      | (with_reducible exact laws_markInt64S.mono _ _ _)
      | (with_reducible exact laws_toGame.mono _ _ _ _)
      | (with_reducible exact spec_FirstLies.mono _ _ _ _ _)
      | (with_reducible exact LeO.refl _)
      | (with_reducible exact LeO.none _)
      | (with_reducible refine LeO.ite ?_ ?_)
      | (with_reducible refine LeO.bind ?_ (fun _ => ?_))
      | exact ih0 _ _ _ _ _ _ _ _ _ _ _ _
      | exact ih1 _ _ _ _ _ _ _ _
      | exact ih2 _ _ _
      | exact impl_FirstLies.mono _ _ _ _ _
      | exact laws_eqGame.mono _ _ _ _ _ _ _
      | exact laws_eqInt64S.mono _ _ _
      | exact laws_heldInt64S.mono _ _ _
      | exact laws_markGame.mono _ _ _ _ _
      | exact laws_markInt64S.mono _ _ _
      | exact laws_toGame.mono _ _ _ _
      | exact spec_FirstLies.mono _ _ _ _ _
      | exact LeO.none _
      | refine LeO.ite ?_ ?_
      | refine LeO.bind ?_ (fun _ => ?_)
set_option maxHeartbeats 8000000 in
set_option maxRecDepth 100000 in
theorem laws_FnExactFirstLies.calls (k : Nat) (a0_0 : Int) (a0_1 : Int) (A0_2 : Option Addr) (c0_2 : Nat) (l0_2 : List (S97)) (a1 : Int) (r : Bool) (w : World) (hr0_2 : Kd.C k97 w A0_2 l0_2.length l0_2) (hc0_2 : l0_2.length ≤ c0_2) (h : laws_FnExactFirstLies.f k a0_0 a0_1 l0_2 a1 = some r) :
    Calls Try.prog 14 #[.agg #[.int .i8 a0_0, .int .i8 a0_1, .slice A0_2 l0_2.length c0_2], .int .i64 a1] w fun e w' => e = .returned (.bool r) ∧ Below w.heap.size w w' := by
  have hu45 := Try.underlying45
  have hu37 := Try.underlying37
  have HR0_2 := Aside0.mk hr0_2
  have HC0_2 := Aside0.mk hc0_2
  clear hr0_2 hc0_2
  have HB := Aside0.mk (Below.refl w.heap.size w)
  have H : ((laws_szGame.f a0_0 a0_1 l0_2 1048576).bind fun t665 => (if t665 < 0 then (some true) else ((laws_toGame.f k a0_0 a0_1 l0_2).bind fun bt666 => ((spec_FirstLies.f k bt666.1 bt666.2.1 bt666.2.2 a1).bind fun bt671 => ((laws_toGame.f k a0_0 a0_1 l0_2).bind fun bt675 => ((impl_FirstLies.f k bt675.1 bt675.2.1 bt675.2.2 a1).bind fun bt681 => ((laws_eqInt64S.f k bt681.1 bt671.1).bind fun t685 => (if t685 = true then (laws_FnExactFirstLies.j0 k a1 bt671.1 bt671.2 bt681.1 bt681.2 (bt681.2 != bt671.2) a0_0 a0_1 l0_2 bt675.1 bt675.2.1 bt675.2.2) else (laws_FnExactFirstLies.j0 k a1 bt671.1 bt671.2 bt681.1 bt681.2 true a0_0 a0_1 l0_2 bt675.1 bt675.2.1 bt675.2.2))))))))) = some r := h
  clear h
  replace H := Option.bind_eq_some_iff.mp H
  obtain ⟨t665, A30, H⟩ := H
  replace H : (if t665 < 0 then (some true) else ((laws_toGame.f k a0_0 a0_1 l0_2).bind fun bt666 => ((spec_FirstLies.f k bt666.1 bt666.2.1 bt666.2.2 a1).bind fun bt671 => ((laws_toGame.f k a0_0 a0_1 l0_2).bind fun bt675 => ((impl_FirstLies.f k bt675.1 bt675.2.1 bt675.2.2 a1).bind fun bt681 => ((laws_eqInt64S.f k bt681.1 bt671.1).bind fun t685 => (if t685 = true then (laws_FnExactFirstLies.j0 k a1 bt671.1 bt671.2 bt681.1 bt681.2 (bt681.2 != bt671.2) a0_0 a0_1 l0_2 bt675.1 bt675.2.1 bt675.2.2) else (laws_FnExactFirstLies.j0 k a1 bt671.1 bt671.2 bt681.1 bt681.2 true a0_0 a0_1 l0_2 bt675.1 bt675.2.1 bt675.2.2)))))))) = some r := H
  have A3 := Aside0.mk A30
  clear A30
  by_cases c4 : t665 < 0
  · rw [if_pos c4] at H
    have c4b0 : decide (t665 < 0) = true := decide_eq_true c4
    clear c4
    obtain rfl := Option.some.inj H
    go_enter Try.func14, Try.ntmps14
    go_wp2_with (first | ((with_reducible refine gate_dst (N := 2) rfl ?_); refine box_event ?hg (N := 2) ?hd (cs := #[.int .i8 a0_0, .int .i8 a0_1, .slice A0_2 l0_2.length c0_2]) (t := 45) ?hr ?_; (case hd => rfl); (case hg => rfl); (case hr => first | (go_simp; done) | (go_simp; rfl)); intro gb664 hg w5 hbox hb; have n0_ := Aside0.mk (below_step (by repeat (first | (with_reducible first | exact HB.out | apply below_alloc | apply pw_below_drewN | apply below_drew1) | exact HB.out)) hb); have n1_ := Aside0.mk (hbox); have n2_ := Aside0.mk ((by rw [hg]; exact (below_size (by repeat (first | (with_reducible first | exact HB.out | apply below_alloc | apply pw_below_drewN | apply below_drew1) | exact HB.out))) : w.heap.size ≤ gb664)); have n3_ := Aside0.mk ((by rw [hg]; exact (below_size (by repeat (first | (with_reducible first | exact HB.out | apply below_alloc | apply pw_below_drewN | apply below_drew1) | exact HB.out))) : w.heap.size ≤ gb664)); clear HB; have HB := n0_; have BK664 := n1_; have GW664 := n2_; have GE664 := n3_; clear n0_ n1_ n2_ n3_; clear hb hbox hg; have hcz6_0 : w5.cell? ⟨gb664, 0, none⟩ = some (.int .i8 a0_0) := (blk_cell BK664.out 0).trans rfl; have hcz6_1 : w5.cell? ⟨gb664, 1, none⟩ = some (.int .i8 a0_1) := (blk_cell BK664.out 1).trans rfl; have hcz6_2 : w5.cell? ⟨gb664, 2, none⟩ = some (.slice A0_2 l0_2.length c0_2) := (blk_cell BK664.out 2).trans rfl; have hfz6_0 := blk_frozen BK664.out 0; have hfz6_1 := blk_frozen BK664.out 1; have hfz6_2 := blk_frozen BK664.out 2) | ((with_reducible refine gate_callee (f := 30) rfl ?_); refine goesL_ (some 18) rfl rfl Try.func30 (by kernel_rfl) rfl #[.agg #[.int .i8 a0_0, .int .i8 a0_1, .slice A0_2 l0_2.length c0_2], .int .i64 1048576] rfl (by (try simp only [List.map_toArray, List.map_cons, List.map_nil]); first | done | rfl | (simp only [List.length_drop, List.length_take]; rfl)) ?_; (with_reducible refine (laws_szGame.calls a0_0 a0_1 _ _ l0_2 1048576 t665 _ ?side1 ?side2 A3.out).mono ?_); (case side1 => repeat (first | exact (Kd.C_below HR0_2.out HB.out) | (with_reducible refine Kd.C_alloc ?_ _) | (with_reducible refine Kd.C_drewN ?_ _) | (with_reducible refine Kd.C_drew ?_))); (case side2 => exact HC0_2.out); rintro e w7 ⟨rfl, hb⟩; refine ⟨_, rfl, ?_⟩; have n0_ := Aside0.mk (blk_below (g := gb664) (o := .cells #[.int .i8 a0_0, .int .i8 a0_1, .slice A0_2 l0_2.length c0_2] 45 (0, 0)) (by (with_reducible repeat (first | refine blk_drewN ?_ _ | refine blk_drew ?_ | refine blk_alloc ?_ _)); exact BK664.out) hb); have n1_ := Aside0.mk (below_step (by repeat (first | (with_reducible first | exact HB.out | apply below_alloc | apply pw_below_drewN | apply below_drew1 | refine below_set ?_ GE664.out) | exact HB.out)) hb); clear BK664; clear HB; have BK664 := n0_; have HB := n1_; clear n0_ n1_; (try clear hb); (try clear hb2); (try clear hk); (try clear hi)))
    go_ret
    exact ⟨by first | rfl | (simp [errW_none, errW_some] <;> rfl) | (simp [*, errW_none, errW_some] <;> rfl), by repeat (first | (with_reducible first | exact HB.out | apply below_alloc | apply pw_below_drewN | apply below_drew1 | refine below_set ?_ GE664.out) | exact HB.out)⟩
  · rw [if_neg c4] at H
    have c4b0 : decide (t665 < 0) = false := decide_eq_false c4
    clear c4
    replace H := Option.bind_eq_some_iff.mp H
    obtain ⟨⟨t666, t667, t668⟩, A80, H⟩ := H
    replace H : ((spec_FirstLies.f k t666 t667 t668 a1).bind fun bt671 => ((laws_toGame.f k a0_0 a0_1 l0_2).bind fun bt675 => ((impl_FirstLies.f k bt675.1 bt675.2.1 bt675.2.2 a1).bind fun bt681 => ((laws_eqInt64S.f k bt681.1 bt671.1).bind fun t685 => (if t685 = true then (laws_FnExactFirstLies.j0 k a1 bt671.1 bt671.2 bt681.1 bt681.2 (bt681.2 != bt671.2) a0_0 a0_1 l0_2 bt675.1 bt675.2.1 bt675.2.2) else (laws_FnExactFirstLies.j0 k a1 bt671.1 bt671.2 bt681.1 bt681.2 true a0_0 a0_1 l0_2 bt675.1 bt675.2.1 bt675.2.2)))))) = some r := H
    have A8 := Aside0.mk A80
    clear A80
    replace H := Option.bind_eq_some_iff.mp H
    obtain ⟨⟨t671, t674⟩, A90, H⟩ := H
    replace H : ((laws_toGame.f k a0_0 a0_1 l0_2).bind fun bt675 => ((impl_FirstLies.f k bt675.1 bt675.2.1 bt675.2.2 a1).bind fun bt681 => ((laws_eqInt64S.f k bt681.1 t671).bind fun t685 => (if t685 = true then (laws_FnExactFirstLies.j0 k a1 t671 t674 bt681.1 bt681.2 (bt681.2 != t674) a0_0 a0_1 l0_2 bt675.1 bt675.2.1 bt675.2.2) else (laws_FnExactFirstLies.j0 k a1 t671 t674 bt681.1 bt681.2 true a0_0 a0_1 l0_2 bt675.1 bt675.2.1 bt675.2.2))))) = some r := H
    have A9 := Aside0.mk A90
    clear A90
    replace H := Option.bind_eq_some_iff.mp H
    obtain ⟨⟨t675, t676, t677⟩, A100, H⟩ := H
    replace H : ((impl_FirstLies.f k t675 t676 t677 a1).bind fun bt681 => ((laws_eqInt64S.f k bt681.1 t671).bind fun t685 => (if t685 = true then (laws_FnExactFirstLies.j0 k a1 t671 t674 bt681.1 bt681.2 (bt681.2 != t674) a0_0 a0_1 l0_2 t675 t676 t677) else (laws_FnExactFirstLies.j0 k a1 t671 t674 bt681.1 bt681.2 true a0_0 a0_1 l0_2 t675 t676 t677)))) = some r := H
    have A10 := Aside0.mk A100
    clear A100
    replace H := Option.bind_eq_some_iff.mp H
    obtain ⟨⟨t681, t684⟩, A110, H⟩ := H
    replace H : ((laws_eqInt64S.f k t681 t671).bind fun t685 => (if t685 = true then (laws_FnExactFirstLies.j0 k a1 t671 t674 t681 t684 (t684 != t674) a0_0 a0_1 l0_2 t675 t676 t677) else (laws_FnExactFirstLies.j0 k a1 t671 t674 t681 t684 true a0_0 a0_1 l0_2 t675 t676 t677))) = some r := H
    have A11 := Aside0.mk A110
    clear A110
    have HC12 := Aside0.mk H
    clear H
    go_enter Try.func14, Try.ntmps14
    go_upto_region 8 with (first | ((with_reducible refine gate_dst (N := 2) rfl ?_); refine box_event ?hg (N := 2) ?hd (cs := #[.int .i8 a0_0, .int .i8 a0_1, .slice A0_2 l0_2.length c0_2]) (t := 45) ?hr ?_; (case hd => rfl); (case hg => rfl); (case hr => first | (go_simp; done) | (go_simp; rfl)); intro gb664 hg w13 hbox hb; have n0_ := Aside0.mk (below_step (by repeat (first | (with_reducible first | exact HB.out | apply below_alloc | apply pw_below_drewN | apply below_drew1) | exact HB.out)) hb); have n1_ := Aside0.mk (hbox); have n2_ := Aside0.mk ((by rw [hg]; exact (below_size (by repeat (first | (with_reducible first | exact HB.out | apply below_alloc | apply pw_below_drewN | apply below_drew1) | exact HB.out))) : w.heap.size ≤ gb664)); have n3_ := Aside0.mk ((by rw [hg]; exact (below_size (by repeat (first | (with_reducible first | exact HB.out | apply below_alloc | apply pw_below_drewN | apply below_drew1) | exact HB.out))) : w.heap.size ≤ gb664)); clear HB; have HB := n0_; have BK664 := n1_; have GW664 := n2_; have GE664 := n3_; clear n0_ n1_ n2_ n3_; clear hb hbox hg; have hcz14_0 : w13.cell? ⟨gb664, 0, none⟩ = some (.int .i8 a0_0) := (blk_cell BK664.out 0).trans rfl; have hcz14_1 : w13.cell? ⟨gb664, 1, none⟩ = some (.int .i8 a0_1) := (blk_cell BK664.out 1).trans rfl; have hcz14_2 : w13.cell? ⟨gb664, 2, none⟩ = some (.slice A0_2 l0_2.length c0_2) := (blk_cell BK664.out 2).trans rfl; have hfz14_0 := blk_frozen BK664.out 0; have hfz14_1 := blk_frozen BK664.out 1; have hfz14_2 := blk_frozen BK664.out 2) | ((with_reducible refine gate_callee (f := 30) rfl ?_); refine goesL_ (some 18) rfl rfl Try.func30 (by kernel_rfl) rfl #[.agg #[.int .i8 a0_0, .int .i8 a0_1, .slice A0_2 l0_2.length c0_2], .int .i64 1048576] rfl (by (try simp only [List.map_toArray, List.map_cons, List.map_nil]); first | done | rfl | (simp only [List.length_drop, List.length_take]; rfl)) ?_; (with_reducible refine (laws_szGame.calls a0_0 a0_1 _ _ l0_2 1048576 t665 _ ?side1 ?side2 A3.out).mono ?_); (case side1 => repeat (first | exact (Kd.C_below HR0_2.out HB.out) | (with_reducible refine Kd.C_alloc ?_ _) | (with_reducible refine Kd.C_drewN ?_ _) | (with_reducible refine Kd.C_drew ?_))); (case side2 => exact HC0_2.out); rintro e w15 ⟨rfl, hb⟩; refine ⟨_, rfl, ?_⟩; have n0_ := Aside0.mk (blk_below (g := gb664) (o := .cells #[.int .i8 a0_0, .int .i8 a0_1, .slice A0_2 l0_2.length c0_2] 45 (0, 0)) (by (with_reducible repeat (first | refine blk_drewN ?_ _ | refine blk_drew ?_ | refine blk_alloc ?_ _)); exact BK664.out) hb); have n1_ := Aside0.mk (below_step (by repeat (first | (with_reducible first | exact HB.out | apply below_alloc | apply pw_below_drewN | apply below_drew1 | refine below_set ?_ GE664.out) | exact HB.out)) hb); clear BK664; clear HB; have BK664 := n0_; have HB := n1_; clear n0_ n1_; (try clear hb); (try clear hb2); (try clear hk); (try clear hi); have hcz16_0 : w15.cell? ⟨gb664, 0, none⟩ = some (.int .i8 a0_0) := (blk_cell BK664.out 0).trans rfl; have hcz16_1 : w15.cell? ⟨gb664, 1, none⟩ = some (.int .i8 a0_1) := (blk_cell BK664.out 1).trans rfl; have hcz16_2 : w15.cell? ⟨gb664, 2, none⟩ = some (.slice A0_2 l0_2.length c0_2) := (blk_cell BK664.out 2).trans rfl; have hfz16_0 := blk_frozen BK664.out 0; have hfz16_1 := blk_frozen BK664.out 1; have hfz16_2 := blk_frozen BK664.out 2) | ((with_reducible refine gate_callee (f := 32) rfl ?_); refine goesL_ (some 23) rfl rfl Try.func32 (by kernel_rfl) rfl #[.agg #[.int .i8 a0_0, .int .i8 a0_1, .slice A0_2 l0_2.length c0_2]] rfl (by (try simp only [List.map_toArray, List.map_cons, List.map_nil]); first | done | rfl | (simp only [List.length_drop, List.length_take]; rfl)) ?_; (with_reducible refine (laws_toGame.calls k a0_0 a0_1 _ _ l0_2 t666 t667 t668 _ ?side1 ?side2 A8.out).mono ?_); (case side1 => repeat (first | exact (Kd.C_below HR0_2.out HB.out) | (with_reducible refine Kd.C_alloc ?_ _) | (with_reducible refine Kd.C_drewN ?_ _) | (with_reducible refine Kd.C_drew ?_))); (case side2 => exact HC0_2.out); rintro e w17 ⟨v669, rfl, ho0, hb⟩; refine ⟨_, rfl, ?_⟩; have n0_ := Aside0.mk (Kd.R_lower ho0 (below_size (by repeat (first | (with_reducible first | exact HB.out | apply below_alloc | apply pw_below_drewN | apply below_drew1 | refine below_set ?_ GE664.out) | exact HB.out)))); have n1_ := Aside0.mk (blk_below (g := gb664) (o := .cells #[.int .i8 a0_0, .int .i8 a0_1, .slice A0_2 l0_2.length c0_2] 45 (0, 0)) (by (with_reducible repeat (first | refine blk_drewN ?_ _ | refine blk_drew ?_ | refine blk_alloc ?_ _)); exact BK664.out) hb); have n2_ := Aside0.mk (below_step (by repeat (first | (with_reducible first | exact HB.out | apply below_alloc | apply pw_below_drewN | apply below_drew1 | refine below_set ?_ GE664.out) | exact HB.out)) hb); clear BK664; clear HB; have HO670 := n0_; have BK664 := n1_; have HB := n2_; clear n0_ n1_ n2_; (try clear hb); (try clear hb2); (try clear hk); (try clear hi); (try clear ho0); obtain ⟨Ao18, co18, eo18⟩ := Kd.R_slice HO670.out; subst eo18) | ((with_reducible refine gate_callee (f := 44) rfl ?_); refine goesL_ (some 25) rfl rfl Try.func44 (by kernel_rfl) rfl #[.agg #[.int .i8 t666, .int .i8 t667, .slice Ao18 t668.length co18], .int .i64 a1] rfl (by (try simp only [List.map_toArray, List.map_cons, List.map_nil]); first | done | rfl | (simp only [List.length_drop, List.length_take]; rfl)) ?_; (with_reducible refine (spec_FirstLies.calls k t666 t667 _ _ t668 a1 t671 t674 _ ?side1 ?side2 A9.out).mono ?_); (case side1 => repeat (first | exact (Kd.R_reads' HO670.out).2.2 | (with_reducible refine Kd.C_alloc ?_ _) | (with_reducible refine Kd.C_drewN ?_ _) | (with_reducible refine Kd.C_drew ?_))); (case side2 => exact (Kd.R_reads' HO670.out).2.1); rintro e w19 ⟨v672, rfl, ho0, hb⟩; refine ⟨_, rfl, ?_⟩; have n0_ := Aside0.mk (Kd.R_below (by (with_reducible repeat (first | apply Kd.R_alloc | apply Kd.R_drewN | apply Kd.R_drew)); exact HO670.out) hb); have n1_ := Aside0.mk (Kd.R_lower ho0 (below_size (by repeat (first | (with_reducible first | exact HB.out | apply below_alloc | apply pw_below_drewN | apply below_drew1 | refine below_set ?_ GE664.out) | exact HB.out)))); have n2_ := Aside0.mk (blk_below (g := gb664) (o := .cells #[.int .i8 a0_0, .int .i8 a0_1, .slice A0_2 l0_2.length c0_2] 45 (0, 0)) (by (with_reducible repeat (first | refine blk_drewN ?_ _ | refine blk_drew ?_ | refine blk_alloc ?_ _)); exact BK664.out) hb); have n3_ := Aside0.mk (below_step (by repeat (first | (with_reducible first | exact HB.out | apply below_alloc | apply pw_below_drewN | apply below_drew1 | refine below_set ?_ GE664.out) | exact HB.out)) hb); clear HO670; clear BK664; clear HB; have HO670 := n0_; have HO673 := n1_; have BK664 := n2_; have HB := n3_; clear n0_ n1_ n2_ n3_; (try clear hb); (try clear hb2); (try clear hk); (try clear hi); (try clear ho0); have hcz20_0 : w19.cell? ⟨gb664, 0, none⟩ = some (.int .i8 a0_0) := (blk_cell BK664.out 0).trans rfl; have hcz20_1 : w19.cell? ⟨gb664, 1, none⟩ = some (.int .i8 a0_1) := (blk_cell BK664.out 1).trans rfl; have hcz20_2 : w19.cell? ⟨gb664, 2, none⟩ = some (.slice A0_2 l0_2.length c0_2) := (blk_cell BK664.out 2).trans rfl; have hfz20_0 := blk_frozen BK664.out 0; have hfz20_1 := blk_frozen BK664.out 1; have hfz20_2 := blk_frozen BK664.out 2) | ((with_reducible refine gate_callee (f := 32) rfl ?_); refine goesL_ (some 29) rfl rfl Try.func32 (by kernel_rfl) rfl #[.agg #[.int .i8 a0_0, .int .i8 a0_1, .slice A0_2 l0_2.length c0_2]] rfl (by (try simp only [List.map_toArray, List.map_cons, List.map_nil]); first | done | rfl | (simp only [List.length_drop, List.length_take]; rfl)) ?_; (with_reducible refine (laws_toGame.calls k a0_0 a0_1 _ _ l0_2 t675 t676 t677 _ ?side1 ?side2 A10.out).mono ?_); (case side1 => repeat (first | exact (Kd.C_below HR0_2.out HB.out) | (with_reducible refine Kd.C_alloc ?_ _) | (with_reducible refine Kd.C_drewN ?_ _) | (with_reducible refine Kd.C_drew ?_))); (case side2 => exact HC0_2.out); rintro e w21 ⟨v678, rfl, ho0, hb⟩; refine ⟨_, rfl, ?_⟩; have n0_ := Aside0.mk (Kd.R_elder' (by (with_reducible repeat (first | apply Kd.R_alloc | apply Kd.R_drewN | apply Kd.R_drew)); exact HO670.out) (Kd.R_base ho0) hb); have n1_ := Aside0.mk (Kd.R_below (by (with_reducible repeat (first | apply Kd.R_alloc | apply Kd.R_drewN | apply Kd.R_drew)); exact HO673.out) hb); have n2_ := Aside0.mk (Kd.R_lower (Kd.R_new' ho0 (Kd.R_lt (by (with_reducible repeat (first | apply Kd.R_alloc | apply Kd.R_drewN | apply Kd.R_drew)); exact HO670.out))) (below_size (by repeat (first | (with_reducible first | exact HB.out | apply below_alloc | apply pw_below_drewN | apply below_drew1 | refine below_set ?_ GE664.out) | exact HB.out)))); have n3_ := Aside0.mk (blk_below (g := gb664) (o := .cells #[.int .i8 a0_0, .int .i8 a0_1, .slice A0_2 l0_2.length c0_2] 45 (0, 0)) (by (with_reducible repeat (first | refine blk_drewN ?_ _ | refine blk_drew ?_ | refine blk_alloc ?_ _)); exact BK664.out) hb); have n4_ := Aside0.mk (below_step (by repeat (first | (with_reducible first | exact HB.out | apply below_alloc | apply pw_below_drewN | apply below_drew1 | refine below_set ?_ GE664.out) | exact HB.out)) hb); clear HO670; clear HO673; clear BK664; clear HB; have HO670 := n0_; have HO673 := n1_; have HO679 := n2_; have BK664 := n3_; have HB := n4_; clear n0_ n1_ n2_ n3_ n4_; (try clear hb); (try clear hb2); (try clear hk); (try clear hi); (try clear ho0)) | ((with_reducible refine gate_dst (N := 8) rfl ?_); refine box_event ?hg (N := 8) ?hd (cs := #[.int .i8 0, .int .i8 0, .slice none 0 0]) (t := 37) ?hr ?_; (case hd => rfl); (case hg => rfl); (case hr => first | (go_simp; done) | (go_simp; rfl)); intro gb680 hg w22 hbox hb; have n0_ := Aside0.mk (Kd.R_below (by (with_reducible repeat (first | apply Kd.R_alloc | apply Kd.R_drewN | apply Kd.R_drew)); exact HO670.out) hb); have n1_ := Aside0.mk (Kd.R_below (by (with_reducible repeat (first | apply Kd.R_alloc | apply Kd.R_drewN | apply Kd.R_drew)); exact HO673.out) hb); have n2_ := Aside0.mk (Kd.R_below (by (with_reducible repeat (first | apply Kd.R_alloc | apply Kd.R_drewN | apply Kd.R_drew)); exact HO679.out) hb); have n3_ := Aside0.mk (blk_below (g := gb664) (o := .cells #[.int .i8 a0_0, .int .i8 a0_1, .slice A0_2 l0_2.length c0_2] 45 (0, 0)) (by (with_reducible repeat (first | refine blk_drewN ?_ _ | refine blk_drew ?_ | refine blk_alloc ?_ _)); exact BK664.out) hb); have n4_ := Aside0.mk (below_step (by repeat (first | (with_reducible first | exact HB.out | apply below_alloc | apply pw_below_drewN | apply below_drew1 | refine below_set ?_ GE664.out) | exact HB.out)) hb); have n5_ := Aside0.mk (hbox); have n6_ := Aside0.mk ((by rw [hg]; exact (below_size (by repeat (first | (with_reducible first | exact HB.out | apply below_alloc | apply pw_below_drewN | apply below_drew1 | refine below_set ?_ GE664.out) | exact HB.out))) : w.heap.size ≤ gb680)); have n7_ := Aside0.mk ((by rw [hg]; exact (below_size (by repeat (first | (with_reducible first | exact HB.out | apply below_alloc | apply pw_below_drewN | apply below_drew1 | refine below_set ?_ GE664.out) | exact HB.out))) : w.heap.size ≤ gb680)); have n8_ := Aside0.mk ((by rw [hg]; exact Nat.ne_of_lt (blk_lt (g := gb664) (o := .cells #[.int .i8 a0_0, .int .i8 a0_1, .slice A0_2 l0_2.length c0_2] 45 (0, 0)) (by (with_reducible repeat (first | refine blk_drewN ?_ _ | refine blk_drew ?_ | refine blk_alloc ?_ _)); exact BK664.out)) : gb664 ≠ gb680)); have n9_ := Aside0.mk ((by rw [hg]; exact Nat.ne_of_gt (blk_lt (g := gb664) (o := .cells #[.int .i8 a0_0, .int .i8 a0_1, .slice A0_2 l0_2.length c0_2] 45 (0, 0)) (by (with_reducible repeat (first | refine blk_drewN ?_ _ | refine blk_drew ?_ | refine blk_alloc ?_ _)); exact BK664.out)) : gb680 ≠ gb664)); clear HO670; clear HO673; clear HO679; clear BK664; clear HB; have HO670 := n0_; have HO673 := n1_; have HO679 := n2_; have BK664 := n3_; have HB := n4_; have BK680 := n5_; have GW680 := n6_; have GE680 := n7_; have NB664_680 := n8_; have NB680_664 := n9_; clear n0_ n1_ n2_ n3_ n4_ n5_ n6_ n7_ n8_ n9_; clear hb hbox hg; have hnb23 := NB680_664.out; have hnc23 := NB664_680.out; have hcz24_0 : w22.cell? ⟨gb680, 0, none⟩ = some (.int .i8 0) := (blk_cell BK680.out 0).trans rfl; have hcz24_1 : w22.cell? ⟨gb680, 1, none⟩ = some (.int .i8 0) := (blk_cell BK680.out 1).trans rfl; have hcz24_2 : w22.cell? ⟨gb680, 2, none⟩ = some (.slice none 0 0) := (blk_cell BK680.out 2).trans rfl; have hfz24_0 := blk_frozen BK680.out 0; have hfz24_1 := blk_frozen BK680.out 1; have hfz24_2 := blk_frozen BK680.out 2; obtain ⟨Ao25, co25, eo25⟩ := Kd.R_slice HO679.out; subst eo25) | ((with_reducible refine gate_callee (f := 45) rfl ?_); refine goesL_ (some 33) rfl rfl Try.func45 (by kernel_rfl) rfl #[.agg #[.int .i8 t675, .int .i8 t676, .slice Ao25 t677.length co25], .int .i64 a1] rfl (by (try simp only [List.map_toArray, List.map_cons, List.map_nil]); first | done | rfl | (simp only [List.length_drop, List.length_take]; rfl)) ?_; (with_reducible refine (impl_FirstLies.calls k t675 t676 _ _ t677 a1 t681 t684 _ ?side1 ?side2 A11.out).mono ?_); (case side1 => refine (Kd.R_reads' (e := 75) (base := w.heap.size) (ok := fun k_ => (True ∧ some k_ ≠ (.slice Ao18 t668.length co18 : Value).ownBlock)) (n := t677.length) (c := co25) ?_).2.2; exact (by (with_reducible repeat (first | apply Kd.R_alloc | apply Kd.R_drewN | apply Kd.R_drew)); exact (Kd.R_mono (Kd.R_far (p := ⟨gb680, 2, none⟩) (Kd.R_far (p := ⟨gb680, 1, none⟩) (Kd.R_far (p := ⟨gb680, 0, none⟩) (Kd.R_types HO679.out BK680.out (by decide)) (fun _ hk => hk.2) (.int .i8 t675)) (fun _ hk => hk.2) (.int .i8 t676)) (fun _ hk => hk.2) (.slice Ao25 t677.length co25)) (fun _ h_ => h_.1)))); (case side2 => exact (Kd.R_reads' HO679.out).2.1); rintro e w26 ⟨v682, rfl, ho0, hb⟩; refine ⟨_, rfl, ?_⟩; have n0_ := Aside0.mk (Kd.R_below (by (with_reducible repeat (first | apply Kd.R_alloc | apply Kd.R_drewN | apply Kd.R_drew)); exact (Kd.R_mono (Kd.R_far (p := ⟨gb680, 2, none⟩) (Kd.R_far (p := ⟨gb680, 1, none⟩) (Kd.R_far (p := ⟨gb680, 0, none⟩) (Kd.R_types HO670.out BK680.out (by decide)) (fun _ hk => hk.2) (.int .i8 t675)) (fun _ hk => hk.2) (.int .i8 t676)) (fun _ hk => hk.2) (.slice Ao25 t677.length co25)) (fun _ h_ => h_.1))) hb); have n1_ := Aside0.mk (Kd.R_elder' (by (with_reducible repeat (first | apply Kd.R_alloc | apply Kd.R_drewN | apply Kd.R_drew)); exact (Kd.R_mono (Kd.R_far (p := ⟨gb680, 2, none⟩) (Kd.R_far (p := ⟨gb680, 1, none⟩) (Kd.R_far (p := ⟨gb680, 0, none⟩) (Kd.R_types HO673.out BK680.out (by decide)) (fun _ hk => hk.2) (.int .i8 t675)) (fun _ hk => hk.2) (.int .i8 t676)) (fun _ hk => hk.2) (.slice Ao25 t677.length co25)) (fun _ h_ => h_.1))) (Kd.R_base ho0) hb); have n2_ := Aside0.mk (Kd.R_below (by (with_reducible repeat (first | apply Kd.R_alloc | apply Kd.R_drewN | apply Kd.R_drew)); exact (Kd.R_mono (Kd.R_far (p := ⟨gb680, 2, none⟩) (Kd.R_far (p := ⟨gb680, 1, none⟩) (Kd.R_far (p := ⟨gb680, 0, none⟩) (Kd.R_types HO679.out BK680.out (by decide)) (fun _ hk => hk.2) (.int .i8 t675)) (fun _ hk => hk.2) (.int .i8 t676)) (fun _ hk => hk.2) (.slice Ao25 t677.length co25)) (fun _ h_ => h_.1))) hb); have n3_ := Aside0.mk (Kd.R_lower (Kd.R_new' ho0 (Kd.R_lt (by (with_reducible repeat (first | apply Kd.R_alloc | apply Kd.R_drewN | apply Kd.R_drew)); exact (Kd.R_mono (Kd.R_far (p := ⟨gb680, 2, none⟩) (Kd.R_far (p := ⟨gb680, 1, none⟩) (Kd.R_far (p := ⟨gb680, 0, none⟩) (Kd.R_types HO673.out BK680.out (by decide)) (fun _ hk => hk.2) (.int .i8 t675)) (fun _ hk => hk.2) (.int .i8 t676)) (fun _ hk => hk.2) (.slice Ao25 t677.length co25)) (fun _ h_ => h_.1))))) (below_size (by repeat (first | (with_reducible first | exact HB.out | apply below_alloc | apply pw_below_drewN | apply below_drew1 | refine below_set ?_ GE664.out | refine below_set ?_ GE680.out) | exact HB.out)))); have n4_ := Aside0.mk (blk_below (g := gb664) (o := .cells #[.int .i8 a0_0, .int .i8 a0_1, .slice A0_2 l0_2.length c0_2] 45 (0, 0)) (by (with_reducible repeat (first | refine blk_drewN ?_ _ | refine blk_drew ?_ | refine blk_alloc ?_ _)); refine blk_far ?_ NB664_680.out _; (with_reducible repeat (first | refine blk_drewN ?_ _ | refine blk_drew ?_ | refine blk_alloc ?_ _)); refine blk_far ?_ NB664_680.out _; (with_reducible repeat (first | refine blk_drewN ?_ _ | refine blk_drew ?_ | refine blk_alloc ?_ _)); refine blk_far ?_ NB664_680.out _; (with_reducible repeat (first | refine blk_drewN ?_ _ | refine blk_drew ?_ | refine blk_alloc ?_ _)); exact BK664.out) hb); have n5_ := Aside0.mk (blk_below (g := gb680) (o := .cells #[.int .i8 t675, .int .i8 t676, .slice Ao25 t677.length co25] 37 (0, 0)) (by (with_reducible repeat (first | refine blk_drewN ?_ _ | refine blk_drew ?_ | refine blk_alloc ?_ _)); refine blk_put (cs := #[.int .i8 t675, .int .i8 t676, .slice none 0 0]) ?_ 2 _ rfl; (with_reducible repeat (first | refine blk_drewN ?_ _ | refine blk_drew ?_ | refine blk_alloc ?_ _)); refine blk_put (cs := #[.int .i8 t675, .int .i8 0, .slice none 0 0]) ?_ 1 _ rfl; (with_reducible repeat (first | refine blk_drewN ?_ _ | refine blk_drew ?_ | refine blk_alloc ?_ _)); refine blk_put (cs := #[.int .i8 0, .int .i8 0, .slice none 0 0]) ?_ 0 _ rfl; (with_reducible repeat (first | refine blk_drewN ?_ _ | refine blk_drew ?_ | refine blk_alloc ?_ _)); exact BK680.out) hb); have n6_ := Aside0.mk (below_step (by repeat (first | (with_reducible first | exact HB.out | apply below_alloc | apply pw_below_drewN | apply below_drew1 | refine below_set ?_ GE664.out | refine below_set ?_ GE680.out) | exact HB.out)) hb); clear HO670; clear HO673; clear HO679; clear BK664; clear BK680; clear HB; have HO670 := n0_; have HO673 := n1_; have HO679 := n2_; have HO683 := n3_; have BK664 := n4_; have BK680 := n5_; have HB := n6_; clear n0_ n1_ n2_ n3_ n4_ n5_ n6_; (try clear hb); (try clear hb2); (try clear hk); (try clear hi); (try clear ho0)))
    (try simp only [Act.put, List.setIfInBounds_toArray, List.set_cons_zero, List.set_cons_succ])
    go_cut [44] (fun v44 wc => ∃ (kq : Nat) (x44_11 : Bool), v44 = .bool x44_11 ∧ Aside0 (laws_FnExactFirstLies.j0 kq a1 t671 t674 t681 t684 x44_11 a0_0 a0_1 l0_2 t675 t676 t677 = some r) ∧ Aside0 (kq ≤ k) ∧ Aside0 (Kd.R (Kd.int .i64) 2 wc w.heap.size (fun k_ => some k_ ≠ (v682 : Value).ownBlock) v672 t671) ∧ Aside0 (Kd.R (Kd.int .i64) 2 wc w.heap.size (fun k_ => some k_ ≠ (v672 : Value).ownBlock) v682 t681) ∧ Aside0 (Kd.R k75 75 wc w.heap.size (fun _ => True) (.slice Ao25 t677.length co25) t677) ∧ Aside0 (wc.heap[gb664]? = some (.cells #[.int .i8 a0_0, .int .i8 a0_1, (.slice A0_2 l0_2.length c0_2)] 45 (0, 0))) ∧ Aside0 (wc.heap[gb680]? = some (.cells #[.int .i8 t675, .int .i8 t676, (.slice Ao25 t677.length co25)] 37 (0, 0))) ∧ Aside0 (Below w.heap.size w wc))
    case first =>
      have H := HC12.out
      clear HC12
      replace H := Option.bind_eq_some_iff.mp H
      obtain ⟨t685, A270, H⟩ := H
      replace H : (if t685 = true then (laws_FnExactFirstLies.j0 k a1 t671 t674 t681 t684 (t684 != t674) a0_0 a0_1 l0_2 t675 t676 t677) else (laws_FnExactFirstLies.j0 k a1 t671 t674 t681 t684 true a0_0 a0_1 l0_2 t675 t676 t677)) = some r := H
      have A27 := Aside0.mk A270
      clear A270
      by_cases c28 : t685 = true
      · subst c28
        have H1 : (laws_FnExactFirstLies.j0 k a1 t671 t674 t681 t684 (t684 != t674) a0_0 a0_1 l0_2 t675 t676 t677) = some r := by rw [if_pos rfl] at H; exact H
        clear H
        have H := H1
        clear H1
        have H' := Aside0.mk H
        clear H
        obtain ⟨Ao29, co29, eo29⟩ := Kd.R_slice HO683.out
        subst eo29
        obtain ⟨Ao30, co30, eo30⟩ := Kd.R_slice HO673.out
        subst eo30
        go_wp2_with (first | ((with_reducible refine gate_callee (f := 46) rfl ?_); refine goesL_ (some 38) rfl rfl Try.func46 (by kernel_rfl) rfl #[.slice Ao29 t681.length co29, .slice Ao30 t671.length co30] rfl (by (try simp only [List.map_toArray, List.map_cons, List.map_nil]); first | done | rfl | (simp only [List.length_drop, List.length_take]; rfl)) ?_; (with_reducible refine (laws_eqInt64S.calls k _ _ t681 _ _ t671 true _ ?side1 ?side2 ?side3 ?side4 A27.out).mono ?_); (case side1 => repeat (first | exact (Kd.R_reads' HO683.out).2.2 | (with_reducible refine Kd.C_alloc ?_ _) | (with_reducible refine Kd.C_drewN ?_ _) | (with_reducible refine Kd.C_drew ?_))); (case side2 => exact (Kd.R_reads' HO683.out).2.1); (case side3 => repeat (first | exact (Kd.R_reads' HO673.out).2.2 | (with_reducible refine Kd.C_alloc ?_ _) | (with_reducible refine Kd.C_drewN ?_ _) | (with_reducible refine Kd.C_drew ?_))); (case side4 => exact (Kd.R_reads' HO673.out).2.1); rintro e w' ⟨rfl, ⟨nd, rfl⟩⟩; refine ⟨_, rfl, ?_⟩))
        go_meet
        case rel => exact ⟨_, ((t684 != t674)), (by first | rfl | (simp; done) | (simp [*]; done)), H', ⟨by first | omega | exact Nat.le_refl _⟩, ⟨by (with_reducible repeat (first | apply Kd.R_alloc | apply Kd.R_drewN | apply Kd.R_drew)); exact Kd.R_mono HO673.out (fun _ hk => hk.2)⟩, ⟨by (with_reducible repeat (first | apply Kd.R_alloc | apply Kd.R_drewN | apply Kd.R_drew)); exact Kd.R_mono HO683.out (fun _ hk => hk.2)⟩, ⟨by (with_reducible repeat (first | apply Kd.R_alloc | apply Kd.R_drewN | apply Kd.R_drew)); exact Kd.R_mono HO679.out (fun _ hk => trivial)⟩, ⟨by (with_reducible repeat (first | refine blk_drewN ?_ _ | refine blk_drew ?_ | refine blk_alloc ?_ _)); exact BK664.out⟩, ⟨by (with_reducible repeat (first | refine blk_drewN ?_ _ | refine blk_drew ?_ | refine blk_alloc ?_ _)); exact BK680.out⟩, ⟨by repeat (first | (with_reducible first | exact HB.out | apply below_alloc | apply pw_below_drewN | apply below_drew1 | refine below_set ?_ GE664.out | refine below_set ?_ GE680.out) | exact HB.out)⟩⟩
      · replace c28 := Bool.eq_false_iff.mpr c28
        subst c28
        have H1 : (laws_FnExactFirstLies.j0 k a1 t671 t674 t681 t684 true a0_0 a0_1 l0_2 t675 t676 t677) = some r := by rw [if_neg (show ¬ (false = true) by decide)] at H; exact H
        clear H
        have H := H1
        clear H1
        have H' := Aside0.mk H
        clear H
        obtain ⟨Ao31, co31, eo31⟩ := Kd.R_slice HO683.out
        subst eo31
        obtain ⟨Ao32, co32, eo32⟩ := Kd.R_slice HO673.out
        subst eo32
        go_wp2_with (first | ((with_reducible refine gate_callee (f := 46) rfl ?_); refine goesL_ (some 38) rfl rfl Try.func46 (by kernel_rfl) rfl #[.slice Ao31 t681.length co31, .slice Ao32 t671.length co32] rfl (by (try simp only [List.map_toArray, List.map_cons, List.map_nil]); first | done | rfl | (simp only [List.length_drop, List.length_take]; rfl)) ?_; (with_reducible refine (laws_eqInt64S.calls k _ _ t681 _ _ t671 false _ ?side1 ?side2 ?side3 ?side4 A27.out).mono ?_); (case side1 => repeat (first | exact (Kd.R_reads' HO683.out).2.2 | (with_reducible refine Kd.C_alloc ?_ _) | (with_reducible refine Kd.C_drewN ?_ _) | (with_reducible refine Kd.C_drew ?_))); (case side2 => exact (Kd.R_reads' HO683.out).2.1); (case side3 => repeat (first | exact (Kd.R_reads' HO673.out).2.2 | (with_reducible refine Kd.C_alloc ?_ _) | (with_reducible refine Kd.C_drewN ?_ _) | (with_reducible refine Kd.C_drew ?_))); (case side4 => exact (Kd.R_reads' HO673.out).2.1); rintro e w' ⟨rfl, ⟨nd, rfl⟩⟩; refine ⟨_, rfl, ?_⟩))
        go_meet
        case rel => exact ⟨_, (true), (by first | rfl | (simp; done) | (simp [*]; done)), H', ⟨by first | omega | exact Nat.le_refl _⟩, ⟨by (with_reducible repeat (first | apply Kd.R_alloc | apply Kd.R_drewN | apply Kd.R_drew)); exact Kd.R_mono HO673.out (fun _ hk => hk.2)⟩, ⟨by (with_reducible repeat (first | apply Kd.R_alloc | apply Kd.R_drewN | apply Kd.R_drew)); exact Kd.R_mono HO683.out (fun _ hk => hk.2)⟩, ⟨by (with_reducible repeat (first | apply Kd.R_alloc | apply Kd.R_drewN | apply Kd.R_drew)); exact Kd.R_mono HO679.out (fun _ hk => trivial)⟩, ⟨by (with_reducible repeat (first | refine blk_drewN ?_ _ | refine blk_drew ?_ | refine blk_alloc ?_ _)); exact BK664.out⟩, ⟨by (with_reducible repeat (first | refine blk_drewN ?_ _ | refine blk_drew ?_ | refine blk_alloc ?_ _)); exact BK680.out⟩, ⟨by repeat (first | (with_reducible first | exact HB.out | apply below_alloc | apply pw_below_drewN | apply below_drew1 | refine below_set ?_ GE664.out | refine below_set ?_ GE680.out) | exact HB.out)⟩⟩
    case rest =>
      clear HC12
      try clear c1
      try clear c2
      try clear p2
      try clear c3
      try clear c4
      try clear c4b0
      try clear c14
      try clear c23
      try clear c28
      try clear c30
      try clear c32
      try clear hcz14_0
      try clear hcz14_1
      try clear hcz14_2
      try clear hcz16_0
      try clear hcz16_1
      try clear hcz16_2
      try clear hcz20_0
      try clear hcz20_1
      try clear hcz20_2
      try clear hcz24_0
      try clear hcz24_1
      try clear hcz24_2
      try clear hcz6_0
      try clear hcz6_1
      try clear hcz6_2
      try clear hfz14_0
      try clear hfz14_1
      try clear hfz14_2
      try clear hfz16_0
      try clear hfz16_1
      try clear hfz16_2
      try clear hfz20_0
      try clear hfz20_1
      try clear hfz20_2
      try clear hfz24_0
      try clear hfz24_1
      try clear hfz24_2
      try clear hfz6_0
      try clear hfz6_1
      try clear hfz6_2
      obtain ⟨kq, x44_11, rfl, HA, HJ11, HO_6, HO_9, HO_681002, BK664, BK680, HB⟩ := hcut
      cases kq with
      | zero => exact absurd HA.out (by simp [laws_FnExactFirstLies.j0])
      | succ kj11 =>
        have H := HA.out
        clear HA
        simp only [laws_FnExactFirstLies.j0] at H
        by_cases c33 : x44_11 = true
        · subst c33
          have H1 : (some false) = some r := by rw [if_pos rfl] at H; exact H
          clear H
          have H := H1
          clear H1
          obtain rfl := Option.some.inj H
          go_wp2
          go_ret
          exact ⟨by first | rfl | (simp [errW_none, errW_some] <;> rfl) | (simp [*, errW_none, errW_some] <;> rfl), by repeat (first | (with_reducible first | exact HB.out | apply below_alloc | apply pw_below_drewN | apply below_drew1 | refine below_set ?_ GE664.out | refine below_set ?_ GE680.out) | exact HB.out)⟩
        · replace c33 := Bool.eq_false_iff.mpr c33
          subst c33
          have H1 : ((laws_toGame.f kj11 a0_0 a0_1 l0_2).bind fun bt686 => ((laws_eqGame.f kj11 t675 t676 t677 bt686.1 bt686.2.1 bt686.2.2).bind fun t691 => (if t691 = true then ((laws_markGame.f kj11 t675 t676 t677 1).bind fun bt692 => (if bt692.1 < 0 then (laws_FnExactFirstLies.j1 kj11 a1 t671 t674 t681 true a0_0 a0_1 l0_2) else ((laws_eqInt64S.f kj11 t681 t671).bind fun t694 => (if t694 = true then (laws_FnExactFirstLies.j1 kj11 a1 t671 t674 t681 (t684 != t674) a0_0 a0_1 l0_2) else (laws_FnExactFirstLies.j1 kj11 a1 t671 t674 t681 true a0_0 a0_1 l0_2))))) else (some false)))) = some r := by rw [if_neg (show ¬ (false = true) by decide)] at H; exact H
          clear H
          have H := H1
          clear H1
          replace H := Option.bind_eq_some_iff.mp H
          obtain ⟨⟨t686, t687, t688⟩, A340, H⟩ := H
          replace H : ((laws_eqGame.f kj11 t675 t676 t677 t686 t687 t688).bind fun t691 => (if t691 = true then ((laws_markGame.f kj11 t675 t676 t677 1).bind fun bt692 => (if bt692.1 < 0 then (laws_FnExactFirstLies.j1 kj11 a1 t671 t674 t681 true a0_0 a0_1 l0_2) else ((laws_eqInt64S.f kj11 t681 t671).bind fun t694 => (if t694 = true then (laws_FnExactFirstLies.j1 kj11 a1 t671 t674 t681 (t684 != t674) a0_0 a0_1 l0_2) else (laws_FnExactFirstLies.j1 kj11 a1 t671 t674 t681 true a0_0 a0_1 l0_2))))) else (some false))) = some r := H
          have A34 := Aside0.mk A340
          clear A340
          replace H := Option.bind_eq_some_iff.mp H
          obtain ⟨t691, A350, H⟩ := H
          replace H : (if t691 = true then ((laws_markGame.f kj11 t675 t676 t677 1).bind fun bt692 => (if bt692.1 < 0 then (laws_FnExactFirstLies.j1 kj11 a1 t671 t674 t681 true a0_0 a0_1 l0_2) else ((laws_eqInt64S.f kj11 t681 t671).bind fun t694 => (if t694 = true then (laws_FnExactFirstLies.j1 kj11 a1 t671 t674 t681 (t684 != t674) a0_0 a0_1 l0_2) else (laws_FnExactFirstLies.j1 kj11 a1 t671 t674 t681 true a0_0 a0_1 l0_2))))) else (some false)) = some r := H
          have A35 := Aside0.mk A350
          clear A350
          by_cases c36 : t691 = true
          · subst c36
            have H1 : ((laws_markGame.f kj11 t675 t676 t677 1).bind fun bt692 => (if bt692.1 < 0 then (laws_FnExactFirstLies.j1 kj11 a1 t671 t674 t681 true a0_0 a0_1 l0_2) else ((laws_eqInt64S.f kj11 t681 t671).bind fun t694 => (if t694 = true then (laws_FnExactFirstLies.j1 kj11 a1 t671 t674 t681 (t684 != t674) a0_0 a0_1 l0_2) else (laws_FnExactFirstLies.j1 kj11 a1 t671 t674 t681 true a0_0 a0_1 l0_2))))) = some r := by rw [if_pos rfl] at H; exact H
            clear H
            have H := H1
            clear H1
            replace H := Option.bind_eq_some_iff.mp H
            obtain ⟨⟨t692, t693⟩, A370, H⟩ := H
            replace H : (if t692 < 0 then (laws_FnExactFirstLies.j1 kj11 a1 t671 t674 t681 true a0_0 a0_1 l0_2) else ((laws_eqInt64S.f kj11 t681 t671).bind fun t694 => (if t694 = true then (laws_FnExactFirstLies.j1 kj11 a1 t671 t674 t681 (t684 != t674) a0_0 a0_1 l0_2) else (laws_FnExactFirstLies.j1 kj11 a1 t671 t674 t681 true a0_0 a0_1 l0_2)))) = some r := H
            have A37 := Aside0.mk A370
            clear A370
            have HC38 := Aside0.mk H
            clear H
            try go_wp2
            have n0_ := Aside0.mk (Kd.R_drew HO_6.out)
            have n1_ := Aside0.mk (Kd.R_drew HO_9.out)
            have n2_ := Aside0.mk (Kd.R_drew HO_681002.out)
            have n3_ := Aside0.mk (blk_drew BK664.out)
            have n4_ := Aside0.mk (blk_drew BK680.out)
            have n5_ := Aside0.mk (below_drew1 HB.out)
            clear HO_6
            clear HO_9
            clear HO_681002
            clear BK664
            clear BK680
            clear HB
            have HO_6 := n0_
            have HO_9 := n1_
            have HO_681002 := n2_
            have BK664 := n3_
            have BK680 := n4_
            have HB := n5_
            clear n0_ n1_ n2_ n3_ n4_ n5_
            refine start_ (n := 5) (S := fun w' => w'.cell? ⟨gb680, 0, none⟩ = some (.int .i8 t675) ∧ w'.cell? ⟨gb680, 1, none⟩ = some (.int .i8 t676) ∧ w'.cell? ⟨gb680, 2, none⟩ = some (.slice Ao25 t677.length co25) ∧ w'.cell? ⟨gb664, 0, none⟩ = some (.int .i8 a0_0) ∧ w'.cell? ⟨gb664, 1, none⟩ = some (.int .i8 a0_1) ∧ w'.cell? ⟨gb664, 2, none⟩ = some (.slice A0_2 l0_2.length c0_2)) (ds := []) #[false, false, false, false, false] (by kernel_rfl) rfl rfl ⟨(blk_cell BK680.out 0).trans rfl, (blk_cell BK680.out 1).trans rfl, (blk_cell BK680.out 2).trans rfl, (blk_cell BK664.out 0).trans rfl, (blk_cell BK664.out 1).trans rfl, (blk_cell BK664.out 2).trans rfl⟩ (fun hHeld => ?_)
            generalize wc.drew = w39 at HO_6 HO_9 HO_681002 BK664 BK680 HB hHeld ⊢
            refine take_ (i := 0) (N := some 45) (v := ?_) (a' := ?_) #[true, false, false, false, false] rfl rfl (by kernel_rfl) (fun _ _ _ h => h) (Or.inl ⟨by rfl, ?_⟩) hHeld ?_ ?_
            rotate_left
            · rintro w' ⟨s0, s1, s2, s3, s4, s5⟩
              go_simp
              with_reducible rfl
            rotate_left
            · simp only [Act.put, List.setIfInBounds_toArray, List.set_cons_zero, List.set_cons_succ, i64_w, i32_w]
              rfl
            refine take_ (i := 1) (N := some 46) (v := ?_) (a' := ?_) #[true, true, false, false, false] rfl rfl (by kernel_rfl) (fun _ _ _ h => h) (Or.inl ⟨by rfl, ?_⟩) hHeld ?_ ?_
            rotate_left
            · rintro w' ⟨s0, s1, s2, s3, s4, s5⟩
              go_simp
              with_reducible rfl
            rotate_left
            · simp only [Act.put, List.setIfInBounds_toArray, List.set_cons_zero, List.set_cons_succ, i64_w, i32_w]
              rfl
            refine one_ (i := 2) (N := some 47) #[true, true, true, false, false] rfl rfl (by kernel_rfl) (by decide) (fun K hK => ?_)
            refine goes_ Try.func32 (by kernel_rfl) rfl #[.agg #[.int .i8 a0_0, .int .i8 a0_1, .slice A0_2 l0_2.length c0_2]] (by rfl) rfl rfl (by (try simp only [List.map_toArray, List.map_cons, List.map_nil]); first | done | rfl | (simp only [List.length_drop, List.length_take]; rfl)) ?_
            with_reducible refine (laws_toGame.calls kj11 a0_0 a0_1 _ _ l0_2 t686 t687 t688 _ ?side1 ?side2 A34.out).mono ?_
            (case side1 => repeat (first | exact (Kd.C_below HR0_2.out HB.out) | (with_reducible refine Kd.C_alloc ?_ _) | (with_reducible refine Kd.C_drewN ?_ _) | (with_reducible refine Kd.C_drew ?_)))
            (case side2 => exact HC0_2.out)
            rintro e w40 ⟨v689, rfl, ho0, hb⟩
            refine ⟨_, rfl, ?_⟩
            have n0_ := Aside0.mk (Kd.R_below (by (with_reducible repeat (first | apply Kd.R_alloc | apply Kd.R_drewN | apply Kd.R_drew)); exact HO_6.out) hb)
            have n1_ := Aside0.mk (Kd.R_below (by (with_reducible repeat (first | apply Kd.R_alloc | apply Kd.R_drewN | apply Kd.R_drew)); exact HO_9.out) hb)
            have n2_ := Aside0.mk (Kd.R_elder' (by (with_reducible repeat (first | apply Kd.R_alloc | apply Kd.R_drewN | apply Kd.R_drew)); exact HO_681002.out) (Kd.R_base ho0) hb)
            have n3_ := Aside0.mk (Kd.R_lower (Kd.R_new' ho0 (Kd.R_lt (by (with_reducible repeat (first | apply Kd.R_alloc | apply Kd.R_drewN | apply Kd.R_drew)); exact HO_681002.out))) (below_size (by repeat (first | (with_reducible first | exact HB.out | apply below_alloc | apply pw_below_drewN | apply below_drew1 | refine below_set ?_ GE664.out | refine below_set ?_ GE680.out) | exact HB.out))))
            have n4_ := Aside0.mk (blk_below (g := gb664) (o := .cells #[.int .i8 a0_0, .int .i8 a0_1, .slice A0_2 l0_2.length c0_2] 45 (0, 0)) (by (with_reducible repeat (first | refine blk_drewN ?_ _ | refine blk_drew ?_ | refine blk_alloc ?_ _)); exact BK664.out) hb)
            have n5_ := Aside0.mk (blk_below (g := gb680) (o := .cells #[.int .i8 t675, .int .i8 t676, .slice Ao25 t677.length co25] 37 (0, 0)) (by (with_reducible repeat (first | refine blk_drewN ?_ _ | refine blk_drew ?_ | refine blk_alloc ?_ _)); exact BK680.out) hb)
            have n6_ := Aside0.mk (below_step (by repeat (first | (with_reducible first | exact HB.out | apply below_alloc | apply pw_below_drewN | apply below_drew1 | refine below_set ?_ GE664.out | refine below_set ?_ GE680.out) | exact HB.out)) hb)
            clear HO_6
            clear HO_9
            clear HO_681002
            clear BK664
            clear BK680
            clear HB
            have HO_6 := n0_
            have HO_9 := n1_
            have HO_681002 := n2_
            have HO690 := n3_
            have BK664 := n4_
            have BK680 := n5_
            have HB := n6_
            clear n0_ n1_ n2_ n3_ n4_ n5_ n6_
            (try clear hb)
            (try clear hb2)
            (try clear hk)
            (try clear hi)
            (try clear ho0)
            obtain ⟨Ao41, co41, eo41⟩ := Kd.R_slice HO690.out
            (first | subst eo41 | (injection eo41 with f1_ f2_ f3_; have f4_ := f1_.symm; have f5_ := f3_.symm; clear f1_ f2_ f3_; subst f4_; subst f5_))
            refine hK.out _ _ ⟨(blk_cell BK680.out 0).trans rfl, (blk_cell BK680.out 1).trans rfl, (blk_cell BK680.out 2).trans rfl, (blk_cell BK664.out 0).trans rfl, (blk_cell BK664.out 1).trans rfl, (blk_cell BK664.out 2).trans rfl⟩ (fun hHeld => ?_)
            clear hK K
            refine norm_ (a' := ?_) ?_ ?_
            rotate_left
            · show Act.put _ (some 47) _ = _
              simp only [Act.put, List.setIfInBounds_toArray, List.set_cons_zero, List.set_cons_succ, i64_w, i32_w]
              rfl
            refine one_ (i := 3) (N := some 48) #[true, true, true, true, false] rfl rfl (by kernel_rfl) (by decide) (fun K hK => ?_)
            refine goes_ Try.func27 (by kernel_rfl) rfl #[.agg #[.int .i8 t675, .int .i8 t676, .slice Ao25 t677.length co25], .agg #[.int .i8 t686, .int .i8 t687, .slice Ao41 t688.length co41]] (by rfl) rfl rfl (by (try simp only [List.map_toArray, List.map_cons, List.map_nil]); first | done | rfl | (simp only [List.length_drop, List.length_take]; rfl)) ?_
            with_reducible refine (laws_eqGame.calls kj11 t675 t676 _ _ t677 t686 t687 _ _ t688 true _ ?side1 ?side2 ?side3 ?side4 A35.out).mono ?_
            (case side1 => repeat (first | exact (Kd.R_reads' HO_681002.out).2.2 | (with_reducible refine Kd.C_alloc ?_ _) | (with_reducible refine Kd.C_drewN ?_ _) | (with_reducible refine Kd.C_drew ?_)))
            (case side2 => exact (Kd.R_reads' HO_681002.out).2.1)
            (case side3 => repeat (first | exact (Kd.R_reads' HO690.out).2.2 | (with_reducible refine Kd.C_alloc ?_ _) | (with_reducible refine Kd.C_drewN ?_ _) | (with_reducible refine Kd.C_drew ?_)))
            (case side4 => exact (Kd.R_reads' HO690.out).2.1)
            rintro e w42 ⟨rfl, hb⟩
            refine ⟨_, rfl, ?_⟩
            have n0_ := Aside0.mk (Kd.R_below (by (with_reducible repeat (first | apply Kd.R_alloc | apply Kd.R_drewN | apply Kd.R_drew)); exact HO_6.out) hb)
            have n1_ := Aside0.mk (Kd.R_below (by (with_reducible repeat (first | apply Kd.R_alloc | apply Kd.R_drewN | apply Kd.R_drew)); exact HO_9.out) hb)
            have n2_ := Aside0.mk (Kd.R_below (by (with_reducible repeat (first | apply Kd.R_alloc | apply Kd.R_drewN | apply Kd.R_drew)); exact HO_681002.out) hb)
            have n3_ := Aside0.mk (Kd.R_below (by (with_reducible repeat (first | apply Kd.R_alloc | apply Kd.R_drewN | apply Kd.R_drew)); exact HO690.out) hb)
            have n4_ := Aside0.mk (blk_below (g := gb664) (o := .cells #[.int .i8 a0_0, .int .i8 a0_1, .slice A0_2 l0_2.length c0_2] 45 (0, 0)) (by (with_reducible repeat (first | refine blk_drewN ?_ _ | refine blk_drew ?_ | refine blk_alloc ?_ _)); exact BK664.out) hb)
            have n5_ := Aside0.mk (blk_below (g := gb680) (o := .cells #[.int .i8 t675, .int .i8 t676, .slice Ao25 t677.length co25] 37 (0, 0)) (by (with_reducible repeat (first | refine blk_drewN ?_ _ | refine blk_drew ?_ | refine blk_alloc ?_ _)); exact BK680.out) hb)
            have n6_ := Aside0.mk (below_step (by repeat (first | (with_reducible first | exact HB.out | apply below_alloc | apply pw_below_drewN | apply below_drew1 | refine below_set ?_ GE664.out | refine below_set ?_ GE680.out) | exact HB.out)) hb)
            clear HO_6
            clear HO_9
            clear HO_681002
            clear HO690
            clear BK664
            clear BK680
            clear HB
            have HO_6 := n0_
            have HO_9 := n1_
            have HO_681002 := n2_
            have HO690 := n3_
            have BK664 := n4_
            have BK680 := n5_
            have HB := n6_
            clear n0_ n1_ n2_ n3_ n4_ n5_ n6_
            (try clear hb)
            (try clear hb2)
            (try clear hk)
            (try clear hi)
            refine hK.out _ _ ⟨(blk_cell BK680.out 0).trans rfl, (blk_cell BK680.out 1).trans rfl, (blk_cell BK680.out 2).trans rfl, (blk_cell BK664.out 0).trans rfl, (blk_cell BK664.out 1).trans rfl, (blk_cell BK664.out 2).trans rfl⟩ (fun hHeld => ?_)
            clear hK K
            refine norm_ (a' := ?_) ?_ ?_
            rotate_left
            · show Act.put _ (some 48) _ = _
              simp only [Act.put, List.setIfInBounds_toArray, List.set_cons_zero, List.set_cons_succ, i64_w, i32_w]
              rfl
            refine pure_ (i := 4) (N := some 49) (v := ?_) (a' := ?_) #[true, true, true, true, true] rfl rfl (by kernel_rfl) (fun _ _ _ h => h) (Or.inl ⟨by rfl, ?_⟩) ?_ ?_
            rotate_left
            · intro w'
              go_simp
              with_reducible rfl
            rotate_left
            · simp only [Act.put, List.setIfInBounds_toArray, List.set_cons_zero, List.set_cons_succ, i64_w, i32_w]
              rfl
            refine done_ (by kernel_rfl) ?_
            have hnb43 := NB680_664.out
            have hnc43 := NB664_680.out
            have hcz44_0 : w42.cell? ⟨gb680, 0, none⟩ = some (.int .i8 t675) := (blk_cell BK680.out 0).trans rfl
            have hcz44_1 : w42.cell? ⟨gb680, 1, none⟩ = some (.int .i8 t676) := (blk_cell BK680.out 1).trans rfl
            have hcz44_2 : w42.cell? ⟨gb680, 2, none⟩ = some (.slice Ao25 t677.length co25) := (blk_cell BK680.out 2).trans rfl
            have hfz44_0 := blk_frozen BK680.out 0
            have hfz44_1 := blk_frozen BK680.out 1
            have hfz44_2 := blk_frozen BK680.out 2
            go_upto_region 14 with (first | ((with_reducible refine gate_callee (f := 28) rfl ?_); refine goesL_ (some 52) rfl rfl Try.func28 (by kernel_rfl) rfl #[.agg #[.int .i8 t675, .int .i8 t676, .slice Ao25 t677.length co25], .int .i64 1] rfl (by (try simp only [List.map_toArray, List.map_cons, List.map_nil]); first | done | rfl | (simp only [List.length_drop, List.length_take]; rfl)) ?_; (with_reducible refine (laws_markGame.calls kj11 t675 t676 (fun k_ => some k_ = (.slice Ao25 t677.length co25 : Value).ownBlock) (.slice Ao25 t677.length co25) t677 1 t692 t693 w _ ?side1 ?side2 A37.out).mono ?_); (case side1 => repeat (first | (with_reducible first | exact HB.out | apply below_alloc | apply pw_below_drewN | apply below_drew1 | refine below_set ?_ GE664.out | refine below_set ?_ GE680.out) | exact HB.out)); (case side2 => exact Kd.R_tight rfl HO_681002.out); rintro e w45 ⟨rfl, hy0, hb, hkp⟩; refine ⟨_, rfl, ?_⟩; have n0_ := Aside0.mk (Kd.R_mono (ok' := fun k_ => some k_ ≠ (v682 : Value).ownBlock) (Kd.R_keptB ((Kd.R_apart' HO_6.out (Kd.R_typed HO_681002.out) (by decide))) hkp (fun k_ hk_ hs_ => (hk_.2) hs_)) (fun k_ hk_ => hk_.1.1)); have n1_ := Aside0.mk (Kd.R_mono (ok' := fun k_ => some k_ ≠ (v672 : Value).ownBlock) (Kd.R_keptB ((Kd.R_apart' HO_9.out (Kd.R_typed HO_681002.out) (by decide))) hkp (fun k_ hk_ hs_ => (hk_.2) hs_)) (fun k_ hk_ => hk_.1.1)); have n2_ := Aside0.mk (Kd.R_reok rfl hy0 (fun k_ e_ => HO_681002.out.1 k_ e_)); have n3_ := Aside0.mk (blk_kept (by (with_reducible repeat (first | refine blk_drewN ?_ _ | refine blk_drew ?_ | refine blk_alloc ?_ _)); exact BK664.out) hkp (fun hs_ => (fun e_ => (Kd.R_ne HO_681002.out BK664.out (by decide)) e_) hs_)); have n4_ := Aside0.mk (blk_kept (by (with_reducible repeat (first | refine blk_drewN ?_ _ | refine blk_drew ?_ | refine blk_alloc ?_ _)); exact BK680.out) hkp (fun hs_ => (fun e_ => (Kd.R_ne HO_681002.out BK680.out (by decide)) e_) hs_)); have n5_ := Aside0.mk (Kd.R_mono (ok' := fun k_ => some k_ ≠ (.slice Ao25 t677.length co25 : Value).ownBlock) (Kd.R_keptB (HO690.out) hkp (fun k_ hk_ hs_ => (hk_.2) hs_)) (fun k_ hk_ => hk_.1.2)); have n6_ := Aside0.mk (hb); clear HO_6; clear HO_9; clear HO_681002; clear BK664; clear BK680; clear HO690; clear HB; have HO_6 := n0_; have HO_9 := n1_; have HO_681002 := n2_; have BK664 := n3_; have BK680 := n4_; have HO690 := n5_; have HB := n6_; clear n0_ n1_ n2_ n3_ n4_ n5_ n6_; (try clear hb); (try clear hkp); (try clear hy0)))
            (try simp only [Act.put, List.setIfInBounds_toArray, List.set_cons_zero, List.set_cons_succ])
            go_cut [65] (fun v65 wc => ∃ (kq : Nat) (x65_37 : Bool), v65 = .bool x65_37 ∧ Aside0 (laws_FnExactFirstLies.j1 kq a1 t671 t674 t681 x65_37 a0_0 a0_1 l0_2 = some r) ∧ Aside0 (kq ≤ kj11) ∧ Aside0 (Kd.R (Kd.int .i64) 2 wc w.heap.size (fun k_ => some k_ ≠ (v682 : Value).ownBlock) v672 t671) ∧ Aside0 (Kd.R (Kd.int .i64) 2 wc w.heap.size (fun k_ => some k_ ≠ (v672 : Value).ownBlock) v682 t681) ∧ Aside0 (Kd.R k75 75 wc w.heap.size (fun _ => True) (.slice Ao25 t677.length co25) t693) ∧ Aside0 (wc.heap[gb664]? = some (.cells #[.int .i8 a0_0, .int .i8 a0_1, (.slice A0_2 l0_2.length c0_2)] 45 (0, 0))) ∧ Aside0 (wc.heap[gb680]? = some (.cells #[.int .i8 t675, .int .i8 t676, (.slice Ao25 t677.length co25)] 37 (0, 0))) ∧ Aside0 (Below w.heap.size w wc))
            case first =>
              have H := HC38.out
              clear HC38
              by_cases c46 : t692 < 0
              · rw [if_pos c46] at H
                have c46b0 : decide (t692 < 0) = true := decide_eq_true c46
                clear c46
                (first | rw [c46b0] | (simp only [i64_w, i32_w]; rw [c46b0]) | skip)
                have H' := Aside0.mk H
                clear H
                go_wp2
                go_meet
                case rel => exact ⟨_, (true), (by first | rfl | (simp; done) | (simp [*]; done)), H', ⟨by have := HJ11.out; first | omega | exact Nat.le_refl _⟩, ⟨by (with_reducible repeat (first | apply Kd.R_alloc | apply Kd.R_drewN | apply Kd.R_drew)); exact HO_6.out⟩, ⟨by (with_reducible repeat (first | apply Kd.R_alloc | apply Kd.R_drewN | apply Kd.R_drew)); exact HO_9.out⟩, ⟨by (with_reducible repeat (first | apply Kd.R_alloc | apply Kd.R_drewN | apply Kd.R_drew)); exact Kd.R_mono HO_681002.out (fun _ hk => trivial)⟩, ⟨by (with_reducible repeat (first | refine blk_drewN ?_ _ | refine blk_drew ?_ | refine blk_alloc ?_ _)); exact BK664.out⟩, ⟨by (with_reducible repeat (first | refine blk_drewN ?_ _ | refine blk_drew ?_ | refine blk_alloc ?_ _)); exact BK680.out⟩, ⟨by repeat (first | (with_reducible first | exact HB.out | apply below_alloc | apply pw_below_drewN | apply below_drew1 | refine below_set ?_ GE664.out | refine below_set ?_ GE680.out) | exact HB.out)⟩⟩
              · rw [if_neg c46] at H
                have c46b0 : decide (t692 < 0) = false := decide_eq_false c46
                clear c46
                (first | rw [c46b0] | (simp only [i64_w, i32_w]; rw [c46b0]) | skip)
                replace H := Option.bind_eq_some_iff.mp H
                obtain ⟨t694, A470, H⟩ := H
                replace H : (if t694 = true then (laws_FnExactFirstLies.j1 kj11 a1 t671 t674 t681 (t684 != t674) a0_0 a0_1 l0_2) else (laws_FnExactFirstLies.j1 kj11 a1 t671 t674 t681 true a0_0 a0_1 l0_2)) = some r := H
                have A47 := Aside0.mk A470
                clear A470
                by_cases c48 : t694 = true
                · subst c48
                  have H1 : (laws_FnExactFirstLies.j1 kj11 a1 t671 t674 t681 (t684 != t674) a0_0 a0_1 l0_2) = some r := by rw [if_pos rfl] at H; exact H
                  clear H
                  have H := H1
                  clear H1
                  have H' := Aside0.mk H
                  clear H
                  obtain ⟨Ao49, co49, eo49⟩ := Kd.R_slice HO_9.out
                  subst eo49
                  obtain ⟨Ao50, co50, eo50⟩ := Kd.R_slice HO_6.out
                  subst eo50
                  go_wp2_with (first | (go_at_call 46; (with_reducible refine (laws_eqInt64S.calls kj11 _ _ t681 _ _ t671 true _ ?side1 ?side2 ?side3 ?side4 A47.out).mono ?_); (case side1 => repeat (first | exact (Kd.R_reads' HO_9.out).2.2 | (with_reducible refine Kd.C_alloc ?_ _) | (with_reducible refine Kd.C_drewN ?_ _) | (with_reducible refine Kd.C_drew ?_))); (case side2 => exact (Kd.R_reads' HO_9.out).2.1); (case side3 => repeat (first | exact (Kd.R_reads' HO_6.out).2.2 | (with_reducible refine Kd.C_alloc ?_ _) | (with_reducible refine Kd.C_drewN ?_ _) | (with_reducible refine Kd.C_drew ?_))); (case side4 => exact (Kd.R_reads' HO_6.out).2.1); rintro e w' ⟨rfl, ⟨nd, rfl⟩⟩))
                  go_meet
                  case rel => exact ⟨_, ((t684 != t674)), (by first | rfl | (simp; done) | (simp [*]; done)), H', ⟨by have := HJ11.out; first | omega | exact Nat.le_refl _⟩, ⟨by (with_reducible repeat (first | apply Kd.R_alloc | apply Kd.R_drewN | apply Kd.R_drew)); exact HO_6.out⟩, ⟨by (with_reducible repeat (first | apply Kd.R_alloc | apply Kd.R_drewN | apply Kd.R_drew)); exact HO_9.out⟩, ⟨by (with_reducible repeat (first | apply Kd.R_alloc | apply Kd.R_drewN | apply Kd.R_drew)); exact Kd.R_mono HO_681002.out (fun _ hk => trivial)⟩, ⟨by (with_reducible repeat (first | refine blk_drewN ?_ _ | refine blk_drew ?_ | refine blk_alloc ?_ _)); exact BK664.out⟩, ⟨by (with_reducible repeat (first | refine blk_drewN ?_ _ | refine blk_drew ?_ | refine blk_alloc ?_ _)); exact BK680.out⟩, ⟨by repeat (first | (with_reducible first | exact HB.out | apply below_alloc | apply pw_below_drewN | apply below_drew1 | refine below_set ?_ GE664.out | refine below_set ?_ GE680.out) | exact HB.out)⟩⟩
                · replace c48 := Bool.eq_false_iff.mpr c48
                  subst c48
                  have H1 : (laws_FnExactFirstLies.j1 kj11 a1 t671 t674 t681 true a0_0 a0_1 l0_2) = some r := by rw [if_neg (show ¬ (false = true) by decide)] at H; exact H
                  clear H
                  have H := H1
                  clear H1
                  have H' := Aside0.mk H
                  clear H
                  obtain ⟨Ao51, co51, eo51⟩ := Kd.R_slice HO_9.out
                  subst eo51
                  obtain ⟨Ao52, co52, eo52⟩ := Kd.R_slice HO_6.out
                  subst eo52
                  go_wp2_with (first | (go_at_call 46; (with_reducible refine (laws_eqInt64S.calls kj11 _ _ t681 _ _ t671 false _ ?side1 ?side2 ?side3 ?side4 A47.out).mono ?_); (case side1 => repeat (first | exact (Kd.R_reads' HO_9.out).2.2 | (with_reducible refine Kd.C_alloc ?_ _) | (with_reducible refine Kd.C_drewN ?_ _) | (with_reducible refine Kd.C_drew ?_))); (case side2 => exact (Kd.R_reads' HO_9.out).2.1); (case side3 => repeat (first | exact (Kd.R_reads' HO_6.out).2.2 | (with_reducible refine Kd.C_alloc ?_ _) | (with_reducible refine Kd.C_drewN ?_ _) | (with_reducible refine Kd.C_drew ?_))); (case side4 => exact (Kd.R_reads' HO_6.out).2.1); rintro e w' ⟨rfl, ⟨nd, rfl⟩⟩))
                  go_meet
                  case rel => exact ⟨_, (true), (by first | rfl | (simp; done) | (simp [*]; done)), H', ⟨by have := HJ11.out; first | omega | exact Nat.le_refl _⟩, ⟨by (with_reducible repeat (first | apply Kd.R_alloc | apply Kd.R_drewN | apply Kd.R_drew)); exact HO_6.out⟩, ⟨by (with_reducible repeat (first | apply Kd.R_alloc | apply Kd.R_drewN | apply Kd.R_drew)); exact HO_9.out⟩, ⟨by (with_reducible repeat (first | apply Kd.R_alloc | apply Kd.R_drewN | apply Kd.R_drew)); exact Kd.R_mono HO_681002.out (fun _ hk => trivial)⟩, ⟨by (with_reducible repeat (first | refine blk_drewN ?_ _ | refine blk_drew ?_ | refine blk_alloc ?_ _)); exact BK664.out⟩, ⟨by (with_reducible repeat (first | refine blk_drewN ?_ _ | refine blk_drew ?_ | refine blk_alloc ?_ _)); exact BK680.out⟩, ⟨by repeat (first | (with_reducible first | exact HB.out | apply below_alloc | apply pw_below_drewN | apply below_drew1 | refine below_set ?_ GE664.out | refine below_set ?_ GE680.out) | exact HB.out)⟩⟩
            case rest =>
              clear HC38
              try clear c1
              try clear c2
              try clear p2
              try clear c3
              try clear c4
              try clear c4b0
              try clear c14
              try clear c23
              try clear c27
              try clear c28
              try clear c30
              try clear c32
              try clear c33
              try clear c36
              try clear c43
              try clear c44
              try clear c45
              try clear c46
              try clear c46b0
              try clear c48
              try clear hcz14_0
              try clear hcz14_1
              try clear hcz14_2
              try clear hcz16_0
              try clear hcz16_1
              try clear hcz16_2
              try clear hcz20_0
              try clear hcz20_1
              try clear hcz20_2
              try clear hcz24_0
              try clear hcz24_1
              try clear hcz24_2
              try clear hcz44_0
              try clear hcz44_1
              try clear hcz44_2
              try clear hcz6_0
              try clear hcz6_1
              try clear hcz6_2
              try clear hfz14_0
              try clear hfz14_1
              try clear hfz14_2
              try clear hfz16_0
              try clear hfz16_1
              try clear hfz16_2
              try clear hfz20_0
              try clear hfz20_1
              try clear hfz20_2
              try clear hfz24_0
              try clear hfz24_1
              try clear hfz24_2
              try clear hfz44_0
              try clear hfz44_1
              try clear hfz44_2
              try clear hfz6_0
              try clear hfz6_1
              try clear hfz6_2
              try clear p2
              obtain ⟨kq, x65_37, rfl, HA, HJ37, HO_6, HO_9, HO_681002, BK664, BK680, HB⟩ := hcut
              have hl681002_37 := (Kd.R_reads' HO_681002.out).1
              rw [hl681002_37] at HO_681002
              (try simp only [hl681002_37])
              (try simp only [hl681002_37] at BK664)
              (try simp only [hl681002_37] at BK680)
              (try simp only [hl681002_37] at HO_6)
              (try simp only [hl681002_37] at HO_9)
              cases kq with
              | zero => exact absurd HA.out (by simp [laws_FnExactFirstLies.j1])
              | succ kj37 =>
                have H := HA.out
                clear HA
                simp only [laws_FnExactFirstLies.j1] at H
                by_cases c53 : x65_37 = true
                · subst c53
                  have H1 : (some false) = some r := by rw [if_pos rfl] at H; exact H
                  clear H
                  have H := H1
                  clear H1
                  obtain rfl := Option.some.inj H
                  go_wp2
                  go_ret
                  exact ⟨by first | rfl | (simp [errW_none, errW_some] <;> rfl) | (simp [*, errW_none, errW_some] <;> rfl), by repeat (first | (with_reducible first | exact HB.out | apply below_alloc | apply pw_below_drewN | apply below_drew1 | refine below_set ?_ GE664.out | refine below_set ?_ GE680.out) | exact HB.out)⟩
                · replace c53 := Bool.eq_false_iff.mpr c53
                  subst c53
                  have H1 : ((laws_markInt64S.f kj37 t681 1).bind fun bt695 => ((laws_heldInt64S.f kj37 bt695.2 1).bind fun t697 => (if t697 < 0 then (some false) else (if t697 = bt695.1 then ((laws_toGame.f kj37 a0_0 a0_1 l0_2).bind fun bt698 => ((impl_FirstLies.f kj37 bt698.1 bt698.2.1 bt698.2.2 a1).bind fun bt703 => ((laws_eqInt64S.f kj37 bt703.1 t671).bind fun t707 => (if t707 = true then (laws_FnExactFirstLies.j2 kj37 bt695.2 bt695.1 (bt703.2 != t674)) else (laws_FnExactFirstLies.j2 kj37 bt695.2 bt695.1 true))))) else (some false))))) = some r := by rw [if_neg (show ¬ (false = true) by decide)] at H; exact H
                  clear H
                  have H := H1
                  clear H1
                  replace H := Option.bind_eq_some_iff.mp H
                  obtain ⟨⟨t695, t696⟩, A540, H⟩ := H
                  replace H : ((laws_heldInt64S.f kj37 t696 1).bind fun t697 => (if t697 < 0 then (some false) else (if t697 = t695 then ((laws_toGame.f kj37 a0_0 a0_1 l0_2).bind fun bt698 => ((impl_FirstLies.f kj37 bt698.1 bt698.2.1 bt698.2.2 a1).bind fun bt703 => ((laws_eqInt64S.f kj37 bt703.1 t671).bind fun t707 => (if t707 = true then (laws_FnExactFirstLies.j2 kj37 t696 t695 (bt703.2 != t674)) else (laws_FnExactFirstLies.j2 kj37 t696 t695 true))))) else (some false)))) = some r := H
                  have A54 := Aside0.mk A540
                  clear A540
                  replace H := Option.bind_eq_some_iff.mp H
                  obtain ⟨t697, A550, H⟩ := H
                  replace H : (if t697 < 0 then (some false) else (if t697 = t695 then ((laws_toGame.f kj37 a0_0 a0_1 l0_2).bind fun bt698 => ((impl_FirstLies.f kj37 bt698.1 bt698.2.1 bt698.2.2 a1).bind fun bt703 => ((laws_eqInt64S.f kj37 bt703.1 t671).bind fun t707 => (if t707 = true then (laws_FnExactFirstLies.j2 kj37 t696 t695 (bt703.2 != t674)) else (laws_FnExactFirstLies.j2 kj37 t696 t695 true))))) else (some false))) = some r := H
                  have A55 := Aside0.mk A550
                  clear A550
                  by_cases c56 : t697 < 0
                  · rw [if_pos c56] at H
                    have c56b0 : decide (t697 < 0) = true := decide_eq_true c56
                    clear c56
                    obtain rfl := Option.some.inj H
                    obtain ⟨Ao57, co57, eo57⟩ := Kd.R_slice HO_9.out
                    subst eo57
                    go_wp2_with (first | ((with_reducible refine gate_callee (f := 47) rfl ?_); refine goesL_ (some 68) rfl rfl Try.func47 (by kernel_rfl) rfl #[.slice Ao57 t681.length co57, .int .i64 1] rfl (by (try simp only [List.map_toArray, List.map_cons, List.map_nil]); first | done | rfl | (simp only [List.length_drop, List.length_take]; rfl)) ?_; (with_reducible refine (laws_markInt64S.calls kj37 (fun k_ => some k_ = (.slice Ao57 t681.length co57 : Value).ownBlock) (.slice Ao57 t681.length co57) t681 1 t695 t696 w _ ?side1 ?side2 A54.out).mono ?_); (case side1 => repeat (first | (with_reducible first | exact HB.out | apply below_alloc | apply pw_below_drewN | apply below_drew1 | refine below_set ?_ GE664.out | refine below_set ?_ GE680.out) | exact HB.out)); (case side2 => exact Kd.R_tight rfl HO_9.out); rintro e w58 ⟨rfl, hy0, hb, hkp⟩; refine ⟨_, rfl, ?_⟩; have n0_ := Aside0.mk (Kd.R_mono (ok' := fun k_ => some k_ ≠ (.slice Ao57 t681.length co57 : Value).ownBlock) (Kd.R_keptB (HO_6.out) hkp (fun k_ hk_ hs_ => (hk_) hs_)) (fun k_ hk_ => hk_.1)); have n1_ := Aside0.mk (Kd.R_reok rfl hy0 (fun k_ e_ => HO_9.out.1 k_ e_)); have n2_ := Aside0.mk (Kd.R_mono (ok' := fun k_ => True) (Kd.R_keptB ((Kd.R_apart' HO_681002.out (Kd.R_typed HO_9.out) (by decide))) hkp (fun k_ hk_ hs_ => (hk_.2) hs_)) (fun k_ hk_ => trivial)); have n3_ := Aside0.mk (blk_kept (by (with_reducible repeat (first | refine blk_drewN ?_ _ | refine blk_drew ?_ | refine blk_alloc ?_ _)); exact BK664.out) hkp (fun hs_ => (fun e_ => (Kd.R_ne HO_9.out BK664.out (by decide)) e_) hs_)); have n4_ := Aside0.mk (blk_kept (by (with_reducible repeat (first | refine blk_drewN ?_ _ | refine blk_drew ?_ | refine blk_alloc ?_ _)); exact BK680.out) hkp (fun hs_ => (fun e_ => (Kd.R_ne HO_9.out BK680.out (by decide)) e_) hs_)); have n5_ := Aside0.mk (hb); clear HO_6; clear HO_9; clear HO_681002; clear BK664; clear BK680; clear HB; have HO_6 := n0_; have HO_9 := n1_; have HO_681002 := n2_; have BK664 := n3_; have BK680 := n4_; have HB := n5_; clear n0_ n1_ n2_ n3_ n4_ n5_; (try clear hb); (try clear hkp); (try clear hy0)) | ((with_reducible refine gate_callee (f := 48) rfl ?_); refine goesL_ (some 71) rfl rfl Try.func48 (by kernel_rfl) rfl #[.slice Ao57 t696.length co57, .int .i64 1] rfl (by (try simp only [List.map_toArray, List.map_cons, List.map_nil]); first | done | (rw [show t696.length = t681.length from (Kd.R_reads' HO_9.out).1.symm] <;> rfl) | rfl | (simp only [List.length_drop, List.length_take]; rfl)) ?_; (with_reducible refine (laws_heldInt64S.calls kj37 _ _ t696 1 t697 _ ?side1 ?side2 A55.out).mono ?_); (case side1 => repeat (first | exact (Kd.R_reads' HO_9.out).2.2 | (with_reducible refine Kd.C_alloc ?_ _) | (with_reducible refine Kd.C_drewN ?_ _) | (with_reducible refine Kd.C_drew ?_))); (case side2 => rw [show t696.length = t681.length from (Kd.R_reads' HO_9.out).1.symm]; exact (Kd.R_reads' HO_9.out).2.1); rintro e w' ⟨rfl, ⟨nd, rfl⟩⟩; refine ⟨_, rfl, ?_⟩))
                    go_ret
                    exact ⟨by first | rfl | (simp [errW_none, errW_some] <;> rfl) | (simp [*, errW_none, errW_some] <;> rfl), by repeat (first | (with_reducible first | exact HB.out | apply below_alloc | apply pw_below_drewN | apply below_drew1 | refine below_set ?_ GE664.out | refine below_set ?_ GE680.out) | exact HB.out)⟩
                  · rw [if_neg c56] at H
                    have c56b0 : decide (t697 < 0) = false := decide_eq_false c56
                    clear c56
                    by_cases c59 : t697 = t695
                    · rw [if_pos c59] at H
                      have c59b0 : (t697 == t695) = true := beq_iff_eq.mpr c59
                      have c59b1 : (t697 != t695) = false := bne_eq_false_iff_eq.mpr c59
                      clear c59
                      replace H := Option.bind_eq_some_iff.mp H
                      obtain ⟨⟨t698, t699, t700⟩, A600, H⟩ := H
                      replace H : ((impl_FirstLies.f kj37 t698 t699 t700 a1).bind fun bt703 => ((laws_eqInt64S.f kj37 bt703.1 t671).bind fun t707 => (if t707 = true then (laws_FnExactFirstLies.j2 kj37 t696 t695 (bt703.2 != t674)) else (laws_FnExactFirstLies.j2 kj37 t696 t695 true)))) = some r := H
                      have A60 := Aside0.mk A600
                      clear A600
                      replace H := Option.bind_eq_some_iff.mp H
                      obtain ⟨⟨t703, t706⟩, A610, H⟩ := H
                      replace H : ((laws_eqInt64S.f kj37 t703 t671).bind fun t707 => (if t707 = true then (laws_FnExactFirstLies.j2 kj37 t696 t695 (t706 != t674)) else (laws_FnExactFirstLies.j2 kj37 t696 t695 true))) = some r := H
                      have A61 := Aside0.mk A610
                      clear A610
                      have HC62 := Aside0.mk H
                      clear H
                      obtain ⟨Ao63, co63, eo63⟩ := Kd.R_slice HO_9.out
                      subst eo63
                      go_upto_region 25 with (first | ((with_reducible refine gate_callee (f := 47) rfl ?_); refine goesL_ (some 68) rfl rfl Try.func47 (by kernel_rfl) rfl #[.slice Ao63 t681.length co63, .int .i64 1] rfl (by (try simp only [List.map_toArray, List.map_cons, List.map_nil]); first | done | rfl | (simp only [List.length_drop, List.length_take]; rfl)) ?_; (with_reducible refine (laws_markInt64S.calls kj37 (fun k_ => some k_ = (.slice Ao63 t681.length co63 : Value).ownBlock) (.slice Ao63 t681.length co63) t681 1 t695 t696 w _ ?side1 ?side2 A54.out).mono ?_); (case side1 => repeat (first | (with_reducible first | exact HB.out | apply below_alloc | apply pw_below_drewN | apply below_drew1 | refine below_set ?_ GE664.out | refine below_set ?_ GE680.out) | exact HB.out)); (case side2 => exact Kd.R_tight rfl HO_9.out); rintro e w64 ⟨rfl, hy0, hb, hkp⟩; refine ⟨_, rfl, ?_⟩; have n0_ := Aside0.mk (Kd.R_mono (ok' := fun k_ => some k_ ≠ (.slice Ao63 t681.length co63 : Value).ownBlock) (Kd.R_keptB (HO_6.out) hkp (fun k_ hk_ hs_ => (hk_) hs_)) (fun k_ hk_ => hk_.1)); have n1_ := Aside0.mk (Kd.R_reok rfl hy0 (fun k_ e_ => HO_9.out.1 k_ e_)); have n2_ := Aside0.mk (Kd.R_mono (ok' := fun k_ => True) (Kd.R_keptB ((Kd.R_apart' HO_681002.out (Kd.R_typed HO_9.out) (by decide))) hkp (fun k_ hk_ hs_ => (hk_.2) hs_)) (fun k_ hk_ => trivial)); have n3_ := Aside0.mk (blk_kept (by (with_reducible repeat (first | refine blk_drewN ?_ _ | refine blk_drew ?_ | refine blk_alloc ?_ _)); exact BK664.out) hkp (fun hs_ => (fun e_ => (Kd.R_ne HO_9.out BK664.out (by decide)) e_) hs_)); have n4_ := Aside0.mk (blk_kept (by (with_reducible repeat (first | refine blk_drewN ?_ _ | refine blk_drew ?_ | refine blk_alloc ?_ _)); exact BK680.out) hkp (fun hs_ => (fun e_ => (Kd.R_ne HO_9.out BK680.out (by decide)) e_) hs_)); have n5_ := Aside0.mk (hb); clear HO_6; clear HO_9; clear HO_681002; clear BK664; clear BK680; clear HB; have HO_6 := n0_; have HO_9 := n1_; have HO_681002 := n2_; have BK664 := n3_; have BK680 := n4_; have HB := n5_; clear n0_ n1_ n2_ n3_ n4_ n5_; (try clear hb); (try clear hkp); (try clear hy0)) | ((with_reducible refine gate_callee (f := 48) rfl ?_); refine goesL_ (some 71) rfl rfl Try.func48 (by kernel_rfl) rfl #[.slice Ao63 t696.length co63, .int .i64 1] rfl (by (try simp only [List.map_toArray, List.map_cons, List.map_nil]); first | done | (rw [show t696.length = t681.length from (Kd.R_reads' HO_9.out).1.symm] <;> rfl) | rfl | (simp only [List.length_drop, List.length_take]; rfl)) ?_; (with_reducible refine (laws_heldInt64S.calls kj37 _ _ t696 1 t697 _ ?side1 ?side2 A55.out).mono ?_); (case side1 => repeat (first | exact (Kd.R_reads' HO_9.out).2.2 | (with_reducible refine Kd.C_alloc ?_ _) | (with_reducible refine Kd.C_drewN ?_ _) | (with_reducible refine Kd.C_drew ?_))); (case side2 => rw [show t696.length = t681.length from (Kd.R_reads' HO_9.out).1.symm]; exact (Kd.R_reads' HO_9.out).2.1); rintro e w' ⟨rfl, ⟨nd, rfl⟩⟩; refine ⟨_, rfl, ?_⟩; have hnb65 := NB664_680.out; have hnc65 := NB680_664.out; have hcz66_0 : w64.cell? ⟨gb664, 0, none⟩ = some (.int .i8 a0_0) := (blk_cell BK664.out 0).trans rfl; have hcz66_1 : w64.cell? ⟨gb664, 1, none⟩ = some (.int .i8 a0_1) := (blk_cell BK664.out 1).trans rfl; have hcz66_2 : w64.cell? ⟨gb664, 2, none⟩ = some (.slice A0_2 l0_2.length c0_2) := (blk_cell BK664.out 2).trans rfl; have hfz66_0 := blk_frozen BK664.out 0; have hfz66_1 := blk_frozen BK664.out 1; have hfz66_2 := blk_frozen BK664.out 2) | ((with_reducible refine gate_callee (f := 32) rfl ?_); refine goesL_ (some 79) rfl rfl Try.func32 (by kernel_rfl) rfl #[.agg #[.int .i8 a0_0, .int .i8 a0_1, .slice A0_2 l0_2.length c0_2]] rfl (by (try simp only [List.map_toArray, List.map_cons, List.map_nil]); first | done | rfl | (simp only [List.length_drop, List.length_take]; rfl)) ?_; (with_reducible refine (laws_toGame.calls kj37 a0_0 a0_1 _ _ l0_2 t698 t699 t700 _ ?side1 ?side2 A60.out).mono ?_); (case side1 => repeat (first | exact (Kd.C_below HR0_2.out (by repeat (first | (with_reducible first | exact HB.out | apply below_alloc | apply pw_below_drewN | apply below_drew1 | refine below_set ?_ GE664.out | refine below_set ?_ GE680.out) | exact HB.out))) | (with_reducible refine Kd.C_alloc ?_ _) | (with_reducible refine Kd.C_drewN ?_ _) | (with_reducible refine Kd.C_drew ?_))); (case side2 => exact HC0_2.out); rintro e w67 ⟨v701, rfl, ho0, hb⟩; refine ⟨_, rfl, ?_⟩; have n0_ := Aside0.mk (Kd.R_below (by (with_reducible repeat (first | apply Kd.R_alloc | apply Kd.R_drewN | apply Kd.R_drew)); exact HO_6.out) hb); have n1_ := Aside0.mk (Kd.R_below (by (with_reducible repeat (first | apply Kd.R_alloc | apply Kd.R_drewN | apply Kd.R_drew)); exact HO_9.out) hb); have n2_ := Aside0.mk (Kd.R_elder' (by (with_reducible repeat (first | apply Kd.R_alloc | apply Kd.R_drewN | apply Kd.R_drew)); exact HO_681002.out) (Kd.R_base ho0) hb); have n3_ := Aside0.mk (Kd.R_lower (Kd.R_new' ho0 (Kd.R_lt (by (with_reducible repeat (first | apply Kd.R_alloc | apply Kd.R_drewN | apply Kd.R_drew)); exact HO_681002.out))) (below_size (by repeat (first | (with_reducible first | exact HB.out | apply below_alloc | apply pw_below_drewN | apply below_drew1 | refine below_set ?_ GE664.out | refine below_set ?_ GE680.out) | exact HB.out)))); have n4_ := Aside0.mk (blk_below (g := gb664) (o := .cells #[.int .i8 a0_0, .int .i8 a0_1, .slice A0_2 l0_2.length c0_2] 45 (0, 0)) (by (with_reducible repeat (first | refine blk_drewN ?_ _ | refine blk_drew ?_ | refine blk_alloc ?_ _)); exact BK664.out) hb); have n5_ := Aside0.mk (blk_below (g := gb680) (o := .cells #[.int .i8 t675, .int .i8 t676, .slice Ao25 t693.length co25] 37 (0, 0)) (by (with_reducible repeat (first | refine blk_drewN ?_ _ | refine blk_drew ?_ | refine blk_alloc ?_ _)); exact BK680.out) hb); have n6_ := Aside0.mk (below_step (by repeat (first | (with_reducible first | exact HB.out | apply below_alloc | apply pw_below_drewN | apply below_drew1 | refine below_set ?_ GE664.out | refine below_set ?_ GE680.out) | exact HB.out)) hb); clear HO_6; clear HO_9; clear HO_681002; clear BK664; clear BK680; clear HB; have HO_6 := n0_; have HO_9 := n1_; have HO_681002 := n2_; have HO702 := n3_; have BK664 := n4_; have BK680 := n5_; have HB := n6_; clear n0_ n1_ n2_ n3_ n4_ n5_ n6_; (try clear hb); (try clear hb2); (try clear hk); (try clear hi); (try clear ho0); obtain ⟨Ao68, co68, eo68⟩ := Kd.R_slice HO702.out; subst eo68) | ((with_reducible refine gate_callee (f := 45) rfl ?_); refine goesL_ (some 81) rfl rfl Try.func45 (by kernel_rfl) rfl #[.agg #[.int .i8 t698, .int .i8 t699, .slice Ao68 t700.length co68], .int .i64 a1] rfl (by (try simp only [List.map_toArray, List.map_cons, List.map_nil]); first | done | rfl | (simp only [List.length_drop, List.length_take]; rfl)) ?_; (with_reducible refine (impl_FirstLies.calls kj37 t698 t699 _ _ t700 a1 t703 t706 _ ?side1 ?side2 A61.out).mono ?_); (case side1 => repeat (first | exact (Kd.R_reads' HO702.out).2.2 | (with_reducible refine Kd.C_alloc ?_ _) | (with_reducible refine Kd.C_drewN ?_ _) | (with_reducible refine Kd.C_drew ?_))); (case side2 => exact (Kd.R_reads' HO702.out).2.1); rintro e w69 ⟨v704, rfl, ho0, hb⟩; refine ⟨_, rfl, ?_⟩; have n0_ := Aside0.mk (Kd.R_elder' (by (with_reducible repeat (first | apply Kd.R_alloc | apply Kd.R_drewN | apply Kd.R_drew)); exact HO_6.out) (Kd.R_base ho0) hb); have n1_ := Aside0.mk (Kd.R_elder' (by (with_reducible repeat (first | apply Kd.R_alloc | apply Kd.R_drewN | apply Kd.R_drew)); exact HO_9.out) (Kd.R_base ho0) hb); have n2_ := Aside0.mk (Kd.R_below (by (with_reducible repeat (first | apply Kd.R_alloc | apply Kd.R_drewN | apply Kd.R_drew)); exact HO_681002.out) hb); have n3_ := Aside0.mk (Kd.R_below (by (with_reducible repeat (first | apply Kd.R_alloc | apply Kd.R_drewN | apply Kd.R_drew)); exact HO702.out) hb); have n4_ := Aside0.mk (Kd.R_lower (Kd.R_new' (Kd.R_new' ho0 (Kd.R_lt (by (with_reducible repeat (first | apply Kd.R_alloc | apply Kd.R_drewN | apply Kd.R_drew)); exact HO_6.out))) (Kd.R_lt (by (with_reducible repeat (first | apply Kd.R_alloc | apply Kd.R_drewN | apply Kd.R_drew)); exact HO_9.out))) (below_size (by repeat (first | (with_reducible first | exact HB.out | apply below_alloc | apply pw_below_drewN | apply below_drew1 | refine below_set ?_ GE664.out | refine below_set ?_ GE680.out) | exact HB.out)))); have n5_ := Aside0.mk (blk_below (g := gb664) (o := .cells #[.int .i8 a0_0, .int .i8 a0_1, .slice A0_2 l0_2.length c0_2] 45 (0, 0)) (by (with_reducible repeat (first | refine blk_drewN ?_ _ | refine blk_drew ?_ | refine blk_alloc ?_ _)); exact BK664.out) hb); have n6_ := Aside0.mk (blk_below (g := gb680) (o := .cells #[.int .i8 t675, .int .i8 t676, .slice Ao25 t693.length co25] 37 (0, 0)) (by (with_reducible repeat (first | refine blk_drewN ?_ _ | refine blk_drew ?_ | refine blk_alloc ?_ _)); exact BK680.out) hb); have n7_ := Aside0.mk (below_step (by repeat (first | (with_reducible first | exact HB.out | apply below_alloc | apply pw_below_drewN | apply below_drew1 | refine below_set ?_ GE664.out | refine below_set ?_ GE680.out) | exact HB.out)) hb); clear HO_6; clear HO_9; clear HO_681002; clear HO702; clear BK664; clear BK680; clear HB; have HO_6 := n0_; have HO_9 := n1_; have HO_681002 := n2_; have HO702 := n3_; have HO705 := n4_; have BK664 := n5_; have BK680 := n6_; have HB := n7_; clear n0_ n1_ n2_ n3_ n4_ n5_ n6_ n7_; (try clear hb); (try clear hb2); (try clear hk); (try clear hi); (try clear ho0)))
                      (try simp only [Act.put, List.setIfInBounds_toArray, List.set_cons_zero, List.set_cons_succ])
                      go_cut [92] (fun v92 wc => ∃ (kq : Nat) (x92_61 : Bool), v92 = .bool x92_61 ∧ Aside0 (laws_FnExactFirstLies.j2 kq t696 t695 x92_61 = some r) ∧ Aside0 (kq ≤ kj37) ∧ Aside0 (Kd.R (Kd.int .i64) 2 wc w.heap.size (fun _ => True) (.slice Ao63 t681.length co63) t696) ∧ Aside0 (Kd.R k75 75 wc w.heap.size (fun _ => True) (.slice Ao25 t693.length co25) t693) ∧ Aside0 (wc.heap[gb664]? = some (.cells #[.int .i8 a0_0, .int .i8 a0_1, (.slice A0_2 l0_2.length c0_2)] 45 (0, 0))) ∧ Aside0 (wc.heap[gb680]? = some (.cells #[.int .i8 t675, .int .i8 t676, (.slice Ao25 t693.length co25)] 37 (0, 0))) ∧ Aside0 (Below w.heap.size w wc))
                      case first =>
                        have H := HC62.out
                        clear HC62
                        replace H := Option.bind_eq_some_iff.mp H
                        obtain ⟨t707, A700, H⟩ := H
                        replace H : (if t707 = true then (laws_FnExactFirstLies.j2 kj37 t696 t695 (t706 != t674)) else (laws_FnExactFirstLies.j2 kj37 t696 t695 true)) = some r := H
                        have A70 := Aside0.mk A700
                        clear A700
                        by_cases c71 : t707 = true
                        · subst c71
                          have H1 : (laws_FnExactFirstLies.j2 kj37 t696 t695 (t706 != t674)) = some r := by rw [if_pos rfl] at H; exact H
                          clear H
                          have H := H1
                          clear H1
                          have H' := Aside0.mk H
                          clear H
                          obtain ⟨Ao72, co72, eo72⟩ := Kd.R_slice HO705.out
                          subst eo72
                          obtain ⟨Ao73, co73, eo73⟩ := Kd.R_slice HO_6.out
                          subst eo73
                          go_wp2_with (first | ((with_reducible refine gate_callee (f := 46) rfl ?_); refine goesL_ (some 86) rfl rfl Try.func46 (by kernel_rfl) rfl #[.slice Ao72 t703.length co72, .slice Ao73 t671.length co73] rfl (by (try simp only [List.map_toArray, List.map_cons, List.map_nil]); first | done | rfl | (simp only [List.length_drop, List.length_take]; rfl)) ?_; (with_reducible refine (laws_eqInt64S.calls kj37 _ _ t703 _ _ t671 true _ ?side1 ?side2 ?side3 ?side4 A70.out).mono ?_); (case side1 => repeat (first | exact (Kd.R_reads' HO705.out).2.2 | (with_reducible refine Kd.C_alloc ?_ _) | (with_reducible refine Kd.C_drewN ?_ _) | (with_reducible refine Kd.C_drew ?_))); (case side2 => exact (Kd.R_reads' HO705.out).2.1); (case side3 => repeat (first | exact (Kd.R_reads' HO_6.out).2.2 | (with_reducible refine Kd.C_alloc ?_ _) | (with_reducible refine Kd.C_drewN ?_ _) | (with_reducible refine Kd.C_drew ?_))); (case side4 => exact (Kd.R_reads' HO_6.out).2.1); rintro e w' ⟨rfl, ⟨nd, rfl⟩⟩; refine ⟨_, rfl, ?_⟩))
                          go_meet
                          case rel => exact ⟨_, ((t706 != t674)), (by first | rfl | (simp; done) | (simp [*]; done)), H', ⟨by have := HJ11.out; have := HJ37.out; first | omega | exact Nat.le_refl _⟩, ⟨by (try simp only [hl681002_37]); (with_reducible repeat (first | apply Kd.R_alloc | apply Kd.R_drewN | apply Kd.R_drew)); exact Kd.R_mono HO_9.out (fun _ hk => trivial)⟩, ⟨by (try simp only [hl681002_37]); (with_reducible repeat (first | apply Kd.R_alloc | apply Kd.R_drewN | apply Kd.R_drew)); exact Kd.R_mono HO_681002.out (fun _ hk => trivial)⟩, ⟨by (try simp only [hl681002_37]); (with_reducible repeat (first | refine blk_drewN ?_ _ | refine blk_drew ?_ | refine blk_alloc ?_ _)); exact BK664.out⟩, ⟨by (try simp only [hl681002_37]); (with_reducible repeat (first | refine blk_drewN ?_ _ | refine blk_drew ?_ | refine blk_alloc ?_ _)); exact BK680.out⟩, ⟨by repeat (first | (with_reducible first | exact HB.out | apply below_alloc | apply pw_below_drewN | apply below_drew1 | refine below_set ?_ GE664.out | refine below_set ?_ GE680.out) | exact HB.out)⟩⟩
                        · replace c71 := Bool.eq_false_iff.mpr c71
                          subst c71
                          have H1 : (laws_FnExactFirstLies.j2 kj37 t696 t695 true) = some r := by rw [if_neg (show ¬ (false = true) by decide)] at H; exact H
                          clear H
                          have H := H1
                          clear H1
                          have H' := Aside0.mk H
                          clear H
                          obtain ⟨Ao74, co74, eo74⟩ := Kd.R_slice HO705.out
                          subst eo74
                          obtain ⟨Ao75, co75, eo75⟩ := Kd.R_slice HO_6.out
                          subst eo75
                          go_wp2_with (first | ((with_reducible refine gate_callee (f := 46) rfl ?_); refine goesL_ (some 86) rfl rfl Try.func46 (by kernel_rfl) rfl #[.slice Ao74 t703.length co74, .slice Ao75 t671.length co75] rfl (by (try simp only [List.map_toArray, List.map_cons, List.map_nil]); first | done | rfl | (simp only [List.length_drop, List.length_take]; rfl)) ?_; (with_reducible refine (laws_eqInt64S.calls kj37 _ _ t703 _ _ t671 false _ ?side1 ?side2 ?side3 ?side4 A70.out).mono ?_); (case side1 => repeat (first | exact (Kd.R_reads' HO705.out).2.2 | (with_reducible refine Kd.C_alloc ?_ _) | (with_reducible refine Kd.C_drewN ?_ _) | (with_reducible refine Kd.C_drew ?_))); (case side2 => exact (Kd.R_reads' HO705.out).2.1); (case side3 => repeat (first | exact (Kd.R_reads' HO_6.out).2.2 | (with_reducible refine Kd.C_alloc ?_ _) | (with_reducible refine Kd.C_drewN ?_ _) | (with_reducible refine Kd.C_drew ?_))); (case side4 => exact (Kd.R_reads' HO_6.out).2.1); rintro e w' ⟨rfl, ⟨nd, rfl⟩⟩; refine ⟨_, rfl, ?_⟩))
                          go_meet
                          case rel => exact ⟨_, (true), (by first | rfl | (simp; done) | (simp [*]; done)), H', ⟨by have := HJ11.out; have := HJ37.out; first | omega | exact Nat.le_refl _⟩, ⟨by (try simp only [hl681002_37]); (with_reducible repeat (first | apply Kd.R_alloc | apply Kd.R_drewN | apply Kd.R_drew)); exact Kd.R_mono HO_9.out (fun _ hk => trivial)⟩, ⟨by (try simp only [hl681002_37]); (with_reducible repeat (first | apply Kd.R_alloc | apply Kd.R_drewN | apply Kd.R_drew)); exact Kd.R_mono HO_681002.out (fun _ hk => trivial)⟩, ⟨by (try simp only [hl681002_37]); (with_reducible repeat (first | refine blk_drewN ?_ _ | refine blk_drew ?_ | refine blk_alloc ?_ _)); exact BK664.out⟩, ⟨by (try simp only [hl681002_37]); (with_reducible repeat (first | refine blk_drewN ?_ _ | refine blk_drew ?_ | refine blk_alloc ?_ _)); exact BK680.out⟩, ⟨by repeat (first | (with_reducible first | exact HB.out | apply below_alloc | apply pw_below_drewN | apply below_drew1 | refine below_set ?_ GE664.out | refine below_set ?_ GE680.out) | exact HB.out)⟩⟩
                      case rest =>
                        clear HC62
                        try clear c1
                        try clear c2
                        try clear p2
                        try clear c3
                        try clear c4
                        try clear c4b0
                        try clear c5
                        try clear c6
                        try clear c7
                        try clear c14
                        try clear c23
                        try clear c27
                        try clear c28
                        try clear c30
                        try clear c32
                        try clear c33
                        try clear c36
                        try clear c43
                        try clear c44
                        try clear c45
                        try clear c46
                        try clear c46b0
                        try clear c47
                        try clear c48
                        try clear c53
                        try clear c56
                        try clear c56b0
                        try clear c59
                        try clear c59b0
                        try clear c59b1
                        try clear c65
                        try clear c71
                        try clear hcz14_0
                        try clear hcz14_1
                        try clear hcz14_2
                        try clear hcz16_0
                        try clear hcz16_1
                        try clear hcz16_2
                        try clear hcz20_0
                        try clear hcz20_1
                        try clear hcz20_2
                        try clear hcz24_0
                        try clear hcz24_1
                        try clear hcz24_2
                        try clear hcz44_0
                        try clear hcz44_1
                        try clear hcz44_2
                        try clear hcz66_0
                        try clear hcz66_1
                        try clear hcz66_2
                        try clear hcz6_0
                        try clear hcz6_1
                        try clear hcz6_2
                        try clear hfz14_0
                        try clear hfz14_1
                        try clear hfz14_2
                        try clear hfz16_0
                        try clear hfz16_1
                        try clear hfz16_2
                        try clear hfz20_0
                        try clear hfz20_1
                        try clear hfz20_2
                        try clear hfz24_0
                        try clear hfz24_1
                        try clear hfz24_2
                        try clear hfz44_0
                        try clear hfz44_1
                        try clear hfz44_2
                        try clear hfz66_0
                        try clear hfz66_1
                        try clear hfz66_2
                        try clear hfz6_0
                        try clear hfz6_1
                        try clear hfz6_2
                        try clear p2
                        obtain ⟨kq, x92_61, rfl, HA, HJ61, HO_9, HO_681002, BK664, BK680, HB⟩ := hcut
                        have hl9_61 := (Kd.R_reads' HO_9.out).1
                        rw [hl9_61] at HO_9
                        (try simp only [hl9_61])
                        (try simp only [hl9_61] at BK664)
                        (try simp only [hl9_61] at BK680)
                        (try simp only [hl9_61] at HO_681002)
                        cases kq with
                        | zero => exact absurd HA.out (by simp [laws_FnExactFirstLies.j2])
                        | succ kj61 =>
                          have H := HA.out
                          clear HA
                          simp only [laws_FnExactFirstLies.j2] at H
                          by_cases c76 : x92_61 = true
                          · subst c76
                            have H1 : (some false) = some r := by rw [if_pos rfl] at H; exact H
                            clear H
                            have H := H1
                            clear H1
                            obtain rfl := Option.some.inj H
                            go_wp2
                            go_ret
                            exact ⟨by first | rfl | (simp [errW_none, errW_some] <;> rfl) | (simp [*, errW_none, errW_some] <;> rfl), by repeat (first | (with_reducible first | exact HB.out | apply below_alloc | apply pw_below_drewN | apply below_drew1 | refine below_set ?_ GE664.out | refine below_set ?_ GE680.out) | exact HB.out)⟩
                          · replace c76 := Bool.eq_false_iff.mpr c76
                            subst c76
                            have H1 : ((laws_heldInt64S.f kj61 t696 1).bind fun t708 => (if t708 < 0 then (some false) else (if t708 = t695 then (some true) else (some false)))) = some r := by rw [if_neg (show ¬ (false = true) by decide)] at H; exact H
                            clear H
                            have H := H1
                            clear H1
                            replace H := Option.bind_eq_some_iff.mp H
                            obtain ⟨t708, A770, H⟩ := H
                            replace H : (if t708 < 0 then (some false) else (if t708 = t695 then (some true) else (some false))) = some r := H
                            have A77 := Aside0.mk A770
                            clear A770
                            by_cases c78 : t708 < 0
                            · rw [if_pos c78] at H
                              have c78b0 : decide (t708 < 0) = true := decide_eq_true c78
                              clear c78
                              obtain rfl := Option.some.inj H
                              go_wp2_with (first | ((with_reducible refine gate_callee (f := 48) rfl ?_); refine goesL_ (some 95) rfl rfl Try.func48 (by kernel_rfl) rfl #[.slice Ao63 t696.length co63, .int .i64 1] rfl (by (try simp only [List.map_toArray, List.map_cons, List.map_nil]); first | done | rfl | (simp only [List.length_drop, List.length_take]; rfl)) ?_; (with_reducible refine (laws_heldInt64S.calls kj61 _ _ t696 1 t708 _ ?side1 ?side2 A77.out).mono ?_); (case side1 => repeat (first | exact (Kd.R_reads' HO_9.out).2.2 | (with_reducible refine Kd.C_alloc ?_ _) | (with_reducible refine Kd.C_drewN ?_ _) | (with_reducible refine Kd.C_drew ?_))); (case side2 => exact (Kd.R_reads' HO_9.out).2.1); rintro e w' ⟨rfl, ⟨nd, rfl⟩⟩; refine ⟨_, rfl, ?_⟩))
                              go_ret
                              exact ⟨by first | rfl | (simp [errW_none, errW_some] <;> rfl) | (simp [*, errW_none, errW_some] <;> rfl), by repeat (first | (with_reducible first | exact HB.out | apply below_alloc | apply pw_below_drewN | apply below_drew1 | refine below_set ?_ GE664.out | refine below_set ?_ GE680.out) | exact HB.out)⟩
                            · rw [if_neg c78] at H
                              have c78b0 : decide (t708 < 0) = false := decide_eq_false c78
                              clear c78
                              by_cases c79 : t708 = t695
                              · rw [if_pos c79] at H
                                have c79b0 : (t708 == t695) = true := beq_iff_eq.mpr c79
                                have c79b1 : (t708 != t695) = false := bne_eq_false_iff_eq.mpr c79
                                clear c79
                                obtain rfl := Option.some.inj H
                                go_wp2_with (first | ((with_reducible refine gate_callee (f := 48) rfl ?_); refine goesL_ (some 95) rfl rfl Try.func48 (by kernel_rfl) rfl #[.slice Ao63 t696.length co63, .int .i64 1] rfl (by (try simp only [List.map_toArray, List.map_cons, List.map_nil]); first | done | rfl | (simp only [List.length_drop, List.length_take]; rfl)) ?_; (with_reducible refine (laws_heldInt64S.calls kj61 _ _ t696 1 t708 _ ?side1 ?side2 A77.out).mono ?_); (case side1 => repeat (first | exact (Kd.R_reads' HO_9.out).2.2 | (with_reducible refine Kd.C_alloc ?_ _) | (with_reducible refine Kd.C_drewN ?_ _) | (with_reducible refine Kd.C_drew ?_))); (case side2 => exact (Kd.R_reads' HO_9.out).2.1); rintro e w' ⟨rfl, ⟨nd, rfl⟩⟩; refine ⟨_, rfl, ?_⟩))
                                go_ret
                                exact ⟨by first | rfl | (simp [errW_none, errW_some] <;> rfl) | (simp [*, errW_none, errW_some] <;> rfl), by repeat (first | (with_reducible first | exact HB.out | apply below_alloc | apply pw_below_drewN | apply below_drew1 | refine below_set ?_ GE664.out | refine below_set ?_ GE680.out) | exact HB.out)⟩
                              · rw [if_neg c79] at H
                                have c79b0 : (t708 == t695) = false := beq_eq_false_iff_ne.mpr c79
                                have c79b1 : (t708 != t695) = true := bne_iff_ne.mpr c79
                                obtain rfl := Option.some.inj H
                                go_wp2_with (first | ((with_reducible refine gate_callee (f := 48) rfl ?_); refine goesL_ (some 95) rfl rfl Try.func48 (by kernel_rfl) rfl #[.slice Ao63 t696.length co63, .int .i64 1] rfl (by (try simp only [List.map_toArray, List.map_cons, List.map_nil]); first | done | rfl | (simp only [List.length_drop, List.length_take]; rfl)) ?_; (with_reducible refine (laws_heldInt64S.calls kj61 _ _ t696 1 t708 _ ?side1 ?side2 A77.out).mono ?_); (case side1 => repeat (first | exact (Kd.R_reads' HO_9.out).2.2 | (with_reducible refine Kd.C_alloc ?_ _) | (with_reducible refine Kd.C_drewN ?_ _) | (with_reducible refine Kd.C_drew ?_))); (case side2 => exact (Kd.R_reads' HO_9.out).2.1); rintro e w' ⟨rfl, ⟨nd, rfl⟩⟩; refine ⟨_, rfl, ?_⟩))
                                go_ret
                                exact ⟨by first | rfl | (simp [errW_none, errW_some] <;> rfl) | (simp [*, errW_none, errW_some] <;> rfl), by repeat (first | (with_reducible first | exact HB.out | apply below_alloc | apply pw_below_drewN | apply below_drew1 | refine below_set ?_ GE664.out | refine below_set ?_ GE680.out) | exact HB.out)⟩
                    · rw [if_neg c59] at H
                      have c59b0 : (t697 == t695) = false := beq_eq_false_iff_ne.mpr c59
                      have c59b1 : (t697 != t695) = true := bne_iff_ne.mpr c59
                      obtain rfl := Option.some.inj H
                      obtain ⟨Ao80, co80, eo80⟩ := Kd.R_slice HO_9.out
                      subst eo80
                      go_wp2_with (first | ((with_reducible refine gate_callee (f := 47) rfl ?_); refine goesL_ (some 68) rfl rfl Try.func47 (by kernel_rfl) rfl #[.slice Ao80 t681.length co80, .int .i64 1] rfl (by (try simp only [List.map_toArray, List.map_cons, List.map_nil]); first | done | rfl | (simp only [List.length_drop, List.length_take]; rfl)) ?_; (with_reducible refine (laws_markInt64S.calls kj37 (fun k_ => some k_ = (.slice Ao80 t681.length co80 : Value).ownBlock) (.slice Ao80 t681.length co80) t681 1 t695 t696 w _ ?side1 ?side2 A54.out).mono ?_); (case side1 => repeat (first | (with_reducible first | exact HB.out | apply below_alloc | apply pw_below_drewN | apply below_drew1 | refine below_set ?_ GE664.out | refine below_set ?_ GE680.out) | exact HB.out)); (case side2 => exact Kd.R_tight rfl HO_9.out); rintro e w81 ⟨rfl, hy0, hb, hkp⟩; refine ⟨_, rfl, ?_⟩; have n0_ := Aside0.mk (Kd.R_mono (ok' := fun k_ => some k_ ≠ (.slice Ao80 t681.length co80 : Value).ownBlock) (Kd.R_keptB (HO_6.out) hkp (fun k_ hk_ hs_ => (hk_) hs_)) (fun k_ hk_ => hk_.1)); have n1_ := Aside0.mk (Kd.R_reok rfl hy0 (fun k_ e_ => HO_9.out.1 k_ e_)); have n2_ := Aside0.mk (Kd.R_mono (ok' := fun k_ => True) (Kd.R_keptB ((Kd.R_apart' HO_681002.out (Kd.R_typed HO_9.out) (by decide))) hkp (fun k_ hk_ hs_ => (hk_.2) hs_)) (fun k_ hk_ => trivial)); have n3_ := Aside0.mk (blk_kept (by (with_reducible repeat (first | refine blk_drewN ?_ _ | refine blk_drew ?_ | refine blk_alloc ?_ _)); exact BK664.out) hkp (fun hs_ => (fun e_ => (Kd.R_ne HO_9.out BK664.out (by decide)) e_) hs_)); have n4_ := Aside0.mk (blk_kept (by (with_reducible repeat (first | refine blk_drewN ?_ _ | refine blk_drew ?_ | refine blk_alloc ?_ _)); exact BK680.out) hkp (fun hs_ => (fun e_ => (Kd.R_ne HO_9.out BK680.out (by decide)) e_) hs_)); have n5_ := Aside0.mk (hb); clear HO_6; clear HO_9; clear HO_681002; clear BK664; clear BK680; clear HB; have HO_6 := n0_; have HO_9 := n1_; have HO_681002 := n2_; have BK664 := n3_; have BK680 := n4_; have HB := n5_; clear n0_ n1_ n2_ n3_ n4_ n5_; (try clear hb); (try clear hkp); (try clear hy0)) | ((with_reducible refine gate_callee (f := 48) rfl ?_); refine goesL_ (some 71) rfl rfl Try.func48 (by kernel_rfl) rfl #[.slice Ao80 t696.length co80, .int .i64 1] rfl (by (try simp only [List.map_toArray, List.map_cons, List.map_nil]); first | done | (rw [show t696.length = t681.length from (Kd.R_reads' HO_9.out).1.symm] <;> rfl) | rfl | (simp only [List.length_drop, List.length_take]; rfl)) ?_; (with_reducible refine (laws_heldInt64S.calls kj37 _ _ t696 1 t697 _ ?side1 ?side2 A55.out).mono ?_); (case side1 => repeat (first | exact (Kd.R_reads' HO_9.out).2.2 | (with_reducible refine Kd.C_alloc ?_ _) | (with_reducible refine Kd.C_drewN ?_ _) | (with_reducible refine Kd.C_drew ?_))); (case side2 => rw [show t696.length = t681.length from (Kd.R_reads' HO_9.out).1.symm]; exact (Kd.R_reads' HO_9.out).2.1); rintro e w' ⟨rfl, ⟨nd, rfl⟩⟩; refine ⟨_, rfl, ?_⟩))
                      go_ret
                      exact ⟨by first | rfl | (simp [errW_none, errW_some] <;> rfl) | (simp [*, errW_none, errW_some] <;> rfl), by repeat (first | (with_reducible first | exact HB.out | apply below_alloc | apply pw_below_drewN | apply below_drew1 | refine below_set ?_ GE664.out | refine below_set ?_ GE680.out) | exact HB.out)⟩
          · replace c36 := Bool.eq_false_iff.mpr c36
            subst c36
            have H1 : (some false) = some r := by rw [if_neg (show ¬ (false = true) by decide)] at H; exact H
            clear H
            have H := H1
            clear H1
            obtain rfl := Option.some.inj H
            try go_wp2
            have n0_ := Aside0.mk (Kd.R_drew HO_6.out)
            have n1_ := Aside0.mk (Kd.R_drew HO_9.out)
            have n2_ := Aside0.mk (Kd.R_drew HO_681002.out)
            have n3_ := Aside0.mk (blk_drew BK664.out)
            have n4_ := Aside0.mk (blk_drew BK680.out)
            have n5_ := Aside0.mk (below_drew1 HB.out)
            clear HO_6
            clear HO_9
            clear HO_681002
            clear BK664
            clear BK680
            clear HB
            have HO_6 := n0_
            have HO_9 := n1_
            have HO_681002 := n2_
            have BK664 := n3_
            have BK680 := n4_
            have HB := n5_
            clear n0_ n1_ n2_ n3_ n4_ n5_
            refine start_ (n := 5) (S := fun w' => w'.cell? ⟨gb680, 0, none⟩ = some (.int .i8 t675) ∧ w'.cell? ⟨gb680, 1, none⟩ = some (.int .i8 t676) ∧ w'.cell? ⟨gb680, 2, none⟩ = some (.slice Ao25 t677.length co25) ∧ w'.cell? ⟨gb664, 0, none⟩ = some (.int .i8 a0_0) ∧ w'.cell? ⟨gb664, 1, none⟩ = some (.int .i8 a0_1) ∧ w'.cell? ⟨gb664, 2, none⟩ = some (.slice A0_2 l0_2.length c0_2)) (ds := []) #[false, false, false, false, false] (by kernel_rfl) rfl rfl ⟨(blk_cell BK680.out 0).trans rfl, (blk_cell BK680.out 1).trans rfl, (blk_cell BK680.out 2).trans rfl, (blk_cell BK664.out 0).trans rfl, (blk_cell BK664.out 1).trans rfl, (blk_cell BK664.out 2).trans rfl⟩ (fun hHeld => ?_)
            generalize wc.drew = w82 at HO_6 HO_9 HO_681002 BK664 BK680 HB hHeld ⊢
            refine take_ (i := 0) (N := some 45) (v := ?_) (a' := ?_) #[true, false, false, false, false] rfl rfl (by kernel_rfl) (fun _ _ _ h => h) (Or.inl ⟨by rfl, ?_⟩) hHeld ?_ ?_
            rotate_left
            · rintro w' ⟨s0, s1, s2, s3, s4, s5⟩
              go_simp
              with_reducible rfl
            rotate_left
            · simp only [Act.put, List.setIfInBounds_toArray, List.set_cons_zero, List.set_cons_succ, i64_w, i32_w]
              rfl
            refine take_ (i := 1) (N := some 46) (v := ?_) (a' := ?_) #[true, true, false, false, false] rfl rfl (by kernel_rfl) (fun _ _ _ h => h) (Or.inl ⟨by rfl, ?_⟩) hHeld ?_ ?_
            rotate_left
            · rintro w' ⟨s0, s1, s2, s3, s4, s5⟩
              go_simp
              with_reducible rfl
            rotate_left
            · simp only [Act.put, List.setIfInBounds_toArray, List.set_cons_zero, List.set_cons_succ, i64_w, i32_w]
              rfl
            refine one_ (i := 2) (N := some 47) #[true, true, true, false, false] rfl rfl (by kernel_rfl) (by decide) (fun K hK => ?_)
            refine goes_ Try.func32 (by kernel_rfl) rfl #[.agg #[.int .i8 a0_0, .int .i8 a0_1, .slice A0_2 l0_2.length c0_2]] (by rfl) rfl rfl (by (try simp only [List.map_toArray, List.map_cons, List.map_nil]); first | done | rfl | (simp only [List.length_drop, List.length_take]; rfl)) ?_
            with_reducible refine (laws_toGame.calls kj11 a0_0 a0_1 _ _ l0_2 t686 t687 t688 _ ?side1 ?side2 A34.out).mono ?_
            (case side1 => repeat (first | exact (Kd.C_below HR0_2.out HB.out) | (with_reducible refine Kd.C_alloc ?_ _) | (with_reducible refine Kd.C_drewN ?_ _) | (with_reducible refine Kd.C_drew ?_)))
            (case side2 => exact HC0_2.out)
            rintro e w83 ⟨v689, rfl, ho0, hb⟩
            refine ⟨_, rfl, ?_⟩
            have n0_ := Aside0.mk (Kd.R_below (by (with_reducible repeat (first | apply Kd.R_alloc | apply Kd.R_drewN | apply Kd.R_drew)); exact HO_6.out) hb)
            have n1_ := Aside0.mk (Kd.R_below (by (with_reducible repeat (first | apply Kd.R_alloc | apply Kd.R_drewN | apply Kd.R_drew)); exact HO_9.out) hb)
            have n2_ := Aside0.mk (Kd.R_elder' (by (with_reducible repeat (first | apply Kd.R_alloc | apply Kd.R_drewN | apply Kd.R_drew)); exact HO_681002.out) (Kd.R_base ho0) hb)
            have n3_ := Aside0.mk (Kd.R_lower (Kd.R_new' ho0 (Kd.R_lt (by (with_reducible repeat (first | apply Kd.R_alloc | apply Kd.R_drewN | apply Kd.R_drew)); exact HO_681002.out))) (below_size (by repeat (first | (with_reducible first | exact HB.out | apply below_alloc | apply pw_below_drewN | apply below_drew1 | refine below_set ?_ GE664.out | refine below_set ?_ GE680.out) | exact HB.out))))
            have n4_ := Aside0.mk (blk_below (g := gb664) (o := .cells #[.int .i8 a0_0, .int .i8 a0_1, .slice A0_2 l0_2.length c0_2] 45 (0, 0)) (by (with_reducible repeat (first | refine blk_drewN ?_ _ | refine blk_drew ?_ | refine blk_alloc ?_ _)); exact BK664.out) hb)
            have n5_ := Aside0.mk (blk_below (g := gb680) (o := .cells #[.int .i8 t675, .int .i8 t676, .slice Ao25 t677.length co25] 37 (0, 0)) (by (with_reducible repeat (first | refine blk_drewN ?_ _ | refine blk_drew ?_ | refine blk_alloc ?_ _)); exact BK680.out) hb)
            have n6_ := Aside0.mk (below_step (by repeat (first | (with_reducible first | exact HB.out | apply below_alloc | apply pw_below_drewN | apply below_drew1 | refine below_set ?_ GE664.out | refine below_set ?_ GE680.out) | exact HB.out)) hb)
            clear HO_6
            clear HO_9
            clear HO_681002
            clear BK664
            clear BK680
            clear HB
            have HO_6 := n0_
            have HO_9 := n1_
            have HO_681002 := n2_
            have HO690 := n3_
            have BK664 := n4_
            have BK680 := n5_
            have HB := n6_
            clear n0_ n1_ n2_ n3_ n4_ n5_ n6_
            (try clear hb)
            (try clear hb2)
            (try clear hk)
            (try clear hi)
            (try clear ho0)
            obtain ⟨Ao84, co84, eo84⟩ := Kd.R_slice HO690.out
            (first | subst eo84 | (injection eo84 with f1_ f2_ f3_; have f4_ := f1_.symm; have f5_ := f3_.symm; clear f1_ f2_ f3_; subst f4_; subst f5_))
            refine hK.out _ _ ⟨(blk_cell BK680.out 0).trans rfl, (blk_cell BK680.out 1).trans rfl, (blk_cell BK680.out 2).trans rfl, (blk_cell BK664.out 0).trans rfl, (blk_cell BK664.out 1).trans rfl, (blk_cell BK664.out 2).trans rfl⟩ (fun hHeld => ?_)
            clear hK K
            refine norm_ (a' := ?_) ?_ ?_
            rotate_left
            · show Act.put _ (some 47) _ = _
              simp only [Act.put, List.setIfInBounds_toArray, List.set_cons_zero, List.set_cons_succ, i64_w, i32_w]
              rfl
            refine one_ (i := 3) (N := some 48) #[true, true, true, true, false] rfl rfl (by kernel_rfl) (by decide) (fun K hK => ?_)
            refine goes_ Try.func27 (by kernel_rfl) rfl #[.agg #[.int .i8 t675, .int .i8 t676, .slice Ao25 t677.length co25], .agg #[.int .i8 t686, .int .i8 t687, .slice Ao84 t688.length co84]] (by rfl) rfl rfl (by (try simp only [List.map_toArray, List.map_cons, List.map_nil]); first | done | rfl | (simp only [List.length_drop, List.length_take]; rfl)) ?_
            with_reducible refine (laws_eqGame.calls kj11 t675 t676 _ _ t677 t686 t687 _ _ t688 false _ ?side1 ?side2 ?side3 ?side4 A35.out).mono ?_
            (case side1 => repeat (first | exact (Kd.R_reads' HO_681002.out).2.2 | (with_reducible refine Kd.C_alloc ?_ _) | (with_reducible refine Kd.C_drewN ?_ _) | (with_reducible refine Kd.C_drew ?_)))
            (case side2 => exact (Kd.R_reads' HO_681002.out).2.1)
            (case side3 => repeat (first | exact (Kd.R_reads' HO690.out).2.2 | (with_reducible refine Kd.C_alloc ?_ _) | (with_reducible refine Kd.C_drewN ?_ _) | (with_reducible refine Kd.C_drew ?_)))
            (case side4 => exact (Kd.R_reads' HO690.out).2.1)
            rintro e w85 ⟨rfl, hb⟩
            refine ⟨_, rfl, ?_⟩
            have n0_ := Aside0.mk (Kd.R_below (by (with_reducible repeat (first | apply Kd.R_alloc | apply Kd.R_drewN | apply Kd.R_drew)); exact HO_6.out) hb)
            have n1_ := Aside0.mk (Kd.R_below (by (with_reducible repeat (first | apply Kd.R_alloc | apply Kd.R_drewN | apply Kd.R_drew)); exact HO_9.out) hb)
            have n2_ := Aside0.mk (Kd.R_below (by (with_reducible repeat (first | apply Kd.R_alloc | apply Kd.R_drewN | apply Kd.R_drew)); exact HO_681002.out) hb)
            have n3_ := Aside0.mk (Kd.R_below (by (with_reducible repeat (first | apply Kd.R_alloc | apply Kd.R_drewN | apply Kd.R_drew)); exact HO690.out) hb)
            have n4_ := Aside0.mk (blk_below (g := gb664) (o := .cells #[.int .i8 a0_0, .int .i8 a0_1, .slice A0_2 l0_2.length c0_2] 45 (0, 0)) (by (with_reducible repeat (first | refine blk_drewN ?_ _ | refine blk_drew ?_ | refine blk_alloc ?_ _)); exact BK664.out) hb)
            have n5_ := Aside0.mk (blk_below (g := gb680) (o := .cells #[.int .i8 t675, .int .i8 t676, .slice Ao25 t677.length co25] 37 (0, 0)) (by (with_reducible repeat (first | refine blk_drewN ?_ _ | refine blk_drew ?_ | refine blk_alloc ?_ _)); exact BK680.out) hb)
            have n6_ := Aside0.mk (below_step (by repeat (first | (with_reducible first | exact HB.out | apply below_alloc | apply pw_below_drewN | apply below_drew1 | refine below_set ?_ GE664.out | refine below_set ?_ GE680.out) | exact HB.out)) hb)
            clear HO_6
            clear HO_9
            clear HO_681002
            clear HO690
            clear BK664
            clear BK680
            clear HB
            have HO_6 := n0_
            have HO_9 := n1_
            have HO_681002 := n2_
            have HO690 := n3_
            have BK664 := n4_
            have BK680 := n5_
            have HB := n6_
            clear n0_ n1_ n2_ n3_ n4_ n5_ n6_
            (try clear hb)
            (try clear hb2)
            (try clear hk)
            (try clear hi)
            refine hK.out _ _ ⟨(blk_cell BK680.out 0).trans rfl, (blk_cell BK680.out 1).trans rfl, (blk_cell BK680.out 2).trans rfl, (blk_cell BK664.out 0).trans rfl, (blk_cell BK664.out 1).trans rfl, (blk_cell BK664.out 2).trans rfl⟩ (fun hHeld => ?_)
            clear hK K
            refine norm_ (a' := ?_) ?_ ?_
            rotate_left
            · show Act.put _ (some 48) _ = _
              simp only [Act.put, List.setIfInBounds_toArray, List.set_cons_zero, List.set_cons_succ, i64_w, i32_w]
              rfl
            refine pure_ (i := 4) (N := some 49) (v := ?_) (a' := ?_) #[true, true, true, true, true] rfl rfl (by kernel_rfl) (fun _ _ _ h => h) (Or.inl ⟨by rfl, ?_⟩) ?_ ?_
            rotate_left
            · intro w'
              go_simp
              with_reducible rfl
            rotate_left
            · simp only [Act.put, List.setIfInBounds_toArray, List.set_cons_zero, List.set_cons_succ, i64_w, i32_w]
              rfl
            refine done_ (by kernel_rfl) ?_
            try go_wp2
            go_ret
            exact ⟨by first | rfl | (simp [errW_none, errW_some] <;> rfl) | (simp [*, errW_none, errW_some] <;> rfl), by repeat (first | (with_reducible first | exact HB.out | apply below_alloc | apply pw_below_drewN | apply below_drew1 | refine below_set ?_ GE664.out | refine below_set ?_ GE680.out) | exact HB.out)⟩

end Go.Proofs.Ytoicmgphccgdbaa.M
