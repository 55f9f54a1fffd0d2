-- Written by wip/tools/myprint.py, a program of this session, by way of the kit's print.
import Derived.Test.YtikdnhhegknplaaMx0
import Derived.Test.YtikdnhhegknplaaMx1
import Derived.Test.YtikdnhhegknplaaMx3
import Derived.Test.YtikdnhhegknplaaMx5
import Derived.Test.YtikdnhhegknplaaMx30
import Derived.Test.YtikdnhhegknplaaMx31
import Derived.Test.YtikdnhhegknplaaMx32
namespace Go.Proofs.Ytikdnhhegknplaa.M
open Go.RowKit Go.Proofs.YtikdnhhegknplaaW.PrintWords Go.Proofs.YtikdnhhegknplaaW.PrintLast Go.Proofs.YtikdnhhegknplaaW.PrintMore
attribute [local go_sem] max2_int min2_int max_two min_two max_three min_three max_four min_four   -- for this text's walks alone
set_option linter.unusedVariables false
set_option linter.unusedSimpArgs false

/-! ### laws_FnExactWithoutThing: function 10 -/
mutual
def laws_FnExactWithoutThing.j0 : Nat → Int → Int → Int → Bool → Int → Int → List Int → Int → Int → List Int → Int → Int → List Int → Int → Int → List Int → Option (Bool)
  | 0, _, _, _, _, _, _, _, _, _, _, _, _, _, _, _, _ => none
  | k + 1, x1, x7, x10, x44, x437000, x437001, x437002, x450000, x450001, x450002, x456000, x456001, x456002, x463000, x463001, x463002 => if x44 = true then (some false) else ((laws_toFerry.f k x437000 x437001 x437002).bind fun bt464 => ((laws_eqFerry.f k x456000 x456001 x456002 bt464.1 bt464.2.1 bt464.2.2).bind fun t469 => (if t469 = true then ((laws_markFerry.f k x456000 x456001 x456002 1).bind fun bt470 => (if bt470.1 < 0 then (laws_FnExactWithoutThing.j1 k x1 x7 true x437000 x437001 x437002 x450000 x450001 x450002 x463000 x463001 x463002) else ((laws_eqFerry.f k x463000 x463001 x463002 x450000 x450001 x450002).bind fun t472 => (if t472 = true then (laws_FnExactWithoutThing.j1 k x1 x7 (x10 != x7) x437000 x437001 x437002 x450000 x450001 x450002 x463000 x463001 x463002) else (laws_FnExactWithoutThing.j1 k x1 x7 true x437000 x437001 x437002 x450000 x450001 x450002 x463000 x463001 x463002))))) else (some false))))
def laws_FnExactWithoutThing.j1 : Nat → Int → Int → Bool → Int → Int → List Int → Int → Int → List Int → Int → Int → List Int → Option (Bool)
  | 0, _, _, _, _, _, _, _, _, _, _, _, _ => none
  | k + 1, x1, x7, x65, x437000, x437001, x437002, x450000, x450001, x450002, x463000, x463001, x463002 => if x65 = true then (some false) else ((laws_markFerry.f k x463000 x463001 x463002 1).bind fun bt473 => ((laws_heldFerry.f k x463000 x463001 bt473.2 1).bind fun t475 => (if t475 < 0 then (some false) else (if t475 = bt473.1 then ((laws_toFerry.f k x437000 x437001 x437002).bind fun bt476 => ((impl_WithoutThing.f k bt476.1 bt476.2.1 bt476.2.2 x1).bind fun bt481 => ((laws_eqFerry.f k bt481.1 bt481.2.1 bt481.2.2.1 x450000 x450001 x450002).bind fun t488 => (if t488 = true then (laws_FnExactWithoutThing.j2 k bt473.1 (bt481.2.2.2 != x7) x463000 x463001 bt473.2) else (laws_FnExactWithoutThing.j2 k bt473.1 true x463000 x463001 bt473.2))))) else (some false)))))
def laws_FnExactWithoutThing.j2 : Nat → Int → Bool → Int → Int → List Int → Option (Bool)
  | 0, _, _, _, _, _ => none
  | k + 1, x12, x92, x463000, x463001, x463002 => if x92 = true then (some false) else ((laws_heldFerry.f k x463000 x463001 x463002 1).bind fun t489 => (if t489 < 0 then (some false) else (if t489 = x12 then (some true) else (some false))))
end
def laws_FnExactWithoutThing.f (k : Nat) (a0_0 : Int) (a0_1 : Int) (l0_2 : List Int) (a1 : Int) : Option (Bool) := (laws_szFerry.f a0_0 a0_1 l0_2 1048576).bind fun t437 => (if t437 < 0 then (some true) else ((laws_toFerry.f k a0_0 a0_1 l0_2).bind fun bt438 => ((spec_WithoutThing.f k bt438.1 bt438.2.1 bt438.2.2 a1).bind fun bt443 => ((laws_toFerry.f k a0_0 a0_1 l0_2).bind fun bt450 => ((impl_WithoutThing.f k bt450.1 bt450.2.1 bt450.2.2 a1).bind fun bt456 => ((laws_eqFerry.f k bt456.1 bt456.2.1 bt456.2.2.1 bt443.1 bt443.2.1 bt443.2.2.1).bind fun t463 => (if t463 = true then (laws_FnExactWithoutThing.j0 k a1 bt443.2.2.2 bt456.2.2.2 (bt456.2.2.2 != bt443.2.2.2) a0_0 a0_1 l0_2 bt443.1 bt443.2.1 bt443.2.2.1 bt450.1 bt450.2.1 bt450.2.2 bt456.1 bt456.2.1 bt456.2.2.1) else (laws_FnExactWithoutThing.j0 k a1 bt443.2.2.2 bt456.2.2.2 true a0_0 a0_1 l0_2 bt443.1 bt443.2.1 bt443.2.2.1 bt450.1 bt450.2.1 bt450.2.2 bt456.1 bt456.2.1 bt456.2.2.1))))))))
theorem laws_FnExactWithoutThing.mono_l : ∀ k, (∀ y0 y1 y2 y3 y4 y5 y6 y7 y8 y9 y10 y11 y12 y13 y14 y15, LeO (laws_FnExactWithoutThing.j0 k y0 y1 y2 y3 y4 y5 y6 y7 y8 y9 y10 y11 y12 y13 y14 y15) (laws_FnExactWithoutThing.j0 (k + 1) y0 y1 y2 y3 y4 y5 y6 y7 y8 y9 y10 y11 y12 y13 y14 y15)) ∧ (∀ y0 y1 y2 y3 y4 y5 y6 y7 y8 y9 y10 y11, LeO (laws_FnExactWithoutThing.j1 k y0 y1 y2 y3 y4 y5 y6 y7 y8 y9 y10 y11) (laws_FnExactWithoutThing.j1 (k + 1) y0 y1 y2 y3 y4 y5 y6 y7 y8 y9 y10 y11)) ∧ (∀ y0 y1 y2 y3 y4, LeO (laws_FnExactWithoutThing.j2 k y0 y1 y2 y3 y4) (laws_FnExactWithoutThing.j2 (k + 1) y0 y1 y2 y3 y4))
  | 0 => ⟨fun _ _ _ _ _ _ _ _ _ _ _ _ _ _ _ _ r h => by simp [laws_FnExactWithoutThing.j0] at h, fun _ _ _ _ _ _ _ _ _ _ _ _ r h => by simp [laws_FnExactWithoutThing.j1] at h, fun _ _ _ _ _ r h => by simp [laws_FnExactWithoutThing.j2] at h⟩
  | k + 1 => by
    obtain ⟨ih0, ih1, ih2⟩ := laws_FnExactWithoutThing.mono_l k
    refine ⟨?_, ?_, ?_⟩
    · intro y0 y1 y2 y3 y4 y5 y6 y7 y8 y9 y10 y11 y12 y13 y14 y15
      unfold laws_FnExactWithoutThing.j0
      repeat' first
      | (with_reducible exact ih0 _ _ _ _ _ _ _ _ _ _ _ _ _ _ _ _)
      | (with_reducible exact ih1 _ _ _ _ _ _ _ _ _ _ _ _)
      | (with_reducible exact ih2 _ _ _ _ _)
      | (with_reducible exact impl_WithoutThing.mono _ _ _ _ _)
      | (with_reducible exact laws_eqFerry.mono _ _ _ _ _ _ _)
      | (with_reducible exact laws_heldFerry.mono _ _ _ _ _)
      | (with_reducible exact laws_markFerry.mono _ _ _ _ _)
      | (with_reducible exact laws_toFerry.mono _ _ _ _)
      | (with_reducible exact spec_WithoutThing.mono _ _ _ _ _)
      | (with_reducible exact LeO.refl _)
      | (with_reducible exact LeO.none _)
      | (with_reducible refine LeO.ite ?_ ?_)
      | (with_reducible refine LeO.bind ?_ (fun _ => ?_))
      | exact ih0 _ _ _ _ _ _ _ _ _ _ _ _ _ _ _ _
      | exact ih1 _ _ _ _ _ _ _ _ _ _ _ _
      | exact ih2 _ _ _ _ _
      | exact impl_WithoutThing.mono _ _ _ _ _
      | exact laws_eqFerry.mono _ _ _ _ _ _ _
      | exact laws_heldFerry.mono _ _ _ _ _
      | exact laws_markFerry.mono _ _ _ _ _
      | exact laws_toFerry.mono _ _ _ _
      | exact spec_WithoutThing.mono _ _ _ _ _
      | exact LeO.none _
      | refine LeO.ite ?_ ?_
      | refine LeO.bind ?_ (fun _ => ?_)
    · intro y0 y1 y2 y3 y4 y5 y6 y7 y8 y9 y10 y11
      unfold laws_FnExactWithoutThing.j1
      repeat' first
      | (with_reducible exact ih0 _ _ _ _ _ _ _ _ _ _ _ _ _ _ _ _)
      | (with_reducible exact ih1 _ _ _ _ _ _ _ _ _ _ _ _)
      | (with_reducible exact ih2 _ _ _ _ _)
      | (with_reducible exact impl_WithoutThing.mono _ _ _ _ _)
      | (with_reducible exact laws_eqFerry.mono _ _ _ _ _ _ _)
      | (with_reducible exact laws_heldFerry.mono _ _ _ _ _)
      | (with_reducible exact laws_markFerry.mono _ _ _ _ _)
      | (with_reducible exact laws_toFerry.mono _ _ _ _)
      | (with_reducible exact spec_WithoutThing.mono _ _ _ _ _)
      | (with_reducible exact LeO.refl _)
      | (with_reducible exact LeO.none _)
      | (with_reducible refine LeO.ite ?_ ?_)
      | (with_reducible refine LeO.bind ?_ (fun _ => ?_))
      | exact ih0 _ _ _ _ _ _ _ _ _ _ _ _ _ _ _ _
      | exact ih1 _ _ _ _ _ _ _ _ _ _ _ _
      | exact ih2 _ _ _ _ _
      | exact impl_WithoutThing.mono _ _ _ _ _
      | exact laws_eqFerry.mono _ _ _ _ _ _ _
      | exact laws_heldFerry.mono _ _ _ _ _
      | exact laws_markFerry.mono _ _ _ _ _
      | exact laws_toFerry.mono _ _ _ _
      | exact spec_WithoutThing.mono _ _ _ _ _
      | exact LeO.none _
      | refine LeO.ite ?_ ?_
      | refine LeO.bind ?_ (fun _ => ?_)
    · intro y0 y1 y2 y3 y4
      unfold laws_FnExactWithoutThing.j2
      repeat' first
      | (with_reducible exact ih0 _ _ _ _ _ _ _ _ _ _ _ _ _ _ _ _)
      | (with_reducible exact ih1 _ _ _ _ _ _ _ _ _ _ _ _)
      | (with_reducible exact ih2 _ _ _ _ _)
      | (with_reducible exact impl_WithoutThing.mono _ _ _ _ _)
      | (with_reducible exact laws_eqFerry.mono _ _ _ _ _ _ _)
      | (with_reducible exact laws_heldFerry.mono _ _ _ _ _)
      | (with_reducible exact laws_markFerry.mono _ _ _ _ _)
      | (with_reducible exact laws_toFerry.mono _ _ _ _)
      | (with_reducible exact spec_WithoutThing.mono _ _ _ _ _)
      | (with_reducible exact LeO.refl _)
      | (with_reducible exact LeO.none _)
      | (with_reducible refine LeO.ite ?_ ?_)
      | (with_reducible refine LeO.bind ?_ (fun _ => ?_))
      | exact ih0 _ _ _ _ _ _ _ _ _ _ _ _ _ _ _ _
      | exact ih1 _ _ _ _ _ _ _ _ _ _ _ _
      | exact ih2 _ _ _ _ _
      | exact impl_WithoutThing.mono _ _ _ _ _
      | exact laws_eqFerry.mono _ _ _ _ _ _ _
      | exact laws_heldFerry.mono _ _ _ _ _
      | exact laws_markFerry.mono _ _ _ _ _
      | exact laws_toFerry.mono _ _ _ _
      | exact spec_WithoutThing.mono _ _ _ _ _
      | exact LeO.none _
      | refine LeO.ite ?_ ?_
      | refine LeO.bind ?_ (fun _ => ?_)
theorem laws_FnExactWithoutThing.mono : ∀ a0 a1 a2 a3 k, LeO (laws_FnExactWithoutThing.f k a0 a1 a2 a3) (laws_FnExactWithoutThing.f (k + 1) a0 a1 a2 a3) := by
  intro a0 a1 a2 a3 k
  obtain ⟨ih0, ih1, ih2⟩ := laws_FnExactWithoutThing.mono_l k
  unfold laws_FnExactWithoutThing.f
  repeat' first
      | (with_reducible exact ih0 _ _ _ _ _ _ _ _ _ _ _ _ _ _ _ _)
      | (with_reducible exact ih1 _ _ _ _ _ _ _ _ _ _ _ _)
      | (with_reducible exact ih2 _ _ _ _ _)
      | (with_reducible exact impl_WithoutThing.mono _ _ _ _ _)
      | (with_reducible exact laws_eqFerry.mono _ _ _ _ _ _ _)
      | (with_reducible exact laws_heldFerry.mono _ _ _ _ _)
      | (with_reducible exact laws_markFerry.mono _ _ _ _ _)
      | (with_reducible exact laws_toFerry.mono _ _ _ _)
      | (with_reducible exact spec_WithoutThing.mono _ _ _ _ _)
      | (with_reducible exact LeO.refl _)
      | (with_reducible exact LeO.none _)
      | (with_reducible refine LeO.ite ?_ ?_)
      | (with_reducible refine LeO.bind ?_ (fun _ => ?_))
      | exact ih0 _ _ _ _ _ _ _ _ _ _ _ _ _ _ _ _
      | exact ih1 _ _ _ _ _ _ _ _ _ _ _ _
      | exact ih2 _ _ _ _ _
      | exact impl_WithoutThing.mono _ _ _ _ _
      | exact laws_eqFerry.mono _ _ _ _ _ _ _
      | exact laws_heldFerry.mono _ _ _ _ _
      | exact laws_markFerry.mono _ _ _ _ _
      | exact laws_toFerry.mono _ _ _ _
      | exact spec_WithoutThing.mono _ _ _ _ _
      | exact LeO.none _
      | refine LeO.ite ?_ ?_
      | refine LeO.bind ?_ (fun _ => ?_)
set_option maxHeartbeats 8000000 in
set_option maxRecDepth 100000 in
theorem laws_FnExactWithoutThing.calls (k : Nat) (a0_0 : Int) (a0_1 : Int) (A0_2 : Option Addr) (c0_2 : Nat) (l0_2 : List Int) (a1 : Int) (r : Bool) (w : World) (hr0_2 : Kd.C (Kd.int .u16) w A0_2 l0_2.length l0_2) (hc0_2 : l0_2.length ≤ c0_2) (h : laws_FnExactWithoutThing.f k a0_0 a0_1 l0_2 a1 = some r) :
    Calls Try.prog 10 #[.agg #[.int .i8 a0_0, .int .i8 a0_1, .slice A0_2 l0_2.length c0_2], .int .i64 a1] w fun e w' => e = .returned (.bool r) ∧ Below w.heap.size w w' := by
  have hu25 := Try.underlying25
  have hu28 := Try.underlying28
  have HR0_2 := Aside0.mk hr0_2
  have HC0_2 := Aside0.mk hc0_2
  clear hr0_2 hc0_2
  have HB := Aside0.mk (Below.refl w.heap.size w)
  have H : ((laws_szFerry.f a0_0 a0_1 l0_2 1048576).bind fun t437 => (if t437 < 0 then (some true) else ((laws_toFerry.f k a0_0 a0_1 l0_2).bind fun bt438 => ((spec_WithoutThing.f k bt438.1 bt438.2.1 bt438.2.2 a1).bind fun bt443 => ((laws_toFerry.f k a0_0 a0_1 l0_2).bind fun bt450 => ((impl_WithoutThing.f k bt450.1 bt450.2.1 bt450.2.2 a1).bind fun bt456 => ((laws_eqFerry.f k bt456.1 bt456.2.1 bt456.2.2.1 bt443.1 bt443.2.1 bt443.2.2.1).bind fun t463 => (if t463 = true then (laws_FnExactWithoutThing.j0 k a1 bt443.2.2.2 bt456.2.2.2 (bt456.2.2.2 != bt443.2.2.2) a0_0 a0_1 l0_2 bt443.1 bt443.2.1 bt443.2.2.1 bt450.1 bt450.2.1 bt450.2.2 bt456.1 bt456.2.1 bt456.2.2.1) else (laws_FnExactWithoutThing.j0 k a1 bt443.2.2.2 bt456.2.2.2 true a0_0 a0_1 l0_2 bt443.1 bt443.2.1 bt443.2.2.1 bt450.1 bt450.2.1 bt450.2.2 bt456.1 bt456.2.1 bt456.2.2.1))))))))) = some r := h
  clear h
  replace H := Option.bind_eq_some_iff.mp H
  obtain ⟨t437, A30, H⟩ := H
  replace H : (if t437 < 0 then (some true) else ((laws_toFerry.f k a0_0 a0_1 l0_2).bind fun bt438 => ((spec_WithoutThing.f k bt438.1 bt438.2.1 bt438.2.2 a1).bind fun bt443 => ((laws_toFerry.f k a0_0 a0_1 l0_2).bind fun bt450 => ((impl_WithoutThing.f k bt450.1 bt450.2.1 bt450.2.2 a1).bind fun bt456 => ((laws_eqFerry.f k bt456.1 bt456.2.1 bt456.2.2.1 bt443.1 bt443.2.1 bt443.2.2.1).bind fun t463 => (if t463 = true then (laws_FnExactWithoutThing.j0 k a1 bt443.2.2.2 bt456.2.2.2 (bt456.2.2.2 != bt443.2.2.2) a0_0 a0_1 l0_2 bt443.1 bt443.2.1 bt443.2.2.1 bt450.1 bt450.2.1 bt450.2.2 bt456.1 bt456.2.1 bt456.2.2.1) else (laws_FnExactWithoutThing.j0 k a1 bt443.2.2.2 bt456.2.2.2 true a0_0 a0_1 l0_2 bt443.1 bt443.2.1 bt443.2.2.1 bt450.1 bt450.2.1 bt450.2.2 bt456.1 bt456.2.1 bt456.2.2.1)))))))) = some r := H
  have A3 := Aside0.mk A30
  clear A30
  by_cases c4 : t437 < 0
  · rw [if_pos c4] at H
    have c4b0 : decide (t437 < 0) = true := decide_eq_true c4
    clear c4
    obtain rfl := Option.some.inj H
    go_enter Try.func10, Try.ntmps10
    go_wp2_with (first | ((with_reducible refine gate_dst (N := 2) rfl ?_); refine box_event ?hg (N := 2) ?hd (cs := #[.int .i8 a0_0, .int .i8 a0_1, .slice A0_2 l0_2.length c0_2]) (t := 25) ?hr ?_; (case hd => rfl); (case hg => rfl); (case hr => first | (go_simp; done) | (go_simp; rfl)); intro gb436 hg w5 hbox hb; have n0_ := Aside0.mk (below_step (by repeat (first | (with_reducible first | exact HB.out | apply below_alloc | apply pw_below_drewN | apply below_drew1) | exact HB.out)) hb); have n1_ := Aside0.mk (hbox); have n2_ := Aside0.mk ((by rw [hg]; exact (below_size (by repeat (first | (with_reducible first | exact HB.out | apply below_alloc | apply pw_below_drewN | apply below_drew1) | exact HB.out))) : w.heap.size ≤ gb436)); have n3_ := Aside0.mk ((by rw [hg]; exact (below_size (by repeat (first | (with_reducible first | exact HB.out | apply below_alloc | apply pw_below_drewN | apply below_drew1) | exact HB.out))) : w.heap.size ≤ gb436)); clear HB; have HB := n0_; have BK436 := n1_; have GW436 := n2_; have GE436 := n3_; clear n0_ n1_ n2_ n3_; clear hb hbox hg; have hcz6_0 : w5.cell? ⟨gb436, 0, none⟩ = some (.int .i8 a0_0) := (blk_cell BK436.out 0).trans rfl; have hcz6_1 : w5.cell? ⟨gb436, 1, none⟩ = some (.int .i8 a0_1) := (blk_cell BK436.out 1).trans rfl; have hcz6_2 : w5.cell? ⟨gb436, 2, none⟩ = some (.slice A0_2 l0_2.length c0_2) := (blk_cell BK436.out 2).trans rfl; have hfz6_0 := blk_frozen BK436.out 0; have hfz6_1 := blk_frozen BK436.out 1; have hfz6_2 := blk_frozen BK436.out 2) | ((with_reducible refine gate_callee (f := 12) rfl ?_); refine goesL_ (some 18) rfl rfl Try.func12 (by kernel_rfl) rfl #[.agg #[.int .i8 a0_0, .int .i8 a0_1, .slice A0_2 l0_2.length c0_2], .int .i64 1048576] rfl (by (try simp only [List.map_toArray, List.map_cons, List.map_nil]); first | done | rfl | (simp only [List.length_drop, List.length_take]; rfl)) ?_; (with_reducible refine (laws_szFerry.calls a0_0 a0_1 _ _ l0_2 1048576 t437 _ ?side1 ?side2 A3.out).mono ?_); (case side1 => repeat (first | exact (Kd.C_below HR0_2.out HB.out) | (with_reducible refine Kd.C_alloc ?_ _) | (with_reducible refine Kd.C_drewN ?_ _) | (with_reducible refine Kd.C_drew ?_))); (case side2 => exact HC0_2.out); rintro e w7 ⟨rfl, hb⟩; refine ⟨_, rfl, ?_⟩; have n0_ := Aside0.mk (blk_below (g := gb436) (o := .cells #[.int .i8 a0_0, .int .i8 a0_1, .slice A0_2 l0_2.length c0_2] 25 (0, 0)) (by (with_reducible repeat (first | refine blk_drewN ?_ _ | refine blk_drew ?_ | refine blk_alloc ?_ _)); exact BK436.out) hb); have n1_ := Aside0.mk (below_step (by repeat (first | (with_reducible first | exact HB.out | apply below_alloc | apply pw_below_drewN | apply below_drew1 | refine below_set ?_ GE436.out) | exact HB.out)) hb); clear BK436; clear HB; have BK436 := n0_; have HB := n1_; clear n0_ n1_; (try clear hb); (try clear hb2); (try clear hk); (try clear hi)))
    go_ret
    exact ⟨by first | rfl | (simp [errW_none, errW_some] <;> rfl) | (simp [*, errW_none, errW_some] <;> rfl), by repeat (first | (with_reducible first | exact HB.out | apply below_alloc | apply pw_below_drewN | apply below_drew1 | refine below_set ?_ GE436.out) | exact HB.out)⟩
  · rw [if_neg c4] at H
    have c4b0 : decide (t437 < 0) = false := decide_eq_false c4
    clear c4
    replace H := Option.bind_eq_some_iff.mp H
    obtain ⟨⟨t438, t439, t440⟩, A80, H⟩ := H
    replace H : ((spec_WithoutThing.f k t438 t439 t440 a1).bind fun bt443 => ((laws_toFerry.f k a0_0 a0_1 l0_2).bind fun bt450 => ((impl_WithoutThing.f k bt450.1 bt450.2.1 bt450.2.2 a1).bind fun bt456 => ((laws_eqFerry.f k bt456.1 bt456.2.1 bt456.2.2.1 bt443.1 bt443.2.1 bt443.2.2.1).bind fun t463 => (if t463 = true then (laws_FnExactWithoutThing.j0 k a1 bt443.2.2.2 bt456.2.2.2 (bt456.2.2.2 != bt443.2.2.2) a0_0 a0_1 l0_2 bt443.1 bt443.2.1 bt443.2.2.1 bt450.1 bt450.2.1 bt450.2.2 bt456.1 bt456.2.1 bt456.2.2.1) else (laws_FnExactWithoutThing.j0 k a1 bt443.2.2.2 bt456.2.2.2 true a0_0 a0_1 l0_2 bt443.1 bt443.2.1 bt443.2.2.1 bt450.1 bt450.2.1 bt450.2.2 bt456.1 bt456.2.1 bt456.2.2.1)))))) = some r := H
    have A8 := Aside0.mk A80
    clear A80
    replace H := Option.bind_eq_some_iff.mp H
    obtain ⟨⟨t443, t444, t445, t448⟩, A90, H⟩ := H
    replace H : ((laws_toFerry.f k a0_0 a0_1 l0_2).bind fun bt450 => ((impl_WithoutThing.f k bt450.1 bt450.2.1 bt450.2.2 a1).bind fun bt456 => ((laws_eqFerry.f k bt456.1 bt456.2.1 bt456.2.2.1 t443 t444 t445).bind fun t463 => (if t463 = true then (laws_FnExactWithoutThing.j0 k a1 t448 bt456.2.2.2 (bt456.2.2.2 != t448) a0_0 a0_1 l0_2 t443 t444 t445 bt450.1 bt450.2.1 bt450.2.2 bt456.1 bt456.2.1 bt456.2.2.1) else (laws_FnExactWithoutThing.j0 k a1 t448 bt456.2.2.2 true a0_0 a0_1 l0_2 t443 t444 t445 bt450.1 bt450.2.1 bt450.2.2 bt456.1 bt456.2.1 bt456.2.2.1))))) = some r := H
    have A9 := Aside0.mk A90
    clear A90
    replace H := Option.bind_eq_some_iff.mp H
    obtain ⟨⟨t450, t451, t452⟩, A100, H⟩ := H
    replace H : ((impl_WithoutThing.f k t450 t451 t452 a1).bind fun bt456 => ((laws_eqFerry.f k bt456.1 bt456.2.1 bt456.2.2.1 t443 t444 t445).bind fun t463 => (if t463 = true then (laws_FnExactWithoutThing.j0 k a1 t448 bt456.2.2.2 (bt456.2.2.2 != t448) a0_0 a0_1 l0_2 t443 t444 t445 t450 t451 t452 bt456.1 bt456.2.1 bt456.2.2.1) else (laws_FnExactWithoutThing.j0 k a1 t448 bt456.2.2.2 true a0_0 a0_1 l0_2 t443 t444 t445 t450 t451 t452 bt456.1 bt456.2.1 bt456.2.2.1)))) = some r := H
    have A10 := Aside0.mk A100
    clear A100
    replace H := Option.bind_eq_some_iff.mp H
    obtain ⟨⟨t456, t457, t458, t461⟩, A110, H⟩ := H
    replace H : ((laws_eqFerry.f k t456 t457 t458 t443 t444 t445).bind fun t463 => (if t463 = true then (laws_FnExactWithoutThing.j0 k a1 t448 t461 (t461 != t448) a0_0 a0_1 l0_2 t443 t444 t445 t450 t451 t452 t456 t457 t458) else (laws_FnExactWithoutThing.j0 k a1 t448 t461 true a0_0 a0_1 l0_2 t443 t444 t445 t450 t451 t452 t456 t457 t458))) = some r := H
    have A11 := Aside0.mk A110
    clear A110
    have HC12 := Aside0.mk H
    clear H
    go_enter Try.func10, Try.ntmps10
    go_upto_region 8 with (first | ((with_reducible refine gate_dst (N := 2) rfl ?_); refine box_event ?hg (N := 2) ?hd (cs := #[.int .i8 a0_0, .int .i8 a0_1, .slice A0_2 l0_2.length c0_2]) (t := 25) ?hr ?_; (case hd => rfl); (case hg => rfl); (case hr => first | (go_simp; done) | (go_simp; rfl)); intro gb436 hg w13 hbox hb; have n0_ := Aside0.mk (below_step (by repeat (first | (with_reducible first | exact HB.out | apply below_alloc | apply pw_below_drewN | apply below_drew1) | exact HB.out)) hb); have n1_ := Aside0.mk (hbox); have n2_ := Aside0.mk ((by rw [hg]; exact (below_size (by repeat (first | (with_reducible first | exact HB.out | apply below_alloc | apply pw_below_drewN | apply below_drew1) | exact HB.out))) : w.heap.size ≤ gb436)); have n3_ := Aside0.mk ((by rw [hg]; exact (below_size (by repeat (first | (with_reducible first | exact HB.out | apply below_alloc | apply pw_below_drewN | apply below_drew1) | exact HB.out))) : w.heap.size ≤ gb436)); clear HB; have HB := n0_; have BK436 := n1_; have GW436 := n2_; have GE436 := n3_; clear n0_ n1_ n2_ n3_; clear hb hbox hg; have hcz14_0 : w13.cell? ⟨gb436, 0, none⟩ = some (.int .i8 a0_0) := (blk_cell BK436.out 0).trans rfl; have hcz14_1 : w13.cell? ⟨gb436, 1, none⟩ = some (.int .i8 a0_1) := (blk_cell BK436.out 1).trans rfl; have hcz14_2 : w13.cell? ⟨gb436, 2, none⟩ = some (.slice A0_2 l0_2.length c0_2) := (blk_cell BK436.out 2).trans rfl; have hfz14_0 := blk_frozen BK436.out 0; have hfz14_1 := blk_frozen BK436.out 1; have hfz14_2 := blk_frozen BK436.out 2) | ((with_reducible refine gate_callee (f := 12) rfl ?_); refine goesL_ (some 18) rfl rfl Try.func12 (by kernel_rfl) rfl #[.agg #[.int .i8 a0_0, .int .i8 a0_1, .slice A0_2 l0_2.length c0_2], .int .i64 1048576] rfl (by (try simp only [List.map_toArray, List.map_cons, List.map_nil]); first | done | rfl | (simp only [List.length_drop, List.length_take]; rfl)) ?_; (with_reducible refine (laws_szFerry.calls a0_0 a0_1 _ _ l0_2 1048576 t437 _ ?side1 ?side2 A3.out).mono ?_); (case side1 => repeat (first | exact (Kd.C_below HR0_2.out HB.out) | (with_reducible refine Kd.C_alloc ?_ _) | (with_reducible refine Kd.C_drewN ?_ _) | (with_reducible refine Kd.C_drew ?_))); (case side2 => exact HC0_2.out); rintro e w15 ⟨rfl, hb⟩; refine ⟨_, rfl, ?_⟩; have n0_ := Aside0.mk (blk_below (g := gb436) (o := .cells #[.int .i8 a0_0, .int .i8 a0_1, .slice A0_2 l0_2.length c0_2] 25 (0, 0)) (by (with_reducible repeat (first | refine blk_drewN ?_ _ | refine blk_drew ?_ | refine blk_alloc ?_ _)); exact BK436.out) hb); have n1_ := Aside0.mk (below_step (by repeat (first | (with_reducible first | exact HB.out | apply below_alloc | apply pw_below_drewN | apply below_drew1 | refine below_set ?_ GE436.out) | exact HB.out)) hb); clear BK436; clear HB; have BK436 := n0_; have HB := n1_; clear n0_ n1_; (try clear hb); (try clear hb2); (try clear hk); (try clear hi); have hcz16_0 : w15.cell? ⟨gb436, 0, none⟩ = some (.int .i8 a0_0) := (blk_cell BK436.out 0).trans rfl; have hcz16_1 : w15.cell? ⟨gb436, 1, none⟩ = some (.int .i8 a0_1) := (blk_cell BK436.out 1).trans rfl; have hcz16_2 : w15.cell? ⟨gb436, 2, none⟩ = some (.slice A0_2 l0_2.length c0_2) := (blk_cell BK436.out 2).trans rfl; have hfz16_0 := blk_frozen BK436.out 0; have hfz16_1 := blk_frozen BK436.out 1; have hfz16_2 := blk_frozen BK436.out 2) | ((with_reducible refine gate_callee (f := 14) rfl ?_); refine goesL_ (some 23) rfl rfl Try.func14 (by kernel_rfl) rfl #[.agg #[.int .i8 a0_0, .int .i8 a0_1, .slice A0_2 l0_2.length c0_2]] rfl (by (try simp only [List.map_toArray, List.map_cons, List.map_nil]); first | done | rfl | (simp only [List.length_drop, List.length_take]; rfl)) ?_; (with_reducible refine (laws_toFerry.calls k a0_0 a0_1 _ _ l0_2 t438 t439 t440 _ ?side1 ?side2 A8.out).mono ?_); (case side1 => repeat (first | exact (Kd.C_below HR0_2.out HB.out) | (with_reducible refine Kd.C_alloc ?_ _) | (with_reducible refine Kd.C_drewN ?_ _) | (with_reducible refine Kd.C_drew ?_))); (case side2 => exact HC0_2.out); rintro e w17 ⟨v441, rfl, ho0, hb⟩; refine ⟨_, rfl, ?_⟩; have n0_ := Aside0.mk (Kd.R_lower ho0 (below_size (by repeat (first | (with_reducible first | exact HB.out | apply below_alloc | apply pw_below_drewN | apply below_drew1 | refine below_set ?_ GE436.out) | exact HB.out)))); have n1_ := Aside0.mk (blk_below (g := gb436) (o := .cells #[.int .i8 a0_0, .int .i8 a0_1, .slice A0_2 l0_2.length c0_2] 25 (0, 0)) (by (with_reducible repeat (first | refine blk_drewN ?_ _ | refine blk_drew ?_ | refine blk_alloc ?_ _)); exact BK436.out) hb); have n2_ := Aside0.mk (below_step (by repeat (first | (with_reducible first | exact HB.out | apply below_alloc | apply pw_below_drewN | apply below_drew1 | refine below_set ?_ GE436.out) | exact HB.out)) hb); clear BK436; clear HB; have HO442 := n0_; have BK436 := n1_; have HB := n2_; clear n0_ n1_ n2_; (try clear hb); (try clear hb2); (try clear hk); (try clear hi); (try clear ho0); obtain ⟨Ao18, co18, eo18⟩ := Kd.R_slice HO442.out; subst eo18) | ((with_reducible refine gate_callee (f := 30) rfl ?_); refine goesL_ (some 25) rfl rfl Try.func30 (by kernel_rfl) rfl #[.agg #[.int .i8 t438, .int .i8 t439, .slice Ao18 t440.length co18], .int .i64 a1] rfl (by (try simp only [List.map_toArray, List.map_cons, List.map_nil]); first | done | rfl | (simp only [List.length_drop, List.length_take]; rfl)) ?_; (with_reducible refine (spec_WithoutThing.calls k t438 t439 _ _ t440 a1 t443 t444 t445 t448 _ ?side1 ?side2 A9.out).mono ?_); (case side1 => repeat (first | exact (Kd.R_reads' HO442.out).2.2 | (with_reducible refine Kd.C_alloc ?_ _) | (with_reducible refine Kd.C_drewN ?_ _) | (with_reducible refine Kd.C_drew ?_))); (case side2 => exact (Kd.R_reads' HO442.out).2.1); rintro e w19 ⟨v446, rfl, ho0, hb⟩; refine ⟨_, rfl, ?_⟩; have n0_ := Aside0.mk (Kd.R_elder' (by (with_reducible repeat (first | apply Kd.R_alloc | apply Kd.R_drewN | apply Kd.R_drew)); exact HO442.out) (Kd.R_base ho0) hb); have n1_ := Aside0.mk (Kd.R_lower (Kd.R_new' ho0 (Kd.R_lt (by (with_reducible repeat (first | apply Kd.R_alloc | apply Kd.R_drewN | apply Kd.R_drew)); exact HO442.out))) (below_size (by repeat (first | (with_reducible first | exact HB.out | apply below_alloc | apply pw_below_drewN | apply below_drew1 | refine below_set ?_ GE436.out) | exact HB.out)))); have n2_ := Aside0.mk (blk_below (g := gb436) (o := .cells #[.int .i8 a0_0, .int .i8 a0_1, .slice A0_2 l0_2.length c0_2] 25 (0, 0)) (by (with_reducible repeat (first | refine blk_drewN ?_ _ | refine blk_drew ?_ | refine blk_alloc ?_ _)); exact BK436.out) hb); have n3_ := Aside0.mk (below_step (by repeat (first | (with_reducible first | exact HB.out | apply below_alloc | apply pw_below_drewN | apply below_drew1 | refine below_set ?_ GE436.out) | exact HB.out)) hb); clear HO442; clear BK436; clear HB; have HO442 := n0_; have HO447 := n1_; have BK436 := n2_; have HB := n3_; clear n0_ n1_ n2_ n3_; (try clear hb); (try clear hb2); (try clear hk); (try clear hi); (try clear ho0)) | ((with_reducible refine gate_dst (N := 6) rfl ?_); refine box_event ?hg (N := 6) ?hd (cs := #[.int .i8 0, .int .i8 0, .slice none 0 0]) (t := 28) ?hr ?_; (case hd => rfl); (case hg => rfl); (case hr => first | (go_simp; done) | (go_simp; rfl)); intro gb449 hg w20 hbox hb; have n0_ := Aside0.mk (Kd.R_below (by (with_reducible repeat (first | apply Kd.R_alloc | apply Kd.R_drewN | apply Kd.R_drew)); exact HO442.out) hb); have n1_ := Aside0.mk (Kd.R_below (by (with_reducible repeat (first | apply Kd.R_alloc | apply Kd.R_drewN | apply Kd.R_drew)); exact HO447.out) hb); have n2_ := Aside0.mk (blk_below (g := gb436) (o := .cells #[.int .i8 a0_0, .int .i8 a0_1, .slice A0_2 l0_2.length c0_2] 25 (0, 0)) (by (with_reducible repeat (first | refine blk_drewN ?_ _ | refine blk_drew ?_ | refine blk_alloc ?_ _)); exact BK436.out) hb); have n3_ := Aside0.mk (below_step (by repeat (first | (with_reducible first | exact HB.out | apply below_alloc | apply pw_below_drewN | apply below_drew1 | refine below_set ?_ GE436.out) | exact HB.out)) hb); have n4_ := Aside0.mk (hbox); have n5_ := Aside0.mk ((by rw [hg]; exact (below_size (by repeat (first | (with_reducible first | exact HB.out | apply below_alloc | apply pw_below_drewN | apply below_drew1 | refine below_set ?_ GE436.out) | exact HB.out))) : w.heap.size ≤ gb449)); have n6_ := Aside0.mk ((by rw [hg]; exact (below_size (by repeat (first | (with_reducible first | exact HB.out | apply below_alloc | apply pw_below_drewN | apply below_drew1 | refine below_set ?_ GE436.out) | exact HB.out))) : w.heap.size ≤ gb449)); have n7_ := Aside0.mk ((by rw [hg]; exact Nat.ne_of_lt (blk_lt (g := gb436) (o := .cells #[.int .i8 a0_0, .int .i8 a0_1, .slice A0_2 l0_2.length c0_2] 25 (0, 0)) (by (with_reducible repeat (first | refine blk_drewN ?_ _ | refine blk_drew ?_ | refine blk_alloc ?_ _)); exact BK436.out)) : gb436 ≠ gb449)); have n8_ := Aside0.mk ((by rw [hg]; exact Nat.ne_of_gt (blk_lt (g := gb436) (o := .cells #[.int .i8 a0_0, .int .i8 a0_1, .slice A0_2 l0_2.length c0_2] 25 (0, 0)) (by (with_reducible repeat (first | refine blk_drewN ?_ _ | refine blk_drew ?_ | refine blk_alloc ?_ _)); exact BK436.out)) : gb449 ≠ gb436)); clear HO442; clear HO447; clear BK436; clear HB; have HO442 := n0_; have HO447 := n1_; have BK436 := n2_; have HB := n3_; have BK449 := n4_; have GW449 := n5_; have GE449 := n6_; have NB436_449 := n7_; have NB449_436 := n8_; clear n0_ n1_ n2_ n3_ n4_ n5_ n6_ n7_ n8_; clear hb hbox hg; have hnb21 := NB449_436.out; have hnc21 := NB436_449.out; have hcz22_0 : w20.cell? ⟨gb449, 0, none⟩ = some (.int .i8 0) := (blk_cell BK449.out 0).trans rfl; have hcz22_1 : w20.cell? ⟨gb449, 1, none⟩ = some (.int .i8 0) := (blk_cell BK449.out 1).trans rfl; have hcz22_2 : w20.cell? ⟨gb449, 2, none⟩ = some (.slice none 0 0) := (blk_cell BK449.out 2).trans rfl; have hfz22_0 := blk_frozen BK449.out 0; have hfz22_1 := blk_frozen BK449.out 1; have hfz22_2 := blk_frozen BK449.out 2; obtain ⟨Ao23, co23, eo23⟩ := Kd.R_slice HO447.out; subst eo23; have hcz24_0 : w20.cell? ⟨gb436, 0, none⟩ = some (.int .i8 a0_0) := (blk_cell BK436.out 0).trans rfl; have hcz24_1 : w20.cell? ⟨gb436, 1, none⟩ = some (.int .i8 a0_1) := (blk_cell BK436.out 1).trans rfl; have hcz24_2 : w20.cell? ⟨gb436, 2, none⟩ = some (.slice A0_2 l0_2.length c0_2) := (blk_cell BK436.out 2).trans rfl; have hfz24_0 := blk_frozen BK436.out 0; have hfz24_1 := blk_frozen BK436.out 1; have hfz24_2 := blk_frozen BK436.out 2) | ((with_reducible refine gate_callee (f := 14) rfl ?_); refine goesL_ (some 29) rfl rfl Try.func14 (by kernel_rfl) rfl #[.agg #[.int .i8 a0_0, .int .i8 a0_1, .slice A0_2 l0_2.length c0_2]] rfl (by (try simp only [List.map_toArray, List.map_cons, List.map_nil]); first | done | rfl | (simp only [List.length_drop, List.length_take]; rfl)) ?_; (with_reducible refine (laws_toFerry.calls k a0_0 a0_1 _ _ l0_2 t450 t451 t452 _ ?side1 ?side2 A10.out).mono ?_); (case side1 => exact Kd.C_below HR0_2.out (by repeat (first | (with_reducible first | exact HB.out | apply below_alloc | apply pw_below_drewN | apply below_drew1 | refine below_set ?_ GE436.out | refine below_set ?_ GE449.out) | exact HB.out))); (case side2 => exact HC0_2.out); rintro e w25 ⟨v453, rfl, ho0, hb⟩; refine ⟨_, rfl, ?_⟩; have n0_ := Aside0.mk (Kd.R_elder' (by (with_reducible repeat (first | apply Kd.R_alloc | apply Kd.R_drewN | apply Kd.R_drew)); exact (Kd.R_mono (Kd.R_far (p := ⟨gb449, 2, none⟩) (Kd.R_far (p := ⟨gb449, 1, none⟩) (Kd.R_far (p := ⟨gb449, 0, none⟩) (Kd.R_types HO442.out BK449.out (by decide)) (fun _ hk => hk.2) (.int .i8 t443)) (fun _ hk => hk.2) (.int .i8 t444)) (fun _ hk => hk.2) (.slice Ao23 t445.length co23)) (fun _ h_ => h_.1))) (Kd.R_base ho0) hb); have n1_ := Aside0.mk (Kd.R_elder' (by (with_reducible repeat (first | apply Kd.R_alloc | apply Kd.R_drewN | apply Kd.R_drew)); exact (Kd.R_mono (Kd.R_far (p := ⟨gb449, 2, none⟩) (Kd.R_far (p := ⟨gb449, 1, none⟩) (Kd.R_far (p := ⟨gb449, 0, none⟩) (Kd.R_types HO447.out BK449.out (by decide)) (fun _ hk => hk.2) (.int .i8 t443)) (fun _ hk => hk.2) (.int .i8 t444)) (fun _ hk => hk.2) (.slice Ao23 t445.length co23)) (fun _ h_ => h_.1))) (Kd.R_base ho0) hb); have n2_ := Aside0.mk (Kd.R_lower (Kd.R_new' (Kd.R_new' ho0 (Kd.R_lt (by (with_reducible repeat (first | apply Kd.R_alloc | apply Kd.R_drewN | apply Kd.R_drew)); exact (Kd.R_mono (Kd.R_far (p := ⟨gb449, 2, none⟩) (Kd.R_far (p := ⟨gb449, 1, none⟩) (Kd.R_far (p := ⟨gb449, 0, none⟩) (Kd.R_types HO442.out BK449.out (by decide)) (fun _ hk => hk.2) (.int .i8 t443)) (fun _ hk => hk.2) (.int .i8 t444)) (fun _ hk => hk.2) (.slice Ao23 t445.length co23)) (fun _ h_ => h_.1))))) (Kd.R_lt (by (with_reducible repeat (first | apply Kd.R_alloc | apply Kd.R_drewN | apply Kd.R_drew)); exact (Kd.R_mono (Kd.R_far (p := ⟨gb449, 2, none⟩) (Kd.R_far (p := ⟨gb449, 1, none⟩) (Kd.R_far (p := ⟨gb449, 0, none⟩) (Kd.R_types HO447.out BK449.out (by decide)) (fun _ hk => hk.2) (.int .i8 t443)) (fun _ hk => hk.2) (.int .i8 t444)) (fun _ hk => hk.2) (.slice Ao23 t445.length co23)) (fun _ h_ => h_.1))))) (below_size (by repeat (first | (with_reducible first | exact HB.out | apply below_alloc | apply pw_below_drewN | apply below_drew1 | refine below_set ?_ GE436.out | refine below_set ?_ GE449.out) | exact HB.out)))); have n3_ := Aside0.mk (blk_below (g := gb436) (o := .cells #[.int .i8 a0_0, .int .i8 a0_1, .slice A0_2 l0_2.length c0_2] 25 (0, 0)) (by (with_reducible repeat (first | refine blk_drewN ?_ _ | refine blk_drew ?_ | refine blk_alloc ?_ _)); refine blk_far ?_ NB436_449.out _; (with_reducible repeat (first | refine blk_drewN ?_ _ | refine blk_drew ?_ | refine blk_alloc ?_ _)); refine blk_far ?_ NB436_449.out _; (with_reducible repeat (first | refine blk_drewN ?_ _ | refine blk_drew ?_ | refine blk_alloc ?_ _)); refine blk_far ?_ NB436_449.out _; (with_reducible repeat (first | refine blk_drewN ?_ _ | refine blk_drew ?_ | refine blk_alloc ?_ _)); exact BK436.out) hb); have n4_ := Aside0.mk (blk_below (g := gb449) (o := .cells #[.int .i8 t443, .int .i8 t444, .slice Ao23 t445.length co23] 28 (0, 0)) (by (with_reducible repeat (first | refine blk_drewN ?_ _ | refine blk_drew ?_ | refine blk_alloc ?_ _)); refine blk_put (cs := #[.int .i8 t443, .int .i8 t444, .slice none 0 0]) ?_ 2 _ rfl; (with_reducible repeat (first | refine blk_drewN ?_ _ | refine blk_drew ?_ | refine blk_alloc ?_ _)); refine blk_put (cs := #[.int .i8 t443, .int .i8 0, .slice none 0 0]) ?_ 1 _ rfl; (with_reducible repeat (first | refine blk_drewN ?_ _ | refine blk_drew ?_ | refine blk_alloc ?_ _)); refine blk_put (cs := #[.int .i8 0, .int .i8 0, .slice none 0 0]) ?_ 0 _ rfl; (with_reducible repeat (first | refine blk_drewN ?_ _ | refine blk_drew ?_ | refine blk_alloc ?_ _)); exact BK449.out) hb); have n5_ := Aside0.mk (below_step (by repeat (first | (with_reducible first | exact HB.out | apply below_alloc | apply pw_below_drewN | apply below_drew1 | refine below_set ?_ GE436.out | refine below_set ?_ GE449.out) | exact HB.out)) hb); clear HO442; clear HO447; clear BK436; clear BK449; clear HB; have HO442 := n0_; have HO447 := n1_; have HO454 := n2_; have BK436 := n3_; have BK449 := n4_; have HB := n5_; clear n0_ n1_ n2_ n3_ n4_ n5_; (try clear hb); (try clear hb2); (try clear hk); (try clear hi); (try clear ho0)) | ((with_reducible refine gate_dst (N := 8) rfl ?_); refine box_event ?hg (N := 8) ?hd (cs := #[.int .i8 0, .int .i8 0, .slice none 0 0]) (t := 28) ?hr ?_; (case hd => rfl); (case hg => rfl); (case hr => first | (go_simp; done) | (go_simp; rfl)); intro gb455 hg w26 hbox hb; have n0_ := Aside0.mk (Kd.R_below (by (with_reducible repeat (first | apply Kd.R_alloc | apply Kd.R_drewN | apply Kd.R_drew)); exact HO442.out) hb); have n1_ := Aside0.mk (Kd.R_below (by (with_reducible repeat (first | apply Kd.R_alloc | apply Kd.R_drewN | apply Kd.R_drew)); exact HO447.out) hb); have n2_ := Aside0.mk (Kd.R_below (by (with_reducible repeat (first | apply Kd.R_alloc | apply Kd.R_drewN | apply Kd.R_drew)); exact HO454.out) hb); have n3_ := Aside0.mk (blk_below (g := gb436) (o := .cells #[.int .i8 a0_0, .int .i8 a0_1, .slice A0_2 l0_2.length c0_2] 25 (0, 0)) (by (with_reducible repeat (first | refine blk_drewN ?_ _ | refine blk_drew ?_ | refine blk_alloc ?_ _)); exact BK436.out) hb); have n4_ := Aside0.mk (blk_below (g := gb449) (o := .cells #[.int .i8 t443, .int .i8 t444, .slice Ao23 t445.length co23] 28 (0, 0)) (by (with_reducible repeat (first | refine blk_drewN ?_ _ | refine blk_drew ?_ | refine blk_alloc ?_ _)); exact BK449.out) hb); have n5_ := Aside0.mk (below_step (by repeat (first | (with_reducible first | exact HB.out | apply below_alloc | apply pw_below_drewN | apply below_drew1 | refine below_set ?_ GE436.out | refine below_set ?_ GE449.out) | exact HB.out)) hb); have n6_ := Aside0.mk (hbox); have n7_ := Aside0.mk ((by rw [hg]; exact (below_size (by repeat (first | (with_reducible first | exact HB.out | apply below_alloc | apply pw_below_drewN | apply below_drew1 | refine below_set ?_ GE436.out | refine below_set ?_ GE449.out) | exact HB.out))) : w.heap.size ≤ gb455)); have n8_ := Aside0.mk ((by rw [hg]; exact (below_size (by repeat (first | (with_reducible first | exact HB.out | apply below_alloc | apply pw_below_drewN | apply below_drew1 | refine below_set ?_ GE436.out | refine below_set ?_ GE449.out) | exact HB.out))) : w.heap.size ≤ gb455)); have n9_ := Aside0.mk ((by rw [hg]; exact Nat.ne_of_lt (blk_lt (g := gb436) (o := .cells #[.int .i8 a0_0, .int .i8 a0_1, .slice A0_2 l0_2.length c0_2] 25 (0, 0)) (by (with_reducible repeat (first | refine blk_drewN ?_ _ | refine blk_drew ?_ | refine blk_alloc ?_ _)); exact BK436.out)) : gb436 ≠ gb455)); have n10_ := Aside0.mk ((by rw [hg]; exact Nat.ne_of_gt (blk_lt (g := gb436) (o := .cells #[.int .i8 a0_0, .int .i8 a0_1, .slice A0_2 l0_2.length c0_2] 25 (0, 0)) (by (with_reducible repeat (first | refine blk_drewN ?_ _ | refine blk_drew ?_ | refine blk_alloc ?_ _)); exact BK436.out)) : gb455 ≠ gb436)); have n11_ := Aside0.mk ((by rw [hg]; exact Nat.ne_of_lt (blk_lt (g := gb449) (o := .cells #[.int .i8 t443, .int .i8 t444, .slice Ao23 t445.length co23] 28 (0, 0)) (by (with_reducible repeat (first | refine blk_drewN ?_ _ | refine blk_drew ?_ | refine blk_alloc ?_ _)); exact BK449.out)) : gb449 ≠ gb455)); have n12_ := Aside0.mk ((by rw [hg]; exact Nat.ne_of_gt (blk_lt (g := gb449) (o := .cells #[.int .i8 t443, .int .i8 t444, .slice Ao23 t445.length co23] 28 (0, 0)) (by (with_reducible repeat (first | refine blk_drewN ?_ _ | refine blk_drew ?_ | refine blk_alloc ?_ _)); exact BK449.out)) : gb455 ≠ gb449)); clear HO442; clear HO447; clear HO454; clear BK436; clear BK449; clear HB; have HO442 := n0_; have HO447 := n1_; have HO454 := n2_; have BK436 := n3_; have BK449 := n4_; have HB := n5_; have BK455 := n6_; have GW455 := n7_; have GE455 := n8_; have NB436_455 := n9_; have NB455_436 := n10_; have NB449_455 := n11_; have NB455_449 := n12_; clear n0_ n1_ n2_ n3_ n4_ n5_ n6_ n7_ n8_ n9_ n10_ n11_ n12_; clear hb hbox hg; have hnb27 := NB455_436.out; have hnc27 := NB436_455.out; have hnb28 := NB455_449.out; have hnc28 := NB449_455.out; have hcz29_0 : w26.cell? ⟨gb455, 0, none⟩ = some (.int .i8 0) := (blk_cell BK455.out 0).trans rfl; have hcz29_1 : w26.cell? ⟨gb455, 1, none⟩ = some (.int .i8 0) := (blk_cell BK455.out 1).trans rfl; have hcz29_2 : w26.cell? ⟨gb455, 2, none⟩ = some (.slice none 0 0) := (blk_cell BK455.out 2).trans rfl; have hfz29_0 := blk_frozen BK455.out 0; have hfz29_1 := blk_frozen BK455.out 1; have hfz29_2 := blk_frozen BK455.out 2; obtain ⟨Ao30, co30, eo30⟩ := Kd.R_slice HO454.out; subst eo30) | ((with_reducible refine gate_callee (f := 31) rfl ?_); refine goesL_ (some 33) rfl rfl Try.func31 (by kernel_rfl) rfl #[.agg #[.int .i8 t450, .int .i8 t451, .slice Ao30 t452.length co30], .int .i64 a1] rfl (by (try simp only [List.map_toArray, List.map_cons, List.map_nil]); first | done | rfl | (simp only [List.length_drop, List.length_take]; rfl)) ?_; (with_reducible refine (impl_WithoutThing.calls k t450 t451 _ _ t452 a1 t456 t457 t458 t461 _ ?side1 ?side2 A11.out).mono ?_); (case side1 => refine (Kd.R_reads' (e := 35) (base := w.heap.size) (ok := fun k_ => ((True ∧ some k_ ≠ (.slice Ao18 t440.length co18 : Value).ownBlock) ∧ some k_ ≠ (.slice Ao23 t445.length co23 : Value).ownBlock)) (n := t452.length) (c := co30) ?_).2.2; exact (by (with_reducible repeat (first | apply Kd.R_alloc | apply Kd.R_drewN | apply Kd.R_drew)); exact (Kd.R_mono (Kd.R_far (p := ⟨gb455, 2, none⟩) (Kd.R_far (p := ⟨gb455, 1, none⟩) (Kd.R_far (p := ⟨gb455, 0, none⟩) (Kd.R_types HO454.out BK455.out (by decide)) (fun _ hk => hk.2) (.int .i8 t450)) (fun _ hk => hk.2) (.int .i8 t451)) (fun _ hk => hk.2) (.slice Ao30 t452.length co30)) (fun _ h_ => h_.1)))); (case side2 => exact (Kd.R_reads' HO454.out).2.1); rintro e w31 ⟨v459, rfl, ho0, hb⟩; refine ⟨_, rfl, ?_⟩; have n0_ := Aside0.mk (Kd.R_elder' (by (with_reducible repeat (first | apply Kd.R_alloc | apply Kd.R_drewN | apply Kd.R_drew)); exact (Kd.R_mono (Kd.R_far (p := ⟨gb455, 2, none⟩) (Kd.R_far (p := ⟨gb455, 1, none⟩) (Kd.R_far (p := ⟨gb455, 0, none⟩) (Kd.R_types HO442.out BK455.out (by decide)) (fun _ hk => hk.2) (.int .i8 t450)) (fun _ hk => hk.2) (.int .i8 t451)) (fun _ hk => hk.2) (.slice Ao30 t452.length co30)) (fun _ h_ => h_.1))) (Kd.R_base ho0) hb); have n1_ := Aside0.mk (Kd.R_elder' (by (with_reducible repeat (first | apply Kd.R_alloc | apply Kd.R_drewN | apply Kd.R_drew)); exact (Kd.R_mono (Kd.R_far (p := ⟨gb455, 2, none⟩) (Kd.R_far (p := ⟨gb455, 1, none⟩) (Kd.R_far (p := ⟨gb455, 0, none⟩) (Kd.R_types HO447.out BK455.out (by decide)) (fun _ hk => hk.2) (.int .i8 t450)) (fun _ hk => hk.2) (.int .i8 t451)) (fun _ hk => hk.2) (.slice Ao30 t452.length co30)) (fun _ h_ => h_.1))) (Kd.R_base ho0) hb); have n2_ := Aside0.mk (Kd.R_elder' (by (with_reducible repeat (first | apply Kd.R_alloc | apply Kd.R_drewN | apply Kd.R_drew)); exact (Kd.R_mono (Kd.R_far (p := ⟨gb455, 2, none⟩) (Kd.R_far (p := ⟨gb455, 1, none⟩) (Kd.R_far (p := ⟨gb455, 0, none⟩) (Kd.R_types HO454.out BK455.out (by decide)) (fun _ hk => hk.2) (.int .i8 t450)) (fun _ hk => hk.2) (.int .i8 t451)) (fun _ hk => hk.2) (.slice Ao30 t452.length co30)) (fun _ h_ => h_.1))) (Kd.R_base ho0) hb); have n3_ := Aside0.mk (Kd.R_lower (Kd.R_new' (Kd.R_new' (Kd.R_new' ho0 (Kd.R_lt (by (with_reducible repeat (first | apply Kd.R_alloc | apply Kd.R_drewN | apply Kd.R_drew)); exact (Kd.R_mono (Kd.R_far (p := ⟨gb455, 2, none⟩) (Kd.R_far (p := ⟨gb455, 1, none⟩) (Kd.R_far (p := ⟨gb455, 0, none⟩) (Kd.R_types HO442.out BK455.out (by decide)) (fun _ hk => hk.2) (.int .i8 t450)) (fun _ hk => hk.2) (.int .i8 t451)) (fun _ hk => hk.2) (.slice Ao30 t452.length co30)) (fun _ h_ => h_.1))))) (Kd.R_lt (by (with_reducible repeat (first | apply Kd.R_alloc | apply Kd.R_drewN | apply Kd.R_drew)); exact (Kd.R_mono (Kd.R_far (p := ⟨gb455, 2, none⟩) (Kd.R_far (p := ⟨gb455, 1, none⟩) (Kd.R_far (p := ⟨gb455, 0, none⟩) (Kd.R_types HO447.out BK455.out (by decide)) (fun _ hk => hk.2) (.int .i8 t450)) (fun _ hk => hk.2) (.int .i8 t451)) (fun _ hk => hk.2) (.slice Ao30 t452.length co30)) (fun _ h_ => h_.1))))) (Kd.R_lt (by (with_reducible repeat (first | apply Kd.R_alloc | apply Kd.R_drewN | apply Kd.R_drew)); exact (Kd.R_mono (Kd.R_far (p := ⟨gb455, 2, none⟩) (Kd.R_far (p := ⟨gb455, 1, none⟩) (Kd.R_far (p := ⟨gb455, 0, none⟩) (Kd.R_types HO454.out BK455.out (by decide)) (fun _ hk => hk.2) (.int .i8 t450)) (fun _ hk => hk.2) (.int .i8 t451)) (fun _ hk => hk.2) (.slice Ao30 t452.length co30)) (fun _ h_ => h_.1))))) (below_size (by repeat (first | (with_reducible first | exact HB.out | apply below_alloc | apply pw_below_drewN | apply below_drew1 | refine below_set ?_ GE436.out | refine below_set ?_ GE449.out | refine below_set ?_ GE455.out) | exact HB.out)))); have n4_ := Aside0.mk (blk_below (g := gb436) (o := .cells #[.int .i8 a0_0, .int .i8 a0_1, .slice A0_2 l0_2.length c0_2] 25 (0, 0)) (by (with_reducible repeat (first | refine blk_drewN ?_ _ | refine blk_drew ?_ | refine blk_alloc ?_ _)); refine blk_far ?_ NB436_455.out _; (with_reducible repeat (first | refine blk_drewN ?_ _ | refine blk_drew ?_ | refine blk_alloc ?_ _)); refine blk_far ?_ NB436_455.out _; (with_reducible repeat (first | refine blk_drewN ?_ _ | refine blk_drew ?_ | refine blk_alloc ?_ _)); refine blk_far ?_ NB436_455.out _; (with_reducible repeat (first | refine blk_drewN ?_ _ | refine blk_drew ?_ | refine blk_alloc ?_ _)); exact BK436.out) hb); have n5_ := Aside0.mk (blk_below (g := gb449) (o := .cells #[.int .i8 t443, .int .i8 t444, .slice Ao23 t445.length co23] 28 (0, 0)) (by (with_reducible repeat (first | refine blk_drewN ?_ _ | refine blk_drew ?_ | refine blk_alloc ?_ _)); refine blk_far ?_ NB449_455.out _; (with_reducible repeat (first | refine blk_drewN ?_ _ | refine blk_drew ?_ | refine blk_alloc ?_ _)); refine blk_far ?_ NB449_455.out _; (with_reducible repeat (first | refine blk_drewN ?_ _ | refine blk_drew ?_ | refine blk_alloc ?_ _)); refine blk_far ?_ NB449_455.out _; (with_reducible repeat (first | refine blk_drewN ?_ _ | refine blk_drew ?_ | refine blk_alloc ?_ _)); exact BK449.out) hb); have n6_ := Aside0.mk (blk_below (g := gb455) (o := .cells #[.int .i8 t450, .int .i8 t451, .slice Ao30 t452.length co30] 28 (0, 0)) (by (with_reducible repeat (first | refine blk_drewN ?_ _ | refine blk_drew ?_ | refine blk_alloc ?_ _)); refine blk_put (cs := #[.int .i8 t450, .int .i8 t451, .slice none 0 0]) ?_ 2 _ rfl; (with_reducible repeat (first | refine blk_drewN ?_ _ | refine blk_drew ?_ | refine blk_alloc ?_ _)); refine blk_put (cs := #[.int .i8 t450, .int .i8 0, .slice none 0 0]) ?_ 1 _ rfl; (with_reducible repeat (first | refine blk_drewN ?_ _ | refine blk_drew ?_ | refine blk_alloc ?_ _)); refine blk_put (cs := #[.int .i8 0, .int .i8 0, .slice none 0 0]) ?_ 0 _ rfl; (with_reducible repeat (first | refine blk_drewN ?_ _ | refine blk_drew ?_ | refine blk_alloc ?_ _)); exact BK455.out) hb); have n7_ := Aside0.mk (below_step (by repeat (first | (with_reducible first | exact HB.out | apply below_alloc | apply pw_below_drewN | apply below_drew1 | refine below_set ?_ GE436.out | refine below_set ?_ GE449.out | refine below_set ?_ GE455.out) | exact HB.out)) hb); clear HO442; clear HO447; clear HO454; clear BK436; clear BK449; clear BK455; clear HB; have HO442 := n0_; have HO447 := n1_; have HO454 := n2_; have HO460 := n3_; have BK436 := n4_; have BK449 := n5_; have BK455 := n6_; have HB := n7_; clear n0_ n1_ n2_ n3_ n4_ n5_ n6_ n7_; (try clear hb); (try clear hb2); (try clear hk); (try clear hi); (try clear ho0)) | ((with_reducible refine gate_dst (N := 9) rfl ?_); refine box_event ?hg (N := 9) ?hd (cs := #[.int .i8 0, .int .i8 0, .slice none 0 0]) (t := 28) ?hr ?_; (case hd => rfl); (case hg => rfl); (case hr => first | (go_simp; done) | (go_simp; rfl)); intro gb462 hg w32 hbox hb; have n0_ := Aside0.mk (Kd.R_below (by (with_reducible repeat (first | apply Kd.R_alloc | apply Kd.R_drewN | apply Kd.R_drew)); exact HO442.out) hb); have n1_ := Aside0.mk (Kd.R_below (by (with_reducible repeat (first | apply Kd.R_alloc | apply Kd.R_drewN | apply Kd.R_drew)); exact HO447.out) hb); have n2_ := Aside0.mk (Kd.R_below (by (with_reducible repeat (first | apply Kd.R_alloc | apply Kd.R_drewN | apply Kd.R_drew)); exact HO454.out) hb); have n3_ := Aside0.mk (Kd.R_below (by (with_reducible repeat (first | apply Kd.R_alloc | apply Kd.R_drewN | apply Kd.R_drew)); exact HO460.out) hb); have n4_ := Aside0.mk (blk_below (g := gb436) (o := .cells #[.int .i8 a0_0, .int .i8 a0_1, .slice A0_2 l0_2.length c0_2] 25 (0, 0)) (by (with_reducible repeat (first | refine blk_drewN ?_ _ | refine blk_drew ?_ | refine blk_alloc ?_ _)); exact BK436.out) hb); have n5_ := Aside0.mk (blk_below (g := gb449) (o := .cells #[.int .i8 t443, .int .i8 t444, .slice Ao23 t445.length co23] 28 (0, 0)) (by (with_reducible repeat (first | refine blk_drewN ?_ _ | refine blk_drew ?_ | refine blk_alloc ?_ _)); exact BK449.out) hb); have n6_ := Aside0.mk (blk_below (g := gb455) (o := .cells #[.int .i8 t450, .int .i8 t451, .slice Ao30 t452.length co30] 28 (0, 0)) (by (with_reducible repeat (first | refine blk_drewN ?_ _ | refine blk_drew ?_ | refine blk_alloc ?_ _)); exact BK455.out) hb); have n7_ := Aside0.mk (below_step (by repeat (first | (with_reducible first | exact HB.out | apply below_alloc | apply pw_below_drewN | apply below_drew1 | refine below_set ?_ GE436.out | refine below_set ?_ GE449.out | refine below_set ?_ GE455.out) | exact HB.out)) hb); have n8_ := Aside0.mk (hbox); have n9_ := Aside0.mk ((by rw [hg]; exact (below_size (by repeat (first | (with_reducible first | exact HB.out | apply below_alloc | apply pw_below_drewN | apply below_drew1 | refine below_set ?_ GE436.out | refine below_set ?_ GE449.out | refine below_set ?_ GE455.out) | exact HB.out))) : w.heap.size ≤ gb462)); have n10_ := Aside0.mk ((by rw [hg]; exact (below_size (by repeat (first | (with_reducible first | exact HB.out | apply below_alloc | apply pw_below_drewN | apply below_drew1 | refine below_set ?_ GE436.out | refine below_set ?_ GE449.out | refine below_set ?_ GE455.out) | exact HB.out))) : w.heap.size ≤ gb462)); have n11_ := Aside0.mk ((by rw [hg]; exact Nat.ne_of_lt (blk_lt (g := gb436) (o := .cells #[.int .i8 a0_0, .int .i8 a0_1, .slice A0_2 l0_2.length c0_2] 25 (0, 0)) (by (with_reducible repeat (first | refine blk_drewN ?_ _ | refine blk_drew ?_ | refine blk_alloc ?_ _)); exact BK436.out)) : gb436 ≠ gb462)); have n12_ := Aside0.mk ((by rw [hg]; exact Nat.ne_of_gt (blk_lt (g := gb436) (o := .cells #[.int .i8 a0_0, .int .i8 a0_1, .slice A0_2 l0_2.length c0_2] 25 (0, 0)) (by (with_reducible repeat (first | refine blk_drewN ?_ _ | refine blk_drew ?_ | refine blk_alloc ?_ _)); exact BK436.out)) : gb462 ≠ gb436)); have n13_ := Aside0.mk ((by rw [hg]; exact Nat.ne_of_lt (blk_lt (g := gb449) (o := .cells #[.int .i8 t443, .int .i8 t444, .slice Ao23 t445.length co23] 28 (0, 0)) (by (with_reducible repeat (first | refine blk_drewN ?_ _ | refine blk_drew ?_ | refine blk_alloc ?_ _)); exact BK449.out)) : gb449 ≠ gb462)); have n14_ := Aside0.mk ((by rw [hg]; exact Nat.ne_of_gt (blk_lt (g := gb449) (o := .cells #[.int .i8 t443, .int .i8 t444, .slice Ao23 t445.length co23] 28 (0, 0)) (by (with_reducible repeat (first | refine blk_drewN ?_ _ | refine blk_drew ?_ | refine blk_alloc ?_ _)); exact BK449.out)) : gb462 ≠ gb449)); have n15_ := Aside0.mk ((by rw [hg]; exact Nat.ne_of_lt (blk_lt (g := gb455) (o := .cells #[.int .i8 t450, .int .i8 t451, .slice Ao30 t452.length co30] 28 (0, 0)) (by (with_reducible repeat (first | refine blk_drewN ?_ _ | refine blk_drew ?_ | refine blk_alloc ?_ _)); exact BK455.out)) : gb455 ≠ gb462)); have n16_ := Aside0.mk ((by rw [hg]; exact Nat.ne_of_gt (blk_lt (g := gb455) (o := .cells #[.int .i8 t450, .int .i8 t451, .slice Ao30 t452.length co30] 28 (0, 0)) (by (with_reducible repeat (first | refine blk_drewN ?_ _ | refine blk_drew ?_ | refine blk_alloc ?_ _)); exact BK455.out)) : gb462 ≠ gb455)); clear HO442; clear HO447; clear HO454; clear HO460; clear BK436; clear BK449; clear BK455; clear HB; have HO442 := n0_; have HO447 := n1_; have HO454 := n2_; have HO460 := n3_; have BK436 := n4_; have BK449 := n5_; have BK455 := n6_; have HB := n7_; have BK462 := n8_; have GW462 := n9_; have GE462 := n10_; have NB436_462 := n11_; have NB462_436 := n12_; have NB449_462 := n13_; have NB462_449 := n14_; have NB455_462 := n15_; have NB462_455 := n16_; clear n0_ n1_ n2_ n3_ n4_ n5_ n6_ n7_ n8_ n9_ n10_ n11_ n12_ n13_ n14_ n15_ n16_; clear hb hbox hg; have hnb33 := NB462_436.out; have hnc33 := NB436_462.out; have hnb34 := NB462_449.out; have hnc34 := NB449_462.out; have hnb35 := NB462_455.out; have hnc35 := NB455_462.out; have hcz36_0 : w32.cell? ⟨gb462, 0, none⟩ = some (.int .i8 0) := (blk_cell BK462.out 0).trans rfl; have hcz36_1 : w32.cell? ⟨gb462, 1, none⟩ = some (.int .i8 0) := (blk_cell BK462.out 1).trans rfl; have hcz36_2 : w32.cell? ⟨gb462, 2, none⟩ = some (.slice none 0 0) := (blk_cell BK462.out 2).trans rfl; have hfz36_0 := blk_frozen BK462.out 0; have hfz36_1 := blk_frozen BK462.out 1; have hfz36_2 := blk_frozen BK462.out 2; obtain ⟨Ao37, co37, eo37⟩ := Kd.R_slice HO460.out; subst eo37))
    (try simp only [Act.put, List.setIfInBounds_toArray, List.set_cons_zero, List.set_cons_succ])
    go_cut [44] (fun v44 wc => ∃ (kq : Nat) (x44_11 : Bool), v44 = .bool x44_11 ∧ Aside0 (laws_FnExactWithoutThing.j0 kq a1 t448 t461 x44_11 a0_0 a0_1 l0_2 t443 t444 t445 t450 t451 t452 t456 t457 t458 = some r) ∧ Aside0 (kq ≤ k) ∧ Aside0 (Kd.R (Kd.int .u16) 35 wc w.heap.size (fun k_ => some k_ ≠ ((.slice Ao30 t452.length co30) : Value).ownBlock ∧ some k_ ≠ ((.slice Ao37 t458.length co37) : Value).ownBlock) (.slice Ao23 t445.length co23) t445) ∧ Aside0 (Kd.R (Kd.int .u16) 35 wc w.heap.size (fun k_ => some k_ ≠ ((.slice Ao23 t445.length co23) : Value).ownBlock ∧ some k_ ≠ ((.slice Ao37 t458.length co37) : Value).ownBlock) (.slice Ao30 t452.length co30) t452) ∧ Aside0 (Kd.R (Kd.int .u16) 35 wc w.heap.size (fun k_ => some k_ ≠ ((.slice Ao23 t445.length co23) : Value).ownBlock ∧ some k_ ≠ ((.slice Ao30 t452.length co30) : Value).ownBlock) (.slice Ao37 t458.length co37) t458) ∧ Aside0 (wc.heap[gb436]? = some (.cells #[.int .i8 a0_0, .int .i8 a0_1, (.slice A0_2 l0_2.length c0_2)] 25 (0, 0))) ∧ Aside0 (wc.heap[gb449]? = some (.cells #[.int .i8 t443, .int .i8 t444, (.slice Ao23 t445.length co23)] 28 (0, 0))) ∧ Aside0 (wc.heap[gb455]? = some (.cells #[.int .i8 t450, .int .i8 t451, (.slice Ao30 t452.length co30)] 28 (0, 0))) ∧ Aside0 (wc.heap[gb462]? = some (.cells #[.int .i8 t456, .int .i8 t457, (.slice Ao37 t458.length co37)] 28 (0, 0))) ∧ Aside0 (Below w.heap.size w wc))
    case first =>
      have H := HC12.out
      clear HC12
      replace H := Option.bind_eq_some_iff.mp H
      obtain ⟨t463, A380, H⟩ := H
      replace H : (if t463 = true then (laws_FnExactWithoutThing.j0 k a1 t448 t461 (t461 != t448) a0_0 a0_1 l0_2 t443 t444 t445 t450 t451 t452 t456 t457 t458) else (laws_FnExactWithoutThing.j0 k a1 t448 t461 true a0_0 a0_1 l0_2 t443 t444 t445 t450 t451 t452 t456 t457 t458)) = some r := H
      have A38 := Aside0.mk A380
      clear A380
      by_cases c39 : t463 = true
      · subst c39
        have H1 : (laws_FnExactWithoutThing.j0 k a1 t448 t461 (t461 != t448) a0_0 a0_1 l0_2 t443 t444 t445 t450 t451 t452 t456 t457 t458) = some r := by rw [if_pos rfl] at H; exact H
        clear H
        have H := H1
        clear H1
        have H' := Aside0.mk H
        clear H
        have hnb40 := NB462_436.out
        have hnc40 := NB436_462.out
        have hnb41 := NB462_449.out
        have hnc41 := NB449_462.out
        have hnb42 := NB462_455.out
        have hnc42 := NB455_462.out
        have hcz43_0 : w32.cell? ⟨gb462, 0, none⟩ = some (.int .i8 0) := (blk_cell BK462.out 0).trans rfl
        have hcz43_1 : w32.cell? ⟨gb462, 1, none⟩ = some (.int .i8 0) := (blk_cell BK462.out 1).trans rfl
        have hcz43_2 : w32.cell? ⟨gb462, 2, none⟩ = some (.slice none 0 0) := (blk_cell BK462.out 2).trans rfl
        have hfz43_0 := blk_frozen BK462.out 0
        have hfz43_1 := blk_frozen BK462.out 1
        have hfz43_2 := blk_frozen BK462.out 2
        have hnb44 := NB449_436.out
        have hnc44 := NB436_449.out
        have hnb45 := NB449_455.out
        have hnc45 := NB455_449.out
        have hcz46_0 : w32.cell? ⟨gb449, 0, none⟩ = some (.int .i8 t443) := (blk_cell BK449.out 0).trans rfl
        have hcz46_1 : w32.cell? ⟨gb449, 1, none⟩ = some (.int .i8 t444) := (blk_cell BK449.out 1).trans rfl
        have hcz46_2 : w32.cell? ⟨gb449, 2, none⟩ = some (.slice Ao23 t445.length co23) := (blk_cell BK449.out 2).trans rfl
        have hfz46_0 := blk_frozen BK449.out 0
        have hfz46_1 := blk_frozen BK449.out 1
        have hfz46_2 := blk_frozen BK449.out 2
        go_wp2_with (first | ((with_reducible refine gate_callee (f := 16) rfl ?_); refine goesL_ (some 38) rfl rfl Try.func16 (by kernel_rfl) rfl #[.agg #[.int .i8 t456, .int .i8 t457, .slice Ao37 t458.length co37], .agg #[.int .i8 t443, .int .i8 t444, .slice Ao23 t445.length co23]] rfl (by (try simp only [List.map_toArray, List.map_cons, List.map_nil]); first | done | rfl | (simp only [List.length_drop, List.length_take]; rfl)) ?_; (with_reducible refine (laws_eqFerry.calls k t456 t457 _ _ t458 t443 t444 _ _ t445 true _ ?side1 ?side2 ?side3 ?side4 A38.out).mono ?_); (case side1 => refine (Kd.R_reads' (e := 35) (base := w.heap.size) (ok := fun k_ => (((True ∧ some k_ ≠ (.slice Ao18 t440.length co18 : Value).ownBlock) ∧ some k_ ≠ (.slice Ao23 t445.length co23 : Value).ownBlock) ∧ some k_ ≠ (.slice Ao30 t452.length co30 : Value).ownBlock)) (n := t458.length) (c := co37) ?_).2.2; exact (by (with_reducible repeat (first | apply Kd.R_alloc | apply Kd.R_drewN | apply Kd.R_drew)); exact (Kd.R_mono (Kd.R_far (p := ⟨gb462, 2, none⟩) (Kd.R_far (p := ⟨gb462, 1, none⟩) (Kd.R_far (p := ⟨gb462, 0, none⟩) (Kd.R_types HO460.out BK462.out (by decide)) (fun _ hk => hk.2) (.int .i8 t456)) (fun _ hk => hk.2) (.int .i8 t457)) (fun _ hk => hk.2) (.slice Ao37 t458.length co37)) (fun _ h_ => h_.1)))); (case side2 => exact (Kd.R_reads' HO460.out).2.1); (case side3 => refine (Kd.R_reads' (e := 35) (base := w.heap.size) (ok := fun k_ => (((True ∧ some k_ ≠ (.slice Ao18 t440.length co18 : Value).ownBlock) ∧ some k_ ≠ (.slice Ao30 t452.length co30 : Value).ownBlock) ∧ some k_ ≠ (.slice Ao37 t458.length co37 : Value).ownBlock)) (n := t445.length) (c := co23) ?_).2.2; exact (by (with_reducible repeat (first | apply Kd.R_alloc | apply Kd.R_drewN | apply Kd.R_drew)); exact (Kd.R_mono (Kd.R_far (p := ⟨gb462, 2, none⟩) (Kd.R_far (p := ⟨gb462, 1, none⟩) (Kd.R_far (p := ⟨gb462, 0, none⟩) (Kd.R_types HO447.out BK462.out (by decide)) (fun _ hk => hk.2) (.int .i8 t456)) (fun _ hk => hk.2) (.int .i8 t457)) (fun _ hk => hk.2) (.slice Ao37 t458.length co37)) (fun _ h_ => h_.1)))); (case side4 => exact (Kd.R_reads' HO447.out).2.1); rintro e w47 ⟨rfl, hb⟩; refine ⟨_, rfl, ?_⟩; have n0_ := Aside0.mk (Kd.R_below (by (with_reducible repeat (first | apply Kd.R_alloc | apply Kd.R_drewN | apply Kd.R_drew)); exact (Kd.R_mono (Kd.R_far (p := ⟨gb462, 2, none⟩) (Kd.R_far (p := ⟨gb462, 1, none⟩) (Kd.R_far (p := ⟨gb462, 0, none⟩) (Kd.R_types HO442.out BK462.out (by decide)) (fun _ hk => hk.2) (.int .i8 t456)) (fun _ hk => hk.2) (.int .i8 t457)) (fun _ hk => hk.2) (.slice Ao37 t458.length co37)) (fun _ h_ => h_.1))) hb); have n1_ := Aside0.mk (Kd.R_below (by (with_reducible repeat (first | apply Kd.R_alloc | apply Kd.R_drewN | apply Kd.R_drew)); exact (Kd.R_mono (Kd.R_far (p := ⟨gb462, 2, none⟩) (Kd.R_far (p := ⟨gb462, 1, none⟩) (Kd.R_far (p := ⟨gb462, 0, none⟩) (Kd.R_types HO447.out BK462.out (by decide)) (fun _ hk => hk.2) (.int .i8 t456)) (fun _ hk => hk.2) (.int .i8 t457)) (fun _ hk => hk.2) (.slice Ao37 t458.length co37)) (fun _ h_ => h_.1))) hb); have n2_ := Aside0.mk (Kd.R_below (by (with_reducible repeat (first | apply Kd.R_alloc | apply Kd.R_drewN | apply Kd.R_drew)); exact (Kd.R_mono (Kd.R_far (p := ⟨gb462, 2, none⟩) (Kd.R_far (p := ⟨gb462, 1, none⟩) (Kd.R_far (p := ⟨gb462, 0, none⟩) (Kd.R_types HO454.out BK462.out (by decide)) (fun _ hk => hk.2) (.int .i8 t456)) (fun _ hk => hk.2) (.int .i8 t457)) (fun _ hk => hk.2) (.slice Ao37 t458.length co37)) (fun _ h_ => h_.1))) hb); have n3_ := Aside0.mk (Kd.R_below (by (with_reducible repeat (first | apply Kd.R_alloc | apply Kd.R_drewN | apply Kd.R_drew)); exact (Kd.R_mono (Kd.R_far (p := ⟨gb462, 2, none⟩) (Kd.R_far (p := ⟨gb462, 1, none⟩) (Kd.R_far (p := ⟨gb462, 0, none⟩) (Kd.R_types HO460.out BK462.out (by decide)) (fun _ hk => hk.2) (.int .i8 t456)) (fun _ hk => hk.2) (.int .i8 t457)) (fun _ hk => hk.2) (.slice Ao37 t458.length co37)) (fun _ h_ => h_.1))) hb); have n4_ := Aside0.mk (blk_below (g := gb436) (o := .cells #[.int .i8 a0_0, .int .i8 a0_1, .slice A0_2 l0_2.length c0_2] 25 (0, 0)) (by (with_reducible repeat (first | refine blk_drewN ?_ _ | refine blk_drew ?_ | refine blk_alloc ?_ _)); refine blk_far ?_ NB436_462.out _; (with_reducible repeat (first | refine blk_drewN ?_ _ | refine blk_drew ?_ | refine blk_alloc ?_ _)); refine blk_far ?_ NB436_462.out _; (with_reducible repeat (first | refine blk_drewN ?_ _ | refine blk_drew ?_ | refine blk_alloc ?_ _)); refine blk_far ?_ NB436_462.out _; (with_reducible repeat (first | refine blk_drewN ?_ _ | refine blk_drew ?_ | refine blk_alloc ?_ _)); exact BK436.out) hb); have n5_ := Aside0.mk (blk_below (g := gb449) (o := .cells #[.int .i8 t443, .int .i8 t444, .slice Ao23 t445.length co23] 28 (0, 0)) (by (with_reducible repeat (first | refine blk_drewN ?_ _ | refine blk_drew ?_ | refine blk_alloc ?_ _)); refine blk_far ?_ NB449_462.out _; (with_reducible repeat (first | refine blk_drewN ?_ _ | refine blk_drew ?_ | refine blk_alloc ?_ _)); refine blk_far ?_ NB449_462.out _; (with_reducible repeat (first | refine blk_drewN ?_ _ | refine blk_drew ?_ | refine blk_alloc ?_ _)); refine blk_far ?_ NB449_462.out _; (with_reducible repeat (first | refine blk_drewN ?_ _ | refine blk_drew ?_ | refine blk_alloc ?_ _)); exact BK449.out) hb); have n6_ := Aside0.mk (blk_below (g := gb455) (o := .cells #[.int .i8 t450, .int .i8 t451, .slice Ao30 t452.length co30] 28 (0, 0)) (by (with_reducible repeat (first | refine blk_drewN ?_ _ | refine blk_drew ?_ | refine blk_alloc ?_ _)); refine blk_far ?_ NB455_462.out _; (with_reducible repeat (first | refine blk_drewN ?_ _ | refine blk_drew ?_ | refine blk_alloc ?_ _)); refine blk_far ?_ NB455_462.out _; (with_reducible repeat (first | refine blk_drewN ?_ _ | refine blk_drew ?_ | refine blk_alloc ?_ _)); refine blk_far ?_ NB455_462.out _; (with_reducible repeat (first | refine blk_drewN ?_ _ | refine blk_drew ?_ | refine blk_alloc ?_ _)); exact BK455.out) hb); have n7_ := Aside0.mk (blk_below (g := gb462) (o := .cells #[.int .i8 t456, .int .i8 t457, .slice Ao37 t458.length co37] 28 (0, 0)) (by (with_reducible repeat (first | refine blk_drewN ?_ _ | refine blk_drew ?_ | refine blk_alloc ?_ _)); refine blk_put (cs := #[.int .i8 t456, .int .i8 t457, .slice none 0 0]) ?_ 2 _ rfl; (with_reducible repeat (first | refine blk_drewN ?_ _ | refine blk_drew ?_ | refine blk_alloc ?_ _)); refine blk_put (cs := #[.int .i8 t456, .int .i8 0, .slice none 0 0]) ?_ 1 _ rfl; (with_reducible repeat (first | refine blk_drewN ?_ _ | refine blk_drew ?_ | refine blk_alloc ?_ _)); refine blk_put (cs := #[.int .i8 0, .int .i8 0, .slice none 0 0]) ?_ 0 _ rfl; (with_reducible repeat (first | refine blk_drewN ?_ _ | refine blk_drew ?_ | refine blk_alloc ?_ _)); exact BK462.out) hb); have n8_ := Aside0.mk (below_step (by repeat (first | (with_reducible first | exact HB.out | apply below_alloc | apply pw_below_drewN | apply below_drew1 | refine below_set ?_ GE436.out | refine below_set ?_ GE449.out | refine below_set ?_ GE455.out | refine below_set ?_ GE462.out) | exact HB.out)) hb); clear HO442; clear HO447; clear HO454; clear HO460; clear BK436; clear BK449; clear BK455; clear BK462; clear HB; have HO442 := n0_; have HO447 := n1_; have HO454 := n2_; have HO460 := n3_; have BK436 := n4_; have BK449 := n5_; have BK455 := n6_; have BK462 := n7_; have HB := n8_; clear n0_ n1_ n2_ n3_ n4_ n5_ n6_ n7_ n8_; (try clear hb); (try clear hb2); (try clear hk); (try clear hi)))
        go_meet
        case rel => exact ⟨_, ((t461 != t448)), (by first | rfl | (simp; done) | (simp [*]; done)), H', ⟨by first | omega | exact Nat.le_refl _⟩, ⟨by (with_reducible repeat (first | apply Kd.R_alloc | apply Kd.R_drewN | apply Kd.R_drew)); exact Kd.R_mono HO447.out (fun _ hk => ⟨hk.1.2, hk.2⟩)⟩, ⟨by (with_reducible repeat (first | apply Kd.R_alloc | apply Kd.R_drewN | apply Kd.R_drew)); exact Kd.R_mono HO454.out (fun _ hk => ⟨hk.1.2, hk.2⟩)⟩, ⟨by (with_reducible repeat (first | apply Kd.R_alloc | apply Kd.R_drewN | apply Kd.R_drew)); exact Kd.R_mono HO460.out (fun _ hk => ⟨hk.1.2, hk.2⟩)⟩, ⟨by (with_reducible repeat (first | refine blk_drewN ?_ _ | refine blk_drew ?_ | refine blk_alloc ?_ _)); exact BK436.out⟩, ⟨by (with_reducible repeat (first | refine blk_drewN ?_ _ | refine blk_drew ?_ | refine blk_alloc ?_ _)); exact BK449.out⟩, ⟨by (with_reducible repeat (first | refine blk_drewN ?_ _ | refine blk_drew ?_ | refine blk_alloc ?_ _)); exact BK455.out⟩, ⟨by (with_reducible repeat (first | refine blk_drewN ?_ _ | refine blk_drew ?_ | refine blk_alloc ?_ _)); exact BK462.out⟩, ⟨by repeat (first | (with_reducible first | exact HB.out | apply below_alloc | apply pw_below_drewN | apply below_drew1 | refine below_set ?_ GE436.out | refine below_set ?_ GE449.out | refine below_set ?_ GE455.out | refine below_set ?_ GE462.out) | exact HB.out)⟩⟩
      · replace c39 := Bool.eq_false_iff.mpr c39
        subst c39
        have H1 : (laws_FnExactWithoutThing.j0 k a1 t448 t461 true a0_0 a0_1 l0_2 t443 t444 t445 t450 t451 t452 t456 t457 t458) = some r := by rw [if_neg (show ¬ (false = true) by decide)] at H; exact H
        clear H
        have H := H1
        clear H1
        have H' := Aside0.mk H
        clear H
        have hnb48 := NB462_436.out
        have hnc48 := NB436_462.out
        have hnb49 := NB462_449.out
        have hnc49 := NB449_462.out
        have hnb50 := NB462_455.out
        have hnc50 := NB455_462.out
        have hcz51_0 : w32.cell? ⟨gb462, 0, none⟩ = some (.int .i8 0) := (blk_cell BK462.out 0).trans rfl
        have hcz51_1 : w32.cell? ⟨gb462, 1, none⟩ = some (.int .i8 0) := (blk_cell BK462.out 1).trans rfl
        have hcz51_2 : w32.cell? ⟨gb462, 2, none⟩ = some (.slice none 0 0) := (blk_cell BK462.out 2).trans rfl
        have hfz51_0 := blk_frozen BK462.out 0
        have hfz51_1 := blk_frozen BK462.out 1
        have hfz51_2 := blk_frozen BK462.out 2
        have hnb52 := NB449_436.out
        have hnc52 := NB436_449.out
        have hnb53 := NB449_455.out
        have hnc53 := NB455_449.out
        have hcz54_0 : w32.cell? ⟨gb449, 0, none⟩ = some (.int .i8 t443) := (blk_cell BK449.out 0).trans rfl
        have hcz54_1 : w32.cell? ⟨gb449, 1, none⟩ = some (.int .i8 t444) := (blk_cell BK449.out 1).trans rfl
        have hcz54_2 : w32.cell? ⟨gb449, 2, none⟩ = some (.slice Ao23 t445.length co23) := (blk_cell BK449.out 2).trans rfl
        have hfz54_0 := blk_frozen BK449.out 0
        have hfz54_1 := blk_frozen BK449.out 1
        have hfz54_2 := blk_frozen BK449.out 2
        go_wp2_with (first | ((with_reducible refine gate_callee (f := 16) rfl ?_); refine goesL_ (some 38) rfl rfl Try.func16 (by kernel_rfl) rfl #[.agg #[.int .i8 t456, .int .i8 t457, .slice Ao37 t458.length co37], .agg #[.int .i8 t443, .int .i8 t444, .slice Ao23 t445.length co23]] rfl (by (try simp only [List.map_toArray, List.map_cons, List.map_nil]); first | done | rfl | (simp only [List.length_drop, List.length_take]; rfl)) ?_; (with_reducible refine (laws_eqFerry.calls k t456 t457 _ _ t458 t443 t444 _ _ t445 false _ ?side1 ?side2 ?side3 ?side4 A38.out).mono ?_); (case side1 => refine (Kd.R_reads' (e := 35) (base := w.heap.size) (ok := fun k_ => (((True ∧ some k_ ≠ (.slice Ao18 t440.length co18 : Value).ownBlock) ∧ some k_ ≠ (.slice Ao23 t445.length co23 : Value).ownBlock) ∧ some k_ ≠ (.slice Ao30 t452.length co30 : Value).ownBlock)) (n := t458.length) (c := co37) ?_).2.2; exact (by (with_reducible repeat (first | apply Kd.R_alloc | apply Kd.R_drewN | apply Kd.R_drew)); exact (Kd.R_mono (Kd.R_far (p := ⟨gb462, 2, none⟩) (Kd.R_far (p := ⟨gb462, 1, none⟩) (Kd.R_far (p := ⟨gb462, 0, none⟩) (Kd.R_types HO460.out BK462.out (by decide)) (fun _ hk => hk.2) (.int .i8 t456)) (fun _ hk => hk.2) (.int .i8 t457)) (fun _ hk => hk.2) (.slice Ao37 t458.length co37)) (fun _ h_ => h_.1)))); (case side2 => exact (Kd.R_reads' HO460.out).2.1); (case side3 => refine (Kd.R_reads' (e := 35) (base := w.heap.size) (ok := fun k_ => (((True ∧ some k_ ≠ (.slice Ao18 t440.length co18 : Value).ownBlock) ∧ some k_ ≠ (.slice Ao30 t452.length co30 : Value).ownBlock) ∧ some k_ ≠ (.slice Ao37 t458.length co37 : Value).ownBlock)) (n := t445.length) (c := co23) ?_).2.2; exact (by (with_reducible repeat (first | apply Kd.R_alloc | apply Kd.R_drewN | apply Kd.R_drew)); exact (Kd.R_mono (Kd.R_far (p := ⟨gb462, 2, none⟩) (Kd.R_far (p := ⟨gb462, 1, none⟩) (Kd.R_far (p := ⟨gb462, 0, none⟩) (Kd.R_types HO447.out BK462.out (by decide)) (fun _ hk => hk.2) (.int .i8 t456)) (fun _ hk => hk.2) (.int .i8 t457)) (fun _ hk => hk.2) (.slice Ao37 t458.length co37)) (fun _ h_ => h_.1)))); (case side4 => exact (Kd.R_reads' HO447.out).2.1); rintro e w55 ⟨rfl, hb⟩; refine ⟨_, rfl, ?_⟩; have n0_ := Aside0.mk (Kd.R_below (by (with_reducible repeat (first | apply Kd.R_alloc | apply Kd.R_drewN | apply Kd.R_drew)); exact (Kd.R_mono (Kd.R_far (p := ⟨gb462, 2, none⟩) (Kd.R_far (p := ⟨gb462, 1, none⟩) (Kd.R_far (p := ⟨gb462, 0, none⟩) (Kd.R_types HO442.out BK462.out (by decide)) (fun _ hk => hk.2) (.int .i8 t456)) (fun _ hk => hk.2) (.int .i8 t457)) (fun _ hk => hk.2) (.slice Ao37 t458.length co37)) (fun _ h_ => h_.1))) hb); have n1_ := Aside0.mk (Kd.R_below (by (with_reducible repeat (first | apply Kd.R_alloc | apply Kd.R_drewN | apply Kd.R_drew)); exact (Kd.R_mono (Kd.R_far (p := ⟨gb462, 2, none⟩) (Kd.R_far (p := ⟨gb462, 1, none⟩) (Kd.R_far (p := ⟨gb462, 0, none⟩) (Kd.R_types HO447.out BK462.out (by decide)) (fun _ hk => hk.2) (.int .i8 t456)) (fun _ hk => hk.2) (.int .i8 t457)) (fun _ hk => hk.2) (.slice Ao37 t458.length co37)) (fun _ h_ => h_.1))) hb); have n2_ := Aside0.mk (Kd.R_below (by (with_reducible repeat (first | apply Kd.R_alloc | apply Kd.R_drewN | apply Kd.R_drew)); exact (Kd.R_mono (Kd.R_far (p := ⟨gb462, 2, none⟩) (Kd.R_far (p := ⟨gb462, 1, none⟩) (Kd.R_far (p := ⟨gb462, 0, none⟩) (Kd.R_types HO454.out BK462.out (by decide)) (fun _ hk => hk.2) (.int .i8 t456)) (fun _ hk => hk.2) (.int .i8 t457)) (fun _ hk => hk.2) (.slice Ao37 t458.length co37)) (fun _ h_ => h_.1))) hb); have n3_ := Aside0.mk (Kd.R_below (by (with_reducible repeat (first | apply Kd.R_alloc | apply Kd.R_drewN | apply Kd.R_drew)); exact (Kd.R_mono (Kd.R_far (p := ⟨gb462, 2, none⟩) (Kd.R_far (p := ⟨gb462, 1, none⟩) (Kd.R_far (p := ⟨gb462, 0, none⟩) (Kd.R_types HO460.out BK462.out (by decide)) (fun _ hk => hk.2) (.int .i8 t456)) (fun _ hk => hk.2) (.int .i8 t457)) (fun _ hk => hk.2) (.slice Ao37 t458.length co37)) (fun _ h_ => h_.1))) hb); have n4_ := Aside0.mk (blk_below (g := gb436) (o := .cells #[.int .i8 a0_0, .int .i8 a0_1, .slice A0_2 l0_2.length c0_2] 25 (0, 0)) (by (with_reducible repeat (first | refine blk_drewN ?_ _ | refine blk_drew ?_ | refine blk_alloc ?_ _)); refine blk_far ?_ NB436_462.out _; (with_reducible repeat (first | refine blk_drewN ?_ _ | refine blk_drew ?_ | refine blk_alloc ?_ _)); refine blk_far ?_ NB436_462.out _; (with_reducible repeat (first | refine blk_drewN ?_ _ | refine blk_drew ?_ | refine blk_alloc ?_ _)); refine blk_far ?_ NB436_462.out _; (with_reducible repeat (first | refine blk_drewN ?_ _ | refine blk_drew ?_ | refine blk_alloc ?_ _)); exact BK436.out) hb); have n5_ := Aside0.mk (blk_below (g := gb449) (o := .cells #[.int .i8 t443, .int .i8 t444, .slice Ao23 t445.length co23] 28 (0, 0)) (by (with_reducible repeat (first | refine blk_drewN ?_ _ | refine blk_drew ?_ | refine blk_alloc ?_ _)); refine blk_far ?_ NB449_462.out _; (with_reducible repeat (first | refine blk_drewN ?_ _ | refine blk_drew ?_ | refine blk_alloc ?_ _)); refine blk_far ?_ NB449_462.out _; (with_reducible repeat (first | refine blk_drewN ?_ _ | refine blk_drew ?_ | refine blk_alloc ?_ _)); refine blk_far ?_ NB449_462.out _; (with_reducible repeat (first | refine blk_drewN ?_ _ | refine blk_drew ?_ | refine blk_alloc ?_ _)); exact BK449.out) hb); have n6_ := Aside0.mk (blk_below (g := gb455) (o := .cells #[.int .i8 t450, .int .i8 t451, .slice Ao30 t452.length co30] 28 (0, 0)) (by (with_reducible repeat (first | refine blk_drewN ?_ _ | refine blk_drew ?_ | refine blk_alloc ?_ _)); refine blk_far ?_ NB455_462.out _; (with_reducible repeat (first | refine blk_drewN ?_ _ | refine blk_drew ?_ | refine blk_alloc ?_ _)); refine blk_far ?_ NB455_462.out _; (with_reducible repeat (first | refine blk_drewN ?_ _ | refine blk_drew ?_ | refine blk_alloc ?_ _)); refine blk_far ?_ NB455_462.out _; (with_reducible repeat (first | refine blk_drewN ?_ _ | refine blk_drew ?_ | refine blk_alloc ?_ _)); exact BK455.out) hb); have n7_ := Aside0.mk (blk_below (g := gb462) (o := .cells #[.int .i8 t456, .int .i8 t457, .slice Ao37 t458.length co37] 28 (0, 0)) (by (with_reducible repeat (first | refine blk_drewN ?_ _ | refine blk_drew ?_ | refine blk_alloc ?_ _)); refine blk_put (cs := #[.int .i8 t456, .int .i8 t457, .slice none 0 0]) ?_ 2 _ rfl; (with_reducible repeat (first | refine blk_drewN ?_ _ | refine blk_drew ?_ | refine blk_alloc ?_ _)); refine blk_put (cs := #[.int .i8 t456, .int .i8 0, .slice none 0 0]) ?_ 1 _ rfl; (with_reducible repeat (first | refine blk_drewN ?_ _ | refine blk_drew ?_ | refine blk_alloc ?_ _)); refine blk_put (cs := #[.int .i8 0, .int .i8 0, .slice none 0 0]) ?_ 0 _ rfl; (with_reducible repeat (first | refine blk_drewN ?_ _ | refine blk_drew ?_ | refine blk_alloc ?_ _)); exact BK462.out) hb); have n8_ := Aside0.mk (below_step (by repeat (first | (with_reducible first | exact HB.out | apply below_alloc | apply pw_below_drewN | apply below_drew1 | refine below_set ?_ GE436.out | refine below_set ?_ GE449.out | refine below_set ?_ GE455.out | refine below_set ?_ GE462.out) | exact HB.out)) hb); clear HO442; clear HO447; clear HO454; clear HO460; clear BK436; clear BK449; clear BK455; clear BK462; clear HB; have HO442 := n0_; have HO447 := n1_; have HO454 := n2_; have HO460 := n3_; have BK436 := n4_; have BK449 := n5_; have BK455 := n6_; have BK462 := n7_; have HB := n8_; clear n0_ n1_ n2_ n3_ n4_ n5_ n6_ n7_ n8_; (try clear hb); (try clear hb2); (try clear hk); (try clear hi)))
        go_meet
        case rel => exact ⟨_, (true), (by first | rfl | (simp; done) | (simp [*]; done)), H', ⟨by first | omega | exact Nat.le_refl _⟩, ⟨by (with_reducible repeat (first | apply Kd.R_alloc | apply Kd.R_drewN | apply Kd.R_drew)); exact Kd.R_mono HO447.out (fun _ hk => ⟨hk.1.2, hk.2⟩)⟩, ⟨by (with_reducible repeat (first | apply Kd.R_alloc | apply Kd.R_drewN | apply Kd.R_drew)); exact Kd.R_mono HO454.out (fun _ hk => ⟨hk.1.2, hk.2⟩)⟩, ⟨by (with_reducible repeat (first | apply Kd.R_alloc | apply Kd.R_drewN | apply Kd.R_drew)); exact Kd.R_mono HO460.out (fun _ hk => ⟨hk.1.2, hk.2⟩)⟩, ⟨by (with_reducible repeat (first | refine blk_drewN ?_ _ | refine blk_drew ?_ | refine blk_alloc ?_ _)); exact BK436.out⟩, ⟨by (with_reducible repeat (first | refine blk_drewN ?_ _ | refine blk_drew ?_ | refine blk_alloc ?_ _)); exact BK449.out⟩, ⟨by (with_reducible repeat (first | refine blk_drewN ?_ _ | refine blk_drew ?_ | refine blk_alloc ?_ _)); exact BK455.out⟩, ⟨by (with_reducible repeat (first | refine blk_drewN ?_ _ | refine blk_drew ?_ | refine blk_alloc ?_ _)); exact BK462.out⟩, ⟨by repeat (first | (with_reducible first | exact HB.out | apply below_alloc | apply pw_below_drewN | apply below_drew1 | refine below_set ?_ GE436.out | refine below_set ?_ GE449.out | refine below_set ?_ GE455.out | refine below_set ?_ GE462.out) | exact HB.out)⟩⟩
    case rest =>
      clear HC12
      try clear c1
      try clear c2
      try clear p2
      try clear c3
      try clear c4
      try clear c4b0
      try clear c5
      try clear c10
      try clear c12
      try clear c14
      try clear c16
      try clear c21
      try clear c27
      try clear c28
      try clear c30
      try clear c31
      try clear c33
      try clear c34
      try clear c35
      try clear c39
      try clear c40
      try clear c41
      try clear c42
      try clear c44
      try clear c45
      try clear c48
      try clear c49
      try clear c50
      try clear c52
      try clear c53
      try clear hcz14_0
      try clear hcz14_1
      try clear hcz14_2
      try clear hcz16_0
      try clear hcz16_1
      try clear hcz16_2
      try clear hcz22_0
      try clear hcz22_1
      try clear hcz22_2
      try clear hcz24_0
      try clear hcz24_1
      try clear hcz24_2
      try clear hcz29_0
      try clear hcz29_1
      try clear hcz29_2
      try clear hcz36_0
      try clear hcz36_1
      try clear hcz36_2
      try clear hcz43_0
      try clear hcz43_1
      try clear hcz43_2
      try clear hcz46_0
      try clear hcz46_1
      try clear hcz46_2
      try clear hcz51_0
      try clear hcz51_1
      try clear hcz51_2
      try clear hcz54_0
      try clear hcz54_1
      try clear hcz54_2
      try clear hcz6_0
      try clear hcz6_1
      try clear hcz6_2
      try clear hfz14_0
      try clear hfz14_1
      try clear hfz14_2
      try clear hfz16_0
      try clear hfz16_1
      try clear hfz16_2
      try clear hfz22_0
      try clear hfz22_1
      try clear hfz22_2
      try clear hfz24_0
      try clear hfz24_1
      try clear hfz24_2
      try clear hfz29_0
      try clear hfz29_1
      try clear hfz29_2
      try clear hfz36_0
      try clear hfz36_1
      try clear hfz36_2
      try clear hfz43_0
      try clear hfz43_1
      try clear hfz43_2
      try clear hfz46_0
      try clear hfz46_1
      try clear hfz46_2
      try clear hfz51_0
      try clear hfz51_1
      try clear hfz51_2
      try clear hfz54_0
      try clear hfz54_1
      try clear hfz54_2
      try clear hfz6_0
      try clear hfz6_1
      try clear hfz6_2
      obtain ⟨kq, x44_11, rfl, HA, HJ11, HO_450002, HO_456002, HO_463002, BK436, BK449, BK455, BK462, HB⟩ := hcut
      cases kq with
      | zero => exact absurd HA.out (by simp [laws_FnExactWithoutThing.j0])
      | succ kj11 =>
        have H := HA.out
        clear HA
        simp only [laws_FnExactWithoutThing.j0] at H
        by_cases c56 : x44_11 = true
        · subst c56
          have H1 : (some false) = some r := by rw [if_pos rfl] at H; exact H
          clear H
          have H := H1
          clear H1
          obtain rfl := Option.some.inj H
          go_wp2
          go_ret
          exact ⟨by first | rfl | (simp [errW_none, errW_some] <;> rfl) | (simp [*, errW_none, errW_some] <;> rfl), by repeat (first | (with_reducible first | exact HB.out | apply below_alloc | apply pw_below_drewN | apply below_drew1 | refine below_set ?_ GE436.out | refine below_set ?_ GE449.out | refine below_set ?_ GE455.out | refine below_set ?_ GE462.out) | exact HB.out)⟩
        · replace c56 := Bool.eq_false_iff.mpr c56
          subst c56
          have H1 : ((laws_toFerry.f kj11 a0_0 a0_1 l0_2).bind fun bt464 => ((laws_eqFerry.f kj11 t450 t451 t452 bt464.1 bt464.2.1 bt464.2.2).bind fun t469 => (if t469 = true then ((laws_markFerry.f kj11 t450 t451 t452 1).bind fun bt470 => (if bt470.1 < 0 then (laws_FnExactWithoutThing.j1 kj11 a1 t448 true a0_0 a0_1 l0_2 t443 t444 t445 t456 t457 t458) else ((laws_eqFerry.f kj11 t456 t457 t458 t443 t444 t445).bind fun t472 => (if t472 = true then (laws_FnExactWithoutThing.j1 kj11 a1 t448 (t461 != t448) a0_0 a0_1 l0_2 t443 t444 t445 t456 t457 t458) else (laws_FnExactWithoutThing.j1 kj11 a1 t448 true a0_0 a0_1 l0_2 t443 t444 t445 t456 t457 t458))))) else (some false)))) = some r := by rw [if_neg (show ¬ (false = true) by decide)] at H; exact H
          clear H
          have H := H1
          clear H1
          replace H := Option.bind_eq_some_iff.mp H
          obtain ⟨⟨t464, t465, t466⟩, A570, H⟩ := H
          replace H : ((laws_eqFerry.f kj11 t450 t451 t452 t464 t465 t466).bind fun t469 => (if t469 = true then ((laws_markFerry.f kj11 t450 t451 t452 1).bind fun bt470 => (if bt470.1 < 0 then (laws_FnExactWithoutThing.j1 kj11 a1 t448 true a0_0 a0_1 l0_2 t443 t444 t445 t456 t457 t458) else ((laws_eqFerry.f kj11 t456 t457 t458 t443 t444 t445).bind fun t472 => (if t472 = true then (laws_FnExactWithoutThing.j1 kj11 a1 t448 (t461 != t448) a0_0 a0_1 l0_2 t443 t444 t445 t456 t457 t458) else (laws_FnExactWithoutThing.j1 kj11 a1 t448 true a0_0 a0_1 l0_2 t443 t444 t445 t456 t457 t458))))) else (some false))) = some r := H
          have A57 := Aside0.mk A570
          clear A570
          replace H := Option.bind_eq_some_iff.mp H
          obtain ⟨t469, A580, H⟩ := H
          replace H : (if t469 = true then ((laws_markFerry.f kj11 t450 t451 t452 1).bind fun bt470 => (if bt470.1 < 0 then (laws_FnExactWithoutThing.j1 kj11 a1 t448 true a0_0 a0_1 l0_2 t443 t444 t445 t456 t457 t458) else ((laws_eqFerry.f kj11 t456 t457 t458 t443 t444 t445).bind fun t472 => (if t472 = true then (laws_FnExactWithoutThing.j1 kj11 a1 t448 (t461 != t448) a0_0 a0_1 l0_2 t443 t444 t445 t456 t457 t458) else (laws_FnExactWithoutThing.j1 kj11 a1 t448 true a0_0 a0_1 l0_2 t443 t444 t445 t456 t457 t458))))) else (some false)) = some r := H
          have A58 := Aside0.mk A580
          clear A580
          by_cases c59 : t469 = true
          · subst c59
            have H1 : ((laws_markFerry.f kj11 t450 t451 t452 1).bind fun bt470 => (if bt470.1 < 0 then (laws_FnExactWithoutThing.j1 kj11 a1 t448 true a0_0 a0_1 l0_2 t443 t444 t445 t456 t457 t458) else ((laws_eqFerry.f kj11 t456 t457 t458 t443 t444 t445).bind fun t472 => (if t472 = true then (laws_FnExactWithoutThing.j1 kj11 a1 t448 (t461 != t448) a0_0 a0_1 l0_2 t443 t444 t445 t456 t457 t458) else (laws_FnExactWithoutThing.j1 kj11 a1 t448 true a0_0 a0_1 l0_2 t443 t444 t445 t456 t457 t458))))) = some r := by rw [if_pos rfl] at H; exact H
            clear H
            have H := H1
            clear H1
            replace H := Option.bind_eq_some_iff.mp H
            obtain ⟨⟨t470, t471⟩, A600, H⟩ := H
            replace H : (if t470 < 0 then (laws_FnExactWithoutThing.j1 kj11 a1 t448 true a0_0 a0_1 l0_2 t443 t444 t445 t456 t457 t458) else ((laws_eqFerry.f kj11 t456 t457 t458 t443 t444 t445).bind fun t472 => (if t472 = true then (laws_FnExactWithoutThing.j1 kj11 a1 t448 (t461 != t448) a0_0 a0_1 l0_2 t443 t444 t445 t456 t457 t458) else (laws_FnExactWithoutThing.j1 kj11 a1 t448 true a0_0 a0_1 l0_2 t443 t444 t445 t456 t457 t458)))) = some r := H
            have A60 := Aside0.mk A600
            clear A600
            have HC61 := Aside0.mk H
            clear H
            try go_wp2
            have n0_ := Aside0.mk (Kd.R_drew HO_450002.out)
            have n1_ := Aside0.mk (Kd.R_drew HO_456002.out)
            have n2_ := Aside0.mk (Kd.R_drew HO_463002.out)
            have n3_ := Aside0.mk (blk_drew BK436.out)
            have n4_ := Aside0.mk (blk_drew BK449.out)
            have n5_ := Aside0.mk (blk_drew BK455.out)
            have n6_ := Aside0.mk (blk_drew BK462.out)
            have n7_ := Aside0.mk (below_drew1 HB.out)
            clear HO_450002
            clear HO_456002
            clear HO_463002
            clear BK436
            clear BK449
            clear BK455
            clear BK462
            clear HB
            have HO_450002 := n0_
            have HO_456002 := n1_
            have HO_463002 := n2_
            have BK436 := n3_
            have BK449 := n4_
            have BK455 := n5_
            have BK462 := n6_
            have HB := n7_
            clear n0_ n1_ n2_ n3_ n4_ n5_ n6_ n7_
            refine start_ (n := 5) (S := fun w' => w'.cell? ⟨gb455, 0, none⟩ = some (.int .i8 t450) ∧ w'.cell? ⟨gb455, 1, none⟩ = some (.int .i8 t451) ∧ w'.cell? ⟨gb455, 2, none⟩ = some (.slice Ao30 t452.length co30) ∧ w'.cell? ⟨gb436, 0, none⟩ = some (.int .i8 a0_0) ∧ w'.cell? ⟨gb436, 1, none⟩ = some (.int .i8 a0_1) ∧ w'.cell? ⟨gb436, 2, none⟩ = some (.slice A0_2 l0_2.length c0_2)) (ds := []) #[false, false, false, false, false] (by kernel_rfl) rfl rfl ⟨(blk_cell BK455.out 0).trans rfl, (blk_cell BK455.out 1).trans rfl, (blk_cell BK455.out 2).trans rfl, (blk_cell BK436.out 0).trans rfl, (blk_cell BK436.out 1).trans rfl, (blk_cell BK436.out 2).trans rfl⟩ (fun hHeld => ?_)
            generalize wc.drew = w62 at HO_450002 HO_456002 HO_463002 BK436 BK449 BK455 BK462 HB hHeld ⊢
            refine take_ (i := 0) (N := some 45) (v := ?_) (a' := ?_) #[true, false, false, false, false] rfl rfl (by kernel_rfl) (fun _ _ _ h => h) (Or.inl ⟨by rfl, ?_⟩) hHeld ?_ ?_
            rotate_left
            · rintro w' ⟨s0, s1, s2, s3, s4, s5⟩
              go_simp
              with_reducible rfl
            rotate_left
            · simp only [Act.put, List.setIfInBounds_toArray, List.set_cons_zero, List.set_cons_succ, i64_w, i32_w]
              rfl
            refine take_ (i := 1) (N := some 46) (v := ?_) (a' := ?_) #[true, true, false, false, false] rfl rfl (by kernel_rfl) (fun _ _ _ h => h) (Or.inl ⟨by rfl, ?_⟩) hHeld ?_ ?_
            rotate_left
            · rintro w' ⟨s0, s1, s2, s3, s4, s5⟩
              go_simp
              with_reducible rfl
            rotate_left
            · simp only [Act.put, List.setIfInBounds_toArray, List.set_cons_zero, List.set_cons_succ, i64_w, i32_w]
              rfl
            refine one_ (i := 2) (N := some 47) #[true, true, true, false, false] rfl rfl (by kernel_rfl) (by decide) (fun K hK => ?_)
            refine goes_ Try.func14 (by kernel_rfl) rfl #[.agg #[.int .i8 a0_0, .int .i8 a0_1, .slice A0_2 l0_2.length c0_2]] (by rfl) rfl rfl (by (try simp only [List.map_toArray, List.map_cons, List.map_nil]); first | done | rfl | (simp only [List.length_drop, List.length_take]; rfl)) ?_
            with_reducible refine (laws_toFerry.calls kj11 a0_0 a0_1 _ _ l0_2 t464 t465 t466 _ ?side1 ?side2 A57.out).mono ?_
            (case side1 => repeat (first | exact (Kd.C_below HR0_2.out HB.out) | (with_reducible refine Kd.C_alloc ?_ _) | (with_reducible refine Kd.C_drewN ?_ _) | (with_reducible refine Kd.C_drew ?_)))
            (case side2 => exact HC0_2.out)
            rintro e w63 ⟨v467, rfl, ho0, hb⟩
            refine ⟨_, rfl, ?_⟩
            have n0_ := Aside0.mk (Kd.R_elder' (by (with_reducible repeat (first | apply Kd.R_alloc | apply Kd.R_drewN | apply Kd.R_drew)); exact HO_450002.out) (Kd.R_base ho0) hb)
            have n1_ := Aside0.mk (Kd.R_elder' (by (with_reducible repeat (first | apply Kd.R_alloc | apply Kd.R_drewN | apply Kd.R_drew)); exact HO_456002.out) (Kd.R_base ho0) hb)
            have n2_ := Aside0.mk (Kd.R_elder' (by (with_reducible repeat (first | apply Kd.R_alloc | apply Kd.R_drewN | apply Kd.R_drew)); exact HO_463002.out) (Kd.R_base ho0) hb)
            have n3_ := Aside0.mk (Kd.R_lower (Kd.R_new' (Kd.R_new' (Kd.R_new' ho0 (Kd.R_lt (by (with_reducible repeat (first | apply Kd.R_alloc | apply Kd.R_drewN | apply Kd.R_drew)); exact HO_450002.out))) (Kd.R_lt (by (with_reducible repeat (first | apply Kd.R_alloc | apply Kd.R_drewN | apply Kd.R_drew)); exact HO_456002.out))) (Kd.R_lt (by (with_reducible repeat (first | apply Kd.R_alloc | apply Kd.R_drewN | apply Kd.R_drew)); exact HO_463002.out))) (below_size (by repeat (first | (with_reducible first | exact HB.out | apply below_alloc | apply pw_below_drewN | apply below_drew1 | refine below_set ?_ GE436.out | refine below_set ?_ GE449.out | refine below_set ?_ GE455.out | refine below_set ?_ GE462.out) | exact HB.out))))
            have n4_ := Aside0.mk (blk_below (g := gb436) (o := .cells #[.int .i8 a0_0, .int .i8 a0_1, .slice A0_2 l0_2.length c0_2] 25 (0, 0)) (by (with_reducible repeat (first | refine blk_drewN ?_ _ | refine blk_drew ?_ | refine blk_alloc ?_ _)); exact BK436.out) hb)
            have n5_ := Aside0.mk (blk_below (g := gb449) (o := .cells #[.int .i8 t443, .int .i8 t444, .slice Ao23 t445.length co23] 28 (0, 0)) (by (with_reducible repeat (first | refine blk_drewN ?_ _ | refine blk_drew ?_ | refine blk_alloc ?_ _)); exact BK449.out) hb)
            have n6_ := Aside0.mk (blk_below (g := gb455) (o := .cells #[.int .i8 t450, .int .i8 t451, .slice Ao30 t452.length co30] 28 (0, 0)) (by (with_reducible repeat (first | refine blk_drewN ?_ _ | refine blk_drew ?_ | refine blk_alloc ?_ _)); exact BK455.out) hb)
            have n7_ := Aside0.mk (blk_below (g := gb462) (o := .cells #[.int .i8 t456, .int .i8 t457, .slice Ao37 t458.length co37] 28 (0, 0)) (by (with_reducible repeat (first | refine blk_drewN ?_ _ | refine blk_drew ?_ | refine blk_alloc ?_ _)); exact BK462.out) hb)
            have n8_ := Aside0.mk (below_step (by repeat (first | (with_reducible first | exact HB.out | apply below_alloc | apply pw_below_drewN | apply below_drew1 | refine below_set ?_ GE436.out | refine below_set ?_ GE449.out | refine below_set ?_ GE455.out | refine below_set ?_ GE462.out) | exact HB.out)) hb)
            clear HO_450002
            clear HO_456002
            clear HO_463002
            clear BK436
            clear BK449
            clear BK455
            clear BK462
            clear HB
            have HO_450002 := n0_
            have HO_456002 := n1_
            have HO_463002 := n2_
            have HO468 := n3_
            have BK436 := n4_
            have BK449 := n5_
            have BK455 := n6_
            have BK462 := n7_
            have HB := n8_
            clear n0_ n1_ n2_ n3_ n4_ n5_ n6_ n7_ n8_
            (try clear hb)
            (try clear hb2)
            (try clear hk)
            (try clear hi)
            (try clear ho0)
            obtain ⟨Ao64, co64, eo64⟩ := Kd.R_slice HO468.out
            (first | subst eo64 | (injection eo64 with f1_ f2_ f3_; have f4_ := f1_.symm; have f5_ := f3_.symm; clear f1_ f2_ f3_; subst f4_; subst f5_))
            refine hK.out _ _ ⟨(blk_cell BK455.out 0).trans rfl, (blk_cell BK455.out 1).trans rfl, (blk_cell BK455.out 2).trans rfl, (blk_cell BK436.out 0).trans rfl, (blk_cell BK436.out 1).trans rfl, (blk_cell BK436.out 2).trans rfl⟩ (fun hHeld => ?_)
            clear hK K
            refine norm_ (a' := ?_) ?_ ?_
            rotate_left
            · show Act.put _ (some 47) _ = _
              simp only [Act.put, List.setIfInBounds_toArray, List.set_cons_zero, List.set_cons_succ, i64_w, i32_w]
              rfl
            refine one_ (i := 3) (N := some 48) #[true, true, true, true, false] rfl rfl (by kernel_rfl) (by decide) (fun K hK => ?_)
            refine goes_ Try.func16 (by kernel_rfl) rfl #[.agg #[.int .i8 t450, .int .i8 t451, .slice Ao30 t452.length co30], .agg #[.int .i8 t464, .int .i8 t465, .slice Ao64 t466.length co64]] (by rfl) rfl rfl (by (try simp only [List.map_toArray, List.map_cons, List.map_nil]); first | done | rfl | (simp only [List.length_drop, List.length_take]; rfl)) ?_
            with_reducible refine (laws_eqFerry.calls kj11 t450 t451 _ _ t452 t464 t465 _ _ t466 true _ ?side1 ?side2 ?side3 ?side4 A58.out).mono ?_
            (case side1 => repeat (first | exact (Kd.R_reads' HO_456002.out).2.2 | (with_reducible refine Kd.C_alloc ?_ _) | (with_reducible refine Kd.C_drewN ?_ _) | (with_reducible refine Kd.C_drew ?_)))
            (case side2 => exact (Kd.R_reads' HO_456002.out).2.1)
            (case side3 => repeat (first | exact (Kd.R_reads' HO468.out).2.2 | (with_reducible refine Kd.C_alloc ?_ _) | (with_reducible refine Kd.C_drewN ?_ _) | (with_reducible refine Kd.C_drew ?_)))
            (case side4 => exact (Kd.R_reads' HO468.out).2.1)
            rintro e w65 ⟨rfl, hb⟩
            refine ⟨_, rfl, ?_⟩
            have n0_ := Aside0.mk (Kd.R_below (by (with_reducible repeat (first | apply Kd.R_alloc | apply Kd.R_drewN | apply Kd.R_drew)); exact HO_450002.out) hb)
            have n1_ := Aside0.mk (Kd.R_below (by (with_reducible repeat (first | apply Kd.R_alloc | apply Kd.R_drewN | apply Kd.R_drew)); exact HO_456002.out) hb)
            have n2_ := Aside0.mk (Kd.R_below (by (with_reducible repeat (first | apply Kd.R_alloc | apply Kd.R_drewN | apply Kd.R_drew)); exact HO_463002.out) hb)
            have n3_ := Aside0.mk (Kd.R_below (by (with_reducible repeat (first | apply Kd.R_alloc | apply Kd.R_drewN | apply Kd.R_drew)); exact HO468.out) hb)
            have n4_ := Aside0.mk (blk_below (g := gb436) (o := .cells #[.int .i8 a0_0, .int .i8 a0_1, .slice A0_2 l0_2.length c0_2] 25 (0, 0)) (by (with_reducible repeat (first | refine blk_drewN ?_ _ | refine blk_drew ?_ | refine blk_alloc ?_ _)); exact BK436.out) hb)
            have n5_ := Aside0.mk (blk_below (g := gb449) (o := .cells #[.int .i8 t443, .int .i8 t444, .slice Ao23 t445.length co23] 28 (0, 0)) (by (with_reducible repeat (first | refine blk_drewN ?_ _ | refine blk_drew ?_ | refine blk_alloc ?_ _)); exact BK449.out) hb)
            have n6_ := Aside0.mk (blk_below (g := gb455) (o := .cells #[.int .i8 t450, .int .i8 t451, .slice Ao30 t452.length co30] 28 (0, 0)) (by (with_reducible repeat (first | refine blk_drewN ?_ _ | refine blk_drew ?_ | refine blk_alloc ?_ _)); exact BK455.out) hb)
            have n7_ := Aside0.mk (blk_below (g := gb462) (o := .cells #[.int .i8 t456, .int .i8 t457, .slice Ao37 t458.length co37] 28 (0, 0)) (by (with_reducible repeat (first | refine blk_drewN ?_ _ | refine blk_drew ?_ | refine blk_alloc ?_ _)); exact BK462.out) hb)
            have n8_ := Aside0.mk (below_step (by repeat (first | (with_reducible first | exact HB.out | apply below_alloc | apply pw_below_drewN | apply below_drew1 | refine below_set ?_ GE436.out | refine below_set ?_ GE449.out | refine below_set ?_ GE455.out | refine below_set ?_ GE462.out) | exact HB.out)) hb)
            clear HO_450002
            clear HO_456002
            clear HO_463002
            clear HO468
            clear BK436
            clear BK449
            clear BK455
            clear BK462
            clear HB
            have HO_450002 := n0_
            have HO_456002 := n1_
            have HO_463002 := n2_
            have HO468 := n3_
            have BK436 := n4_
            have BK449 := n5_
            have BK455 := n6_
            have BK462 := n7_
            have HB := n8_
            clear n0_ n1_ n2_ n3_ n4_ n5_ n6_ n7_ n8_
            (try clear hb)
            (try clear hb2)
            (try clear hk)
            (try clear hi)
            refine hK.out _ _ ⟨(blk_cell BK455.out 0).trans rfl, (blk_cell BK455.out 1).trans rfl, (blk_cell BK455.out 2).trans rfl, (blk_cell BK436.out 0).trans rfl, (blk_cell BK436.out 1).trans rfl, (blk_cell BK436.out 2).trans rfl⟩ (fun hHeld => ?_)
            clear hK K
            refine norm_ (a' := ?_) ?_ ?_
            rotate_left
            · show Act.put _ (some 48) _ = _
              simp only [Act.put, List.setIfInBounds_toArray, List.set_cons_zero, List.set_cons_succ, i64_w, i32_w]
              rfl
            refine pure_ (i := 4) (N := some 49) (v := ?_) (a' := ?_) #[true, true, true, true, true] rfl rfl (by kernel_rfl) (fun _ _ _ h => h) (Or.inl ⟨by rfl, ?_⟩) ?_ ?_
            rotate_left
            · intro w'
              go_simp
              with_reducible rfl
            rotate_left
            · simp only [Act.put, List.setIfInBounds_toArray, List.set_cons_zero, List.set_cons_succ, i64_w, i32_w]
              rfl
            refine done_ (by kernel_rfl) ?_
            have hnb66 := NB455_436.out
            have hnc66 := NB436_455.out
            have hnb67 := NB455_449.out
            have hnc67 := NB449_455.out
            have hnb68 := NB455_462.out
            have hnc68 := NB462_455.out
            have hcz69_0 : w65.cell? ⟨gb455, 0, none⟩ = some (.int .i8 t450) := (blk_cell BK455.out 0).trans rfl
            have hcz69_1 : w65.cell? ⟨gb455, 1, none⟩ = some (.int .i8 t451) := (blk_cell BK455.out 1).trans rfl
            have hcz69_2 : w65.cell? ⟨gb455, 2, none⟩ = some (.slice Ao30 t452.length co30) := (blk_cell BK455.out 2).trans rfl
            have hfz69_0 := blk_frozen BK455.out 0
            have hfz69_1 := blk_frozen BK455.out 1
            have hfz69_2 := blk_frozen BK455.out 2
            go_upto_region 14 with (first | ((with_reducible refine gate_callee (f := 32) rfl ?_); refine goesL_ (some 52) rfl rfl Try.func32 (by kernel_rfl) rfl #[.agg #[.int .i8 t450, .int .i8 t451, .slice Ao30 t452.length co30], .int .i64 1] rfl (by (try simp only [List.map_toArray, List.map_cons, List.map_nil]); first | done | rfl | (simp only [List.length_drop, List.length_take]; rfl)) ?_; (with_reducible refine (laws_markFerry.calls kj11 t450 t451 (fun k_ => some k_ = (.slice Ao30 t452.length co30 : Value).ownBlock) (.slice Ao30 t452.length co30) t452 1 t470 t471 w _ ?side1 ?side2 A60.out).mono ?_); (case side1 => repeat (first | (with_reducible first | exact HB.out | apply below_alloc | apply pw_below_drewN | apply below_drew1 | refine below_set ?_ GE436.out | refine below_set ?_ GE449.out | refine below_set ?_ GE455.out | refine below_set ?_ GE462.out) | exact HB.out)); (case side2 => exact Kd.R_tight rfl HO_456002.out); rintro e w70 ⟨rfl, hy0, hb, hkp⟩; refine ⟨_, rfl, ?_⟩; have n0_ := Aside0.mk (Kd.R_mono (ok' := fun k_ => some k_ ≠ (.slice Ao30 t452.length co30 : Value).ownBlock ∧ some k_ ≠ (.slice Ao37 t458.length co37 : Value).ownBlock ∧ some k_ ≠ (.slice Ao64 t466.length co64 : Value).ownBlock) (Kd.R_keptB (HO_450002.out) hkp (fun k_ hk_ hs_ => (hk_.1.1) hs_)) (fun k_ hk_ => ⟨hk_.1.1.1, hk_.1.1.2, hk_.1.2⟩)); have n1_ := Aside0.mk (Kd.R_reok rfl hy0 (fun k_ e_ => HO_456002.out.1 k_ e_)); have n2_ := Aside0.mk (Kd.R_mono (ok' := fun k_ => some k_ ≠ (.slice Ao23 t445.length co23 : Value).ownBlock ∧ some k_ ≠ (.slice Ao30 t452.length co30 : Value).ownBlock ∧ some k_ ≠ (.slice Ao64 t466.length co64 : Value).ownBlock) (Kd.R_keptB (HO_463002.out) hkp (fun k_ hk_ hs_ => (hk_.1.2) hs_)) (fun k_ hk_ => ⟨hk_.1.1.1, hk_.1.1.2, hk_.1.2⟩)); have n3_ := Aside0.mk (blk_kept (by (with_reducible repeat (first | refine blk_drewN ?_ _ | refine blk_drew ?_ | refine blk_alloc ?_ _)); exact BK436.out) hkp (fun hs_ => (fun e_ => (Kd.R_ne HO_456002.out BK436.out (by decide)) e_) hs_)); have n4_ := Aside0.mk (blk_kept (by (with_reducible repeat (first | refine blk_drewN ?_ _ | refine blk_drew ?_ | refine blk_alloc ?_ _)); exact BK449.out) hkp (fun hs_ => (fun e_ => (Kd.R_ne HO_456002.out BK449.out (by decide)) e_) hs_)); have n5_ := Aside0.mk (blk_kept (by (with_reducible repeat (first | refine blk_drewN ?_ _ | refine blk_drew ?_ | refine blk_alloc ?_ _)); exact BK455.out) hkp (fun hs_ => (fun e_ => (Kd.R_ne HO_456002.out BK455.out (by decide)) e_) hs_)); have n6_ := Aside0.mk (blk_kept (by (with_reducible repeat (first | refine blk_drewN ?_ _ | refine blk_drew ?_ | refine blk_alloc ?_ _)); exact BK462.out) hkp (fun hs_ => (fun e_ => (Kd.R_ne HO_456002.out BK462.out (by decide)) e_) hs_)); have n7_ := Aside0.mk (Kd.R_mono (ok' := fun k_ => some k_ ≠ (.slice Ao23 t445.length co23 : Value).ownBlock ∧ some k_ ≠ (.slice Ao30 t452.length co30 : Value).ownBlock ∧ some k_ ≠ (.slice Ao37 t458.length co37 : Value).ownBlock) (Kd.R_keptB (HO468.out) hkp (fun k_ hk_ hs_ => (hk_.1.2) hs_)) (fun k_ hk_ => ⟨hk_.1.1.1.2, hk_.1.1.2, hk_.1.2⟩)); have n8_ := Aside0.mk (hb); clear HO_450002; clear HO_456002; clear HO_463002; clear BK436; clear BK449; clear BK455; clear BK462; clear HO468; clear HB; have HO_450002 := n0_; have HO_456002 := n1_; have HO_463002 := n2_; have BK436 := n3_; have BK449 := n4_; have BK455 := n5_; have BK462 := n6_; have HO468 := n7_; have HB := n8_; clear n0_ n1_ n2_ n3_ n4_ n5_ n6_ n7_ n8_; (try clear hb); (try clear hkp); (try clear hy0)))
            (try simp only [Act.put, List.setIfInBounds_toArray, List.set_cons_zero, List.set_cons_succ])
            go_cut [65] (fun v65 wc => ∃ (kq : Nat) (x65_60 : Bool), v65 = .bool x65_60 ∧ Aside0 (laws_FnExactWithoutThing.j1 kq a1 t448 x65_60 a0_0 a0_1 l0_2 t443 t444 t445 t456 t457 t458 = some r) ∧ Aside0 (kq ≤ kj11) ∧ Aside0 (Kd.R (Kd.int .u16) 35 wc w.heap.size (fun k_ => some k_ ≠ ((.slice Ao30 t452.length co30) : Value).ownBlock ∧ some k_ ≠ ((.slice Ao37 t458.length co37) : Value).ownBlock) (.slice Ao23 t445.length co23) t445) ∧ Aside0 (Kd.R (Kd.int .u16) 35 wc w.heap.size (fun k_ => some k_ ≠ ((.slice Ao23 t445.length co23) : Value).ownBlock ∧ some k_ ≠ ((.slice Ao37 t458.length co37) : Value).ownBlock) (.slice Ao30 t452.length co30) t471) ∧ Aside0 (Kd.R (Kd.int .u16) 35 wc w.heap.size (fun k_ => some k_ ≠ ((.slice Ao23 t445.length co23) : Value).ownBlock ∧ some k_ ≠ ((.slice Ao30 t452.length co30) : Value).ownBlock) (.slice Ao37 t458.length co37) t458) ∧ Aside0 (wc.heap[gb436]? = some (.cells #[.int .i8 a0_0, .int .i8 a0_1, (.slice A0_2 l0_2.length c0_2)] 25 (0, 0))) ∧ Aside0 (wc.heap[gb449]? = some (.cells #[.int .i8 t443, .int .i8 t444, (.slice Ao23 t445.length co23)] 28 (0, 0))) ∧ Aside0 (wc.heap[gb455]? = some (.cells #[.int .i8 t450, .int .i8 t451, (.slice Ao30 t452.length co30)] 28 (0, 0))) ∧ Aside0 (wc.heap[gb462]? = some (.cells #[.int .i8 t456, .int .i8 t457, (.slice Ao37 t458.length co37)] 28 (0, 0))) ∧ Aside0 (Below w.heap.size w wc))
            case first =>
              have H := HC61.out
              clear HC61
              by_cases c71 : t470 < 0
              · rw [if_pos c71] at H
                have c71b0 : decide (t470 < 0) = true := decide_eq_true c71
                clear c71
                (first | rw [c71b0] | (simp only [i64_w, i32_w]; rw [c71b0]) | skip)
                have H' := Aside0.mk H
                clear H
                go_wp2
                go_meet
                case rel => exact ⟨_, (true), (by first | rfl | (simp; done) | (simp [*]; done)), H', ⟨by have := HJ11.out; first | omega | exact Nat.le_refl _⟩, ⟨by (with_reducible repeat (first | apply Kd.R_alloc | apply Kd.R_drewN | apply Kd.R_drew)); exact Kd.R_mono HO_450002.out (fun _ hk => ⟨hk.1, hk.2.1⟩)⟩, ⟨by (with_reducible repeat (first | apply Kd.R_alloc | apply Kd.R_drewN | apply Kd.R_drew)); exact Kd.R_mono HO_456002.out (fun _ hk => ⟨hk.1.1, hk.1.2⟩)⟩, ⟨by (with_reducible repeat (first | apply Kd.R_alloc | apply Kd.R_drewN | apply Kd.R_drew)); exact Kd.R_mono HO_463002.out (fun _ hk => ⟨hk.1, hk.2.1⟩)⟩, ⟨by (with_reducible repeat (first | refine blk_drewN ?_ _ | refine blk_drew ?_ | refine blk_alloc ?_ _)); exact BK436.out⟩, ⟨by (with_reducible repeat (first | refine blk_drewN ?_ _ | refine blk_drew ?_ | refine blk_alloc ?_ _)); exact BK449.out⟩, ⟨by (with_reducible repeat (first | refine blk_drewN ?_ _ | refine blk_drew ?_ | refine blk_alloc ?_ _)); exact BK455.out⟩, ⟨by (with_reducible repeat (first | refine blk_drewN ?_ _ | refine blk_drew ?_ | refine blk_alloc ?_ _)); exact BK462.out⟩, ⟨by repeat (first | (with_reducible first | exact HB.out | apply below_alloc | apply pw_below_drewN | apply below_drew1 | refine below_set ?_ GE436.out | refine below_set ?_ GE449.out | refine below_set ?_ GE455.out | refine below_set ?_ GE462.out) | exact HB.out)⟩⟩
              · rw [if_neg c71] at H
                have c71b0 : decide (t470 < 0) = false := decide_eq_false c71
                clear c71
                (first | rw [c71b0] | (simp only [i64_w, i32_w]; rw [c71b0]) | skip)
                replace H := Option.bind_eq_some_iff.mp H
                obtain ⟨t472, A720, H⟩ := H
                replace H : (if t472 = true then (laws_FnExactWithoutThing.j1 kj11 a1 t448 (t461 != t448) a0_0 a0_1 l0_2 t443 t444 t445 t456 t457 t458) else (laws_FnExactWithoutThing.j1 kj11 a1 t448 true a0_0 a0_1 l0_2 t443 t444 t445 t456 t457 t458)) = some r := H
                have A72 := Aside0.mk A720
                clear A720
                by_cases c73 : t472 = true
                · subst c73
                  have H1 : (laws_FnExactWithoutThing.j1 kj11 a1 t448 (t461 != t448) a0_0 a0_1 l0_2 t443 t444 t445 t456 t457 t458) = some r := by rw [if_pos rfl] at H; exact H
                  clear H
                  have H := H1
                  clear H1
                  have H' := Aside0.mk H
                  clear H
                  have hnb74 := NB462_436.out
                  have hnc74 := NB436_462.out
                  have hnb75 := NB462_449.out
                  have hnc75 := NB449_462.out
                  have hnb76 := NB462_455.out
                  have hnc76 := NB455_462.out
                  have hcz77_0 : w70.cell? ⟨gb462, 0, none⟩ = some (.int .i8 t456) := (blk_cell BK462.out 0).trans rfl
                  have hcz77_1 : w70.cell? ⟨gb462, 1, none⟩ = some (.int .i8 t457) := (blk_cell BK462.out 1).trans rfl
                  have hcz77_2 : w70.cell? ⟨gb462, 2, none⟩ = some (.slice Ao37 t458.length co37) := (blk_cell BK462.out 2).trans rfl
                  have hfz77_0 := blk_frozen BK462.out 0
                  have hfz77_1 := blk_frozen BK462.out 1
                  have hfz77_2 := blk_frozen BK462.out 2
                  have hnb78 := NB449_436.out
                  have hnc78 := NB436_449.out
                  have hnb79 := NB449_455.out
                  have hnc79 := NB455_449.out
                  have hcz80_0 : w70.cell? ⟨gb449, 0, none⟩ = some (.int .i8 t443) := (blk_cell BK449.out 0).trans rfl
                  have hcz80_1 : w70.cell? ⟨gb449, 1, none⟩ = some (.int .i8 t444) := (blk_cell BK449.out 1).trans rfl
                  have hcz80_2 : w70.cell? ⟨gb449, 2, none⟩ = some (.slice Ao23 t445.length co23) := (blk_cell BK449.out 2).trans rfl
                  have hfz80_0 := blk_frozen BK449.out 0
                  have hfz80_1 := blk_frozen BK449.out 1
                  have hfz80_2 := blk_frozen BK449.out 2
                  go_wp2_with (first | (go_at_call 16; (with_reducible refine (laws_eqFerry.calls kj11 t456 t457 _ _ t458 t443 t444 _ _ t445 true _ ?side1 ?side2 ?side3 ?side4 A72.out).mono ?_); (case side1 => repeat (first | exact (Kd.R_reads' HO_463002.out).2.2 | (with_reducible refine Kd.C_alloc ?_ _) | (with_reducible refine Kd.C_drewN ?_ _) | (with_reducible refine Kd.C_drew ?_))); (case side2 => exact (Kd.R_reads' HO_463002.out).2.1); (case side3 => repeat (first | exact (Kd.R_reads' HO_450002.out).2.2 | (with_reducible refine Kd.C_alloc ?_ _) | (with_reducible refine Kd.C_drewN ?_ _) | (with_reducible refine Kd.C_drew ?_))); (case side4 => exact (Kd.R_reads' HO_450002.out).2.1); rintro e w81 ⟨rfl, hb⟩; have n0_ := Aside0.mk (Kd.R_below (by (with_reducible repeat (first | apply Kd.R_alloc | apply Kd.R_drewN | apply Kd.R_drew)); exact HO_450002.out) hb); have n1_ := Aside0.mk (Kd.R_below (by (with_reducible repeat (first | apply Kd.R_alloc | apply Kd.R_drewN | apply Kd.R_drew)); exact HO_456002.out) hb); have n2_ := Aside0.mk (Kd.R_below (by (with_reducible repeat (first | apply Kd.R_alloc | apply Kd.R_drewN | apply Kd.R_drew)); exact HO_463002.out) hb); have n3_ := Aside0.mk (Kd.R_below (by (with_reducible repeat (first | apply Kd.R_alloc | apply Kd.R_drewN | apply Kd.R_drew)); exact HO468.out) hb); have n4_ := Aside0.mk (blk_below (g := gb436) (o := .cells #[.int .i8 a0_0, .int .i8 a0_1, .slice A0_2 l0_2.length c0_2] 25 (0, 0)) (by (with_reducible repeat (first | refine blk_drewN ?_ _ | refine blk_drew ?_ | refine blk_alloc ?_ _)); exact BK436.out) hb); have n5_ := Aside0.mk (blk_below (g := gb449) (o := .cells #[.int .i8 t443, .int .i8 t444, .slice Ao23 t445.length co23] 28 (0, 0)) (by (with_reducible repeat (first | refine blk_drewN ?_ _ | refine blk_drew ?_ | refine blk_alloc ?_ _)); exact BK449.out) hb); have n6_ := Aside0.mk (blk_below (g := gb455) (o := .cells #[.int .i8 t450, .int .i8 t451, .slice Ao30 t452.length co30] 28 (0, 0)) (by (with_reducible repeat (first | refine blk_drewN ?_ _ | refine blk_drew ?_ | refine blk_alloc ?_ _)); exact BK455.out) hb); have n7_ := Aside0.mk (blk_below (g := gb462) (o := .cells #[.int .i8 t456, .int .i8 t457, .slice Ao37 t458.length co37] 28 (0, 0)) (by (with_reducible repeat (first | refine blk_drewN ?_ _ | refine blk_drew ?_ | refine blk_alloc ?_ _)); exact BK462.out) hb); have n8_ := Aside0.mk (below_step (by repeat (first | (with_reducible first | exact HB.out | apply below_alloc | apply pw_below_drewN | apply below_drew1 | refine below_set ?_ GE436.out | refine below_set ?_ GE449.out | refine below_set ?_ GE455.out | refine below_set ?_ GE462.out) | exact HB.out)) hb); clear HO_450002; clear HO_456002; clear HO_463002; clear HO468; clear BK436; clear BK449; clear BK455; clear BK462; clear HB; have HO_450002 := n0_; have HO_456002 := n1_; have HO_463002 := n2_; have HO468 := n3_; have BK436 := n4_; have BK449 := n5_; have BK455 := n6_; have BK462 := n7_; have HB := n8_; clear n0_ n1_ n2_ n3_ n4_ n5_ n6_ n7_ n8_; (try clear hb); (try clear hb2); (try clear hk); (try clear hi)))
                  go_meet
                  case rel => exact ⟨_, ((t461 != t448)), (by first | rfl | (simp; done) | (simp [*]; done)), H', ⟨by have := HJ11.out; first | omega | exact Nat.le_refl _⟩, ⟨by (with_reducible repeat (first | apply Kd.R_alloc | apply Kd.R_drewN | apply Kd.R_drew)); exact Kd.R_mono HO_450002.out (fun _ hk => ⟨hk.1, hk.2.1⟩)⟩, ⟨by (with_reducible repeat (first | apply Kd.R_alloc | apply Kd.R_drewN | apply Kd.R_drew)); exact Kd.R_mono HO_456002.out (fun _ hk => ⟨hk.1.1, hk.1.2⟩)⟩, ⟨by (with_reducible repeat (first | apply Kd.R_alloc | apply Kd.R_drewN | apply Kd.R_drew)); exact Kd.R_mono HO_463002.out (fun _ hk => ⟨hk.1, hk.2.1⟩)⟩, ⟨by (with_reducible repeat (first | refine blk_drewN ?_ _ | refine blk_drew ?_ | refine blk_alloc ?_ _)); exact BK436.out⟩, ⟨by (with_reducible repeat (first | refine blk_drewN ?_ _ | refine blk_drew ?_ | refine blk_alloc ?_ _)); exact BK449.out⟩, ⟨by (with_reducible repeat (first | refine blk_drewN ?_ _ | refine blk_drew ?_ | refine blk_alloc ?_ _)); exact BK455.out⟩, ⟨by (with_reducible repeat (first | refine blk_drewN ?_ _ | refine blk_drew ?_ | refine blk_alloc ?_ _)); exact BK462.out⟩, ⟨by repeat (first | (with_reducible first | exact HB.out | apply below_alloc | apply pw_below_drewN | apply below_drew1 | refine below_set ?_ GE436.out | refine below_set ?_ GE449.out | refine below_set ?_ GE455.out | refine below_set ?_ GE462.out) | exact HB.out)⟩⟩
                · replace c73 := Bool.eq_false_iff.mpr c73
                  subst c73
                  have H1 : (laws_FnExactWithoutThing.j1 kj11 a1 t448 true a0_0 a0_1 l0_2 t443 t444 t445 t456 t457 t458) = some r := by rw [if_neg (show ¬ (false = true) by decide)] at H; exact H
                  clear H
                  have H := H1
                  clear H1
                  have H' := Aside0.mk H
                  clear H
                  have hnb82 := NB462_436.out
                  have hnc82 := NB436_462.out
                  have hnb83 := NB462_449.out
                  have hnc83 := NB449_462.out
                  have hnb84 := NB462_455.out
                  have hnc84 := NB455_462.out
                  have hcz85_0 : w70.cell? ⟨gb462, 0, none⟩ = some (.int .i8 t456) := (blk_cell BK462.out 0).trans rfl
                  have hcz85_1 : w70.cell? ⟨gb462, 1, none⟩ = some (.int .i8 t457) := (blk_cell BK462.out 1).trans rfl
                  have hcz85_2 : w70.cell? ⟨gb462, 2, none⟩ = some (.slice Ao37 t458.length co37) := (blk_cell BK462.out 2).trans rfl
                  have hfz85_0 := blk_frozen BK462.out 0
                  have hfz85_1 := blk_frozen BK462.out 1
                  have hfz85_2 := blk_frozen BK462.out 2
                  have hnb86 := NB449_436.out
                  have hnc86 := NB436_449.out
                  have hnb87 := NB449_455.out
                  have hnc87 := NB455_449.out
                  have hcz88_0 : w70.cell? ⟨gb449, 0, none⟩ = some (.int .i8 t443) := (blk_cell BK449.out 0).trans rfl
                  have hcz88_1 : w70.cell? ⟨gb449, 1, none⟩ = some (.int .i8 t444) := (blk_cell BK449.out 1).trans rfl
                  have hcz88_2 : w70.cell? ⟨gb449, 2, none⟩ = some (.slice Ao23 t445.length co23) := (blk_cell BK449.out 2).trans rfl
                  have hfz88_0 := blk_frozen BK449.out 0
                  have hfz88_1 := blk_frozen BK449.out 1
                  have hfz88_2 := blk_frozen BK449.out 2
                  go_wp2_with (first | (go_at_call 16; (with_reducible refine (laws_eqFerry.calls kj11 t456 t457 _ _ t458 t443 t444 _ _ t445 false _ ?side1 ?side2 ?side3 ?side4 A72.out).mono ?_); (case side1 => repeat (first | exact (Kd.R_reads' HO_463002.out).2.2 | (with_reducible refine Kd.C_alloc ?_ _) | (with_reducible refine Kd.C_drewN ?_ _) | (with_reducible refine Kd.C_drew ?_))); (case side2 => exact (Kd.R_reads' HO_463002.out).2.1); (case side3 => repeat (first | exact (Kd.R_reads' HO_450002.out).2.2 | (with_reducible refine Kd.C_alloc ?_ _) | (with_reducible refine Kd.C_drewN ?_ _) | (with_reducible refine Kd.C_drew ?_))); (case side4 => exact (Kd.R_reads' HO_450002.out).2.1); rintro e w89 ⟨rfl, hb⟩; have n0_ := Aside0.mk (Kd.R_below (by (with_reducible repeat (first | apply Kd.R_alloc | apply Kd.R_drewN | apply Kd.R_drew)); exact HO_450002.out) hb); have n1_ := Aside0.mk (Kd.R_below (by (with_reducible repeat (first | apply Kd.R_alloc | apply Kd.R_drewN | apply Kd.R_drew)); exact HO_456002.out) hb); have n2_ := Aside0.mk (Kd.R_below (by (with_reducible repeat (first | apply Kd.R_alloc | apply Kd.R_drewN | apply Kd.R_drew)); exact HO_463002.out) hb); have n3_ := Aside0.mk (Kd.R_below (by (with_reducible repeat (first | apply Kd.R_alloc | apply Kd.R_drewN | apply Kd.R_drew)); exact HO468.out) hb); have n4_ := Aside0.mk (blk_below (g := gb436) (o := .cells #[.int .i8 a0_0, .int .i8 a0_1, .slice A0_2 l0_2.length c0_2] 25 (0, 0)) (by (with_reducible repeat (first | refine blk_drewN ?_ _ | refine blk_drew ?_ | refine blk_alloc ?_ _)); exact BK436.out) hb); have n5_ := Aside0.mk (blk_below (g := gb449) (o := .cells #[.int .i8 t443, .int .i8 t444, .slice Ao23 t445.length co23] 28 (0, 0)) (by (with_reducible repeat (first | refine blk_drewN ?_ _ | refine blk_drew ?_ | refine blk_alloc ?_ _)); exact BK449.out) hb); have n6_ := Aside0.mk (blk_below (g := gb455) (o := .cells #[.int .i8 t450, .int .i8 t451, .slice Ao30 t452.length co30] 28 (0, 0)) (by (with_reducible repeat (first | refine blk_drewN ?_ _ | refine blk_drew ?_ | refine blk_alloc ?_ _)); exact BK455.out) hb); have n7_ := Aside0.mk (blk_below (g := gb462) (o := .cells #[.int .i8 t456, .int .i8 t457, .slice Ao37 t458.length co37] 28 (0, 0)) (by (with_reducible repeat (first | refine blk_drewN ?_ _ | refine blk_drew ?_ | refine blk_alloc ?_ _)); exact BK462.out) hb); have n8_ := Aside0.mk (below_step (by repeat (first | (with_reducible first | exact HB.out | apply below_alloc | apply pw_below_drewN | apply below_drew1 | refine below_set ?_ GE436.out | refine below_set ?_ GE449.out | refine below_set ?_ GE455.out | refine below_set ?_ GE462.out) | exact HB.out)) hb); clear HO_450002; clear HO_456002; clear HO_463002; clear HO468; clear BK436; clear BK449; clear BK455; clear BK462; clear HB; have HO_450002 := n0_; have HO_456002 := n1_; have HO_463002 := n2_; have HO468 := n3_; have BK436 := n4_; have BK449 := n5_; have BK455 := n6_; have BK462 := n7_; have HB := n8_; clear n0_ n1_ n2_ n3_ n4_ n5_ n6_ n7_ n8_; (try clear hb); (try clear hb2); (try clear hk); (try clear hi)))
                  go_meet
                  case rel => exact ⟨_, (true), (by first | rfl | (simp; done) | (simp [*]; done)), H', ⟨by have := HJ11.out; first | omega | exact Nat.le_refl _⟩, ⟨by (with_reducible repeat (first | apply Kd.R_alloc | apply Kd.R_drewN | apply Kd.R_drew)); exact Kd.R_mono HO_450002.out (fun _ hk => ⟨hk.1, hk.2.1⟩)⟩, ⟨by (with_reducible repeat (first | apply Kd.R_alloc | apply Kd.R_drewN | apply Kd.R_drew)); exact Kd.R_mono HO_456002.out (fun _ hk => ⟨hk.1.1, hk.1.2⟩)⟩, ⟨by (with_reducible repeat (first | apply Kd.R_alloc | apply Kd.R_drewN | apply Kd.R_drew)); exact Kd.R_mono HO_463002.out (fun _ hk => ⟨hk.1, hk.2.1⟩)⟩, ⟨by (with_reducible repeat (first | refine blk_drewN ?_ _ | refine blk_drew ?_ | refine blk_alloc ?_ _)); exact BK436.out⟩, ⟨by (with_reducible repeat (first | refine blk_drewN ?_ _ | refine blk_drew ?_ | refine blk_alloc ?_ _)); exact BK449.out⟩, ⟨by (with_reducible repeat (first | refine blk_drewN ?_ _ | refine blk_drew ?_ | refine blk_alloc ?_ _)); exact BK455.out⟩, ⟨by (with_reducible repeat (first | refine blk_drewN ?_ _ | refine blk_drew ?_ | refine blk_alloc ?_ _)); exact BK462.out⟩, ⟨by repeat (first | (with_reducible first | exact HB.out | apply below_alloc | apply pw_below_drewN | apply below_drew1 | refine below_set ?_ GE436.out | refine below_set ?_ GE449.out | refine below_set ?_ GE455.out | refine below_set ?_ GE462.out) | exact HB.out)⟩⟩
            case rest =>
              clear HC61
              try clear c1
              try clear c2
              try clear p2
              try clear c3
              try clear c4
              try clear c4b0
              try clear c5
              try clear c6
              try clear c7
              try clear c8
              try clear c10
              try clear c12
              try clear c14
              try clear c16
              try clear c21
              try clear c27
              try clear c28
              try clear c30
              try clear c31
              try clear c32
              try clear c33
              try clear c34
              try clear c35
              try clear c39
              try clear c40
              try clear c41
              try clear c42
              try clear c44
              try clear c45
              try clear c48
              try clear c49
              try clear c50
              try clear c52
              try clear c53
              try clear c56
              try clear c59
              try clear c66
              try clear c67
              try clear c68
              try clear c71
              try clear c71b0
              try clear c73
              try clear c74
              try clear c75
              try clear c76
              try clear c78
              try clear c79
              try clear c82
              try clear c83
              try clear c84
              try clear c86
              try clear c87
              try clear hcz14_0
              try clear hcz14_1
              try clear hcz14_2
              try clear hcz16_0
              try clear hcz16_1
              try clear hcz16_2
              try clear hcz22_0
              try clear hcz22_1
              try clear hcz22_2
              try clear hcz24_0
              try clear hcz24_1
              try clear hcz24_2
              try clear hcz29_0
              try clear hcz29_1
              try clear hcz29_2
              try clear hcz36_0
              try clear hcz36_1
              try clear hcz36_2
              try clear hcz43_0
              try clear hcz43_1
              try clear hcz43_2
              try clear hcz46_0
              try clear hcz46_1
              try clear hcz46_2
              try clear hcz51_0
              try clear hcz51_1
              try clear hcz51_2
              try clear hcz54_0
              try clear hcz54_1
              try clear hcz54_2
              try clear hcz69_0
              try clear hcz69_1
              try clear hcz69_2
              try clear hcz6_0
              try clear hcz6_1
              try clear hcz6_2
              try clear hcz77_0
              try clear hcz77_1
              try clear hcz77_2
              try clear hcz80_0
              try clear hcz80_1
              try clear hcz80_2
              try clear hcz85_0
              try clear hcz85_1
              try clear hcz85_2
              try clear hcz88_0
              try clear hcz88_1
              try clear hcz88_2
              try clear hfz14_0
              try clear hfz14_1
              try clear hfz14_2
              try clear hfz16_0
              try clear hfz16_1
              try clear hfz16_2
              try clear hfz22_0
              try clear hfz22_1
              try clear hfz22_2
              try clear hfz24_0
              try clear hfz24_1
              try clear hfz24_2
              try clear hfz29_0
              try clear hfz29_1
              try clear hfz29_2
              try clear hfz36_0
              try clear hfz36_1
              try clear hfz36_2
              try clear hfz43_0
              try clear hfz43_1
              try clear hfz43_2
              try clear hfz46_0
              try clear hfz46_1
              try clear hfz46_2
              try clear hfz51_0
              try clear hfz51_1
              try clear hfz51_2
              try clear hfz54_0
              try clear hfz54_1
              try clear hfz54_2
              try clear hfz69_0
              try clear hfz69_1
              try clear hfz69_2
              try clear hfz6_0
              try clear hfz6_1
              try clear hfz6_2
              try clear hfz77_0
              try clear hfz77_1
              try clear hfz77_2
              try clear hfz80_0
              try clear hfz80_1
              try clear hfz80_2
              try clear hfz85_0
              try clear hfz85_1
              try clear hfz85_2
              try clear hfz88_0
              try clear hfz88_1
              try clear hfz88_2
              try clear p2
              obtain ⟨kq, x65_60, rfl, HA, HJ60, HO_450002, HO_456002, HO_463002, BK436, BK449, BK455, BK462, HB⟩ := hcut
              have hl456002_60 := (Kd.R_reads' HO_456002.out).1
              rw [hl456002_60] at HO_456002
              (try simp only [hl456002_60])
              (try simp only [hl456002_60] at BK436)
              (try simp only [hl456002_60] at BK449)
              (try simp only [hl456002_60] at BK455)
              (try simp only [hl456002_60] at BK462)
              (try simp only [hl456002_60] at HO_450002)
              (try simp only [hl456002_60] at HO_463002)
              cases kq with
              | zero => exact absurd HA.out (by simp [laws_FnExactWithoutThing.j1])
              | succ kj60 =>
                have H := HA.out
                clear HA
                simp only [laws_FnExactWithoutThing.j1] at H
                by_cases c90 : x65_60 = true
                · subst c90
                  have H1 : (some false) = some r := by rw [if_pos rfl] at H; exact H
                  clear H
                  have H := H1
                  clear H1
                  obtain rfl := Option.some.inj H
                  go_wp2
                  go_ret
                  exact ⟨by first | rfl | (simp [errW_none, errW_some] <;> rfl) | (simp [*, errW_none, errW_some] <;> rfl), by repeat (first | (with_reducible first | exact HB.out | apply below_alloc | apply pw_below_drewN | apply below_drew1 | refine below_set ?_ GE436.out | refine below_set ?_ GE449.out | refine below_set ?_ GE455.out | refine below_set ?_ GE462.out) | exact HB.out)⟩
                · replace c90 := Bool.eq_false_iff.mpr c90
                  subst c90
                  have H1 : ((laws_markFerry.f kj60 t456 t457 t458 1).bind fun bt473 => ((laws_heldFerry.f kj60 t456 t457 bt473.2 1).bind fun t475 => (if t475 < 0 then (some false) else (if t475 = bt473.1 then ((laws_toFerry.f kj60 a0_0 a0_1 l0_2).bind fun bt476 => ((impl_WithoutThing.f kj60 bt476.1 bt476.2.1 bt476.2.2 a1).bind fun bt481 => ((laws_eqFerry.f kj60 bt481.1 bt481.2.1 bt481.2.2.1 t443 t444 t445).bind fun t488 => (if t488 = true then (laws_FnExactWithoutThing.j2 kj60 bt473.1 (bt481.2.2.2 != t448) t456 t457 bt473.2) else (laws_FnExactWithoutThing.j2 kj60 bt473.1 true t456 t457 bt473.2))))) else (some false))))) = some r := by rw [if_neg (show ¬ (false = true) by decide)] at H; exact H
                  clear H
                  have H := H1
                  clear H1
                  replace H := Option.bind_eq_some_iff.mp H
                  obtain ⟨⟨t473, t474⟩, A910, H⟩ := H
                  replace H : ((laws_heldFerry.f kj60 t456 t457 t474 1).bind fun t475 => (if t475 < 0 then (some false) else (if t475 = t473 then ((laws_toFerry.f kj60 a0_0 a0_1 l0_2).bind fun bt476 => ((impl_WithoutThing.f kj60 bt476.1 bt476.2.1 bt476.2.2 a1).bind fun bt481 => ((laws_eqFerry.f kj60 bt481.1 bt481.2.1 bt481.2.2.1 t443 t444 t445).bind fun t488 => (if t488 = true then (laws_FnExactWithoutThing.j2 kj60 t473 (bt481.2.2.2 != t448) t456 t457 t474) else (laws_FnExactWithoutThing.j2 kj60 t473 true t456 t457 t474))))) else (some false)))) = some r := H
                  have A91 := Aside0.mk A910
                  clear A910
                  replace H := Option.bind_eq_some_iff.mp H
                  obtain ⟨t475, A920, H⟩ := H
                  replace H : (if t475 < 0 then (some false) else (if t475 = t473 then ((laws_toFerry.f kj60 a0_0 a0_1 l0_2).bind fun bt476 => ((impl_WithoutThing.f kj60 bt476.1 bt476.2.1 bt476.2.2 a1).bind fun bt481 => ((laws_eqFerry.f kj60 bt481.1 bt481.2.1 bt481.2.2.1 t443 t444 t445).bind fun t488 => (if t488 = true then (laws_FnExactWithoutThing.j2 kj60 t473 (bt481.2.2.2 != t448) t456 t457 t474) else (laws_FnExactWithoutThing.j2 kj60 t473 true t456 t457 t474))))) else (some false))) = some r := H
                  have A92 := Aside0.mk A920
                  clear A920
                  by_cases c93 : t475 < 0
                  · rw [if_pos c93] at H
                    have c93b0 : decide (t475 < 0) = true := decide_eq_true c93
                    clear c93
                    obtain rfl := Option.some.inj H
                    have hnb94 := NB462_436.out
                    have hnc94 := NB436_462.out
                    have hnb95 := NB462_449.out
                    have hnc95 := NB449_462.out
                    have hnb96 := NB462_455.out
                    have hnc96 := NB455_462.out
                    have hcz97_0 : wc.cell? ⟨gb462, 0, none⟩ = some (.int .i8 t456) := (blk_cell BK462.out 0).trans rfl
                    have hcz97_1 : wc.cell? ⟨gb462, 1, none⟩ = some (.int .i8 t457) := (blk_cell BK462.out 1).trans rfl
                    have hcz97_2 : wc.cell? ⟨gb462, 2, none⟩ = some (.slice Ao37 t458.length co37) := (blk_cell BK462.out 2).trans rfl
                    have hfz97_0 := blk_frozen BK462.out 0
                    have hfz97_1 := blk_frozen BK462.out 1
                    have hfz97_2 := blk_frozen BK462.out 2
                    go_wp2_with (first | ((with_reducible refine gate_callee (f := 32) rfl ?_); refine goesL_ (some 68) rfl rfl Try.func32 (by kernel_rfl) rfl #[.agg #[.int .i8 t456, .int .i8 t457, .slice Ao37 t458.length co37], .int .i64 1] rfl (by (try simp only [List.map_toArray, List.map_cons, List.map_nil]); first | done | rfl | (simp only [List.length_drop, List.length_take]; rfl)) ?_; (with_reducible refine (laws_markFerry.calls kj60 t456 t457 (fun k_ => some k_ = (.slice Ao37 t458.length co37 : Value).ownBlock) (.slice Ao37 t458.length co37) t458 1 t473 t474 w _ ?side1 ?side2 A91.out).mono ?_); (case side1 => repeat (first | (with_reducible first | exact HB.out | apply below_alloc | apply pw_below_drewN | apply below_drew1 | refine below_set ?_ GE436.out | refine below_set ?_ GE449.out | refine below_set ?_ GE455.out | refine below_set ?_ GE462.out) | exact HB.out)); (case side2 => exact Kd.R_tight rfl HO_463002.out); rintro e w98 ⟨rfl, hy0, hb, hkp⟩; refine ⟨_, rfl, ?_⟩; have n0_ := Aside0.mk (Kd.R_mono (ok' := fun k_ => some k_ ≠ (.slice Ao30 t471.length co30 : Value).ownBlock ∧ some k_ ≠ (.slice Ao37 t458.length co37 : Value).ownBlock) (Kd.R_keptB (HO_450002.out) hkp (fun k_ hk_ hs_ => (hk_.2) hs_)) (fun k_ hk_ => ⟨hk_.1.1, hk_.1.2⟩)); have n1_ := Aside0.mk (Kd.R_mono (ok' := fun k_ => some k_ ≠ (.slice Ao23 t445.length co23 : Value).ownBlock ∧ some k_ ≠ (.slice Ao37 t458.length co37 : Value).ownBlock) (Kd.R_keptB (HO_456002.out) hkp (fun k_ hk_ hs_ => (hk_.2) hs_)) (fun k_ hk_ => ⟨hk_.1.1, hk_.1.2⟩)); have n2_ := Aside0.mk (Kd.R_reok rfl hy0 (fun k_ e_ => HO_463002.out.1 k_ e_)); have n3_ := Aside0.mk (blk_kept (by (with_reducible repeat (first | refine blk_drewN ?_ _ | refine blk_drew ?_ | refine blk_alloc ?_ _)); exact BK436.out) hkp (fun hs_ => (fun e_ => (Kd.R_ne HO_463002.out BK436.out (by decide)) e_) hs_)); have n4_ := Aside0.mk (blk_kept (by (with_reducible repeat (first | refine blk_drewN ?_ _ | refine blk_drew ?_ | refine blk_alloc ?_ _)); exact BK449.out) hkp (fun hs_ => (fun e_ => (Kd.R_ne HO_463002.out BK449.out (by decide)) e_) hs_)); have n5_ := Aside0.mk (blk_kept (by (with_reducible repeat (first | refine blk_drewN ?_ _ | refine blk_drew ?_ | refine blk_alloc ?_ _)); exact BK455.out) hkp (fun hs_ => (fun e_ => (Kd.R_ne HO_463002.out BK455.out (by decide)) e_) hs_)); have n6_ := Aside0.mk (blk_kept (by (with_reducible repeat (first | refine blk_drewN ?_ _ | refine blk_drew ?_ | refine blk_alloc ?_ _)); exact BK462.out) hkp (fun hs_ => (fun e_ => (Kd.R_ne HO_463002.out BK462.out (by decide)) e_) hs_)); have n7_ := Aside0.mk (hb); clear HO_450002; clear HO_456002; clear HO_463002; clear BK436; clear BK449; clear BK455; clear BK462; clear HB; have HO_450002 := n0_; have HO_456002 := n1_; have HO_463002 := n2_; have BK436 := n3_; have BK449 := n4_; have BK455 := n5_; have BK462 := n6_; have HB := n7_; clear n0_ n1_ n2_ n3_ n4_ n5_ n6_ n7_; (try clear hb); (try clear hkp); (try clear hy0); have hcz99_0 : w98.cell? ⟨gb462, 0, none⟩ = some (.int .i8 t456) := (blk_cell BK462.out 0).trans rfl; have hcz99_1 : w98.cell? ⟨gb462, 1, none⟩ = some (.int .i8 t457) := (blk_cell BK462.out 1).trans rfl; have hcz99_2 : w98.cell? ⟨gb462, 2, none⟩ = some (.slice Ao37 t458.length co37) := (blk_cell BK462.out 2).trans rfl; have hfz99_0 := blk_frozen BK462.out 0; have hfz99_1 := blk_frozen BK462.out 1; have hfz99_2 := blk_frozen BK462.out 2) | ((with_reducible refine gate_callee (f := 33) rfl ?_); refine goesL_ (some 71) rfl rfl Try.func33 (by kernel_rfl) rfl #[.agg #[.int .i8 t456, .int .i8 t457, .slice Ao37 t474.length co37], .int .i64 1] rfl (by (try simp only [List.map_toArray, List.map_cons, List.map_nil]); first | done | (rw [show t474.length = t458.length from (Kd.R_reads' HO_463002.out).1.symm] <;> rfl) | rfl | (simp only [List.length_drop, List.length_take]; rfl)) ?_; (with_reducible refine (laws_heldFerry.calls kj60 t456 t457 _ _ t474 1 t475 _ ?side1 ?side2 A92.out).mono ?_); (case side1 => repeat (first | exact (Kd.R_reads' HO_463002.out).2.2 | (with_reducible refine Kd.C_alloc ?_ _) | (with_reducible refine Kd.C_drewN ?_ _) | (with_reducible refine Kd.C_drew ?_))); (case side2 => rw [show t474.length = t458.length from (Kd.R_reads' HO_463002.out).1.symm]; exact (Kd.R_reads' HO_463002.out).2.1); rintro e w100 ⟨rfl, hb⟩; refine ⟨_, rfl, ?_⟩; have n0_ := Aside0.mk (Kd.R_below (by (with_reducible repeat (first | apply Kd.R_alloc | apply Kd.R_drewN | apply Kd.R_drew)); exact HO_450002.out) hb); have n1_ := Aside0.mk (Kd.R_below (by (with_reducible repeat (first | apply Kd.R_alloc | apply Kd.R_drewN | apply Kd.R_drew)); exact HO_456002.out) hb); have n2_ := Aside0.mk (Kd.R_below (by (with_reducible repeat (first | apply Kd.R_alloc | apply Kd.R_drewN | apply Kd.R_drew)); exact HO_463002.out) hb); have n3_ := Aside0.mk (blk_below (g := gb436) (o := .cells #[.int .i8 a0_0, .int .i8 a0_1, .slice A0_2 l0_2.length c0_2] 25 (0, 0)) (by (with_reducible repeat (first | refine blk_drewN ?_ _ | refine blk_drew ?_ | refine blk_alloc ?_ _)); exact BK436.out) hb); have n4_ := Aside0.mk (blk_below (g := gb449) (o := .cells #[.int .i8 t443, .int .i8 t444, .slice Ao23 t445.length co23] 28 (0, 0)) (by (with_reducible repeat (first | refine blk_drewN ?_ _ | refine blk_drew ?_ | refine blk_alloc ?_ _)); exact BK449.out) hb); have n5_ := Aside0.mk (blk_below (g := gb455) (o := .cells #[.int .i8 t450, .int .i8 t451, .slice Ao30 t471.length co30] 28 (0, 0)) (by (with_reducible repeat (first | refine blk_drewN ?_ _ | refine blk_drew ?_ | refine blk_alloc ?_ _)); exact BK455.out) hb); have n6_ := Aside0.mk (blk_below (g := gb462) (o := .cells #[.int .i8 t456, .int .i8 t457, .slice Ao37 t458.length co37] 28 (0, 0)) (by (with_reducible repeat (first | refine blk_drewN ?_ _ | refine blk_drew ?_ | refine blk_alloc ?_ _)); exact BK462.out) hb); have n7_ := Aside0.mk (below_step (by repeat (first | (with_reducible first | exact HB.out | apply below_alloc | apply pw_below_drewN | apply below_drew1 | refine below_set ?_ GE436.out | refine below_set ?_ GE449.out | refine below_set ?_ GE455.out | refine below_set ?_ GE462.out) | exact HB.out)) hb); clear HO_450002; clear HO_456002; clear HO_463002; clear BK436; clear BK449; clear BK455; clear BK462; clear HB; have HO_450002 := n0_; have HO_456002 := n1_; have HO_463002 := n2_; have BK436 := n3_; have BK449 := n4_; have BK455 := n5_; have BK462 := n6_; have HB := n7_; clear n0_ n1_ n2_ n3_ n4_ n5_ n6_ n7_; (try clear hb); (try clear hb2); (try clear hk); (try clear hi)))
                    go_ret
                    exact ⟨by first | rfl | (simp [errW_none, errW_some] <;> rfl) | (simp [*, errW_none, errW_some] <;> rfl), by repeat (first | (with_reducible first | exact HB.out | apply below_alloc | apply pw_below_drewN | apply below_drew1 | refine below_set ?_ GE436.out | refine below_set ?_ GE449.out | refine below_set ?_ GE455.out | refine below_set ?_ GE462.out) | exact HB.out)⟩
                  · rw [if_neg c93] at H
                    have c93b0 : decide (t475 < 0) = false := decide_eq_false c93
                    clear c93
                    by_cases c101 : t475 = t473
                    · rw [if_pos c101] at H
                      have c101b0 : (t475 == t473) = true := beq_iff_eq.mpr c101
                      have c101b1 : (t475 != t473) = false := bne_eq_false_iff_eq.mpr c101
                      clear c101
                      replace H := Option.bind_eq_some_iff.mp H
                      obtain ⟨⟨t476, t477, t478⟩, A1020, H⟩ := H
                      replace H : ((impl_WithoutThing.f kj60 t476 t477 t478 a1).bind fun bt481 => ((laws_eqFerry.f kj60 bt481.1 bt481.2.1 bt481.2.2.1 t443 t444 t445).bind fun t488 => (if t488 = true then (laws_FnExactWithoutThing.j2 kj60 t473 (bt481.2.2.2 != t448) t456 t457 t474) else (laws_FnExactWithoutThing.j2 kj60 t473 true t456 t457 t474)))) = some r := H
                      have A102 := Aside0.mk A1020
                      clear A1020
                      replace H := Option.bind_eq_some_iff.mp H
                      obtain ⟨⟨t481, t482, t483, t486⟩, A1030, H⟩ := H
                      replace H : ((laws_eqFerry.f kj60 t481 t482 t483 t443 t444 t445).bind fun t488 => (if t488 = true then (laws_FnExactWithoutThing.j2 kj60 t473 (t486 != t448) t456 t457 t474) else (laws_FnExactWithoutThing.j2 kj60 t473 true t456 t457 t474))) = some r := H
                      have A103 := Aside0.mk A1030
                      clear A1030
                      have HC104 := Aside0.mk H
                      clear H
                      have hnb105 := NB462_436.out
                      have hnc105 := NB436_462.out
                      have hnb106 := NB462_449.out
                      have hnc106 := NB449_462.out
                      have hnb107 := NB462_455.out
                      have hnc107 := NB455_462.out
                      have hcz108_0 : wc.cell? ⟨gb462, 0, none⟩ = some (.int .i8 t456) := (blk_cell BK462.out 0).trans rfl
                      have hcz108_1 : wc.cell? ⟨gb462, 1, none⟩ = some (.int .i8 t457) := (blk_cell BK462.out 1).trans rfl
                      have hcz108_2 : wc.cell? ⟨gb462, 2, none⟩ = some (.slice Ao37 t458.length co37) := (blk_cell BK462.out 2).trans rfl
                      have hfz108_0 := blk_frozen BK462.out 0
                      have hfz108_1 := blk_frozen BK462.out 1
                      have hfz108_2 := blk_frozen BK462.out 2
                      go_upto_region 25 with (first | ((with_reducible refine gate_callee (f := 32) rfl ?_); refine goesL_ (some 68) rfl rfl Try.func32 (by kernel_rfl) rfl #[.agg #[.int .i8 t456, .int .i8 t457, .slice Ao37 t458.length co37], .int .i64 1] rfl (by (try simp only [List.map_toArray, List.map_cons, List.map_nil]); first | done | rfl | (simp only [List.length_drop, List.length_take]; rfl)) ?_; (with_reducible refine (laws_markFerry.calls kj60 t456 t457 (fun k_ => some k_ = (.slice Ao37 t458.length co37 : Value).ownBlock) (.slice Ao37 t458.length co37) t458 1 t473 t474 w _ ?side1 ?side2 A91.out).mono ?_); (case side1 => repeat (first | (with_reducible first | exact HB.out | apply below_alloc | apply pw_below_drewN | apply below_drew1 | refine below_set ?_ GE436.out | refine below_set ?_ GE449.out | refine below_set ?_ GE455.out | refine below_set ?_ GE462.out) | exact HB.out)); (case side2 => exact Kd.R_tight rfl HO_463002.out); rintro e w109 ⟨rfl, hy0, hb, hkp⟩; refine ⟨_, rfl, ?_⟩; have n0_ := Aside0.mk (Kd.R_mono (ok' := fun k_ => some k_ ≠ (.slice Ao30 t471.length co30 : Value).ownBlock ∧ some k_ ≠ (.slice Ao37 t458.length co37 : Value).ownBlock) (Kd.R_keptB (HO_450002.out) hkp (fun k_ hk_ hs_ => (hk_.2) hs_)) (fun k_ hk_ => ⟨hk_.1.1, hk_.1.2⟩)); have n1_ := Aside0.mk (Kd.R_mono (ok' := fun k_ => some k_ ≠ (.slice Ao23 t445.length co23 : Value).ownBlock ∧ some k_ ≠ (.slice Ao37 t458.length co37 : Value).ownBlock) (Kd.R_keptB (HO_456002.out) hkp (fun k_ hk_ hs_ => (hk_.2) hs_)) (fun k_ hk_ => ⟨hk_.1.1, hk_.1.2⟩)); have n2_ := Aside0.mk (Kd.R_reok rfl hy0 (fun k_ e_ => HO_463002.out.1 k_ e_)); have n3_ := Aside0.mk (blk_kept (by (with_reducible repeat (first | refine blk_drewN ?_ _ | refine blk_drew ?_ | refine blk_alloc ?_ _)); exact BK436.out) hkp (fun hs_ => (fun e_ => (Kd.R_ne HO_463002.out BK436.out (by decide)) e_) hs_)); have n4_ := Aside0.mk (blk_kept (by (with_reducible repeat (first | refine blk_drewN ?_ _ | refine blk_drew ?_ | refine blk_alloc ?_ _)); exact BK449.out) hkp (fun hs_ => (fun e_ => (Kd.R_ne HO_463002.out BK449.out (by decide)) e_) hs_)); have n5_ := Aside0.mk (blk_kept (by (with_reducible repeat (first | refine blk_drewN ?_ _ | refine blk_drew ?_ | refine blk_alloc ?_ _)); exact BK455.out) hkp (fun hs_ => (fun e_ => (Kd.R_ne HO_463002.out BK455.out (by decide)) e_) hs_)); have n6_ := Aside0.mk (blk_kept (by (with_reducible repeat (first | refine blk_drewN ?_ _ | refine blk_drew ?_ | refine blk_alloc ?_ _)); exact BK462.out) hkp (fun hs_ => (fun e_ => (Kd.R_ne HO_463002.out BK462.out (by decide)) e_) hs_)); have n7_ := Aside0.mk (hb); clear HO_450002; clear HO_456002; clear HO_463002; clear BK436; clear BK449; clear BK455; clear BK462; clear HB; have HO_450002 := n0_; have HO_456002 := n1_; have HO_463002 := n2_; have BK436 := n3_; have BK449 := n4_; have BK455 := n5_; have BK462 := n6_; have HB := n7_; clear n0_ n1_ n2_ n3_ n4_ n5_ n6_ n7_; (try clear hb); (try clear hkp); (try clear hy0); have hcz110_0 : w109.cell? ⟨gb462, 0, none⟩ = some (.int .i8 t456) := (blk_cell BK462.out 0).trans rfl; have hcz110_1 : w109.cell? ⟨gb462, 1, none⟩ = some (.int .i8 t457) := (blk_cell BK462.out 1).trans rfl; have hcz110_2 : w109.cell? ⟨gb462, 2, none⟩ = some (.slice Ao37 t458.length co37) := (blk_cell BK462.out 2).trans rfl; have hfz110_0 := blk_frozen BK462.out 0; have hfz110_1 := blk_frozen BK462.out 1; have hfz110_2 := blk_frozen BK462.out 2) | ((with_reducible refine gate_callee (f := 33) rfl ?_); refine goesL_ (some 71) rfl rfl Try.func33 (by kernel_rfl) rfl #[.agg #[.int .i8 t456, .int .i8 t457, .slice Ao37 t474.length co37], .int .i64 1] rfl (by (try simp only [List.map_toArray, List.map_cons, List.map_nil]); first | done | (rw [show t474.length = t458.length from (Kd.R_reads' HO_463002.out).1.symm] <;> rfl) | rfl | (simp only [List.length_drop, List.length_take]; rfl)) ?_; (with_reducible refine (laws_heldFerry.calls kj60 t456 t457 _ _ t474 1 t475 _ ?side1 ?side2 A92.out).mono ?_); (case side1 => repeat (first | exact (Kd.R_reads' HO_463002.out).2.2 | (with_reducible refine Kd.C_alloc ?_ _) | (with_reducible refine Kd.C_drewN ?_ _) | (with_reducible refine Kd.C_drew ?_))); (case side2 => rw [show t474.length = t458.length from (Kd.R_reads' HO_463002.out).1.symm]; exact (Kd.R_reads' HO_463002.out).2.1); rintro e w111 ⟨rfl, hb⟩; refine ⟨_, rfl, ?_⟩; have n0_ := Aside0.mk (Kd.R_below (by (with_reducible repeat (first | apply Kd.R_alloc | apply Kd.R_drewN | apply Kd.R_drew)); exact HO_450002.out) hb); have n1_ := Aside0.mk (Kd.R_below (by (with_reducible repeat (first | apply Kd.R_alloc | apply Kd.R_drewN | apply Kd.R_drew)); exact HO_456002.out) hb); have n2_ := Aside0.mk (Kd.R_below (by (with_reducible repeat (first | apply Kd.R_alloc | apply Kd.R_drewN | apply Kd.R_drew)); exact HO_463002.out) hb); have n3_ := Aside0.mk (blk_below (g := gb436) (o := .cells #[.int .i8 a0_0, .int .i8 a0_1, .slice A0_2 l0_2.length c0_2] 25 (0, 0)) (by (with_reducible repeat (first | refine blk_drewN ?_ _ | refine blk_drew ?_ | refine blk_alloc ?_ _)); exact BK436.out) hb); have n4_ := Aside0.mk (blk_below (g := gb449) (o := .cells #[.int .i8 t443, .int .i8 t444, .slice Ao23 t445.length co23] 28 (0, 0)) (by (with_reducible repeat (first | refine blk_drewN ?_ _ | refine blk_drew ?_ | refine blk_alloc ?_ _)); exact BK449.out) hb); have n5_ := Aside0.mk (blk_below (g := gb455) (o := .cells #[.int .i8 t450, .int .i8 t451, .slice Ao30 t471.length co30] 28 (0, 0)) (by (with_reducible repeat (first | refine blk_drewN ?_ _ | refine blk_drew ?_ | refine blk_alloc ?_ _)); exact BK455.out) hb); have n6_ := Aside0.mk (blk_below (g := gb462) (o := .cells #[.int .i8 t456, .int .i8 t457, .slice Ao37 t458.length co37] 28 (0, 0)) (by (with_reducible repeat (first | refine blk_drewN ?_ _ | refine blk_drew ?_ | refine blk_alloc ?_ _)); exact BK462.out) hb); have n7_ := Aside0.mk (below_step (by repeat (first | (with_reducible first | exact HB.out | apply below_alloc | apply pw_below_drewN | apply below_drew1 | refine below_set ?_ GE436.out | refine below_set ?_ GE449.out | refine below_set ?_ GE455.out | refine below_set ?_ GE462.out) | exact HB.out)) hb); clear HO_450002; clear HO_456002; clear HO_463002; clear BK436; clear BK449; clear BK455; clear BK462; clear HB; have HO_450002 := n0_; have HO_456002 := n1_; have HO_463002 := n2_; have BK436 := n3_; have BK449 := n4_; have BK455 := n5_; have BK462 := n6_; have HB := n7_; clear n0_ n1_ n2_ n3_ n4_ n5_ n6_ n7_; (try clear hb); (try clear hb2); (try clear hk); (try clear hi); have hnb112 := NB436_449.out; have hnc112 := NB449_436.out; have hnb113 := NB436_455.out; have hnc113 := NB455_436.out; have hcz114_0 : w111.cell? ⟨gb436, 0, none⟩ = some (.int .i8 a0_0) := (blk_cell BK436.out 0).trans rfl; have hcz114_1 : w111.cell? ⟨gb436, 1, none⟩ = some (.int .i8 a0_1) := (blk_cell BK436.out 1).trans rfl; have hcz114_2 : w111.cell? ⟨gb436, 2, none⟩ = some (.slice A0_2 l0_2.length c0_2) := (blk_cell BK436.out 2).trans rfl; have hfz114_0 := blk_frozen BK436.out 0; have hfz114_1 := blk_frozen BK436.out 1; have hfz114_2 := blk_frozen BK436.out 2) | ((with_reducible refine gate_callee (f := 14) rfl ?_); refine goesL_ (some 79) rfl rfl Try.func14 (by kernel_rfl) rfl #[.agg #[.int .i8 a0_0, .int .i8 a0_1, .slice A0_2 l0_2.length c0_2]] rfl (by (try simp only [List.map_toArray, List.map_cons, List.map_nil]); first | done | rfl | (simp only [List.length_drop, List.length_take]; rfl)) ?_; (with_reducible refine (laws_toFerry.calls kj60 a0_0 a0_1 _ _ l0_2 t476 t477 t478 _ ?side1 ?side2 A102.out).mono ?_); (case side1 => repeat (first | exact (Kd.C_below HR0_2.out HB.out) | (with_reducible refine Kd.C_alloc ?_ _) | (with_reducible refine Kd.C_drewN ?_ _) | (with_reducible refine Kd.C_drew ?_))); (case side2 => exact HC0_2.out); rintro e w115 ⟨v479, rfl, ho0, hb⟩; refine ⟨_, rfl, ?_⟩; have n0_ := Aside0.mk (Kd.R_elder' (by (with_reducible repeat (first | apply Kd.R_alloc | apply Kd.R_drewN | apply Kd.R_drew)); exact HO_450002.out) (Kd.R_base ho0) hb); have n1_ := Aside0.mk (Kd.R_elder' (by (with_reducible repeat (first | apply Kd.R_alloc | apply Kd.R_drewN | apply Kd.R_drew)); exact HO_456002.out) (Kd.R_base ho0) hb); have n2_ := Aside0.mk (Kd.R_elder' (by (with_reducible repeat (first | apply Kd.R_alloc | apply Kd.R_drewN | apply Kd.R_drew)); exact HO_463002.out) (Kd.R_base ho0) hb); have n3_ := Aside0.mk (Kd.R_lower (Kd.R_new' (Kd.R_new' (Kd.R_new' ho0 (Kd.R_lt (by (with_reducible repeat (first | apply Kd.R_alloc | apply Kd.R_drewN | apply Kd.R_drew)); exact HO_450002.out))) (Kd.R_lt (by (with_reducible repeat (first | apply Kd.R_alloc | apply Kd.R_drewN | apply Kd.R_drew)); exact HO_456002.out))) (Kd.R_lt (by (with_reducible repeat (first | apply Kd.R_alloc | apply Kd.R_drewN | apply Kd.R_drew)); exact HO_463002.out))) (below_size (by repeat (first | (with_reducible first | exact HB.out | apply below_alloc | apply pw_below_drewN | apply below_drew1 | refine below_set ?_ GE436.out | refine below_set ?_ GE449.out | refine below_set ?_ GE455.out | refine below_set ?_ GE462.out) | exact HB.out)))); have n4_ := Aside0.mk (blk_below (g := gb436) (o := .cells #[.int .i8 a0_0, .int .i8 a0_1, .slice A0_2 l0_2.length c0_2] 25 (0, 0)) (by (with_reducible repeat (first | refine blk_drewN ?_ _ | refine blk_drew ?_ | refine blk_alloc ?_ _)); exact BK436.out) hb); have n5_ := Aside0.mk (blk_below (g := gb449) (o := .cells #[.int .i8 t443, .int .i8 t444, .slice Ao23 t445.length co23] 28 (0, 0)) (by (with_reducible repeat (first | refine blk_drewN ?_ _ | refine blk_drew ?_ | refine blk_alloc ?_ _)); exact BK449.out) hb); have n6_ := Aside0.mk (blk_below (g := gb455) (o := .cells #[.int .i8 t450, .int .i8 t451, .slice Ao30 t471.length co30] 28 (0, 0)) (by (with_reducible repeat (first | refine blk_drewN ?_ _ | refine blk_drew ?_ | refine blk_alloc ?_ _)); exact BK455.out) hb); have n7_ := Aside0.mk (blk_below (g := gb462) (o := .cells #[.int .i8 t456, .int .i8 t457, .slice Ao37 t458.length co37] 28 (0, 0)) (by (with_reducible repeat (first | refine blk_drewN ?_ _ | refine blk_drew ?_ | refine blk_alloc ?_ _)); exact BK462.out) hb); have n8_ := Aside0.mk (below_step (by repeat (first | (with_reducible first | exact HB.out | apply below_alloc | apply pw_below_drewN | apply below_drew1 | refine below_set ?_ GE436.out | refine below_set ?_ GE449.out | refine below_set ?_ GE455.out | refine below_set ?_ GE462.out) | exact HB.out)) hb); clear HO_450002; clear HO_456002; clear HO_463002; clear BK436; clear BK449; clear BK455; clear BK462; clear HB; have HO_450002 := n0_; have HO_456002 := n1_; have HO_463002 := n2_; have HO480 := n3_; have BK436 := n4_; have BK449 := n5_; have BK455 := n6_; have BK462 := n7_; have HB := n8_; clear n0_ n1_ n2_ n3_ n4_ n5_ n6_ n7_ n8_; (try clear hb); (try clear hb2); (try clear hk); (try clear hi); (try clear ho0); obtain ⟨Ao116, co116, eo116⟩ := Kd.R_slice HO480.out; subst eo116) | ((with_reducible refine gate_callee (f := 31) rfl ?_); refine goesL_ (some 81) rfl rfl Try.func31 (by kernel_rfl) rfl #[.agg #[.int .i8 t476, .int .i8 t477, .slice Ao116 t478.length co116], .int .i64 a1] rfl (by (try simp only [List.map_toArray, List.map_cons, List.map_nil]); first | done | rfl | (simp only [List.length_drop, List.length_take]; rfl)) ?_; (with_reducible refine (impl_WithoutThing.calls kj60 t476 t477 _ _ t478 a1 t481 t482 t483 t486 _ ?side1 ?side2 A103.out).mono ?_); (case side1 => repeat (first | exact (Kd.R_reads' HO480.out).2.2 | (with_reducible refine Kd.C_alloc ?_ _) | (with_reducible refine Kd.C_drewN ?_ _) | (with_reducible refine Kd.C_drew ?_))); (case side2 => exact (Kd.R_reads' HO480.out).2.1); rintro e w117 ⟨v484, rfl, ho0, hb⟩; refine ⟨_, rfl, ?_⟩; have n0_ := Aside0.mk (Kd.R_elder' (by (with_reducible repeat (first | apply Kd.R_alloc | apply Kd.R_drewN | apply Kd.R_drew)); exact HO_450002.out) (Kd.R_base ho0) hb); have n1_ := Aside0.mk (Kd.R_elder' (by (with_reducible repeat (first | apply Kd.R_alloc | apply Kd.R_drewN | apply Kd.R_drew)); exact HO_456002.out) (Kd.R_base ho0) hb); have n2_ := Aside0.mk (Kd.R_elder' (by (with_reducible repeat (first | apply Kd.R_alloc | apply Kd.R_drewN | apply Kd.R_drew)); exact HO_463002.out) (Kd.R_base ho0) hb); have n3_ := Aside0.mk (Kd.R_elder' (by (with_reducible repeat (first | apply Kd.R_alloc | apply Kd.R_drewN | apply Kd.R_drew)); exact HO480.out) (Kd.R_base ho0) hb); have n4_ := Aside0.mk (Kd.R_lower (Kd.R_new' (Kd.R_new' (Kd.R_new' (Kd.R_new' ho0 (Kd.R_lt (by (with_reducible repeat (first | apply Kd.R_alloc | apply Kd.R_drewN | apply Kd.R_drew)); exact HO_450002.out))) (Kd.R_lt (by (with_reducible repeat (first | apply Kd.R_alloc | apply Kd.R_drewN | apply Kd.R_drew)); exact HO_456002.out))) (Kd.R_lt (by (with_reducible repeat (first | apply Kd.R_alloc | apply Kd.R_drewN | apply Kd.R_drew)); exact HO_463002.out))) (Kd.R_lt (by (with_reducible repeat (first | apply Kd.R_alloc | apply Kd.R_drewN | apply Kd.R_drew)); exact HO480.out))) (below_size (by repeat (first | (with_reducible first | exact HB.out | apply below_alloc | apply pw_below_drewN | apply below_drew1 | refine below_set ?_ GE436.out | refine below_set ?_ GE449.out | refine below_set ?_ GE455.out | refine below_set ?_ GE462.out) | exact HB.out)))); have n5_ := Aside0.mk (blk_below (g := gb436) (o := .cells #[.int .i8 a0_0, .int .i8 a0_1, .slice A0_2 l0_2.length c0_2] 25 (0, 0)) (by (with_reducible repeat (first | refine blk_drewN ?_ _ | refine blk_drew ?_ | refine blk_alloc ?_ _)); exact BK436.out) hb); have n6_ := Aside0.mk (blk_below (g := gb449) (o := .cells #[.int .i8 t443, .int .i8 t444, .slice Ao23 t445.length co23] 28 (0, 0)) (by (with_reducible repeat (first | refine blk_drewN ?_ _ | refine blk_drew ?_ | refine blk_alloc ?_ _)); exact BK449.out) hb); have n7_ := Aside0.mk (blk_below (g := gb455) (o := .cells #[.int .i8 t450, .int .i8 t451, .slice Ao30 t471.length co30] 28 (0, 0)) (by (with_reducible repeat (first | refine blk_drewN ?_ _ | refine blk_drew ?_ | refine blk_alloc ?_ _)); exact BK455.out) hb); have n8_ := Aside0.mk (blk_below (g := gb462) (o := .cells #[.int .i8 t456, .int .i8 t457, .slice Ao37 t458.length co37] 28 (0, 0)) (by (with_reducible repeat (first | refine blk_drewN ?_ _ | refine blk_drew ?_ | refine blk_alloc ?_ _)); exact BK462.out) hb); have n9_ := Aside0.mk (below_step (by repeat (first | (with_reducible first | exact HB.out | apply below_alloc | apply pw_below_drewN | apply below_drew1 | refine below_set ?_ GE436.out | refine below_set ?_ GE449.out | refine below_set ?_ GE455.out | refine below_set ?_ GE462.out) | exact HB.out)) hb); clear HO_450002; clear HO_456002; clear HO_463002; clear HO480; clear BK436; clear BK449; clear BK455; clear BK462; clear HB; have HO_450002 := n0_; have HO_456002 := n1_; have HO_463002 := n2_; have HO480 := n3_; have HO485 := n4_; have BK436 := n5_; have BK449 := n6_; have BK455 := n7_; have BK462 := n8_; have HB := n9_; clear n0_ n1_ n2_ n3_ n4_ n5_ n6_ n7_ n8_ n9_; (try clear hb); (try clear hb2); (try clear hk); (try clear hi); (try clear ho0)) | ((with_reducible refine gate_dst (N := 14) rfl ?_); refine box_event ?hg (N := 14) ?hd (cs := #[.int .i8 0, .int .i8 0, .slice none 0 0]) (t := 28) ?hr ?_; (case hd => rfl); (case hg => rfl); (case hr => first | (go_simp; done) | (go_simp; rfl)); intro gb487 hg w118 hbox hb; have n0_ := Aside0.mk (Kd.R_below (by (with_reducible repeat (first | apply Kd.R_alloc | apply Kd.R_drewN | apply Kd.R_drew)); exact HO_450002.out) hb); have n1_ := Aside0.mk (Kd.R_below (by (with_reducible repeat (first | apply Kd.R_alloc | apply Kd.R_drewN | apply Kd.R_drew)); exact HO_456002.out) hb); have n2_ := Aside0.mk (Kd.R_below (by (with_reducible repeat (first | apply Kd.R_alloc | apply Kd.R_drewN | apply Kd.R_drew)); exact HO_463002.out) hb); have n3_ := Aside0.mk (Kd.R_below (by (with_reducible repeat (first | apply Kd.R_alloc | apply Kd.R_drewN | apply Kd.R_drew)); exact HO480.out) hb); have n4_ := Aside0.mk (Kd.R_below (by (with_reducible repeat (first | apply Kd.R_alloc | apply Kd.R_drewN | apply Kd.R_drew)); exact HO485.out) hb); have n5_ := Aside0.mk (blk_below (g := gb436) (o := .cells #[.int .i8 a0_0, .int .i8 a0_1, .slice A0_2 l0_2.length c0_2] 25 (0, 0)) (by (with_reducible repeat (first | refine blk_drewN ?_ _ | refine blk_drew ?_ | refine blk_alloc ?_ _)); exact BK436.out) hb); have n6_ := Aside0.mk (blk_below (g := gb449) (o := .cells #[.int .i8 t443, .int .i8 t444, .slice Ao23 t445.length co23] 28 (0, 0)) (by (with_reducible repeat (first | refine blk_drewN ?_ _ | refine blk_drew ?_ | refine blk_alloc ?_ _)); exact BK449.out) hb); have n7_ := Aside0.mk (blk_below (g := gb455) (o := .cells #[.int .i8 t450, .int .i8 t451, .slice Ao30 t471.length co30] 28 (0, 0)) (by (with_reducible repeat (first | refine blk_drewN ?_ _ | refine blk_drew ?_ | refine blk_alloc ?_ _)); exact BK455.out) hb); have n8_ := Aside0.mk (blk_below (g := gb462) (o := .cells #[.int .i8 t456, .int .i8 t457, .slice Ao37 t458.length co37] 28 (0, 0)) (by (with_reducible repeat (first | refine blk_drewN ?_ _ | refine blk_drew ?_ | refine blk_alloc ?_ _)); exact BK462.out) hb); have n9_ := Aside0.mk (below_step (by repeat (first | (with_reducible first | exact HB.out | apply below_alloc | apply pw_below_drewN | apply below_drew1 | refine below_set ?_ GE436.out | refine below_set ?_ GE449.out | refine below_set ?_ GE455.out | refine below_set ?_ GE462.out) | exact HB.out)) hb); have n10_ := Aside0.mk (hbox); have n11_ := Aside0.mk ((by rw [hg]; exact (below_size (by repeat (first | (with_reducible first | exact HB.out | apply below_alloc | apply pw_below_drewN | apply below_drew1 | refine below_set ?_ GE436.out | refine below_set ?_ GE449.out | refine below_set ?_ GE455.out | refine below_set ?_ GE462.out) | exact HB.out))) : w.heap.size ≤ gb487)); have n12_ := Aside0.mk ((by rw [hg]; exact (below_size (by repeat (first | (with_reducible first | exact HB.out | apply below_alloc | apply pw_below_drewN | apply below_drew1 | refine below_set ?_ GE436.out | refine below_set ?_ GE449.out | refine below_set ?_ GE455.out | refine below_set ?_ GE462.out) | exact HB.out))) : w.heap.size ≤ gb487)); have n13_ := Aside0.mk ((by rw [hg]; exact Nat.ne_of_lt (blk_lt (g := gb436) (o := .cells #[.int .i8 a0_0, .int .i8 a0_1, .slice A0_2 l0_2.length c0_2] 25 (0, 0)) (by (with_reducible repeat (first | refine blk_drewN ?_ _ | refine blk_drew ?_ | refine blk_alloc ?_ _)); exact BK436.out)) : gb436 ≠ gb487)); have n14_ := Aside0.mk ((by rw [hg]; exact Nat.ne_of_gt (blk_lt (g := gb436) (o := .cells #[.int .i8 a0_0, .int .i8 a0_1, .slice A0_2 l0_2.length c0_2] 25 (0, 0)) (by (with_reducible repeat (first | refine blk_drewN ?_ _ | refine blk_drew ?_ | refine blk_alloc ?_ _)); exact BK436.out)) : gb487 ≠ gb436)); have n15_ := Aside0.mk ((by rw [hg]; exact Nat.ne_of_lt (blk_lt (g := gb449) (o := .cells #[.int .i8 t443, .int .i8 t444, .slice Ao23 t445.length co23] 28 (0, 0)) (by (with_reducible repeat (first | refine blk_drewN ?_ _ | refine blk_drew ?_ | refine blk_alloc ?_ _)); exact BK449.out)) : gb449 ≠ gb487)); have n16_ := Aside0.mk ((by rw [hg]; exact Nat.ne_of_gt (blk_lt (g := gb449) (o := .cells #[.int .i8 t443, .int .i8 t444, .slice Ao23 t445.length co23] 28 (0, 0)) (by (with_reducible repeat (first | refine blk_drewN ?_ _ | refine blk_drew ?_ | refine blk_alloc ?_ _)); exact BK449.out)) : gb487 ≠ gb449)); have n17_ := Aside0.mk ((by rw [hg]; exact Nat.ne_of_lt (blk_lt (g := gb455) (o := .cells #[.int .i8 t450, .int .i8 t451, .slice Ao30 t471.length co30] 28 (0, 0)) (by (with_reducible repeat (first | refine blk_drewN ?_ _ | refine blk_drew ?_ | refine blk_alloc ?_ _)); exact BK455.out)) : gb455 ≠ gb487)); have n18_ := Aside0.mk ((by rw [hg]; exact Nat.ne_of_gt (blk_lt (g := gb455) (o := .cells #[.int .i8 t450, .int .i8 t451, .slice Ao30 t471.length co30] 28 (0, 0)) (by (with_reducible repeat (first | refine blk_drewN ?_ _ | refine blk_drew ?_ | refine blk_alloc ?_ _)); exact BK455.out)) : gb487 ≠ gb455)); have n19_ := Aside0.mk ((by rw [hg]; exact Nat.ne_of_lt (blk_lt (g := gb462) (o := .cells #[.int .i8 t456, .int .i8 t457, .slice Ao37 t458.length co37] 28 (0, 0)) (by (with_reducible repeat (first | refine blk_drewN ?_ _ | refine blk_drew ?_ | refine blk_alloc ?_ _)); exact BK462.out)) : gb462 ≠ gb487)); have n20_ := Aside0.mk ((by rw [hg]; exact Nat.ne_of_gt (blk_lt (g := gb462) (o := .cells #[.int .i8 t456, .int .i8 t457, .slice Ao37 t458.length co37] 28 (0, 0)) (by (with_reducible repeat (first | refine blk_drewN ?_ _ | refine blk_drew ?_ | refine blk_alloc ?_ _)); exact BK462.out)) : gb487 ≠ gb462)); clear HO_450002; clear HO_456002; clear HO_463002; clear HO480; clear HO485; clear BK436; clear BK449; clear BK455; clear BK462; clear HB; have HO_450002 := n0_; have HO_456002 := n1_; have HO_463002 := n2_; have HO480 := n3_; have HO485 := n4_; have BK436 := n5_; have BK449 := n6_; have BK455 := n7_; have BK462 := n8_; have HB := n9_; have BK487 := n10_; have GW487 := n11_; have GE487 := n12_; have NB436_487 := n13_; have NB487_436 := n14_; have NB449_487 := n15_; have NB487_449 := n16_; have NB455_487 := n17_; have NB487_455 := n18_; have NB462_487 := n19_; have NB487_462 := n20_; clear n0_ n1_ n2_ n3_ n4_ n5_ n6_ n7_ n8_ n9_ n10_ n11_ n12_ n13_ n14_ n15_ n16_ n17_ n18_ n19_ n20_; clear hb hbox hg; have hnb119 := NB487_436.out; have hnc119 := NB436_487.out; have hnb120 := NB487_449.out; have hnc120 := NB449_487.out; have hnb121 := NB487_455.out; have hnc121 := NB455_487.out; have hnb122 := NB487_462.out; have hnc122 := NB462_487.out; have hcz123_0 : w118.cell? ⟨gb487, 0, none⟩ = some (.int .i8 0) := (blk_cell BK487.out 0).trans rfl; have hcz123_1 : w118.cell? ⟨gb487, 1, none⟩ = some (.int .i8 0) := (blk_cell BK487.out 1).trans rfl; have hcz123_2 : w118.cell? ⟨gb487, 2, none⟩ = some (.slice none 0 0) := (blk_cell BK487.out 2).trans rfl; have hfz123_0 := blk_frozen BK487.out 0; have hfz123_1 := blk_frozen BK487.out 1; have hfz123_2 := blk_frozen BK487.out 2; obtain ⟨Ao124, co124, eo124⟩ := Kd.R_slice HO485.out; subst eo124))
                      (try simp only [Act.put, List.setIfInBounds_toArray, List.set_cons_zero, List.set_cons_succ])
                      go_cut [92] (fun v92 wc => ∃ (kq : Nat) (x92_103 : Bool), v92 = .bool x92_103 ∧ Aside0 (laws_FnExactWithoutThing.j2 kq t473 x92_103 t456 t457 t474 = some r) ∧ Aside0 (kq ≤ kj60) ∧ Aside0 (Kd.R (Kd.int .u16) 35 wc w.heap.size (fun k_ => some k_ ≠ ((.slice Ao30 t471.length co30) : Value).ownBlock ∧ some k_ ≠ ((.slice Ao37 t458.length co37) : Value).ownBlock ∧ some k_ ≠ ((.slice Ao124 t483.length co124) : Value).ownBlock) (.slice Ao23 t445.length co23) t445) ∧ Aside0 (Kd.R (Kd.int .u16) 35 wc w.heap.size (fun k_ => some k_ ≠ ((.slice Ao23 t445.length co23) : Value).ownBlock ∧ some k_ ≠ ((.slice Ao37 t458.length co37) : Value).ownBlock ∧ some k_ ≠ ((.slice Ao124 t483.length co124) : Value).ownBlock) (.slice Ao30 t471.length co30) t471) ∧ Aside0 (Kd.R (Kd.int .u16) 35 wc w.heap.size (fun k_ => some k_ ≠ ((.slice Ao23 t445.length co23) : Value).ownBlock ∧ some k_ ≠ ((.slice Ao30 t471.length co30) : Value).ownBlock ∧ some k_ ≠ ((.slice Ao124 t483.length co124) : Value).ownBlock) (.slice Ao37 t458.length co37) t474) ∧ Aside0 (Kd.R (Kd.int .u16) 35 wc w.heap.size (fun k_ => some k_ ≠ ((.slice Ao23 t445.length co23) : Value).ownBlock ∧ some k_ ≠ ((.slice Ao30 t471.length co30) : Value).ownBlock ∧ some k_ ≠ ((.slice Ao37 t458.length co37) : Value).ownBlock) (.slice Ao124 t483.length co124) t483) ∧ Aside0 (wc.heap[gb436]? = some (.cells #[.int .i8 a0_0, .int .i8 a0_1, (.slice A0_2 l0_2.length c0_2)] 25 (0, 0))) ∧ Aside0 (wc.heap[gb449]? = some (.cells #[.int .i8 t443, .int .i8 t444, (.slice Ao23 t445.length co23)] 28 (0, 0))) ∧ Aside0 (wc.heap[gb455]? = some (.cells #[.int .i8 t450, .int .i8 t451, (.slice Ao30 t471.length co30)] 28 (0, 0))) ∧ Aside0 (wc.heap[gb462]? = some (.cells #[.int .i8 t456, .int .i8 t457, (.slice Ao37 t458.length co37)] 28 (0, 0))) ∧ Aside0 (wc.heap[gb487]? = some (.cells #[.int .i8 t481, .int .i8 t482, (.slice Ao124 t483.length co124)] 28 (0, 0))) ∧ Aside0 (Below w.heap.size w wc))
                      case first =>
                        have H := HC104.out
                        clear HC104
                        replace H := Option.bind_eq_some_iff.mp H
                        obtain ⟨t488, A1250, H⟩ := H
                        replace H : (if t488 = true then (laws_FnExactWithoutThing.j2 kj60 t473 (t486 != t448) t456 t457 t474) else (laws_FnExactWithoutThing.j2 kj60 t473 true t456 t457 t474)) = some r := H
                        have A125 := Aside0.mk A1250
                        clear A1250
                        by_cases c126 : t488 = true
                        · subst c126
                          have H1 : (laws_FnExactWithoutThing.j2 kj60 t473 (t486 != t448) t456 t457 t474) = some r := by rw [if_pos rfl] at H; exact H
                          clear H
                          have H := H1
                          clear H1
                          have H' := Aside0.mk H
                          clear H
                          have hnb127 := NB487_436.out
                          have hnc127 := NB436_487.out
                          have hnb128 := NB487_449.out
                          have hnc128 := NB449_487.out
                          have hnb129 := NB487_455.out
                          have hnc129 := NB455_487.out
                          have hnb130 := NB487_462.out
                          have hnc130 := NB462_487.out
                          have hcz131_0 : w118.cell? ⟨gb487, 0, none⟩ = some (.int .i8 0) := (blk_cell BK487.out 0).trans rfl
                          have hcz131_1 : w118.cell? ⟨gb487, 1, none⟩ = some (.int .i8 0) := (blk_cell BK487.out 1).trans rfl
                          have hcz131_2 : w118.cell? ⟨gb487, 2, none⟩ = some (.slice none 0 0) := (blk_cell BK487.out 2).trans rfl
                          have hfz131_0 := blk_frozen BK487.out 0
                          have hfz131_1 := blk_frozen BK487.out 1
                          have hfz131_2 := blk_frozen BK487.out 2
                          have hnb132 := NB449_436.out
                          have hnc132 := NB436_449.out
                          have hnb133 := NB449_455.out
                          have hnc133 := NB455_449.out
                          have hnb134 := NB449_462.out
                          have hnc134 := NB462_449.out
                          have hcz135_0 : w118.cell? ⟨gb449, 0, none⟩ = some (.int .i8 t443) := (blk_cell BK449.out 0).trans rfl
                          have hcz135_1 : w118.cell? ⟨gb449, 1, none⟩ = some (.int .i8 t444) := (blk_cell BK449.out 1).trans rfl
                          have hcz135_2 : w118.cell? ⟨gb449, 2, none⟩ = some (.slice Ao23 t445.length co23) := (blk_cell BK449.out 2).trans rfl
                          have hfz135_0 := blk_frozen BK449.out 0
                          have hfz135_1 := blk_frozen BK449.out 1
                          have hfz135_2 := blk_frozen BK449.out 2
                          go_wp2_with (first | ((with_reducible refine gate_callee (f := 16) rfl ?_); refine goesL_ (some 86) rfl rfl Try.func16 (by kernel_rfl) rfl #[.agg #[.int .i8 t481, .int .i8 t482, .slice Ao124 t483.length co124], .agg #[.int .i8 t443, .int .i8 t444, .slice Ao23 t445.length co23]] rfl (by (try simp only [List.map_toArray, List.map_cons, List.map_nil]); first | done | rfl | (simp only [List.length_drop, List.length_take]; rfl)) ?_; (with_reducible refine (laws_eqFerry.calls kj60 t481 t482 _ _ t483 t443 t444 _ _ t445 true _ ?side1 ?side2 ?side3 ?side4 A125.out).mono ?_); (case side1 => refine (Kd.R_reads' (e := 35) (base := w.heap.size) (ok := fun k_ => ((((True ∧ some k_ ≠ (.slice Ao23 t445.length co23 : Value).ownBlock) ∧ some k_ ≠ (.slice Ao30 t471.length co30 : Value).ownBlock) ∧ some k_ ≠ (.slice Ao37 t458.length co37 : Value).ownBlock) ∧ some k_ ≠ (.slice Ao116 t478.length co116 : Value).ownBlock)) (n := t483.length) (c := co124) ?_).2.2; exact (by (with_reducible repeat (first | apply Kd.R_alloc | apply Kd.R_drewN | apply Kd.R_drew)); exact (Kd.R_mono (Kd.R_far (p := ⟨gb487, 2, none⟩) (Kd.R_far (p := ⟨gb487, 1, none⟩) (Kd.R_far (p := ⟨gb487, 0, none⟩) (Kd.R_types HO485.out BK487.out (by decide)) (fun _ hk => hk.2) (.int .i8 t481)) (fun _ hk => hk.2) (.int .i8 t482)) (fun _ hk => hk.2) (.slice Ao124 t483.length co124)) (fun _ h_ => h_.1)))); (case side2 => exact (Kd.R_reads' HO485.out).2.1); (case side3 => refine (Kd.R_reads' (e := 35) (base := w.heap.size) (ok := fun k_ => (((some k_ ≠ (.slice Ao30 t471.length co30 : Value).ownBlock ∧ some k_ ≠ (.slice Ao37 t458.length co37 : Value).ownBlock) ∧ some k_ ≠ (.slice Ao116 t478.length co116 : Value).ownBlock) ∧ some k_ ≠ (.slice Ao124 t483.length co124 : Value).ownBlock)) (n := t445.length) (c := co23) ?_).2.2; exact (by (with_reducible repeat (first | apply Kd.R_alloc | apply Kd.R_drewN | apply Kd.R_drew)); exact (Kd.R_mono (Kd.R_far (p := ⟨gb487, 2, none⟩) (Kd.R_far (p := ⟨gb487, 1, none⟩) (Kd.R_far (p := ⟨gb487, 0, none⟩) (Kd.R_types HO_450002.out BK487.out (by decide)) (fun _ hk => hk.2) (.int .i8 t481)) (fun _ hk => hk.2) (.int .i8 t482)) (fun _ hk => hk.2) (.slice Ao124 t483.length co124)) (fun _ h_ => h_.1)))); (case side4 => exact (Kd.R_reads' HO_450002.out).2.1); rintro e w136 ⟨rfl, hb⟩; refine ⟨_, rfl, ?_⟩; have n0_ := Aside0.mk (Kd.R_below (by (with_reducible repeat (first | apply Kd.R_alloc | apply Kd.R_drewN | apply Kd.R_drew)); exact (Kd.R_mono (Kd.R_far (p := ⟨gb487, 2, none⟩) (Kd.R_far (p := ⟨gb487, 1, none⟩) (Kd.R_far (p := ⟨gb487, 0, none⟩) (Kd.R_types HO_450002.out BK487.out (by decide)) (fun _ hk => hk.2) (.int .i8 t481)) (fun _ hk => hk.2) (.int .i8 t482)) (fun _ hk => hk.2) (.slice Ao124 t483.length co124)) (fun _ h_ => h_.1))) hb); have n1_ := Aside0.mk (Kd.R_below (by (with_reducible repeat (first | apply Kd.R_alloc | apply Kd.R_drewN | apply Kd.R_drew)); exact (Kd.R_mono (Kd.R_far (p := ⟨gb487, 2, none⟩) (Kd.R_far (p := ⟨gb487, 1, none⟩) (Kd.R_far (p := ⟨gb487, 0, none⟩) (Kd.R_types HO_456002.out BK487.out (by decide)) (fun _ hk => hk.2) (.int .i8 t481)) (fun _ hk => hk.2) (.int .i8 t482)) (fun _ hk => hk.2) (.slice Ao124 t483.length co124)) (fun _ h_ => h_.1))) hb); have n2_ := Aside0.mk (Kd.R_below (by (with_reducible repeat (first | apply Kd.R_alloc | apply Kd.R_drewN | apply Kd.R_drew)); exact (Kd.R_mono (Kd.R_far (p := ⟨gb487, 2, none⟩) (Kd.R_far (p := ⟨gb487, 1, none⟩) (Kd.R_far (p := ⟨gb487, 0, none⟩) (Kd.R_types HO_463002.out BK487.out (by decide)) (fun _ hk => hk.2) (.int .i8 t481)) (fun _ hk => hk.2) (.int .i8 t482)) (fun _ hk => hk.2) (.slice Ao124 t483.length co124)) (fun _ h_ => h_.1))) hb); have n3_ := Aside0.mk (Kd.R_below (by (with_reducible repeat (first | apply Kd.R_alloc | apply Kd.R_drewN | apply Kd.R_drew)); exact (Kd.R_mono (Kd.R_far (p := ⟨gb487, 2, none⟩) (Kd.R_far (p := ⟨gb487, 1, none⟩) (Kd.R_far (p := ⟨gb487, 0, none⟩) (Kd.R_types HO480.out BK487.out (by decide)) (fun _ hk => hk.2) (.int .i8 t481)) (fun _ hk => hk.2) (.int .i8 t482)) (fun _ hk => hk.2) (.slice Ao124 t483.length co124)) (fun _ h_ => h_.1))) hb); have n4_ := Aside0.mk (Kd.R_below (by (with_reducible repeat (first | apply Kd.R_alloc | apply Kd.R_drewN | apply Kd.R_drew)); exact (Kd.R_mono (Kd.R_far (p := ⟨gb487, 2, none⟩) (Kd.R_far (p := ⟨gb487, 1, none⟩) (Kd.R_far (p := ⟨gb487, 0, none⟩) (Kd.R_types HO485.out BK487.out (by decide)) (fun _ hk => hk.2) (.int .i8 t481)) (fun _ hk => hk.2) (.int .i8 t482)) (fun _ hk => hk.2) (.slice Ao124 t483.length co124)) (fun _ h_ => h_.1))) hb); have n5_ := Aside0.mk (blk_below (g := gb436) (o := .cells #[.int .i8 a0_0, .int .i8 a0_1, .slice A0_2 l0_2.length c0_2] 25 (0, 0)) (by (with_reducible repeat (first | refine blk_drewN ?_ _ | refine blk_drew ?_ | refine blk_alloc ?_ _)); refine blk_far ?_ NB436_487.out _; (with_reducible repeat (first | refine blk_drewN ?_ _ | refine blk_drew ?_ | refine blk_alloc ?_ _)); refine blk_far ?_ NB436_487.out _; (with_reducible repeat (first | refine blk_drewN ?_ _ | refine blk_drew ?_ | refine blk_alloc ?_ _)); refine blk_far ?_ NB436_487.out _; (with_reducible repeat (first | refine blk_drewN ?_ _ | refine blk_drew ?_ | refine blk_alloc ?_ _)); exact BK436.out) hb); have n6_ := Aside0.mk (blk_below (g := gb449) (o := .cells #[.int .i8 t443, .int .i8 t444, .slice Ao23 t445.length co23] 28 (0, 0)) (by (with_reducible repeat (first | refine blk_drewN ?_ _ | refine blk_drew ?_ | refine blk_alloc ?_ _)); refine blk_far ?_ NB449_487.out _; (with_reducible repeat (first | refine blk_drewN ?_ _ | refine blk_drew ?_ | refine blk_alloc ?_ _)); refine blk_far ?_ NB449_487.out _; (with_reducible repeat (first | refine blk_drewN ?_ _ | refine blk_drew ?_ | refine blk_alloc ?_ _)); refine blk_far ?_ NB449_487.out _; (with_reducible repeat (first | refine blk_drewN ?_ _ | refine blk_drew ?_ | refine blk_alloc ?_ _)); exact BK449.out) hb); have n7_ := Aside0.mk (blk_below (g := gb455) (o := .cells #[.int .i8 t450, .int .i8 t451, .slice Ao30 t471.length co30] 28 (0, 0)) (by (with_reducible repeat (first | refine blk_drewN ?_ _ | refine blk_drew ?_ | refine blk_alloc ?_ _)); refine blk_far ?_ NB455_487.out _; (with_reducible repeat (first | refine blk_drewN ?_ _ | refine blk_drew ?_ | refine blk_alloc ?_ _)); refine blk_far ?_ NB455_487.out _; (with_reducible repeat (first | refine blk_drewN ?_ _ | refine blk_drew ?_ | refine blk_alloc ?_ _)); refine blk_far ?_ NB455_487.out _; (with_reducible repeat (first | refine blk_drewN ?_ _ | refine blk_drew ?_ | refine blk_alloc ?_ _)); exact BK455.out) hb); have n8_ := Aside0.mk (blk_below (g := gb462) (o := .cells #[.int .i8 t456, .int .i8 t457, .slice Ao37 t458.length co37] 28 (0, 0)) (by (with_reducible repeat (first | refine blk_drewN ?_ _ | refine blk_drew ?_ | refine blk_alloc ?_ _)); refine blk_far ?_ NB462_487.out _; (with_reducible repeat (first | refine blk_drewN ?_ _ | refine blk_drew ?_ | refine blk_alloc ?_ _)); refine blk_far ?_ NB462_487.out _; (with_reducible repeat (first | refine blk_drewN ?_ _ | refine blk_drew ?_ | refine blk_alloc ?_ _)); refine blk_far ?_ NB462_487.out _; (with_reducible repeat (first | refine blk_drewN ?_ _ | refine blk_drew ?_ | refine blk_alloc ?_ _)); exact BK462.out) hb); have n9_ := Aside0.mk (blk_below (g := gb487) (o := .cells #[.int .i8 t481, .int .i8 t482, .slice Ao124 t483.length co124] 28 (0, 0)) (by (with_reducible repeat (first | refine blk_drewN ?_ _ | refine blk_drew ?_ | refine blk_alloc ?_ _)); refine blk_put (cs := #[.int .i8 t481, .int .i8 t482, .slice none 0 0]) ?_ 2 _ rfl; (with_reducible repeat (first | refine blk_drewN ?_ _ | refine blk_drew ?_ | refine blk_alloc ?_ _)); refine blk_put (cs := #[.int .i8 t481, .int .i8 0, .slice none 0 0]) ?_ 1 _ rfl; (with_reducible repeat (first | refine blk_drewN ?_ _ | refine blk_drew ?_ | refine blk_alloc ?_ _)); refine blk_put (cs := #[.int .i8 0, .int .i8 0, .slice none 0 0]) ?_ 0 _ rfl; (with_reducible repeat (first | refine blk_drewN ?_ _ | refine blk_drew ?_ | refine blk_alloc ?_ _)); exact BK487.out) hb); have n10_ := Aside0.mk (below_step (by repeat (first | (with_reducible first | exact HB.out | apply below_alloc | apply pw_below_drewN | apply below_drew1 | refine below_set ?_ GE436.out | refine below_set ?_ GE449.out | refine below_set ?_ GE455.out | refine below_set ?_ GE462.out | refine below_set ?_ GE487.out) | exact HB.out)) hb); clear HO_450002; clear HO_456002; clear HO_463002; clear HO480; clear HO485; clear BK436; clear BK449; clear BK455; clear BK462; clear BK487; clear HB; have HO_450002 := n0_; have HO_456002 := n1_; have HO_463002 := n2_; have HO480 := n3_; have HO485 := n4_; have BK436 := n5_; have BK449 := n6_; have BK455 := n7_; have BK462 := n8_; have BK487 := n9_; have HB := n10_; clear n0_ n1_ n2_ n3_ n4_ n5_ n6_ n7_ n8_ n9_ n10_; (try clear hb); (try clear hb2); (try clear hk); (try clear hi)))
                          go_meet
                          case rel => exact ⟨_, ((t486 != t448)), (by first | rfl | (simp; done) | (simp [*]; done)), H', ⟨by have := HJ11.out; have := HJ60.out; first | omega | exact Nat.le_refl _⟩, ⟨by (try simp only [hl456002_60]); (with_reducible repeat (first | apply Kd.R_alloc | apply Kd.R_drewN | apply Kd.R_drew)); exact Kd.R_mono HO_450002.out (fun _ hk => ⟨hk.1.1.1, ⟨hk.1.1.2, hk.2⟩⟩)⟩, ⟨by (try simp only [hl456002_60]); (with_reducible repeat (first | apply Kd.R_alloc | apply Kd.R_drewN | apply Kd.R_drew)); exact Kd.R_mono HO_456002.out (fun _ hk => ⟨hk.1.1.1, ⟨hk.1.1.2, hk.2⟩⟩)⟩, ⟨by (try simp only [hl456002_60]); (with_reducible repeat (first | apply Kd.R_alloc | apply Kd.R_drewN | apply Kd.R_drew)); exact Kd.R_mono HO_463002.out (fun _ hk => ⟨hk.1.1.1, ⟨hk.1.1.2, hk.2⟩⟩)⟩, ⟨by (try simp only [hl456002_60]); (with_reducible repeat (first | apply Kd.R_alloc | apply Kd.R_drewN | apply Kd.R_drew)); exact Kd.R_mono HO485.out (fun _ hk => ⟨hk.1.1.1.2, ⟨hk.1.1.2, hk.1.2⟩⟩)⟩, ⟨by (try simp only [hl456002_60]); (with_reducible repeat (first | refine blk_drewN ?_ _ | refine blk_drew ?_ | refine blk_alloc ?_ _)); exact BK436.out⟩, ⟨by (try simp only [hl456002_60]); (with_reducible repeat (first | refine blk_drewN ?_ _ | refine blk_drew ?_ | refine blk_alloc ?_ _)); exact BK449.out⟩, ⟨by (try simp only [hl456002_60]); (with_reducible repeat (first | refine blk_drewN ?_ _ | refine blk_drew ?_ | refine blk_alloc ?_ _)); exact BK455.out⟩, ⟨by (try simp only [hl456002_60]); (with_reducible repeat (first | refine blk_drewN ?_ _ | refine blk_drew ?_ | refine blk_alloc ?_ _)); exact BK462.out⟩, ⟨by (try simp only [hl456002_60]); (with_reducible repeat (first | refine blk_drewN ?_ _ | refine blk_drew ?_ | refine blk_alloc ?_ _)); exact BK487.out⟩, ⟨by repeat (first | (with_reducible first | exact HB.out | apply below_alloc | apply pw_below_drewN | apply below_drew1 | refine below_set ?_ GE436.out | refine below_set ?_ GE449.out | refine below_set ?_ GE455.out | refine below_set ?_ GE462.out | refine below_set ?_ GE487.out) | exact HB.out)⟩⟩
                        · replace c126 := Bool.eq_false_iff.mpr c126
                          subst c126
                          have H1 : (laws_FnExactWithoutThing.j2 kj60 t473 true t456 t457 t474) = some r := by rw [if_neg (show ¬ (false = true) by decide)] at H; exact H
                          clear H
                          have H := H1
                          clear H1
                          have H' := Aside0.mk H
                          clear H
                          have hnb137 := NB487_436.out
                          have hnc137 := NB436_487.out
                          have hnb138 := NB487_449.out
                          have hnc138 := NB449_487.out
                          have hnb139 := NB487_455.out
                          have hnc139 := NB455_487.out
                          have hnb140 := NB487_462.out
                          have hnc140 := NB462_487.out
                          have hcz141_0 : w118.cell? ⟨gb487, 0, none⟩ = some (.int .i8 0) := (blk_cell BK487.out 0).trans rfl
                          have hcz141_1 : w118.cell? ⟨gb487, 1, none⟩ = some (.int .i8 0) := (blk_cell BK487.out 1).trans rfl
                          have hcz141_2 : w118.cell? ⟨gb487, 2, none⟩ = some (.slice none 0 0) := (blk_cell BK487.out 2).trans rfl
                          have hfz141_0 := blk_frozen BK487.out 0
                          have hfz141_1 := blk_frozen BK487.out 1
                          have hfz141_2 := blk_frozen BK487.out 2
                          have hnb142 := NB449_436.out
                          have hnc142 := NB436_449.out
                          have hnb143 := NB449_455.out
                          have hnc143 := NB455_449.out
                          have hnb144 := NB449_462.out
                          have hnc144 := NB462_449.out
                          have hcz145_0 : w118.cell? ⟨gb449, 0, none⟩ = some (.int .i8 t443) := (blk_cell BK449.out 0).trans rfl
                          have hcz145_1 : w118.cell? ⟨gb449, 1, none⟩ = some (.int .i8 t444) := (blk_cell BK449.out 1).trans rfl
                          have hcz145_2 : w118.cell? ⟨gb449, 2, none⟩ = some (.slice Ao23 t445.length co23) := (blk_cell BK449.out 2).trans rfl
                          have hfz145_0 := blk_frozen BK449.out 0
                          have hfz145_1 := blk_frozen BK449.out 1
                          have hfz145_2 := blk_frozen BK449.out 2
                          go_wp2_with (first | ((with_reducible refine gate_callee (f := 16) rfl ?_); refine goesL_ (some 86) rfl rfl Try.func16 (by kernel_rfl) rfl #[.agg #[.int .i8 t481, .int .i8 t482, .slice Ao124 t483.length co124], .agg #[.int .i8 t443, .int .i8 t444, .slice Ao23 t445.length co23]] rfl (by (try simp only [List.map_toArray, List.map_cons, List.map_nil]); first | done | rfl | (simp only [List.length_drop, List.length_take]; rfl)) ?_; (with_reducible refine (laws_eqFerry.calls kj60 t481 t482 _ _ t483 t443 t444 _ _ t445 false _ ?side1 ?side2 ?side3 ?side4 A125.out).mono ?_); (case side1 => refine (Kd.R_reads' (e := 35) (base := w.heap.size) (ok := fun k_ => ((((True ∧ some k_ ≠ (.slice Ao23 t445.length co23 : Value).ownBlock) ∧ some k_ ≠ (.slice Ao30 t471.length co30 : Value).ownBlock) ∧ some k_ ≠ (.slice Ao37 t458.length co37 : Value).ownBlock) ∧ some k_ ≠ (.slice Ao116 t478.length co116 : Value).ownBlock)) (n := t483.length) (c := co124) ?_).2.2; exact (by (with_reducible repeat (first | apply Kd.R_alloc | apply Kd.R_drewN | apply Kd.R_drew)); exact (Kd.R_mono (Kd.R_far (p := ⟨gb487, 2, none⟩) (Kd.R_far (p := ⟨gb487, 1, none⟩) (Kd.R_far (p := ⟨gb487, 0, none⟩) (Kd.R_types HO485.out BK487.out (by decide)) (fun _ hk => hk.2) (.int .i8 t481)) (fun _ hk => hk.2) (.int .i8 t482)) (fun _ hk => hk.2) (.slice Ao124 t483.length co124)) (fun _ h_ => h_.1)))); (case side2 => exact (Kd.R_reads' HO485.out).2.1); (case side3 => refine (Kd.R_reads' (e := 35) (base := w.heap.size) (ok := fun k_ => (((some k_ ≠ (.slice Ao30 t471.length co30 : Value).ownBlock ∧ some k_ ≠ (.slice Ao37 t458.length co37 : Value).ownBlock) ∧ some k_ ≠ (.slice Ao116 t478.length co116 : Value).ownBlock) ∧ some k_ ≠ (.slice Ao124 t483.length co124 : Value).ownBlock)) (n := t445.length) (c := co23) ?_).2.2; exact (by (with_reducible repeat (first | apply Kd.R_alloc | apply Kd.R_drewN | apply Kd.R_drew)); exact (Kd.R_mono (Kd.R_far (p := ⟨gb487, 2, none⟩) (Kd.R_far (p := ⟨gb487, 1, none⟩) (Kd.R_far (p := ⟨gb487, 0, none⟩) (Kd.R_types HO_450002.out BK487.out (by decide)) (fun _ hk => hk.2) (.int .i8 t481)) (fun _ hk => hk.2) (.int .i8 t482)) (fun _ hk => hk.2) (.slice Ao124 t483.length co124)) (fun _ h_ => h_.1)))); (case side4 => exact (Kd.R_reads' HO_450002.out).2.1); rintro e w146 ⟨rfl, hb⟩; refine ⟨_, rfl, ?_⟩; have n0_ := Aside0.mk (Kd.R_below (by (with_reducible repeat (first | apply Kd.R_alloc | apply Kd.R_drewN | apply Kd.R_drew)); exact (Kd.R_mono (Kd.R_far (p := ⟨gb487, 2, none⟩) (Kd.R_far (p := ⟨gb487, 1, none⟩) (Kd.R_far (p := ⟨gb487, 0, none⟩) (Kd.R_types HO_450002.out BK487.out (by decide)) (fun _ hk => hk.2) (.int .i8 t481)) (fun _ hk => hk.2) (.int .i8 t482)) (fun _ hk => hk.2) (.slice Ao124 t483.length co124)) (fun _ h_ => h_.1))) hb); have n1_ := Aside0.mk (Kd.R_below (by (with_reducible repeat (first | apply Kd.R_alloc | apply Kd.R_drewN | apply Kd.R_drew)); exact (Kd.R_mono (Kd.R_far (p := ⟨gb487, 2, none⟩) (Kd.R_far (p := ⟨gb487, 1, none⟩) (Kd.R_far (p := ⟨gb487, 0, none⟩) (Kd.R_types HO_456002.out BK487.out (by decide)) (fun _ hk => hk.2) (.int .i8 t481)) (fun _ hk => hk.2) (.int .i8 t482)) (fun _ hk => hk.2) (.slice Ao124 t483.length co124)) (fun _ h_ => h_.1))) hb); have n2_ := Aside0.mk (Kd.R_below (by (with_reducible repeat (first | apply Kd.R_alloc | apply Kd.R_drewN | apply Kd.R_drew)); exact (Kd.R_mono (Kd.R_far (p := ⟨gb487, 2, none⟩) (Kd.R_far (p := ⟨gb487, 1, none⟩) (Kd.R_far (p := ⟨gb487, 0, none⟩) (Kd.R_types HO_463002.out BK487.out (by decide)) (fun _ hk => hk.2) (.int .i8 t481)) (fun _ hk => hk.2) (.int .i8 t482)) (fun _ hk => hk.2) (.slice Ao124 t483.length co124)) (fun _ h_ => h_.1))) hb); have n3_ := Aside0.mk (Kd.R_below (by (with_reducible repeat (first | apply Kd.R_alloc | apply Kd.R_drewN | apply Kd.R_drew)); exact (Kd.R_mono (Kd.R_far (p := ⟨gb487, 2, none⟩) (Kd.R_far (p := ⟨gb487, 1, none⟩) (Kd.R_far (p := ⟨gb487, 0, none⟩) (Kd.R_types HO480.out BK487.out (by decide)) (fun _ hk => hk.2) (.int .i8 t481)) (fun _ hk => hk.2) (.int .i8 t482)) (fun _ hk => hk.2) (.slice Ao124 t483.length co124)) (fun _ h_ => h_.1))) hb); have n4_ := Aside0.mk (Kd.R_below (by (with_reducible repeat (first | apply Kd.R_alloc | apply Kd.R_drewN | apply Kd.R_drew)); exact (Kd.R_mono (Kd.R_far (p := ⟨gb487, 2, none⟩) (Kd.R_far (p := ⟨gb487, 1, none⟩) (Kd.R_far (p := ⟨gb487, 0, none⟩) (Kd.R_types HO485.out BK487.out (by decide)) (fun _ hk => hk.2) (.int .i8 t481)) (fun _ hk => hk.2) (.int .i8 t482)) (fun _ hk => hk.2) (.slice Ao124 t483.length co124)) (fun _ h_ => h_.1))) hb); have n5_ := Aside0.mk (blk_below (g := gb436) (o := .cells #[.int .i8 a0_0, .int .i8 a0_1, .slice A0_2 l0_2.length c0_2] 25 (0, 0)) (by (with_reducible repeat (first | refine blk_drewN ?_ _ | refine blk_drew ?_ | refine blk_alloc ?_ _)); refine blk_far ?_ NB436_487.out _; (with_reducible repeat (first | refine blk_drewN ?_ _ | refine blk_drew ?_ | refine blk_alloc ?_ _)); refine blk_far ?_ NB436_487.out _; (with_reducible repeat (first | refine blk_drewN ?_ _ | refine blk_drew ?_ | refine blk_alloc ?_ _)); refine blk_far ?_ NB436_487.out _; (with_reducible repeat (first | refine blk_drewN ?_ _ | refine blk_drew ?_ | refine blk_alloc ?_ _)); exact BK436.out) hb); have n6_ := Aside0.mk (blk_below (g := gb449) (o := .cells #[.int .i8 t443, .int .i8 t444, .slice Ao23 t445.length co23] 28 (0, 0)) (by (with_reducible repeat (first | refine blk_drewN ?_ _ | refine blk_drew ?_ | refine blk_alloc ?_ _)); refine blk_far ?_ NB449_487.out _; (with_reducible repeat (first | refine blk_drewN ?_ _ | refine blk_drew ?_ | refine blk_alloc ?_ _)); refine blk_far ?_ NB449_487.out _; (with_reducible repeat (first | refine blk_drewN ?_ _ | refine blk_drew ?_ | refine blk_alloc ?_ _)); refine blk_far ?_ NB449_487.out _; (with_reducible repeat (first | refine blk_drewN ?_ _ | refine blk_drew ?_ | refine blk_alloc ?_ _)); exact BK449.out) hb); have n7_ := Aside0.mk (blk_below (g := gb455) (o := .cells #[.int .i8 t450, .int .i8 t451, .slice Ao30 t471.length co30] 28 (0, 0)) (by (with_reducible repeat (first | refine blk_drewN ?_ _ | refine blk_drew ?_ | refine blk_alloc ?_ _)); refine blk_far ?_ NB455_487.out _; (with_reducible repeat (first | refine blk_drewN ?_ _ | refine blk_drew ?_ | refine blk_alloc ?_ _)); refine blk_far ?_ NB455_487.out _; (with_reducible repeat (first | refine blk_drewN ?_ _ | refine blk_drew ?_ | refine blk_alloc ?_ _)); refine blk_far ?_ NB455_487.out _; (with_reducible repeat (first | refine blk_drewN ?_ _ | refine blk_drew ?_ | refine blk_alloc ?_ _)); exact BK455.out) hb); have n8_ := Aside0.mk (blk_below (g := gb462) (o := .cells #[.int .i8 t456, .int .i8 t457, .slice Ao37 t458.length co37] 28 (0, 0)) (by (with_reducible repeat (first | refine blk_drewN ?_ _ | refine blk_drew ?_ | refine blk_alloc ?_ _)); refine blk_far ?_ NB462_487.out _; (with_reducible repeat (first | refine blk_drewN ?_ _ | refine blk_drew ?_ | refine blk_alloc ?_ _)); refine blk_far ?_ NB462_487.out _; (with_reducible repeat (first | refine blk_drewN ?_ _ | refine blk_drew ?_ | refine blk_alloc ?_ _)); refine blk_far ?_ NB462_487.out _; (with_reducible repeat (first | refine blk_drewN ?_ _ | refine blk_drew ?_ | refine blk_alloc ?_ _)); exact BK462.out) hb); have n9_ := Aside0.mk (blk_below (g := gb487) (o := .cells #[.int .i8 t481, .int .i8 t482, .slice Ao124 t483.length co124] 28 (0, 0)) (by (with_reducible repeat (first | refine blk_drewN ?_ _ | refine blk_drew ?_ | refine blk_alloc ?_ _)); refine blk_put (cs := #[.int .i8 t481, .int .i8 t482, .slice none 0 0]) ?_ 2 _ rfl; (with_reducible repeat (first | refine blk_drewN ?_ _ | refine blk_drew ?_ | refine blk_alloc ?_ _)); refine blk_put (cs := #[.int .i8 t481, .int .i8 0, .slice none 0 0]) ?_ 1 _ rfl; (with_reducible repeat (first | refine blk_drewN ?_ _ | refine blk_drew ?_ | refine blk_alloc ?_ _)); refine blk_put (cs := #[.int .i8 0, .int .i8 0, .slice none 0 0]) ?_ 0 _ rfl; (with_reducible repeat (first | refine blk_drewN ?_ _ | refine blk_drew ?_ | refine blk_alloc ?_ _)); exact BK487.out) hb); have n10_ := Aside0.mk (below_step (by repeat (first | (with_reducible first | exact HB.out | apply below_alloc | apply pw_below_drewN | apply below_drew1 | refine below_set ?_ GE436.out | refine below_set ?_ GE449.out | refine below_set ?_ GE455.out | refine below_set ?_ GE462.out | refine below_set ?_ GE487.out) | exact HB.out)) hb); clear HO_450002; clear HO_456002; clear HO_463002; clear HO480; clear HO485; clear BK436; clear BK449; clear BK455; clear BK462; clear BK487; clear HB; have HO_450002 := n0_; have HO_456002 := n1_; have HO_463002 := n2_; have HO480 := n3_; have HO485 := n4_; have BK436 := n5_; have BK449 := n6_; have BK455 := n7_; have BK462 := n8_; have BK487 := n9_; have HB := n10_; clear n0_ n1_ n2_ n3_ n4_ n5_ n6_ n7_ n8_ n9_ n10_; (try clear hb); (try clear hb2); (try clear hk); (try clear hi)))
                          go_meet
                          case rel => exact ⟨_, (true), (by first | rfl | (simp; done) | (simp [*]; done)), H', ⟨by have := HJ11.out; have := HJ60.out; first | omega | exact Nat.le_refl _⟩, ⟨by (try simp only [hl456002_60]); (with_reducible repeat (first | apply Kd.R_alloc | apply Kd.R_drewN | apply Kd.R_drew)); exact Kd.R_mono HO_450002.out (fun _ hk => ⟨hk.1.1.1, ⟨hk.1.1.2, hk.2⟩⟩)⟩, ⟨by (try simp only [hl456002_60]); (with_reducible repeat (first | apply Kd.R_alloc | apply Kd.R_drewN | apply Kd.R_drew)); exact Kd.R_mono HO_456002.out (fun _ hk => ⟨hk.1.1.1, ⟨hk.1.1.2, hk.2⟩⟩)⟩, ⟨by (try simp only [hl456002_60]); (with_reducible repeat (first | apply Kd.R_alloc | apply Kd.R_drewN | apply Kd.R_drew)); exact Kd.R_mono HO_463002.out (fun _ hk => ⟨hk.1.1.1, ⟨hk.1.1.2, hk.2⟩⟩)⟩, ⟨by (try simp only [hl456002_60]); (with_reducible repeat (first | apply Kd.R_alloc | apply Kd.R_drewN | apply Kd.R_drew)); exact Kd.R_mono HO485.out (fun _ hk => ⟨hk.1.1.1.2, ⟨hk.1.1.2, hk.1.2⟩⟩)⟩, ⟨by (try simp only [hl456002_60]); (with_reducible repeat (first | refine blk_drewN ?_ _ | refine blk_drew ?_ | refine blk_alloc ?_ _)); exact BK436.out⟩, ⟨by (try simp only [hl456002_60]); (with_reducible repeat (first | refine blk_drewN ?_ _ | refine blk_drew ?_ | refine blk_alloc ?_ _)); exact BK449.out⟩, ⟨by (try simp only [hl456002_60]); (with_reducible repeat (first | refine blk_drewN ?_ _ | refine blk_drew ?_ | refine blk_alloc ?_ _)); exact BK455.out⟩, ⟨by (try simp only [hl456002_60]); (with_reducible repeat (first | refine blk_drewN ?_ _ | refine blk_drew ?_ | refine blk_alloc ?_ _)); exact BK462.out⟩, ⟨by (try simp only [hl456002_60]); (with_reducible repeat (first | refine blk_drewN ?_ _ | refine blk_drew ?_ | refine blk_alloc ?_ _)); exact BK487.out⟩, ⟨by repeat (first | (with_reducible first | exact HB.out | apply below_alloc | apply pw_below_drewN | apply below_drew1 | refine below_set ?_ GE436.out | refine below_set ?_ GE449.out | refine below_set ?_ GE455.out | refine below_set ?_ GE462.out | refine below_set ?_ GE487.out) | exact HB.out)⟩⟩
                      case rest =>
                        clear HC104
                        try clear c1
                        try clear c2
                        try clear p2
                        try clear c3
                        try clear c4
                        try clear c4b0
                        try clear c5
                        try clear c6
                        try clear c7
                        try clear c8
                        try clear c9
                        try clear c10
                        try clear c11
                        try clear c12
                        try clear c13
                        try clear c14
                        try clear c16
                        try clear c21
                        try clear c27
                        try clear c28
                        try clear c30
                        try clear c31
                        try clear c32
                        try clear c33
                        try clear c34
                        try clear c35
                        try clear c39
                        try clear c40
                        try clear c41
                        try clear c42
                        try clear c44
                        try clear c45
                        try clear c48
                        try clear c49
                        try clear c50
                        try clear c52
                        try clear c53
                        try clear c56
                        try clear c59
                        try clear c66
                        try clear c67
                        try clear c68
                        try clear c71
                        try clear c71b0
                        try clear c73
                        try clear c74
                        try clear c75
                        try clear c76
                        try clear c78
                        try clear c79
                        try clear c82
                        try clear c83
                        try clear c84
                        try clear c86
                        try clear c87
                        try clear c90
                        try clear c93
                        try clear c93b0
                        try clear c94
                        try clear c95
                        try clear c96
                        try clear c101
                        try clear c101b0
                        try clear c101b1
                        try clear c105
                        try clear c106
                        try clear c107
                        try clear c112
                        try clear c113
                        try clear c119
                        try clear c120
                        try clear c121
                        try clear c122
                        try clear c126
                        try clear c127
                        try clear c128
                        try clear c129
                        try clear c130
                        try clear c132
                        try clear c133
                        try clear c134
                        try clear c137
                        try clear c138
                        try clear c139
                        try clear c140
                        try clear c142
                        try clear c143
                        try clear c144
                        try clear hcz108_0
                        try clear hcz108_1
                        try clear hcz108_2
                        try clear hcz110_0
                        try clear hcz110_1
                        try clear hcz110_2
                        try clear hcz114_0
                        try clear hcz114_1
                        try clear hcz114_2
                        try clear hcz123_0
                        try clear hcz123_1
                        try clear hcz123_2
                        try clear hcz131_0
                        try clear hcz131_1
                        try clear hcz131_2
                        try clear hcz135_0
                        try clear hcz135_1
                        try clear hcz135_2
                        try clear hcz141_0
                        try clear hcz141_1
                        try clear hcz141_2
                        try clear hcz145_0
                        try clear hcz145_1
                        try clear hcz145_2
                        try clear hcz14_0
                        try clear hcz14_1
                        try clear hcz14_2
                        try clear hcz16_0
                        try clear hcz16_1
                        try clear hcz16_2
                        try clear hcz22_0
                        try clear hcz22_1
                        try clear hcz22_2
                        try clear hcz24_0
                        try clear hcz24_1
                        try clear hcz24_2
                        try clear hcz29_0
                        try clear hcz29_1
                        try clear hcz29_2
                        try clear hcz36_0
                        try clear hcz36_1
                        try clear hcz36_2
                        try clear hcz43_0
                        try clear hcz43_1
                        try clear hcz43_2
                        try clear hcz46_0
                        try clear hcz46_1
                        try clear hcz46_2
                        try clear hcz51_0
                        try clear hcz51_1
                        try clear hcz51_2
                        try clear hcz54_0
                        try clear hcz54_1
                        try clear hcz54_2
                        try clear hcz69_0
                        try clear hcz69_1
                        try clear hcz69_2
                        try clear hcz6_0
                        try clear hcz6_1
                        try clear hcz6_2
                        try clear hcz77_0
                        try clear hcz77_1
                        try clear hcz77_2
                        try clear hcz80_0
                        try clear hcz80_1
                        try clear hcz80_2
                        try clear hcz85_0
                        try clear hcz85_1
                        try clear hcz85_2
                        try clear hcz88_0
                        try clear hcz88_1
                        try clear hcz88_2
                        try clear hcz97_0
                        try clear hcz97_1
                        try clear hcz97_2
                        try clear hcz99_0
                        try clear hcz99_1
                        try clear hcz99_2
                        try clear hfz108_0
                        try clear hfz108_1
                        try clear hfz108_2
                        try clear hfz110_0
                        try clear hfz110_1
                        try clear hfz110_2
                        try clear hfz114_0
                        try clear hfz114_1
                        try clear hfz114_2
                        try clear hfz123_0
                        try clear hfz123_1
                        try clear hfz123_2
                        try clear hfz131_0
                        try clear hfz131_1
                        try clear hfz131_2
                        try clear hfz135_0
                        try clear hfz135_1
                        try clear hfz135_2
                        try clear hfz141_0
                        try clear hfz141_1
                        try clear hfz141_2
                        try clear hfz145_0
                        try clear hfz145_1
                        try clear hfz145_2
                        try clear hfz14_0
                        try clear hfz14_1
                        try clear hfz14_2
                        try clear hfz16_0
                        try clear hfz16_1
                        try clear hfz16_2
                        try clear hfz22_0
                        try clear hfz22_1
                        try clear hfz22_2
                        try clear hfz24_0
                        try clear hfz24_1
                        try clear hfz24_2
                        try clear hfz29_0
                        try clear hfz29_1
                        try clear hfz29_2
                        try clear hfz36_0
                        try clear hfz36_1
                        try clear hfz36_2
                        try clear hfz43_0
                        try clear hfz43_1
                        try clear hfz43_2
                        try clear hfz46_0
                        try clear hfz46_1
                        try clear hfz46_2
                        try clear hfz51_0
                        try clear hfz51_1
                        try clear hfz51_2
                        try clear hfz54_0
                        try clear hfz54_1
                        try clear hfz54_2
                        try clear hfz69_0
                        try clear hfz69_1
                        try clear hfz69_2
                        try clear hfz6_0
                        try clear hfz6_1
                        try clear hfz6_2
                        try clear hfz77_0
                        try clear hfz77_1
                        try clear hfz77_2
                        try clear hfz80_0
                        try clear hfz80_1
                        try clear hfz80_2
                        try clear hfz85_0
                        try clear hfz85_1
                        try clear hfz85_2
                        try clear hfz88_0
                        try clear hfz88_1
                        try clear hfz88_2
                        try clear hfz97_0
                        try clear hfz97_1
                        try clear hfz97_2
                        try clear hfz99_0
                        try clear hfz99_1
                        try clear hfz99_2
                        try clear p2
                        obtain ⟨kq, x92_103, rfl, HA, HJ103, HO_450002, HO_456002, HO_463002, HO_488002, BK436, BK449, BK455, BK462, BK487, HB⟩ := hcut
                        have hl463002_103 := (Kd.R_reads' HO_463002.out).1
                        rw [hl463002_103] at HO_463002
                        (try simp only [hl463002_103])
                        (try simp only [hl463002_103] at BK436)
                        (try simp only [hl463002_103] at BK449)
                        (try simp only [hl463002_103] at BK455)
                        (try simp only [hl463002_103] at BK462)
                        (try simp only [hl463002_103] at BK487)
                        (try simp only [hl463002_103] at HO_450002)
                        (try simp only [hl463002_103] at HO_456002)
                        (try simp only [hl463002_103] at HO_488002)
                        cases kq with
                        | zero => exact absurd HA.out (by simp [laws_FnExactWithoutThing.j2])
                        | succ kj103 =>
                          have H := HA.out
                          clear HA
                          simp only [laws_FnExactWithoutThing.j2] at H
                          by_cases c147 : x92_103 = true
                          · subst c147
                            have H1 : (some false) = some r := by rw [if_pos rfl] at H; exact H
                            clear H
                            have H := H1
                            clear H1
                            obtain rfl := Option.some.inj H
                            go_wp2
                            go_ret
                            exact ⟨by first | rfl | (simp [errW_none, errW_some] <;> rfl) | (simp [*, errW_none, errW_some] <;> rfl), by repeat (first | (with_reducible first | exact HB.out | apply below_alloc | apply pw_below_drewN | apply below_drew1 | refine below_set ?_ GE436.out | refine below_set ?_ GE449.out | refine below_set ?_ GE455.out | refine below_set ?_ GE462.out | refine below_set ?_ GE487.out) | exact HB.out)⟩
                          · replace c147 := Bool.eq_false_iff.mpr c147
                            subst c147
                            have H1 : ((laws_heldFerry.f kj103 t456 t457 t474 1).bind fun t489 => (if t489 < 0 then (some false) else (if t489 = t473 then (some true) else (some false)))) = some r := by rw [if_neg (show ¬ (false = true) by decide)] at H; exact H
                            clear H
                            have H := H1
                            clear H1
                            replace H := Option.bind_eq_some_iff.mp H
                            obtain ⟨t489, A1480, H⟩ := H
                            replace H : (if t489 < 0 then (some false) else (if t489 = t473 then (some true) else (some false))) = some r := H
                            have A148 := Aside0.mk A1480
                            clear A1480
                            by_cases c149 : t489 < 0
                            · rw [if_pos c149] at H
                              have c149b0 : decide (t489 < 0) = true := decide_eq_true c149
                              clear c149
                              obtain rfl := Option.some.inj H
                              have hnb150 := NB462_436.out
                              have hnc150 := NB436_462.out
                              have hnb151 := NB462_449.out
                              have hnc151 := NB449_462.out
                              have hnb152 := NB462_455.out
                              have hnc152 := NB455_462.out
                              have hnb153 := NB462_487.out
                              have hnc153 := NB487_462.out
                              have hcz154_0 : wc.cell? ⟨gb462, 0, none⟩ = some (.int .i8 t456) := (blk_cell BK462.out 0).trans rfl
                              have hcz154_1 : wc.cell? ⟨gb462, 1, none⟩ = some (.int .i8 t457) := (blk_cell BK462.out 1).trans rfl
                              have hcz154_2 : wc.cell? ⟨gb462, 2, none⟩ = some (.slice Ao37 t474.length co37) := (blk_cell BK462.out 2).trans rfl
                              have hfz154_0 := blk_frozen BK462.out 0
                              have hfz154_1 := blk_frozen BK462.out 1
                              have hfz154_2 := blk_frozen BK462.out 2
                              go_wp2_with (first | ((with_reducible refine gate_callee (f := 33) rfl ?_); refine goesL_ (some 95) rfl rfl Try.func33 (by kernel_rfl) rfl #[.agg #[.int .i8 t456, .int .i8 t457, .slice Ao37 t474.length co37], .int .i64 1] rfl (by (try simp only [List.map_toArray, List.map_cons, List.map_nil]); first | done | rfl | (simp only [List.length_drop, List.length_take]; rfl)) ?_; (with_reducible refine (laws_heldFerry.calls kj103 t456 t457 _ _ t474 1 t489 _ ?side1 ?side2 A148.out).mono ?_); (case side1 => repeat (first | exact (Kd.R_reads' HO_463002.out).2.2 | (with_reducible refine Kd.C_alloc ?_ _) | (with_reducible refine Kd.C_drewN ?_ _) | (with_reducible refine Kd.C_drew ?_))); (case side2 => exact (Kd.R_reads' HO_463002.out).2.1); rintro e w155 ⟨rfl, hb⟩; refine ⟨_, rfl, ?_⟩; have n0_ := Aside0.mk (Kd.R_below (by (with_reducible repeat (first | apply Kd.R_alloc | apply Kd.R_drewN | apply Kd.R_drew)); exact HO_450002.out) hb); have n1_ := Aside0.mk (Kd.R_below (by (with_reducible repeat (first | apply Kd.R_alloc | apply Kd.R_drewN | apply Kd.R_drew)); exact HO_456002.out) hb); have n2_ := Aside0.mk (Kd.R_below (by (with_reducible repeat (first | apply Kd.R_alloc | apply Kd.R_drewN | apply Kd.R_drew)); exact HO_463002.out) hb); have n3_ := Aside0.mk (Kd.R_below (by (with_reducible repeat (first | apply Kd.R_alloc | apply Kd.R_drewN | apply Kd.R_drew)); exact HO_488002.out) hb); have n4_ := Aside0.mk (blk_below (g := gb436) (o := .cells #[.int .i8 a0_0, .int .i8 a0_1, .slice A0_2 l0_2.length c0_2] 25 (0, 0)) (by (with_reducible repeat (first | refine blk_drewN ?_ _ | refine blk_drew ?_ | refine blk_alloc ?_ _)); exact BK436.out) hb); have n5_ := Aside0.mk (blk_below (g := gb449) (o := .cells #[.int .i8 t443, .int .i8 t444, .slice Ao23 t445.length co23] 28 (0, 0)) (by (with_reducible repeat (first | refine blk_drewN ?_ _ | refine blk_drew ?_ | refine blk_alloc ?_ _)); exact BK449.out) hb); have n6_ := Aside0.mk (blk_below (g := gb455) (o := .cells #[.int .i8 t450, .int .i8 t451, .slice Ao30 t471.length co30] 28 (0, 0)) (by (with_reducible repeat (first | refine blk_drewN ?_ _ | refine blk_drew ?_ | refine blk_alloc ?_ _)); exact BK455.out) hb); have n7_ := Aside0.mk (blk_below (g := gb462) (o := .cells #[.int .i8 t456, .int .i8 t457, .slice Ao37 t474.length co37] 28 (0, 0)) (by (with_reducible repeat (first | refine blk_drewN ?_ _ | refine blk_drew ?_ | refine blk_alloc ?_ _)); exact BK462.out) hb); have n8_ := Aside0.mk (blk_below (g := gb487) (o := .cells #[.int .i8 t481, .int .i8 t482, .slice Ao124 t483.length co124] 28 (0, 0)) (by (with_reducible repeat (first | refine blk_drewN ?_ _ | refine blk_drew ?_ | refine blk_alloc ?_ _)); exact BK487.out) hb); have n9_ := Aside0.mk (below_step (by repeat (first | (with_reducible first | exact HB.out | apply below_alloc | apply pw_below_drewN | apply below_drew1 | refine below_set ?_ GE436.out | refine below_set ?_ GE449.out | refine below_set ?_ GE455.out | refine below_set ?_ GE462.out | refine below_set ?_ GE487.out) | exact HB.out)) hb); clear HO_450002; clear HO_456002; clear HO_463002; clear HO_488002; clear BK436; clear BK449; clear BK455; clear BK462; clear BK487; clear HB; have HO_450002 := n0_; have HO_456002 := n1_; have HO_463002 := n2_; have HO_488002 := n3_; have BK436 := n4_; have BK449 := n5_; have BK455 := n6_; have BK462 := n7_; have BK487 := n8_; have HB := n9_; clear n0_ n1_ n2_ n3_ n4_ n5_ n6_ n7_ n8_ n9_; (try clear hb); (try clear hb2); (try clear hk); (try clear hi)))
                              go_ret
                              exact ⟨by first | rfl | (simp [errW_none, errW_some] <;> rfl) | (simp [*, errW_none, errW_some] <;> rfl), by repeat (first | (with_reducible first | exact HB.out | apply below_alloc | apply pw_below_drewN | apply below_drew1 | refine below_set ?_ GE436.out | refine below_set ?_ GE449.out | refine below_set ?_ GE455.out | refine below_set ?_ GE462.out | refine below_set ?_ GE487.out) | exact HB.out)⟩
                            · rw [if_neg c149] at H
                              have c149b0 : decide (t489 < 0) = false := decide_eq_false c149
                              clear c149
                              by_cases c156 : t489 = t473
                              · rw [if_pos c156] at H
                                have c156b0 : (t489 == t473) = true := beq_iff_eq.mpr c156
                                have c156b1 : (t489 != t473) = false := bne_eq_false_iff_eq.mpr c156
                                clear c156
                                obtain rfl := Option.some.inj H
                                have hnb157 := NB462_436.out
                                have hnc157 := NB436_462.out
                                have hnb158 := NB462_449.out
                                have hnc158 := NB449_462.out
                                have hnb159 := NB462_455.out
                                have hnc159 := NB455_462.out
                                have hnb160 := NB462_487.out
                                have hnc160 := NB487_462.out
                                have hcz161_0 : wc.cell? ⟨gb462, 0, none⟩ = some (.int .i8 t456) := (blk_cell BK462.out 0).trans rfl
                                have hcz161_1 : wc.cell? ⟨gb462, 1, none⟩ = some (.int .i8 t457) := (blk_cell BK462.out 1).trans rfl
                                have hcz161_2 : wc.cell? ⟨gb462, 2, none⟩ = some (.slice Ao37 t474.length co37) := (blk_cell BK462.out 2).trans rfl
                                have hfz161_0 := blk_frozen BK462.out 0
                                have hfz161_1 := blk_frozen BK462.out 1
                                have hfz161_2 := blk_frozen BK462.out 2
                                go_wp2_with (first | ((with_reducible refine gate_callee (f := 33) rfl ?_); refine goesL_ (some 95) rfl rfl Try.func33 (by kernel_rfl) rfl #[.agg #[.int .i8 t456, .int .i8 t457, .slice Ao37 t474.length co37], .int .i64 1] rfl (by (try simp only [List.map_toArray, List.map_cons, List.map_nil]); first | done | rfl | (simp only [List.length_drop, List.length_take]; rfl)) ?_; (with_reducible refine (laws_heldFerry.calls kj103 t456 t457 _ _ t474 1 t489 _ ?side1 ?side2 A148.out).mono ?_); (case side1 => repeat (first | exact (Kd.R_reads' HO_463002.out).2.2 | (with_reducible refine Kd.C_alloc ?_ _) | (with_reducible refine Kd.C_drewN ?_ _) | (with_reducible refine Kd.C_drew ?_))); (case side2 => exact (Kd.R_reads' HO_463002.out).2.1); rintro e w162 ⟨rfl, hb⟩; refine ⟨_, rfl, ?_⟩; have n0_ := Aside0.mk (Kd.R_below (by (with_reducible repeat (first | apply Kd.R_alloc | apply Kd.R_drewN | apply Kd.R_drew)); exact HO_450002.out) hb); have n1_ := Aside0.mk (Kd.R_below (by (with_reducible repeat (first | apply Kd.R_alloc | apply Kd.R_drewN | apply Kd.R_drew)); exact HO_456002.out) hb); have n2_ := Aside0.mk (Kd.R_below (by (with_reducible repeat (first | apply Kd.R_alloc | apply Kd.R_drewN | apply Kd.R_drew)); exact HO_463002.out) hb); have n3_ := Aside0.mk (Kd.R_below (by (with_reducible repeat (first | apply Kd.R_alloc | apply Kd.R_drewN | apply Kd.R_drew)); exact HO_488002.out) hb); have n4_ := Aside0.mk (blk_below (g := gb436) (o := .cells #[.int .i8 a0_0, .int .i8 a0_1, .slice A0_2 l0_2.length c0_2] 25 (0, 0)) (by (with_reducible repeat (first | refine blk_drewN ?_ _ | refine blk_drew ?_ | refine blk_alloc ?_ _)); exact BK436.out) hb); have n5_ := Aside0.mk (blk_below (g := gb449) (o := .cells #[.int .i8 t443, .int .i8 t444, .slice Ao23 t445.length co23] 28 (0, 0)) (by (with_reducible repeat (first | refine blk_drewN ?_ _ | refine blk_drew ?_ | refine blk_alloc ?_ _)); exact BK449.out) hb); have n6_ := Aside0.mk (blk_below (g := gb455) (o := .cells #[.int .i8 t450, .int .i8 t451, .slice Ao30 t471.length co30] 28 (0, 0)) (by (with_reducible repeat (first | refine blk_drewN ?_ _ | refine blk_drew ?_ | refine blk_alloc ?_ _)); exact BK455.out) hb); have n7_ := Aside0.mk (blk_below (g := gb462) (o := .cells #[.int .i8 t456, .int .i8 t457, .slice Ao37 t474.length co37] 28 (0, 0)) (by (with_reducible repeat (first | refine blk_drewN ?_ _ | refine blk_drew ?_ | refine blk_alloc ?_ _)); exact BK462.out) hb); have n8_ := Aside0.mk (blk_below (g := gb487) (o := .cells #[.int .i8 t481, .int .i8 t482, .slice Ao124 t483.length co124] 28 (0, 0)) (by (with_reducible repeat (first | refine blk_drewN ?_ _ | refine blk_drew ?_ | refine blk_alloc ?_ _)); exact BK487.out) hb); have n9_ := Aside0.mk (below_step (by repeat (first | (with_reducible first | exact HB.out | apply below_alloc | apply pw_below_drewN | apply below_drew1 | refine below_set ?_ GE436.out | refine below_set ?_ GE449.out | refine below_set ?_ GE455.out | refine below_set ?_ GE462.out | refine below_set ?_ GE487.out) | exact HB.out)) hb); clear HO_450002; clear HO_456002; clear HO_463002; clear HO_488002; clear BK436; clear BK449; clear BK455; clear BK462; clear BK487; clear HB; have HO_450002 := n0_; have HO_456002 := n1_; have HO_463002 := n2_; have HO_488002 := n3_; have BK436 := n4_; have BK449 := n5_; have BK455 := n6_; have BK462 := n7_; have BK487 := n8_; have HB := n9_; clear n0_ n1_ n2_ n3_ n4_ n5_ n6_ n7_ n8_ n9_; (try clear hb); (try clear hb2); (try clear hk); (try clear hi)))
                                go_ret
                                exact ⟨by first | rfl | (simp [errW_none, errW_some] <;> rfl) | (simp [*, errW_none, errW_some] <;> rfl), by repeat (first | (with_reducible first | exact HB.out | apply below_alloc | apply pw_below_drewN | apply below_drew1 | refine below_set ?_ GE436.out | refine below_set ?_ GE449.out | refine below_set ?_ GE455.out | refine below_set ?_ GE462.out | refine below_set ?_ GE487.out) | exact HB.out)⟩
                              · rw [if_neg c156] at H
                                have c156b0 : (t489 == t473) = false := beq_eq_false_iff_ne.mpr c156
                                have c156b1 : (t489 != t473) = true := bne_iff_ne.mpr c156
                                obtain rfl := Option.some.inj H
                                have hnb163 := NB462_436.out
                                have hnc163 := NB436_462.out
                                have hnb164 := NB462_449.out
                                have hnc164 := NB449_462.out
                                have hnb165 := NB462_455.out
                                have hnc165 := NB455_462.out
                                have hnb166 := NB462_487.out
                                have hnc166 := NB487_462.out
                                have hcz167_0 : wc.cell? ⟨gb462, 0, none⟩ = some (.int .i8 t456) := (blk_cell BK462.out 0).trans rfl
                                have hcz167_1 : wc.cell? ⟨gb462, 1, none⟩ = some (.int .i8 t457) := (blk_cell BK462.out 1).trans rfl
                                have hcz167_2 : wc.cell? ⟨gb462, 2, none⟩ = some (.slice Ao37 t474.length co37) := (blk_cell BK462.out 2).trans rfl
                                have hfz167_0 := blk_frozen BK462.out 0
                                have hfz167_1 := blk_frozen BK462.out 1
                                have hfz167_2 := blk_frozen BK462.out 2
                                go_wp2_with (first | ((with_reducible refine gate_callee (f := 33) rfl ?_); refine goesL_ (some 95) rfl rfl Try.func33 (by kernel_rfl) rfl #[.agg #[.int .i8 t456, .int .i8 t457, .slice Ao37 t474.length co37], .int .i64 1] rfl (by (try simp only [List.map_toArray, List.map_cons, List.map_nil]); first | done | rfl | (simp only [List.length_drop, List.length_take]; rfl)) ?_; (with_reducible refine (laws_heldFerry.calls kj103 t456 t457 _ _ t474 1 t489 _ ?side1 ?side2 A148.out).mono ?_); (case side1 => repeat (first | exact (Kd.R_reads' HO_463002.out).2.2 | (with_reducible refine Kd.C_alloc ?_ _) | (with_reducible refine Kd.C_drewN ?_ _) | (with_reducible refine Kd.C_drew ?_))); (case side2 => exact (Kd.R_reads' HO_463002.out).2.1); rintro e w168 ⟨rfl, hb⟩; refine ⟨_, rfl, ?_⟩; have n0_ := Aside0.mk (Kd.R_below (by (with_reducible repeat (first | apply Kd.R_alloc | apply Kd.R_drewN | apply Kd.R_drew)); exact HO_450002.out) hb); have n1_ := Aside0.mk (Kd.R_below (by (with_reducible repeat (first | apply Kd.R_alloc | apply Kd.R_drewN | apply Kd.R_drew)); exact HO_456002.out) hb); have n2_ := Aside0.mk (Kd.R_below (by (with_reducible repeat (first | apply Kd.R_alloc | apply Kd.R_drewN | apply Kd.R_drew)); exact HO_463002.out) hb); have n3_ := Aside0.mk (Kd.R_below (by (with_reducible repeat (first | apply Kd.R_alloc | apply Kd.R_drewN | apply Kd.R_drew)); exact HO_488002.out) hb); have n4_ := Aside0.mk (blk_below (g := gb436) (o := .cells #[.int .i8 a0_0, .int .i8 a0_1, .slice A0_2 l0_2.length c0_2] 25 (0, 0)) (by (with_reducible repeat (first | refine blk_drewN ?_ _ | refine blk_drew ?_ | refine blk_alloc ?_ _)); exact BK436.out) hb); have n5_ := Aside0.mk (blk_below (g := gb449) (o := .cells #[.int .i8 t443, .int .i8 t444, .slice Ao23 t445.length co23] 28 (0, 0)) (by (with_reducible repeat (first | refine blk_drewN ?_ _ | refine blk_drew ?_ | refine blk_alloc ?_ _)); exact BK449.out) hb); have n6_ := Aside0.mk (blk_below (g := gb455) (o := .cells #[.int .i8 t450, .int .i8 t451, .slice Ao30 t471.length co30] 28 (0, 0)) (by (with_reducible repeat (first | refine blk_drewN ?_ _ | refine blk_drew ?_ | refine blk_alloc ?_ _)); exact BK455.out) hb); have n7_ := Aside0.mk (blk_below (g := gb462) (o := .cells #[.int .i8 t456, .int .i8 t457, .slice Ao37 t474.length co37] 28 (0, 0)) (by (with_reducible repeat (first | refine blk_drewN ?_ _ | refine blk_drew ?_ | refine blk_alloc ?_ _)); exact BK462.out) hb); have n8_ := Aside0.mk (blk_below (g := gb487) (o := .cells #[.int .i8 t481, .int .i8 t482, .slice Ao124 t483.length co124] 28 (0, 0)) (by (with_reducible repeat (first | refine blk_drewN ?_ _ | refine blk_drew ?_ | refine blk_alloc ?_ _)); exact BK487.out) hb); have n9_ := Aside0.mk (below_step (by repeat (first | (with_reducible first | exact HB.out | apply below_alloc | apply pw_below_drewN | apply below_drew1 | refine below_set ?_ GE436.out | refine below_set ?_ GE449.out | refine below_set ?_ GE455.out | refine below_set ?_ GE462.out | refine below_set ?_ GE487.out) | exact HB.out)) hb); clear HO_450002; clear HO_456002; clear HO_463002; clear HO_488002; clear BK436; clear BK449; clear BK455; clear BK462; clear BK487; clear HB; have HO_450002 := n0_; have HO_456002 := n1_; have HO_463002 := n2_; have HO_488002 := n3_; have BK436 := n4_; have BK449 := n5_; have BK455 := n6_; have BK462 := n7_; have BK487 := n8_; have HB := n9_; clear n0_ n1_ n2_ n3_ n4_ n5_ n6_ n7_ n8_ n9_; (try clear hb); (try clear hb2); (try clear hk); (try clear hi)))
                                go_ret
                                exact ⟨by first | rfl | (simp [errW_none, errW_some] <;> rfl) | (simp [*, errW_none, errW_some] <;> rfl), by repeat (first | (with_reducible first | exact HB.out | apply below_alloc | apply pw_below_drewN | apply below_drew1 | refine below_set ?_ GE436.out | refine below_set ?_ GE449.out | refine below_set ?_ GE455.out | refine below_set ?_ GE462.out | refine below_set ?_ GE487.out) | exact HB.out)⟩
                    · rw [if_neg c101] at H
                      have c101b0 : (t475 == t473) = false := beq_eq_false_iff_ne.mpr c101
                      have c101b1 : (t475 != t473) = true := bne_iff_ne.mpr c101
                      obtain rfl := Option.some.inj H
                      have hnb169 := NB462_436.out
                      have hnc169 := NB436_462.out
                      have hnb170 := NB462_449.out
                      have hnc170 := NB449_462.out
                      have hnb171 := NB462_455.out
                      have hnc171 := NB455_462.out
                      have hcz172_0 : wc.cell? ⟨gb462, 0, none⟩ = some (.int .i8 t456) := (blk_cell BK462.out 0).trans rfl
                      have hcz172_1 : wc.cell? ⟨gb462, 1, none⟩ = some (.int .i8 t457) := (blk_cell BK462.out 1).trans rfl
                      have hcz172_2 : wc.cell? ⟨gb462, 2, none⟩ = some (.slice Ao37 t458.length co37) := (blk_cell BK462.out 2).trans rfl
                      have hfz172_0 := blk_frozen BK462.out 0
                      have hfz172_1 := blk_frozen BK462.out 1
                      have hfz172_2 := blk_frozen BK462.out 2
                      go_wp2_with (first | ((with_reducible refine gate_callee (f := 32) rfl ?_); refine goesL_ (some 68) rfl rfl Try.func32 (by kernel_rfl) rfl #[.agg #[.int .i8 t456, .int .i8 t457, .slice Ao37 t458.length co37], .int .i64 1] rfl (by (try simp only [List.map_toArray, List.map_cons, List.map_nil]); first | done | rfl | (simp only [List.length_drop, List.length_take]; rfl)) ?_; (with_reducible refine (laws_markFerry.calls kj60 t456 t457 (fun k_ => some k_ = (.slice Ao37 t458.length co37 : Value).ownBlock) (.slice Ao37 t458.length co37) t458 1 t473 t474 w _ ?side1 ?side2 A91.out).mono ?_); (case side1 => repeat (first | (with_reducible first | exact HB.out | apply below_alloc | apply pw_below_drewN | apply below_drew1 | refine below_set ?_ GE436.out | refine below_set ?_ GE449.out | refine below_set ?_ GE455.out | refine below_set ?_ GE462.out) | exact HB.out)); (case side2 => exact Kd.R_tight rfl HO_463002.out); rintro e w173 ⟨rfl, hy0, hb, hkp⟩; refine ⟨_, rfl, ?_⟩; have n0_ := Aside0.mk (Kd.R_mono (ok' := fun k_ => some k_ ≠ (.slice Ao30 t471.length co30 : Value).ownBlock ∧ some k_ ≠ (.slice Ao37 t458.length co37 : Value).ownBlock) (Kd.R_keptB (HO_450002.out) hkp (fun k_ hk_ hs_ => (hk_.2) hs_)) (fun k_ hk_ => ⟨hk_.1.1, hk_.1.2⟩)); have n1_ := Aside0.mk (Kd.R_mono (ok' := fun k_ => some k_ ≠ (.slice Ao23 t445.length co23 : Value).ownBlock ∧ some k_ ≠ (.slice Ao37 t458.length co37 : Value).ownBlock) (Kd.R_keptB (HO_456002.out) hkp (fun k_ hk_ hs_ => (hk_.2) hs_)) (fun k_ hk_ => ⟨hk_.1.1, hk_.1.2⟩)); have n2_ := Aside0.mk (Kd.R_reok rfl hy0 (fun k_ e_ => HO_463002.out.1 k_ e_)); have n3_ := Aside0.mk (blk_kept (by (with_reducible repeat (first | refine blk_drewN ?_ _ | refine blk_drew ?_ | refine blk_alloc ?_ _)); exact BK436.out) hkp (fun hs_ => (fun e_ => (Kd.R_ne HO_463002.out BK436.out (by decide)) e_) hs_)); have n4_ := Aside0.mk (blk_kept (by (with_reducible repeat (first | refine blk_drewN ?_ _ | refine blk_drew ?_ | refine blk_alloc ?_ _)); exact BK449.out) hkp (fun hs_ => (fun e_ => (Kd.R_ne HO_463002.out BK449.out (by decide)) e_) hs_)); have n5_ := Aside0.mk (blk_kept (by (with_reducible repeat (first | refine blk_drewN ?_ _ | refine blk_drew ?_ | refine blk_alloc ?_ _)); exact BK455.out) hkp (fun hs_ => (fun e_ => (Kd.R_ne HO_463002.out BK455.out (by decide)) e_) hs_)); have n6_ := Aside0.mk (blk_kept (by (with_reducible repeat (first | refine blk_drewN ?_ _ | refine blk_drew ?_ | refine blk_alloc ?_ _)); exact BK462.out) hkp (fun hs_ => (fun e_ => (Kd.R_ne HO_463002.out BK462.out (by decide)) e_) hs_)); have n7_ := Aside0.mk (hb); clear HO_450002; clear HO_456002; clear HO_463002; clear BK436; clear BK449; clear BK455; clear BK462; clear HB; have HO_450002 := n0_; have HO_456002 := n1_; have HO_463002 := n2_; have BK436 := n3_; have BK449 := n4_; have BK455 := n5_; have BK462 := n6_; have HB := n7_; clear n0_ n1_ n2_ n3_ n4_ n5_ n6_ n7_; (try clear hb); (try clear hkp); (try clear hy0); have hcz174_0 : w173.cell? ⟨gb462, 0, none⟩ = some (.int .i8 t456) := (blk_cell BK462.out 0).trans rfl; have hcz174_1 : w173.cell? ⟨gb462, 1, none⟩ = some (.int .i8 t457) := (blk_cell BK462.out 1).trans rfl; have hcz174_2 : w173.cell? ⟨gb462, 2, none⟩ = some (.slice Ao37 t458.length co37) := (blk_cell BK462.out 2).trans rfl; have hfz174_0 := blk_frozen BK462.out 0; have hfz174_1 := blk_frozen BK462.out 1; have hfz174_2 := blk_frozen BK462.out 2) | ((with_reducible refine gate_callee (f := 33) rfl ?_); refine goesL_ (some 71) rfl rfl Try.func33 (by kernel_rfl) rfl #[.agg #[.int .i8 t456, .int .i8 t457, .slice Ao37 t474.length co37], .int .i64 1] rfl (by (try simp only [List.map_toArray, List.map_cons, List.map_nil]); first | done | (rw [show t474.length = t458.length from (Kd.R_reads' HO_463002.out).1.symm] <;> rfl) | rfl | (simp only [List.length_drop, List.length_take]; rfl)) ?_; (with_reducible refine (laws_heldFerry.calls kj60 t456 t457 _ _ t474 1 t475 _ ?side1 ?side2 A92.out).mono ?_); (case side1 => repeat (first | exact (Kd.R_reads' HO_463002.out).2.2 | (with_reducible refine Kd.C_alloc ?_ _) | (with_reducible refine Kd.C_drewN ?_ _) | (with_reducible refine Kd.C_drew ?_))); (case side2 => rw [show t474.length = t458.length from (Kd.R_reads' HO_463002.out).1.symm]; exact (Kd.R_reads' HO_463002.out).2.1); rintro e w175 ⟨rfl, hb⟩; refine ⟨_, rfl, ?_⟩; have n0_ := Aside0.mk (Kd.R_below (by (with_reducible repeat (first | apply Kd.R_alloc | apply Kd.R_drewN | apply Kd.R_drew)); exact HO_450002.out) hb); have n1_ := Aside0.mk (Kd.R_below (by (with_reducible repeat (first | apply Kd.R_alloc | apply Kd.R_drewN | apply Kd.R_drew)); exact HO_456002.out) hb); have n2_ := Aside0.mk (Kd.R_below (by (with_reducible repeat (first | apply Kd.R_alloc | apply Kd.R_drewN | apply Kd.R_drew)); exact HO_463002.out) hb); have n3_ := Aside0.mk (blk_below (g := gb436) (o := .cells #[.int .i8 a0_0, .int .i8 a0_1, .slice A0_2 l0_2.length c0_2] 25 (0, 0)) (by (with_reducible repeat (first | refine blk_drewN ?_ _ | refine blk_drew ?_ | refine blk_alloc ?_ _)); exact BK436.out) hb); have n4_ := Aside0.mk (blk_below (g := gb449) (o := .cells #[.int .i8 t443, .int .i8 t444, .slice Ao23 t445.length co23] 28 (0, 0)) (by (with_reducible repeat (first | refine blk_drewN ?_ _ | refine blk_drew ?_ | refine blk_alloc ?_ _)); exact BK449.out) hb); have n5_ := Aside0.mk (blk_below (g := gb455) (o := .cells #[.int .i8 t450, .int .i8 t451, .slice Ao30 t471.length co30] 28 (0, 0)) (by (with_reducible repeat (first | refine blk_drewN ?_ _ | refine blk_drew ?_ | refine blk_alloc ?_ _)); exact BK455.out) hb); have n6_ := Aside0.mk (blk_below (g := gb462) (o := .cells #[.int .i8 t456, .int .i8 t457, .slice Ao37 t458.length co37] 28 (0, 0)) (by (with_reducible repeat (first | refine blk_drewN ?_ _ | refine blk_drew ?_ | refine blk_alloc ?_ _)); exact BK462.out) hb); have n7_ := Aside0.mk (below_step (by repeat (first | (with_reducible first | exact HB.out | apply below_alloc | apply pw_below_drewN | apply below_drew1 | refine below_set ?_ GE436.out | refine below_set ?_ GE449.out | refine below_set ?_ GE455.out | refine below_set ?_ GE462.out) | exact HB.out)) hb); clear HO_450002; clear HO_456002; clear HO_463002; clear BK436; clear BK449; clear BK455; clear BK462; clear HB; have HO_450002 := n0_; have HO_456002 := n1_; have HO_463002 := n2_; have BK436 := n3_; have BK449 := n4_; have BK455 := n5_; have BK462 := n6_; have HB := n7_; clear n0_ n1_ n2_ n3_ n4_ n5_ n6_ n7_; (try clear hb); (try clear hb2); (try clear hk); (try clear hi)))
                      go_ret
                      exact ⟨by first | rfl | (simp [errW_none, errW_some] <;> rfl) | (simp [*, errW_none, errW_some] <;> rfl), by repeat (first | (with_reducible first | exact HB.out | apply below_alloc | apply pw_below_drewN | apply below_drew1 | refine below_set ?_ GE436.out | refine below_set ?_ GE449.out | refine below_set ?_ GE455.out | refine below_set ?_ GE462.out) | exact HB.out)⟩
          · replace c59 := Bool.eq_false_iff.mpr c59
            subst c59
            have H1 : (some false) = some r := by rw [if_neg (show ¬ (false = true) by decide)] at H; exact H
            clear H
            have H := H1
            clear H1
            obtain rfl := Option.some.inj H
            try go_wp2
            have n0_ := Aside0.mk (Kd.R_drew HO_450002.out)
            have n1_ := Aside0.mk (Kd.R_drew HO_456002.out)
            have n2_ := Aside0.mk (Kd.R_drew HO_463002.out)
            have n3_ := Aside0.mk (blk_drew BK436.out)
            have n4_ := Aside0.mk (blk_drew BK449.out)
            have n5_ := Aside0.mk (blk_drew BK455.out)
            have n6_ := Aside0.mk (blk_drew BK462.out)
            have n7_ := Aside0.mk (below_drew1 HB.out)
            clear HO_450002
            clear HO_456002
            clear HO_463002
            clear BK436
            clear BK449
            clear BK455
            clear BK462
            clear HB
            have HO_450002 := n0_
            have HO_456002 := n1_
            have HO_463002 := n2_
            have BK436 := n3_
            have BK449 := n4_
            have BK455 := n5_
            have BK462 := n6_
            have HB := n7_
            clear n0_ n1_ n2_ n3_ n4_ n5_ n6_ n7_
            refine start_ (n := 5) (S := fun w' => w'.cell? ⟨gb455, 0, none⟩ = some (.int .i8 t450) ∧ w'.cell? ⟨gb455, 1, none⟩ = some (.int .i8 t451) ∧ w'.cell? ⟨gb455, 2, none⟩ = some (.slice Ao30 t452.length co30) ∧ w'.cell? ⟨gb436, 0, none⟩ = some (.int .i8 a0_0) ∧ w'.cell? ⟨gb436, 1, none⟩ = some (.int .i8 a0_1) ∧ w'.cell? ⟨gb436, 2, none⟩ = some (.slice A0_2 l0_2.length c0_2)) (ds := []) #[false, false, false, false, false] (by kernel_rfl) rfl rfl ⟨(blk_cell BK455.out 0).trans rfl, (blk_cell BK455.out 1).trans rfl, (blk_cell BK455.out 2).trans rfl, (blk_cell BK436.out 0).trans rfl, (blk_cell BK436.out 1).trans rfl, (blk_cell BK436.out 2).trans rfl⟩ (fun hHeld => ?_)
            generalize wc.drew = w176 at HO_450002 HO_456002 HO_463002 BK436 BK449 BK455 BK462 HB hHeld ⊢
            refine take_ (i := 0) (N := some 45) (v := ?_) (a' := ?_) #[true, false, false, false, false] rfl rfl (by kernel_rfl) (fun _ _ _ h => h) (Or.inl ⟨by rfl, ?_⟩) hHeld ?_ ?_
            rotate_left
            · rintro w' ⟨s0, s1, s2, s3, s4, s5⟩
              go_simp
              with_reducible rfl
            rotate_left
            · simp only [Act.put, List.setIfInBounds_toArray, List.set_cons_zero, List.set_cons_succ, i64_w, i32_w]
              rfl
            refine take_ (i := 1) (N := some 46) (v := ?_) (a' := ?_) #[true, true, false, false, false] rfl rfl (by kernel_rfl) (fun _ _ _ h => h) (Or.inl ⟨by rfl, ?_⟩) hHeld ?_ ?_
            rotate_left
            · rintro w' ⟨s0, s1, s2, s3, s4, s5⟩
              go_simp
              with_reducible rfl
            rotate_left
            · simp only [Act.put, List.setIfInBounds_toArray, List.set_cons_zero, List.set_cons_succ, i64_w, i32_w]
              rfl
            refine one_ (i := 2) (N := some 47) #[true, true, true, false, false] rfl rfl (by kernel_rfl) (by decide) (fun K hK => ?_)
            refine goes_ Try.func14 (by kernel_rfl) rfl #[.agg #[.int .i8 a0_0, .int .i8 a0_1, .slice A0_2 l0_2.length c0_2]] (by rfl) rfl rfl (by (try simp only [List.map_toArray, List.map_cons, List.map_nil]); first | done | rfl | (simp only [List.length_drop, List.length_take]; rfl)) ?_
            with_reducible refine (laws_toFerry.calls kj11 a0_0 a0_1 _ _ l0_2 t464 t465 t466 _ ?side1 ?side2 A57.out).mono ?_
            (case side1 => repeat (first | exact (Kd.C_below HR0_2.out HB.out) | (with_reducible refine Kd.C_alloc ?_ _) | (with_reducible refine Kd.C_drewN ?_ _) | (with_reducible refine Kd.C_drew ?_)))
            (case side2 => exact HC0_2.out)
            rintro e w177 ⟨v467, rfl, ho0, hb⟩
            refine ⟨_, rfl, ?_⟩
            have n0_ := Aside0.mk (Kd.R_elder' (by (with_reducible repeat (first | apply Kd.R_alloc | apply Kd.R_drewN | apply Kd.R_drew)); exact HO_450002.out) (Kd.R_base ho0) hb)
            have n1_ := Aside0.mk (Kd.R_elder' (by (with_reducible repeat (first | apply Kd.R_alloc | apply Kd.R_drewN | apply Kd.R_drew)); exact HO_456002.out) (Kd.R_base ho0) hb)
            have n2_ := Aside0.mk (Kd.R_elder' (by (with_reducible repeat (first | apply Kd.R_alloc | apply Kd.R_drewN | apply Kd.R_drew)); exact HO_463002.out) (Kd.R_base ho0) hb)
            have n3_ := Aside0.mk (Kd.R_lower (Kd.R_new' (Kd.R_new' (Kd.R_new' ho0 (Kd.R_lt (by (with_reducible repeat (first | apply Kd.R_alloc | apply Kd.R_drewN | apply Kd.R_drew)); exact HO_450002.out))) (Kd.R_lt (by (with_reducible repeat (first | apply Kd.R_alloc | apply Kd.R_drewN | apply Kd.R_drew)); exact HO_456002.out))) (Kd.R_lt (by (with_reducible repeat (first | apply Kd.R_alloc | apply Kd.R_drewN | apply Kd.R_drew)); exact HO_463002.out))) (below_size (by repeat (first | (with_reducible first | exact HB.out | apply below_alloc | apply pw_below_drewN | apply below_drew1 | refine below_set ?_ GE436.out | refine below_set ?_ GE449.out | refine below_set ?_ GE455.out | refine below_set ?_ GE462.out) | exact HB.out))))
            have n4_ := Aside0.mk (blk_below (g := gb436) (o := .cells #[.int .i8 a0_0, .int .i8 a0_1, .slice A0_2 l0_2.length c0_2] 25 (0, 0)) (by (with_reducible repeat (first | refine blk_drewN ?_ _ | refine blk_drew ?_ | refine blk_alloc ?_ _)); exact BK436.out) hb)
            have n5_ := Aside0.mk (blk_below (g := gb449) (o := .cells #[.int .i8 t443, .int .i8 t444, .slice Ao23 t445.length co23] 28 (0, 0)) (by (with_reducible repeat (first | refine blk_drewN ?_ _ | refine blk_drew ?_ | refine blk_alloc ?_ _)); exact BK449.out) hb)
            have n6_ := Aside0.mk (blk_below (g := gb455) (o := .cells #[.int .i8 t450, .int .i8 t451, .slice Ao30 t452.length co30] 28 (0, 0)) (by (with_reducible repeat (first | refine blk_drewN ?_ _ | refine blk_drew ?_ | refine blk_alloc ?_ _)); exact BK455.out) hb)
            have n7_ := Aside0.mk (blk_below (g := gb462) (o := .cells #[.int .i8 t456, .int .i8 t457, .slice Ao37 t458.length co37] 28 (0, 0)) (by (with_reducible repeat (first | refine blk_drewN ?_ _ | refine blk_drew ?_ | refine blk_alloc ?_ _)); exact BK462.out) hb)
            have n8_ := Aside0.mk (below_step (by repeat (first | (with_reducible first | exact HB.out | apply below_alloc | apply pw_below_drewN | apply below_drew1 | refine below_set ?_ GE436.out | refine below_set ?_ GE449.out | refine below_set ?_ GE455.out | refine below_set ?_ GE462.out) | exact HB.out)) hb)
            clear HO_450002
            clear HO_456002
            clear HO_463002
            clear BK436
            clear BK449
            clear BK455
            clear BK462
            clear HB
            have HO_450002 := n0_
            have HO_456002 := n1_
            have HO_463002 := n2_
            have HO468 := n3_
            have BK436 := n4_
            have BK449 := n5_
            have BK455 := n6_
            have BK462 := n7_
            have HB := n8_
            clear n0_ n1_ n2_ n3_ n4_ n5_ n6_ n7_ n8_
            (try clear hb)
            (try clear hb2)
            (try clear hk)
            (try clear hi)
            (try clear ho0)
            obtain ⟨Ao178, co178, eo178⟩ := Kd.R_slice HO468.out
            (first | subst eo178 | (injection eo178 with f1_ f2_ f3_; have f4_ := f1_.symm; have f5_ := f3_.symm; clear f1_ f2_ f3_; subst f4_; subst f5_))
            refine hK.out _ _ ⟨(blk_cell BK455.out 0).trans rfl, (blk_cell BK455.out 1).trans rfl, (blk_cell BK455.out 2).trans rfl, (blk_cell BK436.out 0).trans rfl, (blk_cell BK436.out 1).trans rfl, (blk_cell BK436.out 2).trans rfl⟩ (fun hHeld => ?_)
            clear hK K
            refine norm_ (a' := ?_) ?_ ?_
            rotate_left
            · show Act.put _ (some 47) _ = _
              simp only [Act.put, List.setIfInBounds_toArray, List.set_cons_zero, List.set_cons_succ, i64_w, i32_w]
              rfl
            refine one_ (i := 3) (N := some 48) #[true, true, true, true, false] rfl rfl (by kernel_rfl) (by decide) (fun K hK => ?_)
            refine goes_ Try.func16 (by kernel_rfl) rfl #[.agg #[.int .i8 t450, .int .i8 t451, .slice Ao30 t452.length co30], .agg #[.int .i8 t464, .int .i8 t465, .slice Ao178 t466.length co178]] (by rfl) rfl rfl (by (try simp only [List.map_toArray, List.map_cons, List.map_nil]); first | done | rfl | (simp only [List.length_drop, List.length_take]; rfl)) ?_
            with_reducible refine (laws_eqFerry.calls kj11 t450 t451 _ _ t452 t464 t465 _ _ t466 false _ ?side1 ?side2 ?side3 ?side4 A58.out).mono ?_
            (case side1 => repeat (first | exact (Kd.R_reads' HO_456002.out).2.2 | (with_reducible refine Kd.C_alloc ?_ _) | (with_reducible refine Kd.C_drewN ?_ _) | (with_reducible refine Kd.C_drew ?_)))
            (case side2 => exact (Kd.R_reads' HO_456002.out).2.1)
            (case side3 => repeat (first | exact (Kd.R_reads' HO468.out).2.2 | (with_reducible refine Kd.C_alloc ?_ _) | (with_reducible refine Kd.C_drewN ?_ _) | (with_reducible refine Kd.C_drew ?_)))
            (case side4 => exact (Kd.R_reads' HO468.out).2.1)
            rintro e w179 ⟨rfl, hb⟩
            refine ⟨_, rfl, ?_⟩
            have n0_ := Aside0.mk (Kd.R_below (by (with_reducible repeat (first | apply Kd.R_alloc | apply Kd.R_drewN | apply Kd.R_drew)); exact HO_450002.out) hb)
            have n1_ := Aside0.mk (Kd.R_below (by (with_reducible repeat (first | apply Kd.R_alloc | apply Kd.R_drewN | apply Kd.R_drew)); exact HO_456002.out) hb)
            have n2_ := Aside0.mk (Kd.R_below (by (with_reducible repeat (first | apply Kd.R_alloc | apply Kd.R_drewN | apply Kd.R_drew)); exact HO_463002.out) hb)
            have n3_ := Aside0.mk (Kd.R_below (by (with_reducible repeat (first | apply Kd.R_alloc | apply Kd.R_drewN | apply Kd.R_drew)); exact HO468.out) hb)
            have n4_ := Aside0.mk (blk_below (g := gb436) (o := .cells #[.int .i8 a0_0, .int .i8 a0_1, .slice A0_2 l0_2.length c0_2] 25 (0, 0)) (by (with_reducible repeat (first | refine blk_drewN ?_ _ | refine blk_drew ?_ | refine blk_alloc ?_ _)); exact BK436.out) hb)
            have n5_ := Aside0.mk (blk_below (g := gb449) (o := .cells #[.int .i8 t443, .int .i8 t444, .slice Ao23 t445.length co23] 28 (0, 0)) (by (with_reducible repeat (first | refine blk_drewN ?_ _ | refine blk_drew ?_ | refine blk_alloc ?_ _)); exact BK449.out) hb)
            have n6_ := Aside0.mk (blk_below (g := gb455) (o := .cells #[.int .i8 t450, .int .i8 t451, .slice Ao30 t452.length co30] 28 (0, 0)) (by (with_reducible repeat (first | refine blk_drewN ?_ _ | refine blk_drew ?_ | refine blk_alloc ?_ _)); exact BK455.out) hb)
            have n7_ := Aside0.mk (blk_below (g := gb462) (o := .cells #[.int .i8 t456, .int .i8 t457, .slice Ao37 t458.length co37] 28 (0, 0)) (by (with_reducible repeat (first | refine blk_drewN ?_ _ | refine blk_drew ?_ | refine blk_alloc ?_ _)); exact BK462.out) hb)
            have n8_ := Aside0.mk (below_step (by repeat (first | (with_reducible first | exact HB.out | apply below_alloc | apply pw_below_drewN | apply below_drew1 | refine below_set ?_ GE436.out | refine below_set ?_ GE449.out | refine below_set ?_ GE455.out | refine below_set ?_ GE462.out) | exact HB.out)) hb)
            clear HO_450002
            clear HO_456002
            clear HO_463002
            clear HO468
            clear BK436
            clear BK449
            clear BK455
            clear BK462
            clear HB
            have HO_450002 := n0_
            have HO_456002 := n1_
            have HO_463002 := n2_
            have HO468 := n3_
            have BK436 := n4_
            have BK449 := n5_
            have BK455 := n6_
            have BK462 := n7_
            have HB := n8_
            clear n0_ n1_ n2_ n3_ n4_ n5_ n6_ n7_ n8_
            (try clear hb)
            (try clear hb2)
            (try clear hk)
            (try clear hi)
            refine hK.out _ _ ⟨(blk_cell BK455.out 0).trans rfl, (blk_cell BK455.out 1).trans rfl, (blk_cell BK455.out 2).trans rfl, (blk_cell BK436.out 0).trans rfl, (blk_cell BK436.out 1).trans rfl, (blk_cell BK436.out 2).trans rfl⟩ (fun hHeld => ?_)
            clear hK K
            refine norm_ (a' := ?_) ?_ ?_
            rotate_left
            · show Act.put _ (some 48) _ = _
              simp only [Act.put, List.setIfInBounds_toArray, List.set_cons_zero, List.set_cons_succ, i64_w, i32_w]
              rfl
            refine pure_ (i := 4) (N := some 49) (v := ?_) (a' := ?_) #[true, true, true, true, true] rfl rfl (by kernel_rfl) (fun _ _ _ h => h) (Or.inl ⟨by rfl, ?_⟩) ?_ ?_
            rotate_left
            · intro w'
              go_simp
              with_reducible rfl
            rotate_left
            · simp only [Act.put, List.setIfInBounds_toArray, List.set_cons_zero, List.set_cons_succ, i64_w, i32_w]
              rfl
            refine done_ (by kernel_rfl) ?_
            try go_wp2
            go_ret
            exact ⟨by first | rfl | (simp [errW_none, errW_some] <;> rfl) | (simp [*, errW_none, errW_some] <;> rfl), by repeat (first | (with_reducible first | exact HB.out | apply below_alloc | apply pw_below_drewN | apply below_drew1 | refine below_set ?_ GE436.out | refine below_set ?_ GE449.out | refine below_set ?_ GE455.out | refine below_set ?_ GE462.out) | exact HB.out)⟩

end Go.Proofs.Ytikdnhhegknplaa.M
