-- Written by wip/tools/myprint.py, a program of this session, by way of the kit's print.
import Derived.Test.YtmfbcklaomigaaaDoorDx0
import Derived.Test.YtmfbcklaomigaaaDoorDx6
import Derived.Test.YtmfbcklaomigaaaDoorDx11
import Derived.Test.YtmfbcklaomigaaaDoorDx14
import Derived.Test.YtmfbcklaomigaaaDoorDx15
namespace Go.Proofs.YtmfbcklaomigaaaDoor.D
open Go.RowKit Go.Proofs.YtmfbcklaomigaaaDoorW.PrintWords Go.Proofs.YtmfbcklaomigaaaDoorW.PrintLast Go.Proofs.YtmfbcklaomigaaaDoorW.PrintMore
attribute [local go_sem] max2_int min2_int max_two min_two max_three min_three max_four min_four   -- for this text's walks alone
set_option linter.unusedVariables false
set_option linter.unusedSimpArgs false

/-! ### laws_FnExactReadFixed: function 4 -/
mutual
def laws_FnExactReadFixed.j0 : Nat → ByteArray → Int → Bool → Int → Int → List (S35) → Int → Int → List (S35) → Option (Bool)
 | 0, _, _, _, _, _, _, _, _, _ => none
 | k + 1, x0, x4, x32, x251000, x251001, x251002, x258000, x258001, x258002 => if x32 = true then (some false) else ((laws_markFixed.f k x258000 x258001 x258002 1).bind fun bt259 => ((laws_heldFixed.f k x258000 x258001 bt259.2 1).bind fun t261 => (if t261 < 0 then (some false) else (if t261 = bt259.1 then ((impl_ReadFixed.f k x0).bind fun bt262 => ((laws_eqFixed.f k bt262.1 bt262.2.1 bt262.2.2.1 x251000 x251001 x251002).bind fun t269 => (if t269 = true then (laws_FnExactReadFixed.j1 k bt259.1 (bt262.2.2.2 != x4) x258000 x258001 bt259.2) else (laws_FnExactReadFixed.j1 k bt259.1 true x258000 x258001 bt259.2)))) else (some false)))))
def laws_FnExactReadFixed.j1 : Nat → Int → Bool → Int → Int → List (S35) → Option (Bool)
 | 0, _, _, _, _, _ => none
 | k + 1, x7, x57, x258000, x258001, x258002 => if x57 = true then (some false) else ((laws_heldFixed.f k x258000 x258001 x258002 1).bind fun t270 => (if t270 < 0 then (some false) else (if t270 = x7 then (some true) else (some false))))
end
def laws_FnExactReadFixed.f (k : Nat) (a0 : ByteArray) : Option (Bool) := if (a0.size : Int) > 1048576 then (some true) else ((spec_ReadFixed.f k a0).bind fun bt244 => ((impl_ReadFixed.f k a0).bind fun bt251 => ((laws_eqFixed.f k bt251.1 bt251.2.1 bt251.2.2.1 bt244.1 bt244.2.1 bt244.2.2.1).bind fun t258 => (if t258 = true then (laws_FnExactReadFixed.j0 k a0 bt244.2.2.2 (bt251.2.2.2 != bt244.2.2.2) bt244.1 bt244.2.1 bt244.2.2.1 bt251.1 bt251.2.1 bt251.2.2.1) else (laws_FnExactReadFixed.j0 k a0 bt244.2.2.2 true bt244.1 bt244.2.1 bt244.2.2.1 bt251.1 bt251.2.1 bt251.2.2.1)))))
theorem laws_FnExactReadFixed.mono_l : ∀ k, (∀ y0 y1 y2 y3 y4 y5 y6 y7 y8, LeO (laws_FnExactReadFixed.j0 k y0 y1 y2 y3 y4 y5 y6 y7 y8) (laws_FnExactReadFixed.j0 (k + 1) y0 y1 y2 y3 y4 y5 y6 y7 y8)) ∧ (∀ y0 y1 y2 y3 y4, LeO (laws_FnExactReadFixed.j1 k y0 y1 y2 y3 y4) (laws_FnExactReadFixed.j1 (k + 1) y0 y1 y2 y3 y4))
 | 0 => ⟨fun _ _ _ _ _ _ _ _ _ r h => by simp [laws_FnExactReadFixed.j0] at h, fun _ _ _ _ _ r h => by simp [laws_FnExactReadFixed.j1] at h⟩
 | k + 1 => by
  obtain ⟨ih0, ih1⟩ := laws_FnExactReadFixed.mono_l k
  refine ⟨?_, ?_⟩
  ·intro y0 y1 y2 y3 y4 y5 y6 y7 y8
   unfold laws_FnExactReadFixed.j0
   repeat' first
   | (with_reducible exact ih0 _ _ _ _ _ _ _ _ _)
   | (with_reducible exact ih1 _ _ _ _ _)
   | (with_reducible exact impl_ReadFixed.mono _ _)
   | (with_reducible exact laws_eqFixed.mono _ _ _ _ _ _ _)
   | (with_reducible exact laws_heldFixed.mono _ _ _ _ _)
   | (with_reducible exact laws_markFixed.mono _ _ _ _ _)
   | (with_reducible exact spec_ReadFixed.mono _ _)
   | (with_reducible exact LeO.refl _)
   | (with_reducible exact LeO.none _)
   | (with_reducible refine LeO.ite ?_ ?_)
   | (with_reducible refine LeO.bind ?_ (fun _ => ?_))
   | exact ih0 _ _ _ _ _ _ _ _ _
   | exact ih1 _ _ _ _ _
   | exact impl_ReadFixed.mono _ _
   | exact laws_eqFixed.mono _ _ _ _ _ _ _
   | exact laws_heldFixed.mono _ _ _ _ _
   | exact laws_markFixed.mono _ _ _ _ _
   | exact spec_ReadFixed.mono _ _
   | exact LeO.none _
   | refine LeO.ite ?_ ?_
   | refine LeO.bind ?_ (fun _ => ?_)
  ·intro y0 y1 y2 y3 y4
   unfold laws_FnExactReadFixed.j1
   repeat' first
   | (with_reducible exact ih0 _ _ _ _ _ _ _ _ _)
   | (with_reducible exact ih1 _ _ _ _ _)
   | (with_reducible exact impl_ReadFixed.mono _ _)
   | (with_reducible exact laws_eqFixed.mono _ _ _ _ _ _ _)
   | (with_reducible exact laws_heldFixed.mono _ _ _ _ _)
   | (with_reducible exact laws_markFixed.mono _ _ _ _ _)
   | (with_reducible exact spec_ReadFixed.mono _ _)
   | (with_reducible exact LeO.refl _)
   | (with_reducible exact LeO.none _)
   | (with_reducible refine LeO.ite ?_ ?_)
   | (with_reducible refine LeO.bind ?_ (fun _ => ?_))
   | exact ih0 _ _ _ _ _ _ _ _ _
   | exact ih1 _ _ _ _ _
   | exact impl_ReadFixed.mono _ _
   | exact laws_eqFixed.mono _ _ _ _ _ _ _
   | exact laws_heldFixed.mono _ _ _ _ _
   | exact laws_markFixed.mono _ _ _ _ _
   | exact spec_ReadFixed.mono _ _
   | exact LeO.none _
   | refine LeO.ite ?_ ?_
   | refine LeO.bind ?_ (fun _ => ?_)
theorem laws_FnExactReadFixed.mono : ∀ a0 k, LeO (laws_FnExactReadFixed.f k a0) (laws_FnExactReadFixed.f (k + 1) a0) := by
 intro a0 k
 obtain ⟨ih0, ih1⟩ := laws_FnExactReadFixed.mono_l k
 unfold laws_FnExactReadFixed.f
 repeat' first
   | (with_reducible exact ih0 _ _ _ _ _ _ _ _ _)
   | (with_reducible exact ih1 _ _ _ _ _)
   | (with_reducible exact impl_ReadFixed.mono _ _)
   | (with_reducible exact laws_eqFixed.mono _ _ _ _ _ _ _)
   | (with_reducible exact laws_heldFixed.mono _ _ _ _ _)
   | (with_reducible exact laws_markFixed.mono _ _ _ _ _)
   | (with_reducible exact spec_ReadFixed.mono _ _)
   | (with_reducible exact LeO.refl _)
   | (with_reducible exact LeO.none _)
   | (with_reducible refine LeO.ite ?_ ?_)
   | (with_reducible refine LeO.bind ?_ (fun _ => ?_))
   | exact ih0 _ _ _ _ _ _ _ _ _
   | exact ih1 _ _ _ _ _
   | exact impl_ReadFixed.mono _ _
   | exact laws_eqFixed.mono _ _ _ _ _ _ _
   | exact laws_heldFixed.mono _ _ _ _ _
   | exact laws_markFixed.mono _ _ _ _ _
   | exact spec_ReadFixed.mono _ _
   | exact LeO.none _
   | refine LeO.ite ?_ ?_
   | refine LeO.bind ?_ (fun _ => ?_)
set_option maxHeartbeats 8000000 in
set_option maxRecDepth 100000 in
theorem laws_FnExactReadFixed.calls (k : Nat) (a0 : ByteArray) (r : Bool) (w : World) (hml : MaxL w) (h : laws_FnExactReadFixed.f k a0 = some r) :
  Calls Tryd.prog 4 #[.string a0] w fun e w' => e = .returned (.bool r) ∧ Below w.heap.size w w' := by
 have hu27 := Tryd.underlying27
 have HML := Aside0.mk hml
 clear hml
 have HB := Aside0.mk (Below.refl w.heap.size w)
 have H : (if (a0.size : Int) > 1048576 then (some true) else ((spec_ReadFixed.f k a0).bind fun bt244 => ((impl_ReadFixed.f k a0).bind fun bt251 => ((laws_eqFixed.f k bt251.1 bt251.2.1 bt251.2.2.1 bt244.1 bt244.2.1 bt244.2.2.1).bind fun t258 => (if t258 = true then (laws_FnExactReadFixed.j0 k a0 bt244.2.2.2 (bt251.2.2.2 != bt244.2.2.2) bt244.1 bt244.2.1 bt244.2.2.1 bt251.1 bt251.2.1 bt251.2.2.1) else (laws_FnExactReadFixed.j0 k a0 bt244.2.2.2 true bt244.1 bt244.2.1 bt244.2.2.1 bt251.1 bt251.2.1 bt251.2.2.1)))))) = some r := h
 clear h
 by_cases c2 : (a0.size : Int) > 1048576
 ·rw [if_pos c2] at H
  have c2b0 : decide (1048576 < (a0.size : Int)) = true := decide_eq_true c2
  have c2b1 : decide (1048576 < a0.size) = true := decide_eq_true (by omega)
  clear c2
  obtain rfl := Option.some.inj H
  go_enter Tryd.func4, Tryd.ntmps4
  go_wp2
  go_ret
  exact ⟨by first | rfl | (simp [errW_none, errW_some] <;> rfl) | (simp [*, errW_none, errW_some] <;> rfl), by repeat (first | (with_reducible first | exact HB.out | apply below_alloc | apply pw_below_drewN | apply below_drew1) | exact HB.out)⟩
 ·rw [if_neg c2] at H
  have c2b0 : decide (1048576 < (a0.size : Int)) = false := decide_eq_false c2
  have c2b1 : decide (1048576 < a0.size) = false := decide_eq_false (by omega)
  clear c2
  replace H := Option.bind_eq_some_iff.mp H
  obtain ⟨⟨t244, t245, t246, t249⟩, A30, H⟩ := H
  replace H : ((impl_ReadFixed.f k a0).bind fun bt251 => ((laws_eqFixed.f k bt251.1 bt251.2.1 bt251.2.2.1 t244 t245 t246).bind fun t258 => (if t258 = true then (laws_FnExactReadFixed.j0 k a0 t249 (bt251.2.2.2 != t249) t244 t245 t246 bt251.1 bt251.2.1 bt251.2.2.1) else (laws_FnExactReadFixed.j0 k a0 t249 true t244 t245 t246 bt251.1 bt251.2.1 bt251.2.2.1)))) = some r := H
  have A3 := Aside0.mk A30
  clear A30
  replace H := Option.bind_eq_some_iff.mp H
  obtain ⟨⟨t251, t252, t253, t256⟩, A40, H⟩ := H
  replace H : ((laws_eqFixed.f k t251 t252 t253 t244 t245 t246).bind fun t258 => (if t258 = true then (laws_FnExactReadFixed.j0 k a0 t249 (t256 != t249) t244 t245 t246 t251 t252 t253) else (laws_FnExactReadFixed.j0 k a0 t249 true t244 t245 t246 t251 t252 t253))) = some r := H
  have A4 := Aside0.mk A40
  clear A40
  have HC5 := Aside0.mk H
  clear H
  go_enter Tryd.func4, Tryd.ntmps4
  go_upto_region 5 with (first | ((with_reducible refine gate_callee (f := 20) rfl ?_); refine goesL_ (some 16) rfl rfl Tryd.func20 (by kernel_rfl) rfl #[.string a0] rfl (by (try simp only [List.map_toArray, List.map_cons, List.map_nil]); first | done | rfl | (simp only [List.length_drop, List.length_take]; rfl)) ?_; (with_reducible refine (spec_ReadFixed.calls k a0 t244 t245 t246 t249 _ A3.out).mono ?_); rintro e w6 ⟨v247, rfl, ho0, hb⟩; refine ⟨_, rfl, ?_⟩; have n0_ := Aside0.mk (Kd.R_lower ho0 (below_size (by repeat (first | (with_reducible first | exact HB.out | apply below_alloc | apply pw_below_drewN | apply below_drew1) | exact HB.out)))); have n1_ := Aside0.mk (below_step (by repeat (first | (with_reducible first | exact HB.out | apply below_alloc | apply pw_below_drewN | apply below_drew1) | exact HB.out)) hb); clear HB; have HO248 := n0_; have HB := n1_; clear n0_ n1_; (try clear hb); (try clear hb2); (try clear hk); (try clear hi); (try clear ho0)) | ((with_reducible refine gate_dst (N := 3) rfl ?_); refine box_event ?hg (N := 3) ?hd (cs := #[.int .i8 0, .int .i8 0, .slice none 0 0]) (t := 27) ?hr ?_; (case hd => rfl); (case hg => rfl); (case hr => first | (go_simp; done) | (go_simp; rfl)); intro gb250 hg w7 hbox hb; have n0_ := Aside0.mk (Kd.R_below (by (with_reducible repeat (first | apply Kd.R_alloc | apply Kd.R_drewN | apply Kd.R_drew)); exact HO248.out) hb); have n1_ := Aside0.mk (below_step (by repeat (first | (with_reducible first | exact HB.out | apply below_alloc | apply pw_below_drewN | apply below_drew1) | exact HB.out)) hb); have n2_ := Aside0.mk (hbox); have n3_ := Aside0.mk ((by rw [hg]; exact (below_size (by repeat (first | (with_reducible first | exact HB.out | apply below_alloc | apply pw_below_drewN | apply below_drew1) | exact HB.out))) : w.heap.size ≤ gb250)); have n4_ := Aside0.mk ((by rw [hg]; exact (below_size (by repeat (first | (with_reducible first | exact HB.out | apply below_alloc | apply pw_below_drewN | apply below_drew1) | exact HB.out))) : w.heap.size ≤ gb250)); clear HO248; clear HB; have HO248 := n0_; have HB := n1_; have BK250 := n2_; have GW250 := n3_; have GE250 := n4_; clear n0_ n1_ n2_ n3_ n4_; clear hb hbox hg; have hcz8_0 : w7.cell? ⟨gb250, 0, none⟩ = some (.int .i8 0) := (blk_cell BK250.out 0).trans rfl; have hcz8_1 : w7.cell? ⟨gb250, 1, none⟩ = some (.int .i8 0) := (blk_cell BK250.out 1).trans rfl; have hcz8_2 : w7.cell? ⟨gb250, 2, none⟩ = some (.slice none 0 0) := (blk_cell BK250.out 2).trans rfl; have hfz8_0 := blk_frozen BK250.out 0; have hfz8_1 := blk_frozen BK250.out 1; have hfz8_2 := blk_frozen BK250.out 2; obtain ⟨Ao9, co9, eo9⟩ := Kd.R_slice HO248.out; subst eo9) | ((with_reducible refine gate_callee (f := 7) rfl ?_); refine goesL_ (some 21) rfl rfl Tryd.func7 (by kernel_rfl) rfl #[.string a0] rfl (by (try simp only [List.map_toArray, List.map_cons, List.map_nil]); first | done | rfl | (simp only [List.length_drop, List.length_take]; rfl)) ?_; (with_reducible refine (impl_ReadFixed.calls k a0 t251 t252 t253 t256 _ (HML.out.below (by repeat (first | (with_reducible first | exact HB.out | apply below_alloc | apply pw_below_drewN | apply below_drew1 | refine below_set ?_ GE250.out) | exact HB.out))) A4.out).mono ?_); rintro e w10 ⟨v254, rfl, ho0, hb⟩; refine ⟨_, rfl, ?_⟩; have n0_ := Aside0.mk (Kd.R_elder' (by (with_reducible repeat (first | apply Kd.R_alloc | apply Kd.R_drewN | apply Kd.R_drew)); exact (Kd.R_mono (Kd.R_far (p := ⟨gb250, 2, none⟩) (Kd.R_far (p := ⟨gb250, 1, none⟩) (Kd.R_far (p := ⟨gb250, 0, none⟩) (Kd.R_types HO248.out BK250.out (by decide)) (fun _ hk => hk.2) (.int .i8 t244)) (fun _ hk => hk.2) (.int .i8 t245)) (fun _ hk => hk.2) (.slice Ao9 t246.length co9)) (fun _ h_ => h_.1))) (Kd.R_base ho0) hb); have n1_ := Aside0.mk (Kd.R_lower (Kd.R_new' ho0 (Kd.R_lt (by (with_reducible repeat (first | apply Kd.R_alloc | apply Kd.R_drewN | apply Kd.R_drew)); exact (Kd.R_mono (Kd.R_far (p := ⟨gb250, 2, none⟩) (Kd.R_far (p := ⟨gb250, 1, none⟩) (Kd.R_far (p := ⟨gb250, 0, none⟩) (Kd.R_types HO248.out BK250.out (by decide)) (fun _ hk => hk.2) (.int .i8 t244)) (fun _ hk => hk.2) (.int .i8 t245)) (fun _ hk => hk.2) (.slice Ao9 t246.length co9)) (fun _ h_ => h_.1))))) (below_size (by repeat (first | (with_reducible first | exact HB.out | apply below_alloc | apply pw_below_drewN | apply below_drew1 | refine below_set ?_ GE250.out) | exact HB.out)))); have n2_ := Aside0.mk (blk_below (g := gb250) (o := .cells #[.int .i8 t244, .int .i8 t245, .slice Ao9 t246.length co9] 27 (0, 0)) (by (with_reducible repeat (first | refine blk_drewN ?_ _ | refine blk_drew ?_ | refine blk_alloc ?_ _)); refine blk_put (cs := #[.int .i8 t244, .int .i8 t245, .slice none 0 0]) ?_ 2 _ rfl; (with_reducible repeat (first | refine blk_drewN ?_ _ | refine blk_drew ?_ | refine blk_alloc ?_ _)); refine blk_put (cs := #[.int .i8 t244, .int .i8 0, .slice none 0 0]) ?_ 1 _ rfl; (with_reducible repeat (first | refine blk_drewN ?_ _ | refine blk_drew ?_ | refine blk_alloc ?_ _)); refine blk_put (cs := #[.int .i8 0, .int .i8 0, .slice none 0 0]) ?_ 0 _ rfl; (with_reducible repeat (first | refine blk_drewN ?_ _ | refine blk_drew ?_ | refine blk_alloc ?_ _)); exact BK250.out) hb); have n3_ := Aside0.mk (below_step (by repeat (first | (with_reducible first | exact HB.out | apply below_alloc | apply pw_below_drewN | apply below_drew1 | refine below_set ?_ GE250.out) | exact HB.out)) hb); clear HO248; clear BK250; clear HB; have HO248 := n0_; have HO255 := n1_; have BK250 := n2_; have HB := n3_; clear n0_ n1_ n2_ n3_; (try clear hb); (try clear hb2); (try clear hk); (try clear hi); (try clear ho0)) | ((with_reducible refine gate_dst (N := 5) rfl ?_); refine box_event ?hg (N := 5) ?hd (cs := #[.int .i8 0, .int .i8 0, .slice none 0 0]) (t := 27) ?hr ?_; (case hd => rfl); (case hg => rfl); (case hr => first | (go_simp; done) | (go_simp; rfl)); intro gb257 hg w11 hbox hb; have n0_ := Aside0.mk (Kd.R_below (by (with_reducible repeat (first | apply Kd.R_alloc | apply Kd.R_drewN | apply Kd.R_drew)); exact HO248.out) hb); have n1_ := Aside0.mk (Kd.R_below (by (with_reducible repeat (first | apply Kd.R_alloc | apply Kd.R_drewN | apply Kd.R_drew)); exact HO255.out) hb); have n2_ := Aside0.mk (blk_below (g := gb250) (o := .cells #[.int .i8 t244, .int .i8 t245, .slice Ao9 t246.length co9] 27 (0, 0)) (by (with_reducible repeat (first | refine blk_drewN ?_ _ | refine blk_drew ?_ | refine blk_alloc ?_ _)); exact BK250.out) hb); have n3_ := Aside0.mk (below_step (by repeat (first | (with_reducible first | exact HB.out | apply below_alloc | apply pw_below_drewN | apply below_drew1 | refine below_set ?_ GE250.out) | exact HB.out)) hb); have n4_ := Aside0.mk (hbox); have n5_ := Aside0.mk ((by rw [hg]; exact (below_size (by repeat (first | (with_reducible first | exact HB.out | apply below_alloc | apply pw_below_drewN | apply below_drew1 | refine below_set ?_ GE250.out) | exact HB.out))) : w.heap.size ≤ gb257)); have n6_ := Aside0.mk ((by rw [hg]; exact (below_size (by repeat (first | (with_reducible first | exact HB.out | apply below_alloc | apply pw_below_drewN | apply below_drew1 | refine below_set ?_ GE250.out) | exact HB.out))) : w.heap.size ≤ gb257)); have n7_ := Aside0.mk ((by rw [hg]; exact Nat.ne_of_lt (blk_lt (g := gb250) (o := .cells #[.int .i8 t244, .int .i8 t245, .slice Ao9 t246.length co9] 27 (0, 0)) (by (with_reducible repeat (first | refine blk_drewN ?_ _ | refine blk_drew ?_ | refine blk_alloc ?_ _)); exact BK250.out)) : gb250 ≠ gb257)); have n8_ := Aside0.mk ((by rw [hg]; exact Nat.ne_of_gt (blk_lt (g := gb250) (o := .cells #[.int .i8 t244, .int .i8 t245, .slice Ao9 t246.length co9] 27 (0, 0)) (by (with_reducible repeat (first | refine blk_drewN ?_ _ | refine blk_drew ?_ | refine blk_alloc ?_ _)); exact BK250.out)) : gb257 ≠ gb250)); clear HO248; clear HO255; clear BK250; clear HB; have HO248 := n0_; have HO255 := n1_; have BK250 := n2_; have HB := n3_; have BK257 := n4_; have GW257 := n5_; have GE257 := n6_; have NB250_257 := n7_; have NB257_250 := n8_; clear n0_ n1_ n2_ n3_ n4_ n5_ n6_ n7_ n8_; clear hb hbox hg; have hnb12 := NB257_250.out; have hnc12 := NB250_257.out; have hcz13_0 : w11.cell? ⟨gb257, 0, none⟩ = some (.int .i8 0) := (blk_cell BK257.out 0).trans rfl; have hcz13_1 : w11.cell? ⟨gb257, 1, none⟩ = some (.int .i8 0) := (blk_cell BK257.out 1).trans rfl; have hcz13_2 : w11.cell? ⟨gb257, 2, none⟩ = some (.slice none 0 0) := (blk_cell BK257.out 2).trans rfl; have hfz13_0 := blk_frozen BK257.out 0; have hfz13_1 := blk_frozen BK257.out 1; have hfz13_2 := blk_frozen BK257.out 2; obtain ⟨Ao14, co14, eo14⟩ := Kd.R_slice HO255.out; subst eo14))
  (try simp only [Act.put, List.setIfInBounds_toArray, List.set_cons_zero, List.set_cons_succ])
  go_cut [32] (fun v32 wc => ∃ (kq : Nat) (x32_4 : Bool), v32 = .bool x32_4 ∧ Aside0 (laws_FnExactReadFixed.j0 kq a0 t249 x32_4 t244 t245 t246 t251 t252 t253 = some r) ∧ Aside0 (kq ≤ k) ∧ Aside0 (Kd.R k35 35 wc w.heap.size (fun k_ => some k_ ≠ ((.slice Ao14 t253.length co14) : Value).ownBlock) (.slice Ao9 t246.length co9) t246) ∧ Aside0 (Kd.R k35 35 wc w.heap.size (fun k_ => some k_ ≠ ((.slice Ao9 t246.length co9) : Value).ownBlock) (.slice Ao14 t253.length co14) t253) ∧ Aside0 (wc.heap[gb250]? = some (.cells #[.int .i8 t244, .int .i8 t245, (.slice Ao9 t246.length co9)] 27 (0, 0))) ∧ Aside0 (wc.heap[gb257]? = some (.cells #[.int .i8 t251, .int .i8 t252, (.slice Ao14 t253.length co14)] 27 (0, 0))) ∧ Aside0 (Below w.heap.size w wc))
  case first =>
   have H := HC5.out
   clear HC5
   replace H := Option.bind_eq_some_iff.mp H
   obtain ⟨t258, A150, H⟩ := H
   replace H : (if t258 = true then (laws_FnExactReadFixed.j0 k a0 t249 (t256 != t249) t244 t245 t246 t251 t252 t253) else (laws_FnExactReadFixed.j0 k a0 t249 true t244 t245 t246 t251 t252 t253)) = some r := H
   have A15 := Aside0.mk A150
   clear A150
   by_cases c16 : t258 = true
   ·subst c16
    have H1 : (laws_FnExactReadFixed.j0 k a0 t249 (t256 != t249) t244 t245 t246 t251 t252 t253) = some r := by rw [if_pos rfl] at H; exact H
    clear H
    have H := H1
    clear H1
    have H' := Aside0.mk H
    clear H
    have hnb17 := NB257_250.out
    have hnc17 := NB250_257.out
    have hcz18_0 : w11.cell? ⟨gb257, 0, none⟩ = some (.int .i8 0) := (blk_cell BK257.out 0).trans rfl
    have hcz18_1 : w11.cell? ⟨gb257, 1, none⟩ = some (.int .i8 0) := (blk_cell BK257.out 1).trans rfl
    have hcz18_2 : w11.cell? ⟨gb257, 2, none⟩ = some (.slice none 0 0) := (blk_cell BK257.out 2).trans rfl
    have hfz18_0 := blk_frozen BK257.out 0
    have hfz18_1 := blk_frozen BK257.out 1
    have hfz18_2 := blk_frozen BK257.out 2
    have hcz19_0 : w11.cell? ⟨gb250, 0, none⟩ = some (.int .i8 t244) := (blk_cell BK250.out 0).trans rfl
    have hcz19_1 : w11.cell? ⟨gb250, 1, none⟩ = some (.int .i8 t245) := (blk_cell BK250.out 1).trans rfl
    have hcz19_2 : w11.cell? ⟨gb250, 2, none⟩ = some (.slice Ao9 t246.length co9) := (blk_cell BK250.out 2).trans rfl
    have hfz19_0 := blk_frozen BK250.out 0
    have hfz19_1 := blk_frozen BK250.out 1
    have hfz19_2 := blk_frozen BK250.out 2
    go_wp2_with (first | ((with_reducible refine gate_callee (f := 21) rfl ?_); refine goesL_ (some 26) rfl rfl Tryd.func21 (by kernel_rfl) rfl #[.agg #[.int .i8 t251, .int .i8 t252, .slice Ao14 t253.length co14], .agg #[.int .i8 t244, .int .i8 t245, .slice Ao9 t246.length co9]] rfl (by (try simp only [List.map_toArray, List.map_cons, List.map_nil]); first | done | rfl | (simp only [List.length_drop, List.length_take]; rfl)) ?_; (with_reducible refine (laws_eqFixed.calls k t251 t252 _ _ t253 t244 t245 _ _ t246 true _ ?side1 ?side2 ?side3 ?side4 A15.out).mono ?_); (case side1 => refine (Kd.R_reads' (e := 35) (base := w.heap.size) (ok := fun k_ => (True ∧ some k_ ≠ (.slice Ao9 t246.length co9 : Value).ownBlock)) (n := t253.length) (c := co14) ?_).2.2; exact (by (with_reducible repeat (first | apply Kd.R_alloc | apply Kd.R_drewN | apply Kd.R_drew)); exact (Kd.R_mono (Kd.R_far (p := ⟨gb257, 2, none⟩) (Kd.R_far (p := ⟨gb257, 1, none⟩) (Kd.R_far (p := ⟨gb257, 0, none⟩) (Kd.R_types HO255.out BK257.out (by decide)) (fun _ hk => hk.2) (.int .i8 t251)) (fun _ hk => hk.2) (.int .i8 t252)) (fun _ hk => hk.2) (.slice Ao14 t253.length co14)) (fun _ h_ => h_.1)))); (case side2 => exact (Kd.R_reads' HO255.out).2.1); (case side3 => refine (Kd.R_reads' (e := 35) (base := w.heap.size) (ok := fun k_ => (True ∧ some k_ ≠ (.slice Ao14 t253.length co14 : Value).ownBlock)) (n := t246.length) (c := co9) ?_).2.2; exact (by (with_reducible repeat (first | apply Kd.R_alloc | apply Kd.R_drewN | apply Kd.R_drew)); exact (Kd.R_mono (Kd.R_far (p := ⟨gb257, 2, none⟩) (Kd.R_far (p := ⟨gb257, 1, none⟩) (Kd.R_far (p := ⟨gb257, 0, none⟩) (Kd.R_types HO248.out BK257.out (by decide)) (fun _ hk => hk.2) (.int .i8 t251)) (fun _ hk => hk.2) (.int .i8 t252)) (fun _ hk => hk.2) (.slice Ao14 t253.length co14)) (fun _ h_ => h_.1)))); (case side4 => exact (Kd.R_reads' HO248.out).2.1); rintro e w20 ⟨rfl, hb⟩; refine ⟨_, rfl, ?_⟩; have n0_ := Aside0.mk (Kd.R_below (by (with_reducible repeat (first | apply Kd.R_alloc | apply Kd.R_drewN | apply Kd.R_drew)); exact (Kd.R_mono (Kd.R_far (p := ⟨gb257, 2, none⟩) (Kd.R_far (p := ⟨gb257, 1, none⟩) (Kd.R_far (p := ⟨gb257, 0, none⟩) (Kd.R_types HO248.out BK257.out (by decide)) (fun _ hk => hk.2) (.int .i8 t251)) (fun _ hk => hk.2) (.int .i8 t252)) (fun _ hk => hk.2) (.slice Ao14 t253.length co14)) (fun _ h_ => h_.1))) hb); have n1_ := Aside0.mk (Kd.R_below (by (with_reducible repeat (first | apply Kd.R_alloc | apply Kd.R_drewN | apply Kd.R_drew)); exact (Kd.R_mono (Kd.R_far (p := ⟨gb257, 2, none⟩) (Kd.R_far (p := ⟨gb257, 1, none⟩) (Kd.R_far (p := ⟨gb257, 0, none⟩) (Kd.R_types HO255.out BK257.out (by decide)) (fun _ hk => hk.2) (.int .i8 t251)) (fun _ hk => hk.2) (.int .i8 t252)) (fun _ hk => hk.2) (.slice Ao14 t253.length co14)) (fun _ h_ => h_.1))) hb); have n2_ := Aside0.mk (blk_below (g := gb250) (o := .cells #[.int .i8 t244, .int .i8 t245, .slice Ao9 t246.length co9] 27 (0, 0)) (by (with_reducible repeat (first | refine blk_drewN ?_ _ | refine blk_drew ?_ | refine blk_alloc ?_ _)); refine blk_far ?_ NB250_257.out _; (with_reducible repeat (first | refine blk_drewN ?_ _ | refine blk_drew ?_ | refine blk_alloc ?_ _)); refine blk_far ?_ NB250_257.out _; (with_reducible repeat (first | refine blk_drewN ?_ _ | refine blk_drew ?_ | refine blk_alloc ?_ _)); refine blk_far ?_ NB250_257.out _; (with_reducible repeat (first | refine blk_drewN ?_ _ | refine blk_drew ?_ | refine blk_alloc ?_ _)); exact BK250.out) hb); have n3_ := Aside0.mk (blk_below (g := gb257) (o := .cells #[.int .i8 t251, .int .i8 t252, .slice Ao14 t253.length co14] 27 (0, 0)) (by (with_reducible repeat (first | refine blk_drewN ?_ _ | refine blk_drew ?_ | refine blk_alloc ?_ _)); refine blk_put (cs := #[.int .i8 t251, .int .i8 t252, .slice none 0 0]) ?_ 2 _ rfl; (with_reducible repeat (first | refine blk_drewN ?_ _ | refine blk_drew ?_ | refine blk_alloc ?_ _)); refine blk_put (cs := #[.int .i8 t251, .int .i8 0, .slice none 0 0]) ?_ 1 _ rfl; (with_reducible repeat (first | refine blk_drewN ?_ _ | refine blk_drew ?_ | refine blk_alloc ?_ _)); refine blk_put (cs := #[.int .i8 0, .int .i8 0, .slice none 0 0]) ?_ 0 _ rfl; (with_reducible repeat (first | refine blk_drewN ?_ _ | refine blk_drew ?_ | refine blk_alloc ?_ _)); exact BK257.out) hb); have n4_ := Aside0.mk (below_step (by repeat (first | (with_reducible first | exact HB.out | apply below_alloc | apply pw_below_drewN | apply below_drew1 | refine below_set ?_ GE250.out | refine below_set ?_ GE257.out) | exact HB.out)) hb); clear HO248; clear HO255; clear BK250; clear BK257; clear HB; have HO248 := n0_; have HO255 := n1_; have BK250 := n2_; have BK257 := n3_; have HB := n4_; clear n0_ n1_ n2_ n3_ n4_; (try clear hb); (try clear hb2); (try clear hk); (try clear hi)))
    go_meet
    case rel => exact ⟨_, ((t256 != t249)), (by first | rfl | (simp; done) | (simp [*]; done)), H', ⟨by first | omega | exact Nat.le_refl _⟩, ⟨by (with_reducible repeat (first | apply Kd.R_alloc | apply Kd.R_drewN | apply Kd.R_drew)); exact Kd.R_mono HO248.out (fun _ hk => hk.2)⟩, ⟨by (with_reducible repeat (first | apply Kd.R_alloc | apply Kd.R_drewN | apply Kd.R_drew)); exact Kd.R_mono HO255.out (fun _ hk => hk.2)⟩, ⟨by (with_reducible repeat (first | refine blk_drewN ?_ _ | refine blk_drew ?_ | refine blk_alloc ?_ _)); exact BK250.out⟩, ⟨by (with_reducible repeat (first | refine blk_drewN ?_ _ | refine blk_drew ?_ | refine blk_alloc ?_ _)); exact BK257.out⟩, ⟨by repeat (first | (with_reducible first | exact HB.out | apply below_alloc | apply pw_below_drewN | apply below_drew1 | refine below_set ?_ GE250.out | refine below_set ?_ GE257.out) | exact HB.out)⟩⟩
   ·replace c16 := Bool.eq_false_iff.mpr c16
    subst c16
    have H1 : (laws_FnExactReadFixed.j0 k a0 t249 true t244 t245 t246 t251 t252 t253) = some r := by rw [if_neg (show ¬ (false = true) by decide)] at H; exact H
    clear H
    have H := H1
    clear H1
    have H' := Aside0.mk H
    clear H
    have hnb21 := NB257_250.out
    have hnc21 := NB250_257.out
    have hcz22_0 : w11.cell? ⟨gb257, 0, none⟩ = some (.int .i8 0) := (blk_cell BK257.out 0).trans rfl
    have hcz22_1 : w11.cell? ⟨gb257, 1, none⟩ = some (.int .i8 0) := (blk_cell BK257.out 1).trans rfl
    have hcz22_2 : w11.cell? ⟨gb257, 2, none⟩ = some (.slice none 0 0) := (blk_cell BK257.out 2).trans rfl
    have hfz22_0 := blk_frozen BK257.out 0
    have hfz22_1 := blk_frozen BK257.out 1
    have hfz22_2 := blk_frozen BK257.out 2
    have hcz23_0 : w11.cell? ⟨gb250, 0, none⟩ = some (.int .i8 t244) := (blk_cell BK250.out 0).trans rfl
    have hcz23_1 : w11.cell? ⟨gb250, 1, none⟩ = some (.int .i8 t245) := (blk_cell BK250.out 1).trans rfl
    have hcz23_2 : w11.cell? ⟨gb250, 2, none⟩ = some (.slice Ao9 t246.length co9) := (blk_cell BK250.out 2).trans rfl
    have hfz23_0 := blk_frozen BK250.out 0
    have hfz23_1 := blk_frozen BK250.out 1
    have hfz23_2 := blk_frozen BK250.out 2
    go_wp2_with (first | ((with_reducible refine gate_callee (f := 21) rfl ?_); refine goesL_ (some 26) rfl rfl Tryd.func21 (by kernel_rfl) rfl #[.agg #[.int .i8 t251, .int .i8 t252, .slice Ao14 t253.length co14], .agg #[.int .i8 t244, .int .i8 t245, .slice Ao9 t246.length co9]] rfl (by (try simp only [List.map_toArray, List.map_cons, List.map_nil]); first | done | rfl | (simp only [List.length_drop, List.length_take]; rfl)) ?_; (with_reducible refine (laws_eqFixed.calls k t251 t252 _ _ t253 t244 t245 _ _ t246 false _ ?side1 ?side2 ?side3 ?side4 A15.out).mono ?_); (case side1 => refine (Kd.R_reads' (e := 35) (base := w.heap.size) (ok := fun k_ => (True ∧ some k_ ≠ (.slice Ao9 t246.length co9 : Value).ownBlock)) (n := t253.length) (c := co14) ?_).2.2; exact (by (with_reducible repeat (first | apply Kd.R_alloc | apply Kd.R_drewN | apply Kd.R_drew)); exact (Kd.R_mono (Kd.R_far (p := ⟨gb257, 2, none⟩) (Kd.R_far (p := ⟨gb257, 1, none⟩) (Kd.R_far (p := ⟨gb257, 0, none⟩) (Kd.R_types HO255.out BK257.out (by decide)) (fun _ hk => hk.2) (.int .i8 t251)) (fun _ hk => hk.2) (.int .i8 t252)) (fun _ hk => hk.2) (.slice Ao14 t253.length co14)) (fun _ h_ => h_.1)))); (case side2 => exact (Kd.R_reads' HO255.out).2.1); (case side3 => refine (Kd.R_reads' (e := 35) (base := w.heap.size) (ok := fun k_ => (True ∧ some k_ ≠ (.slice Ao14 t253.length co14 : Value).ownBlock)) (n := t246.length) (c := co9) ?_).2.2; exact (by (with_reducible repeat (first | apply Kd.R_alloc | apply Kd.R_drewN | apply Kd.R_drew)); exact (Kd.R_mono (Kd.R_far (p := ⟨gb257, 2, none⟩) (Kd.R_far (p := ⟨gb257, 1, none⟩) (Kd.R_far (p := ⟨gb257, 0, none⟩) (Kd.R_types HO248.out BK257.out (by decide)) (fun _ hk => hk.2) (.int .i8 t251)) (fun _ hk => hk.2) (.int .i8 t252)) (fun _ hk => hk.2) (.slice Ao14 t253.length co14)) (fun _ h_ => h_.1)))); (case side4 => exact (Kd.R_reads' HO248.out).2.1); rintro e w24 ⟨rfl, hb⟩; refine ⟨_, rfl, ?_⟩; have n0_ := Aside0.mk (Kd.R_below (by (with_reducible repeat (first | apply Kd.R_alloc | apply Kd.R_drewN | apply Kd.R_drew)); exact (Kd.R_mono (Kd.R_far (p := ⟨gb257, 2, none⟩) (Kd.R_far (p := ⟨gb257, 1, none⟩) (Kd.R_far (p := ⟨gb257, 0, none⟩) (Kd.R_types HO248.out BK257.out (by decide)) (fun _ hk => hk.2) (.int .i8 t251)) (fun _ hk => hk.2) (.int .i8 t252)) (fun _ hk => hk.2) (.slice Ao14 t253.length co14)) (fun _ h_ => h_.1))) hb); have n1_ := Aside0.mk (Kd.R_below (by (with_reducible repeat (first | apply Kd.R_alloc | apply Kd.R_drewN | apply Kd.R_drew)); exact (Kd.R_mono (Kd.R_far (p := ⟨gb257, 2, none⟩) (Kd.R_far (p := ⟨gb257, 1, none⟩) (Kd.R_far (p := ⟨gb257, 0, none⟩) (Kd.R_types HO255.out BK257.out (by decide)) (fun _ hk => hk.2) (.int .i8 t251)) (fun _ hk => hk.2) (.int .i8 t252)) (fun _ hk => hk.2) (.slice Ao14 t253.length co14)) (fun _ h_ => h_.1))) hb); have n2_ := Aside0.mk (blk_below (g := gb250) (o := .cells #[.int .i8 t244, .int .i8 t245, .slice Ao9 t246.length co9] 27 (0, 0)) (by (with_reducible repeat (first | refine blk_drewN ?_ _ | refine blk_drew ?_ | refine blk_alloc ?_ _)); refine blk_far ?_ NB250_257.out _; (with_reducible repeat (first | refine blk_drewN ?_ _ | refine blk_drew ?_ | refine blk_alloc ?_ _)); refine blk_far ?_ NB250_257.out _; (with_reducible repeat (first | refine blk_drewN ?_ _ | refine blk_drew ?_ | refine blk_alloc ?_ _)); refine blk_far ?_ NB250_257.out _; (with_reducible repeat (first | refine blk_drewN ?_ _ | refine blk_drew ?_ | refine blk_alloc ?_ _)); exact BK250.out) hb); have n3_ := Aside0.mk (blk_below (g := gb257) (o := .cells #[.int .i8 t251, .int .i8 t252, .slice Ao14 t253.length co14] 27 (0, 0)) (by (with_reducible repeat (first | refine blk_drewN ?_ _ | refine blk_drew ?_ | refine blk_alloc ?_ _)); refine blk_put (cs := #[.int .i8 t251, .int .i8 t252, .slice none 0 0]) ?_ 2 _ rfl; (with_reducible repeat (first | refine blk_drewN ?_ _ | refine blk_drew ?_ | refine blk_alloc ?_ _)); refine blk_put (cs := #[.int .i8 t251, .int .i8 0, .slice none 0 0]) ?_ 1 _ rfl; (with_reducible repeat (first | refine blk_drewN ?_ _ | refine blk_drew ?_ | refine blk_alloc ?_ _)); refine blk_put (cs := #[.int .i8 0, .int .i8 0, .slice none 0 0]) ?_ 0 _ rfl; (with_reducible repeat (first | refine blk_drewN ?_ _ | refine blk_drew ?_ | refine blk_alloc ?_ _)); exact BK257.out) hb); have n4_ := Aside0.mk (below_step (by repeat (first | (with_reducible first | exact HB.out | apply below_alloc | apply pw_below_drewN | apply below_drew1 | refine below_set ?_ GE250.out | refine below_set ?_ GE257.out) | exact HB.out)) hb); clear HO248; clear HO255; clear BK250; clear BK257; clear HB; have HO248 := n0_; have HO255 := n1_; have BK250 := n2_; have BK257 := n3_; have HB := n4_; clear n0_ n1_ n2_ n3_ n4_; (try clear hb); (try clear hb2); (try clear hk); (try clear hi)))
    go_meet
    case rel => exact ⟨_, (true), (by first | rfl | (simp; done) | (simp [*]; done)), H', ⟨by first | omega | exact Nat.le_refl _⟩, ⟨by (with_reducible repeat (first | apply Kd.R_alloc | apply Kd.R_drewN | apply Kd.R_drew)); exact Kd.R_mono HO248.out (fun _ hk => hk.2)⟩, ⟨by (with_reducible repeat (first | apply Kd.R_alloc | apply Kd.R_drewN | apply Kd.R_drew)); exact Kd.R_mono HO255.out (fun _ hk => hk.2)⟩, ⟨by (with_reducible repeat (first | refine blk_drewN ?_ _ | refine blk_drew ?_ | refine blk_alloc ?_ _)); exact BK250.out⟩, ⟨by (with_reducible repeat (first | refine blk_drewN ?_ _ | refine blk_drew ?_ | refine blk_alloc ?_ _)); exact BK257.out⟩, ⟨by repeat (first | (with_reducible first | exact HB.out | apply below_alloc | apply pw_below_drewN | apply below_drew1 | refine below_set ?_ GE250.out | refine below_set ?_ GE257.out) | exact HB.out)⟩⟩
  case rest =>
   clear HC5
   try clear c1
   try clear c2
   try clear c2b0
   try clear c2b1
   try clear p2
   try clear c4
   try clear c7
   try clear c12
   try clear c16
   try clear c17
   try clear c20
   try clear c21
   try clear hcz13_0
   try clear hcz13_1
   try clear hcz13_2
   try clear hcz18_0
   try clear hcz18_1
   try clear hcz18_2
   try clear hcz19_0
   try clear hcz19_1
   try clear hcz19_2
   try clear hcz22_0
   try clear hcz22_1
   try clear hcz22_2
   try clear hcz23_0
   try clear hcz23_1
   try clear hcz23_2
   try clear hcz8_0
   try clear hcz8_1
   try clear hcz8_2
   try clear hfz13_0
   try clear hfz13_1
   try clear hfz13_2
   try clear hfz18_0
   try clear hfz18_1
   try clear hfz18_2
   try clear hfz19_0
   try clear hfz19_1
   try clear hfz19_2
   try clear hfz22_0
   try clear hfz22_1
   try clear hfz22_2
   try clear hfz23_0
   try clear hfz23_1
   try clear hfz23_2
   try clear hfz8_0
   try clear hfz8_1
   try clear hfz8_2
   obtain ⟨kq, x32_4, rfl, HA, HJ4, HO_251002, HO_258002, BK250, BK257, HB⟩ := hcut
   cases kq with
   | zero => exact absurd HA.out (by simp [laws_FnExactReadFixed.j0])
   | succ kj4 =>
    have H := HA.out
    clear HA
    simp only [laws_FnExactReadFixed.j0] at H
    by_cases c25 : x32_4 = true
    ·subst c25
     have H1 : (some false) = some r := by rw [if_pos rfl] at H; exact H
     clear H
     have H := H1
     clear H1
     obtain rfl := Option.some.inj H
     go_wp2
     go_ret
     exact ⟨by first | rfl | (simp [errW_none, errW_some] <;> rfl) | (simp [*, errW_none, errW_some] <;> rfl), by repeat (first | (with_reducible first | exact HB.out | apply below_alloc | apply pw_below_drewN | apply below_drew1 | refine below_set ?_ GE250.out | refine below_set ?_ GE257.out) | exact HB.out)⟩
    ·replace c25 := Bool.eq_false_iff.mpr c25
     subst c25
     have H1 : ((laws_markFixed.f kj4 t251 t252 t253 1).bind fun bt259 => ((laws_heldFixed.f kj4 t251 t252 bt259.2 1).bind fun t261 => (if t261 < 0 then (some false) else (if t261 = bt259.1 then ((impl_ReadFixed.f kj4 a0).bind fun bt262 => ((laws_eqFixed.f kj4 bt262.1 bt262.2.1 bt262.2.2.1 t244 t245 t246).bind fun t269 => (if t269 = true then (laws_FnExactReadFixed.j1 kj4 bt259.1 (bt262.2.2.2 != t249) t251 t252 bt259.2) else (laws_FnExactReadFixed.j1 kj4 bt259.1 true t251 t252 bt259.2)))) else (some false))))) = some r := by rw [if_neg (show ¬ (false = true) by decide)] at H; exact H
     clear H
     have H := H1
     clear H1
     replace H := Option.bind_eq_some_iff.mp H
     obtain ⟨⟨t259, t260⟩, A260, H⟩ := H
     replace H : ((laws_heldFixed.f kj4 t251 t252 t260 1).bind fun t261 => (if t261 < 0 then (some false) else (if t261 = t259 then ((impl_ReadFixed.f kj4 a0).bind fun bt262 => ((laws_eqFixed.f kj4 bt262.1 bt262.2.1 bt262.2.2.1 t244 t245 t246).bind fun t269 => (if t269 = true then (laws_FnExactReadFixed.j1 kj4 t259 (bt262.2.2.2 != t249) t251 t252 t260) else (laws_FnExactReadFixed.j1 kj4 t259 true t251 t252 t260)))) else (some false)))) = some r := H
     have A26 := Aside0.mk A260
     clear A260
     replace H := Option.bind_eq_some_iff.mp H
     obtain ⟨t261, A270, H⟩ := H
     replace H : (if t261 < 0 then (some false) else (if t261 = t259 then ((impl_ReadFixed.f kj4 a0).bind fun bt262 => ((laws_eqFixed.f kj4 bt262.1 bt262.2.1 bt262.2.2.1 t244 t245 t246).bind fun t269 => (if t269 = true then (laws_FnExactReadFixed.j1 kj4 t259 (bt262.2.2.2 != t249) t251 t252 t260) else (laws_FnExactReadFixed.j1 kj4 t259 true t251 t252 t260)))) else (some false))) = some r := H
     have A27 := Aside0.mk A270
     clear A270
     by_cases c28 : t261 < 0
     ·rw [if_pos c28] at H
      have c28b0 : decide (t261 < 0) = true := decide_eq_true c28
      clear c28
      obtain rfl := Option.some.inj H
      have hnb29 := NB257_250.out
      have hnc29 := NB250_257.out
      have hcz30_0 : wc.cell? ⟨gb257, 0, none⟩ = some (.int .i8 t251) := (blk_cell BK257.out 0).trans rfl
      have hcz30_1 : wc.cell? ⟨gb257, 1, none⟩ = some (.int .i8 t252) := (blk_cell BK257.out 1).trans rfl
      have hcz30_2 : wc.cell? ⟨gb257, 2, none⟩ = some (.slice Ao14 t253.length co14) := (blk_cell BK257.out 2).trans rfl
      have hfz30_0 := blk_frozen BK257.out 0
      have hfz30_1 := blk_frozen BK257.out 1
      have hfz30_2 := blk_frozen BK257.out 2
      go_wp2_with (first | ((with_reducible refine gate_callee (f := 22) rfl ?_); refine goesL_ (some 35) rfl rfl Tryd.func22 (by kernel_rfl) rfl #[.agg #[.int .i8 t251, .int .i8 t252, .slice Ao14 t253.length co14], .int .i64 1] rfl (by (try simp only [List.map_toArray, List.map_cons, List.map_nil]); first | done | rfl | (simp only [List.length_drop, List.length_take]; rfl)) ?_; (with_reducible refine (laws_markFixed.calls kj4 t251 t252 (fun k_ => some k_ = (.slice Ao14 t253.length co14 : Value).ownBlock) (.slice Ao14 t253.length co14) t253 1 t259 t260 w _ ?side1 ?side2 A26.out).mono ?_); (case side1 => repeat (first | (with_reducible first | exact HB.out | apply below_alloc | apply pw_below_drewN | apply below_drew1 | refine below_set ?_ GE250.out | refine below_set ?_ GE257.out) | exact HB.out)); (case side2 => exact Kd.R_tight rfl HO_258002.out); rintro e w31 ⟨rfl, hy0, hb, hkp⟩; refine ⟨_, rfl, ?_⟩; have n0_ := Aside0.mk (Kd.R_mono (ok' := fun k_ => some k_ ≠ (.slice Ao14 t253.length co14 : Value).ownBlock) (Kd.R_keptB (HO_251002.out) hkp (fun k_ hk_ hs_ => (hk_) hs_)) (fun k_ hk_ => hk_.1)); have n1_ := Aside0.mk (Kd.R_reok rfl hy0 (fun k_ e_ => HO_258002.out.1 k_ e_)); have n2_ := Aside0.mk (blk_kept (by (with_reducible repeat (first | refine blk_drewN ?_ _ | refine blk_drew ?_ | refine blk_alloc ?_ _)); exact BK250.out) hkp (fun hs_ => (fun e_ => (Kd.R_ne HO_258002.out BK250.out (by decide)) e_) hs_)); have n3_ := Aside0.mk (blk_kept (by (with_reducible repeat (first | refine blk_drewN ?_ _ | refine blk_drew ?_ | refine blk_alloc ?_ _)); exact BK257.out) hkp (fun hs_ => (fun e_ => (Kd.R_ne HO_258002.out BK257.out (by decide)) e_) hs_)); have n4_ := Aside0.mk (hb); clear HO_251002; clear HO_258002; clear BK250; clear BK257; clear HB; have HO_251002 := n0_; have HO_258002 := n1_; have BK250 := n2_; have BK257 := n3_; have HB := n4_; clear n0_ n1_ n2_ n3_ n4_; (try clear hb); (try clear hkp); (try clear hy0); have hcz32_0 : w31.cell? ⟨gb257, 0, none⟩ = some (.int .i8 t251) := (blk_cell BK257.out 0).trans rfl; have hcz32_1 : w31.cell? ⟨gb257, 1, none⟩ = some (.int .i8 t252) := (blk_cell BK257.out 1).trans rfl; have hcz32_2 : w31.cell? ⟨gb257, 2, none⟩ = some (.slice Ao14 t253.length co14) := (blk_cell BK257.out 2).trans rfl; have hfz32_0 := blk_frozen BK257.out 0; have hfz32_1 := blk_frozen BK257.out 1; have hfz32_2 := blk_frozen BK257.out 2) | ((with_reducible refine gate_callee (f := 23) rfl ?_); refine goesL_ (some 38) rfl rfl Tryd.func23 (by kernel_rfl) rfl #[.agg #[.int .i8 t251, .int .i8 t252, .slice Ao14 t260.length co14], .int .i64 1] rfl (by (try simp only [List.map_toArray, List.map_cons, List.map_nil]); first | done | (rw [show t260.length = t253.length from (Kd.R_reads' HO_258002.out).1.symm] <;> rfl) | rfl | (simp only [List.length_drop, List.length_take]; rfl)) ?_; (with_reducible refine (laws_heldFixed.calls kj4 t251 t252 _ _ t260 1 t261 _ ?side1 ?side2 A27.out).mono ?_); (case side1 => repeat (first | exact (Kd.R_reads' HO_258002.out).2.2 | (with_reducible refine Kd.C_alloc ?_ _) | (with_reducible refine Kd.C_drewN ?_ _) | (with_reducible refine Kd.C_drew ?_))); (case side2 => rw [show t260.length = t253.length from (Kd.R_reads' HO_258002.out).1.symm]; exact (Kd.R_reads' HO_258002.out).2.1); rintro e w33 ⟨rfl, hb⟩; refine ⟨_, rfl, ?_⟩; have n0_ := Aside0.mk (Kd.R_below (by (with_reducible repeat (first | apply Kd.R_alloc | apply Kd.R_drewN | apply Kd.R_drew)); exact HO_251002.out) hb); have n1_ := Aside0.mk (Kd.R_below (by (with_reducible repeat (first | apply Kd.R_alloc | apply Kd.R_drewN | apply Kd.R_drew)); exact HO_258002.out) hb); have n2_ := Aside0.mk (blk_below (g := gb250) (o := .cells #[.int .i8 t244, .int .i8 t245, .slice Ao9 t246.length co9] 27 (0, 0)) (by (with_reducible repeat (first | refine blk_drewN ?_ _ | refine blk_drew ?_ | refine blk_alloc ?_ _)); exact BK250.out) hb); have n3_ := Aside0.mk (blk_below (g := gb257) (o := .cells #[.int .i8 t251, .int .i8 t252, .slice Ao14 t253.length co14] 27 (0, 0)) (by (with_reducible repeat (first | refine blk_drewN ?_ _ | refine blk_drew ?_ | refine blk_alloc ?_ _)); exact BK257.out) hb); have n4_ := Aside0.mk (below_step (by repeat (first | (with_reducible first | exact HB.out | apply below_alloc | apply pw_below_drewN | apply below_drew1 | refine below_set ?_ GE250.out | refine below_set ?_ GE257.out) | exact HB.out)) hb); clear HO_251002; clear HO_258002; clear BK250; clear BK257; clear HB; have HO_251002 := n0_; have HO_258002 := n1_; have BK250 := n2_; have BK257 := n3_; have HB := n4_; clear n0_ n1_ n2_ n3_ n4_; (try clear hb); (try clear hb2); (try clear hk); (try clear hi)))
      go_ret
      exact ⟨by first | rfl | (simp [errW_none, errW_some] <;> rfl) | (simp [*, errW_none, errW_some] <;> rfl), by repeat (first | (with_reducible first | exact HB.out | apply below_alloc | apply pw_below_drewN | apply below_drew1 | refine below_set ?_ GE250.out | refine below_set ?_ GE257.out) | exact HB.out)⟩
     ·rw [if_neg c28] at H
      have c28b0 : decide (t261 < 0) = false := decide_eq_false c28
      clear c28
      by_cases c34 : t261 = t259
      ·rw [if_pos c34] at H
       have c34b0 : (t261 == t259) = true := beq_iff_eq.mpr c34
       have c34b1 : (t261 != t259) = false := bne_eq_false_iff_eq.mpr c34
       clear c34
       replace H := Option.bind_eq_some_iff.mp H
       obtain ⟨⟨t262, t263, t264, t267⟩, A350, H⟩ := H
       replace H : ((laws_eqFixed.f kj4 t262 t263 t264 t244 t245 t246).bind fun t269 => (if t269 = true then (laws_FnExactReadFixed.j1 kj4 t259 (t267 != t249) t251 t252 t260) else (laws_FnExactReadFixed.j1 kj4 t259 true t251 t252 t260))) = some r := H
       have A35 := Aside0.mk A350
       clear A350
       have HC36 := Aside0.mk H
       clear H
       have hnb37 := NB257_250.out
       have hnc37 := NB250_257.out
       have hcz38_0 : wc.cell? ⟨gb257, 0, none⟩ = some (.int .i8 t251) := (blk_cell BK257.out 0).trans rfl
       have hcz38_1 : wc.cell? ⟨gb257, 1, none⟩ = some (.int .i8 t252) := (blk_cell BK257.out 1).trans rfl
       have hcz38_2 : wc.cell? ⟨gb257, 2, none⟩ = some (.slice Ao14 t253.length co14) := (blk_cell BK257.out 2).trans rfl
       have hfz38_0 := blk_frozen BK257.out 0
       have hfz38_1 := blk_frozen BK257.out 1
       have hfz38_2 := blk_frozen BK257.out 2
       go_upto_region 16 with (first | ((with_reducible refine gate_callee (f := 22) rfl ?_); refine goesL_ (some 35) rfl rfl Tryd.func22 (by kernel_rfl) rfl #[.agg #[.int .i8 t251, .int .i8 t252, .slice Ao14 t253.length co14], .int .i64 1] rfl (by (try simp only [List.map_toArray, List.map_cons, List.map_nil]); first | done | rfl | (simp only [List.length_drop, List.length_take]; rfl)) ?_; (with_reducible refine (laws_markFixed.calls kj4 t251 t252 (fun k_ => some k_ = (.slice Ao14 t253.length co14 : Value).ownBlock) (.slice Ao14 t253.length co14) t253 1 t259 t260 w _ ?side1 ?side2 A26.out).mono ?_); (case side1 => repeat (first | (with_reducible first | exact HB.out | apply below_alloc | apply pw_below_drewN | apply below_drew1 | refine below_set ?_ GE250.out | refine below_set ?_ GE257.out) | exact HB.out)); (case side2 => exact Kd.R_tight rfl HO_258002.out); rintro e w39 ⟨rfl, hy0, hb, hkp⟩; refine ⟨_, rfl, ?_⟩; have n0_ := Aside0.mk (Kd.R_mono (ok' := fun k_ => some k_ ≠ (.slice Ao14 t253.length co14 : Value).ownBlock) (Kd.R_keptB (HO_251002.out) hkp (fun k_ hk_ hs_ => (hk_) hs_)) (fun k_ hk_ => hk_.1)); have n1_ := Aside0.mk (Kd.R_reok rfl hy0 (fun k_ e_ => HO_258002.out.1 k_ e_)); have n2_ := Aside0.mk (blk_kept (by (with_reducible repeat (first | refine blk_drewN ?_ _ | refine blk_drew ?_ | refine blk_alloc ?_ _)); exact BK250.out) hkp (fun hs_ => (fun e_ => (Kd.R_ne HO_258002.out BK250.out (by decide)) e_) hs_)); have n3_ := Aside0.mk (blk_kept (by (with_reducible repeat (first | refine blk_drewN ?_ _ | refine blk_drew ?_ | refine blk_alloc ?_ _)); exact BK257.out) hkp (fun hs_ => (fun e_ => (Kd.R_ne HO_258002.out BK257.out (by decide)) e_) hs_)); have n4_ := Aside0.mk (hb); clear HO_251002; clear HO_258002; clear BK250; clear BK257; clear HB; have HO_251002 := n0_; have HO_258002 := n1_; have BK250 := n2_; have BK257 := n3_; have HB := n4_; clear n0_ n1_ n2_ n3_ n4_; (try clear hb); (try clear hkp); (try clear hy0); have hcz40_0 : w39.cell? ⟨gb257, 0, none⟩ = some (.int .i8 t251) := (blk_cell BK257.out 0).trans rfl; have hcz40_1 : w39.cell? ⟨gb257, 1, none⟩ = some (.int .i8 t252) := (blk_cell BK257.out 1).trans rfl; have hcz40_2 : w39.cell? ⟨gb257, 2, none⟩ = some (.slice Ao14 t253.length co14) := (blk_cell BK257.out 2).trans rfl; have hfz40_0 := blk_frozen BK257.out 0; have hfz40_1 := blk_frozen BK257.out 1; have hfz40_2 := blk_frozen BK257.out 2) | ((with_reducible refine gate_callee (f := 23) rfl ?_); refine goesL_ (some 38) rfl rfl Tryd.func23 (by kernel_rfl) rfl #[.agg #[.int .i8 t251, .int .i8 t252, .slice Ao14 t260.length co14], .int .i64 1] rfl (by (try simp only [List.map_toArray, List.map_cons, List.map_nil]); first | done | (rw [show t260.length = t253.length from (Kd.R_reads' HO_258002.out).1.symm] <;> rfl) | rfl | (simp only [List.length_drop, List.length_take]; rfl)) ?_; (with_reducible refine (laws_heldFixed.calls kj4 t251 t252 _ _ t260 1 t261 _ ?side1 ?side2 A27.out).mono ?_); (case side1 => repeat (first | exact (Kd.R_reads' HO_258002.out).2.2 | (with_reducible refine Kd.C_alloc ?_ _) | (with_reducible refine Kd.C_drewN ?_ _) | (with_reducible refine Kd.C_drew ?_))); (case side2 => rw [show t260.length = t253.length from (Kd.R_reads' HO_258002.out).1.symm]; exact (Kd.R_reads' HO_258002.out).2.1); rintro e w41 ⟨rfl, hb⟩; refine ⟨_, rfl, ?_⟩; have n0_ := Aside0.mk (Kd.R_below (by (with_reducible repeat (first | apply Kd.R_alloc | apply Kd.R_drewN | apply Kd.R_drew)); exact HO_251002.out) hb); have n1_ := Aside0.mk (Kd.R_below (by (with_reducible repeat (first | apply Kd.R_alloc | apply Kd.R_drewN | apply Kd.R_drew)); exact HO_258002.out) hb); have n2_ := Aside0.mk (blk_below (g := gb250) (o := .cells #[.int .i8 t244, .int .i8 t245, .slice Ao9 t246.length co9] 27 (0, 0)) (by (with_reducible repeat (first | refine blk_drewN ?_ _ | refine blk_drew ?_ | refine blk_alloc ?_ _)); exact BK250.out) hb); have n3_ := Aside0.mk (blk_below (g := gb257) (o := .cells #[.int .i8 t251, .int .i8 t252, .slice Ao14 t253.length co14] 27 (0, 0)) (by (with_reducible repeat (first | refine blk_drewN ?_ _ | refine blk_drew ?_ | refine blk_alloc ?_ _)); exact BK257.out) hb); have n4_ := Aside0.mk (below_step (by repeat (first | (with_reducible first | exact HB.out | apply below_alloc | apply pw_below_drewN | apply below_drew1 | refine below_set ?_ GE250.out | refine below_set ?_ GE257.out) | exact HB.out)) hb); clear HO_251002; clear HO_258002; clear BK250; clear BK257; clear HB; have HO_251002 := n0_; have HO_258002 := n1_; have BK250 := n2_; have BK257 := n3_; have HB := n4_; clear n0_ n1_ n2_ n3_ n4_; (try clear hb); (try clear hb2); (try clear hk); (try clear hi)) | ((with_reducible refine gate_callee (f := 7) rfl ?_); refine goesL_ (some 46) rfl rfl Tryd.func7 (by kernel_rfl) rfl #[.string a0] rfl (by (try simp only [List.map_toArray, List.map_cons, List.map_nil]); first | done | rfl | (simp only [List.length_drop, List.length_take]; rfl)) ?_; (with_reducible refine (impl_ReadFixed.calls kj4 a0 t262 t263 t264 t267 _ (HML.out.below (by repeat (first | (with_reducible first | exact HB.out | apply below_alloc | apply pw_below_drewN | apply below_drew1 | refine below_set ?_ GE250.out | refine below_set ?_ GE257.out) | exact HB.out))) A35.out).mono ?_); rintro e w42 ⟨v265, rfl, ho0, hb⟩; refine ⟨_, rfl, ?_⟩; have n0_ := Aside0.mk (Kd.R_elder' (by (with_reducible repeat (first | apply Kd.R_alloc | apply Kd.R_drewN | apply Kd.R_drew)); exact HO_251002.out) (Kd.R_base ho0) hb); have n1_ := Aside0.mk (Kd.R_elder' (by (with_reducible repeat (first | apply Kd.R_alloc | apply Kd.R_drewN | apply Kd.R_drew)); exact HO_258002.out) (Kd.R_base ho0) hb); have n2_ := Aside0.mk (Kd.R_lower (Kd.R_new' (Kd.R_new' ho0 (Kd.R_lt (by (with_reducible repeat (first | apply Kd.R_alloc | apply Kd.R_drewN | apply Kd.R_drew)); exact HO_251002.out))) (Kd.R_lt (by (with_reducible repeat (first | apply Kd.R_alloc | apply Kd.R_drewN | apply Kd.R_drew)); exact HO_258002.out))) (below_size (by repeat (first | (with_reducible first | exact HB.out | apply below_alloc | apply pw_below_drewN | apply below_drew1 | refine below_set ?_ GE250.out | refine below_set ?_ GE257.out) | exact HB.out)))); have n3_ := Aside0.mk (blk_below (g := gb250) (o := .cells #[.int .i8 t244, .int .i8 t245, .slice Ao9 t246.length co9] 27 (0, 0)) (by (with_reducible repeat (first | refine blk_drewN ?_ _ | refine blk_drew ?_ | refine blk_alloc ?_ _)); exact BK250.out) hb); have n4_ := Aside0.mk (blk_below (g := gb257) (o := .cells #[.int .i8 t251, .int .i8 t252, .slice Ao14 t253.length co14] 27 (0, 0)) (by (with_reducible repeat (first | refine blk_drewN ?_ _ | refine blk_drew ?_ | refine blk_alloc ?_ _)); exact BK257.out) hb); have n5_ := Aside0.mk (below_step (by repeat (first | (with_reducible first | exact HB.out | apply below_alloc | apply pw_below_drewN | apply below_drew1 | refine below_set ?_ GE250.out | refine below_set ?_ GE257.out) | exact HB.out)) hb); clear HO_251002; clear HO_258002; clear BK250; clear BK257; clear HB; have HO_251002 := n0_; have HO_258002 := n1_; have HO266 := n2_; have BK250 := n3_; have BK257 := n4_; have HB := n5_; clear n0_ n1_ n2_ n3_ n4_ n5_; (try clear hb); (try clear hb2); (try clear hk); (try clear hi); (try clear ho0)) | ((with_reducible refine gate_dst (N := 9) rfl ?_); refine box_event ?hg (N := 9) ?hd (cs := #[.int .i8 0, .int .i8 0, .slice none 0 0]) (t := 27) ?hr ?_; (case hd => rfl); (case hg => rfl); (case hr => first | (go_simp; done) | (go_simp; rfl)); intro gb268 hg w43 hbox hb; have n0_ := Aside0.mk (Kd.R_below (by (with_reducible repeat (first | apply Kd.R_alloc | apply Kd.R_drewN | apply Kd.R_drew)); exact HO_251002.out) hb); have n1_ := Aside0.mk (Kd.R_below (by (with_reducible repeat (first | apply Kd.R_alloc | apply Kd.R_drewN | apply Kd.R_drew)); exact HO_258002.out) hb); have n2_ := Aside0.mk (Kd.R_below (by (with_reducible repeat (first | apply Kd.R_alloc | apply Kd.R_drewN | apply Kd.R_drew)); exact HO266.out) hb); have n3_ := Aside0.mk (blk_below (g := gb250) (o := .cells #[.int .i8 t244, .int .i8 t245, .slice Ao9 t246.length co9] 27 (0, 0)) (by (with_reducible repeat (first | refine blk_drewN ?_ _ | refine blk_drew ?_ | refine blk_alloc ?_ _)); exact BK250.out) hb); have n4_ := Aside0.mk (blk_below (g := gb257) (o := .cells #[.int .i8 t251, .int .i8 t252, .slice Ao14 t253.length co14] 27 (0, 0)) (by (with_reducible repeat (first | refine blk_drewN ?_ _ | refine blk_drew ?_ | refine blk_alloc ?_ _)); exact BK257.out) hb); have n5_ := Aside0.mk (below_step (by repeat (first | (with_reducible first | exact HB.out | apply below_alloc | apply pw_below_drewN | apply below_drew1 | refine below_set ?_ GE250.out | refine below_set ?_ GE257.out) | exact HB.out)) hb); have n6_ := Aside0.mk (hbox); have n7_ := Aside0.mk ((by rw [hg]; exact (below_size (by repeat (first | (with_reducible first | exact HB.out | apply below_alloc | apply pw_below_drewN | apply below_drew1 | refine below_set ?_ GE250.out | refine below_set ?_ GE257.out) | exact HB.out))) : w.heap.size ≤ gb268)); have n8_ := Aside0.mk ((by rw [hg]; exact (below_size (by repeat (first | (with_reducible first | exact HB.out | apply below_alloc | apply pw_below_drewN | apply below_drew1 | refine below_set ?_ GE250.out | refine below_set ?_ GE257.out) | exact HB.out))) : w.heap.size ≤ gb268)); have n9_ := Aside0.mk ((by rw [hg]; exact Nat.ne_of_lt (blk_lt (g := gb250) (o := .cells #[.int .i8 t244, .int .i8 t245, .slice Ao9 t246.length co9] 27 (0, 0)) (by (with_reducible repeat (first | refine blk_drewN ?_ _ | refine blk_drew ?_ | refine blk_alloc ?_ _)); exact BK250.out)) : gb250 ≠ gb268)); have n10_ := Aside0.mk ((by rw [hg]; exact Nat.ne_of_gt (blk_lt (g := gb250) (o := .cells #[.int .i8 t244, .int .i8 t245, .slice Ao9 t246.length co9] 27 (0, 0)) (by (with_reducible repeat (first | refine blk_drewN ?_ _ | refine blk_drew ?_ | refine blk_alloc ?_ _)); exact BK250.out)) : gb268 ≠ gb250)); have n11_ := Aside0.mk ((by rw [hg]; exact Nat.ne_of_lt (blk_lt (g := gb257) (o := .cells #[.int .i8 t251, .int .i8 t252, .slice Ao14 t253.length co14] 27 (0, 0)) (by (with_reducible repeat (first | refine blk_drewN ?_ _ | refine blk_drew ?_ | refine blk_alloc ?_ _)); exact BK257.out)) : gb257 ≠ gb268)); have n12_ := Aside0.mk ((by rw [hg]; exact Nat.ne_of_gt (blk_lt (g := gb257) (o := .cells #[.int .i8 t251, .int .i8 t252, .slice Ao14 t253.length co14] 27 (0, 0)) (by (with_reducible repeat (first | refine blk_drewN ?_ _ | refine blk_drew ?_ | refine blk_alloc ?_ _)); exact BK257.out)) : gb268 ≠ gb257)); clear HO_251002; clear HO_258002; clear HO266; clear BK250; clear BK257; clear HB; have HO_251002 := n0_; have HO_258002 := n1_; have HO266 := n2_; have BK250 := n3_; have BK257 := n4_; have HB := n5_; have BK268 := n6_; have GW268 := n7_; have GE268 := n8_; have NB250_268 := n9_; have NB268_250 := n10_; have NB257_268 := n11_; have NB268_257 := n12_; clear n0_ n1_ n2_ n3_ n4_ n5_ n6_ n7_ n8_ n9_ n10_ n11_ n12_; clear hb hbox hg; have hnb44 := NB268_250.out; have hnc44 := NB250_268.out; have hnb45 := NB268_257.out; have hnc45 := NB257_268.out; have hcz46_0 : w43.cell? ⟨gb268, 0, none⟩ = some (.int .i8 0) := (blk_cell BK268.out 0).trans rfl; have hcz46_1 : w43.cell? ⟨gb268, 1, none⟩ = some (.int .i8 0) := (blk_cell BK268.out 1).trans rfl; have hcz46_2 : w43.cell? ⟨gb268, 2, none⟩ = some (.slice none 0 0) := (blk_cell BK268.out 2).trans rfl; have hfz46_0 := blk_frozen BK268.out 0; have hfz46_1 := blk_frozen BK268.out 1; have hfz46_2 := blk_frozen BK268.out 2; obtain ⟨Ao47, co47, eo47⟩ := Kd.R_slice HO266.out; subst eo47))
       (try simp only [Act.put, List.setIfInBounds_toArray, List.set_cons_zero, List.set_cons_succ])
       go_cut [57] (fun v57 wc => ∃ (kq : Nat) (x57_35 : Bool), v57 = .bool x57_35 ∧ Aside0 (laws_FnExactReadFixed.j1 kq t259 x57_35 t251 t252 t260 = some r) ∧ Aside0 (kq ≤ kj4) ∧ Aside0 (Kd.R k35 35 wc w.heap.size (fun k_ => some k_ ≠ ((.slice Ao14 t253.length co14) : Value).ownBlock ∧ some k_ ≠ ((.slice Ao47 t264.length co47) : Value).ownBlock) (.slice Ao9 t246.length co9) t246) ∧ Aside0 (Kd.R k35 35 wc w.heap.size (fun k_ => some k_ ≠ ((.slice Ao9 t246.length co9) : Value).ownBlock ∧ some k_ ≠ ((.slice Ao47 t264.length co47) : Value).ownBlock) (.slice Ao14 t253.length co14) t260) ∧ Aside0 (Kd.R k35 35 wc w.heap.size (fun k_ => some k_ ≠ ((.slice Ao9 t246.length co9) : Value).ownBlock ∧ some k_ ≠ ((.slice Ao14 t253.length co14) : Value).ownBlock) (.slice Ao47 t264.length co47) t264) ∧ Aside0 (wc.heap[gb250]? = some (.cells #[.int .i8 t244, .int .i8 t245, (.slice Ao9 t246.length co9)] 27 (0, 0))) ∧ Aside0 (wc.heap[gb257]? = some (.cells #[.int .i8 t251, .int .i8 t252, (.slice Ao14 t253.length co14)] 27 (0, 0))) ∧ Aside0 (wc.heap[gb268]? = some (.cells #[.int .i8 t262, .int .i8 t263, (.slice Ao47 t264.length co47)] 27 (0, 0))) ∧ Aside0 (Below w.heap.size w wc))
       case first =>
        have H := HC36.out
        clear HC36
        replace H := Option.bind_eq_some_iff.mp H
        obtain ⟨t269, A480, H⟩ := H
        replace H : (if t269 = true then (laws_FnExactReadFixed.j1 kj4 t259 (t267 != t249) t251 t252 t260) else (laws_FnExactReadFixed.j1 kj4 t259 true t251 t252 t260)) = some r := H
        have A48 := Aside0.mk A480
        clear A480
        by_cases c49 : t269 = true
        ·subst c49
         have H1 : (laws_FnExactReadFixed.j1 kj4 t259 (t267 != t249) t251 t252 t260) = some r := by rw [if_pos rfl] at H; exact H
         clear H
         have H := H1
         clear H1
         have H' := Aside0.mk H
         clear H
         have hnb50 := NB268_250.out
         have hnc50 := NB250_268.out
         have hnb51 := NB268_257.out
         have hnc51 := NB257_268.out
         have hcz52_0 : w43.cell? ⟨gb268, 0, none⟩ = some (.int .i8 0) := (blk_cell BK268.out 0).trans rfl
         have hcz52_1 : w43.cell? ⟨gb268, 1, none⟩ = some (.int .i8 0) := (blk_cell BK268.out 1).trans rfl
         have hcz52_2 : w43.cell? ⟨gb268, 2, none⟩ = some (.slice none 0 0) := (blk_cell BK268.out 2).trans rfl
         have hfz52_0 := blk_frozen BK268.out 0
         have hfz52_1 := blk_frozen BK268.out 1
         have hfz52_2 := blk_frozen BK268.out 2
         have hnb53 := NB250_257.out
         have hnc53 := NB257_250.out
         have hcz54_0 : w43.cell? ⟨gb250, 0, none⟩ = some (.int .i8 t244) := (blk_cell BK250.out 0).trans rfl
         have hcz54_1 : w43.cell? ⟨gb250, 1, none⟩ = some (.int .i8 t245) := (blk_cell BK250.out 1).trans rfl
         have hcz54_2 : w43.cell? ⟨gb250, 2, none⟩ = some (.slice Ao9 t246.length co9) := (blk_cell BK250.out 2).trans rfl
         have hfz54_0 := blk_frozen BK250.out 0
         have hfz54_1 := blk_frozen BK250.out 1
         have hfz54_2 := blk_frozen BK250.out 2
         go_wp2_with (first | ((with_reducible refine gate_callee (f := 21) rfl ?_); refine goesL_ (some 51) rfl rfl Tryd.func21 (by kernel_rfl) rfl #[.agg #[.int .i8 t262, .int .i8 t263, .slice Ao47 t264.length co47], .agg #[.int .i8 t244, .int .i8 t245, .slice Ao9 t246.length co9]] rfl (by (try simp only [List.map_toArray, List.map_cons, List.map_nil]); first | done | rfl | (simp only [List.length_drop, List.length_take]; rfl)) ?_; (with_reducible refine (laws_eqFixed.calls kj4 t262 t263 _ _ t264 t244 t245 _ _ t246 true _ ?side1 ?side2 ?side3 ?side4 A48.out).mono ?_); (case side1 => refine (Kd.R_reads' (e := 35) (base := w.heap.size) (ok := fun k_ => ((True ∧ some k_ ≠ (.slice Ao9 t246.length co9 : Value).ownBlock) ∧ some k_ ≠ (.slice Ao14 t253.length co14 : Value).ownBlock)) (n := t264.length) (c := co47) ?_).2.2; exact (by (with_reducible repeat (first | apply Kd.R_alloc | apply Kd.R_drewN | apply Kd.R_drew)); exact (Kd.R_mono (Kd.R_far (p := ⟨gb268, 2, none⟩) (Kd.R_far (p := ⟨gb268, 1, none⟩) (Kd.R_far (p := ⟨gb268, 0, none⟩) (Kd.R_types HO266.out BK268.out (by decide)) (fun _ hk => hk.2) (.int .i8 t262)) (fun _ hk => hk.2) (.int .i8 t263)) (fun _ hk => hk.2) (.slice Ao47 t264.length co47)) (fun _ h_ => h_.1)))); (case side2 => exact (Kd.R_reads' HO266.out).2.1); (case side3 => refine (Kd.R_reads' (e := 35) (base := w.heap.size) (ok := fun k_ => (some k_ ≠ (.slice Ao14 t253.length co14 : Value).ownBlock ∧ some k_ ≠ (.slice Ao47 t264.length co47 : Value).ownBlock)) (n := t246.length) (c := co9) ?_).2.2; exact (by (with_reducible repeat (first | apply Kd.R_alloc | apply Kd.R_drewN | apply Kd.R_drew)); exact (Kd.R_mono (Kd.R_far (p := ⟨gb268, 2, none⟩) (Kd.R_far (p := ⟨gb268, 1, none⟩) (Kd.R_far (p := ⟨gb268, 0, none⟩) (Kd.R_types HO_251002.out BK268.out (by decide)) (fun _ hk => hk.2) (.int .i8 t262)) (fun _ hk => hk.2) (.int .i8 t263)) (fun _ hk => hk.2) (.slice Ao47 t264.length co47)) (fun _ h_ => h_.1)))); (case side4 => exact (Kd.R_reads' HO_251002.out).2.1); rintro e w55 ⟨rfl, hb⟩; refine ⟨_, rfl, ?_⟩; have n0_ := Aside0.mk (Kd.R_below (by (with_reducible repeat (first | apply Kd.R_alloc | apply Kd.R_drewN | apply Kd.R_drew)); exact (Kd.R_mono (Kd.R_far (p := ⟨gb268, 2, none⟩) (Kd.R_far (p := ⟨gb268, 1, none⟩) (Kd.R_far (p := ⟨gb268, 0, none⟩) (Kd.R_types HO_251002.out BK268.out (by decide)) (fun _ hk => hk.2) (.int .i8 t262)) (fun _ hk => hk.2) (.int .i8 t263)) (fun _ hk => hk.2) (.slice Ao47 t264.length co47)) (fun _ h_ => h_.1))) hb); have n1_ := Aside0.mk (Kd.R_below (by (with_reducible repeat (first | apply Kd.R_alloc | apply Kd.R_drewN | apply Kd.R_drew)); exact (Kd.R_mono (Kd.R_far (p := ⟨gb268, 2, none⟩) (Kd.R_far (p := ⟨gb268, 1, none⟩) (Kd.R_far (p := ⟨gb268, 0, none⟩) (Kd.R_types HO_258002.out BK268.out (by decide)) (fun _ hk => hk.2) (.int .i8 t262)) (fun _ hk => hk.2) (.int .i8 t263)) (fun _ hk => hk.2) (.slice Ao47 t264.length co47)) (fun _ h_ => h_.1))) hb); have n2_ := Aside0.mk (Kd.R_below (by (with_reducible repeat (first | apply Kd.R_alloc | apply Kd.R_drewN | apply Kd.R_drew)); exact (Kd.R_mono (Kd.R_far (p := ⟨gb268, 2, none⟩) (Kd.R_far (p := ⟨gb268, 1, none⟩) (Kd.R_far (p := ⟨gb268, 0, none⟩) (Kd.R_types HO266.out BK268.out (by decide)) (fun _ hk => hk.2) (.int .i8 t262)) (fun _ hk => hk.2) (.int .i8 t263)) (fun _ hk => hk.2) (.slice Ao47 t264.length co47)) (fun _ h_ => h_.1))) hb); have n3_ := Aside0.mk (blk_below (g := gb250) (o := .cells #[.int .i8 t244, .int .i8 t245, .slice Ao9 t246.length co9] 27 (0, 0)) (by (with_reducible repeat (first | refine blk_drewN ?_ _ | refine blk_drew ?_ | refine blk_alloc ?_ _)); refine blk_far ?_ NB250_268.out _; (with_reducible repeat (first | refine blk_drewN ?_ _ | refine blk_drew ?_ | refine blk_alloc ?_ _)); refine blk_far ?_ NB250_268.out _; (with_reducible repeat (first | refine blk_drewN ?_ _ | refine blk_drew ?_ | refine blk_alloc ?_ _)); refine blk_far ?_ NB250_268.out _; (with_reducible repeat (first | refine blk_drewN ?_ _ | refine blk_drew ?_ | refine blk_alloc ?_ _)); exact BK250.out) hb); have n4_ := Aside0.mk (blk_below (g := gb257) (o := .cells #[.int .i8 t251, .int .i8 t252, .slice Ao14 t253.length co14] 27 (0, 0)) (by (with_reducible repeat (first | refine blk_drewN ?_ _ | refine blk_drew ?_ | refine blk_alloc ?_ _)); refine blk_far ?_ NB257_268.out _; (with_reducible repeat (first | refine blk_drewN ?_ _ | refine blk_drew ?_ | refine blk_alloc ?_ _)); refine blk_far ?_ NB257_268.out _; (with_reducible repeat (first | refine blk_drewN ?_ _ | refine blk_drew ?_ | refine blk_alloc ?_ _)); refine blk_far ?_ NB257_268.out _; (with_reducible repeat (first | refine blk_drewN ?_ _ | refine blk_drew ?_ | refine blk_alloc ?_ _)); exact BK257.out) hb); have n5_ := Aside0.mk (blk_below (g := gb268) (o := .cells #[.int .i8 t262, .int .i8 t263, .slice Ao47 t264.length co47] 27 (0, 0)) (by (with_reducible repeat (first | refine blk_drewN ?_ _ | refine blk_drew ?_ | refine blk_alloc ?_ _)); refine blk_put (cs := #[.int .i8 t262, .int .i8 t263, .slice none 0 0]) ?_ 2 _ rfl; (with_reducible repeat (first | refine blk_drewN ?_ _ | refine blk_drew ?_ | refine blk_alloc ?_ _)); refine blk_put (cs := #[.int .i8 t262, .int .i8 0, .slice none 0 0]) ?_ 1 _ rfl; (with_reducible repeat (first | refine blk_drewN ?_ _ | refine blk_drew ?_ | refine blk_alloc ?_ _)); refine blk_put (cs := #[.int .i8 0, .int .i8 0, .slice none 0 0]) ?_ 0 _ rfl; (with_reducible repeat (first | refine blk_drewN ?_ _ | refine blk_drew ?_ | refine blk_alloc ?_ _)); exact BK268.out) hb); have n6_ := Aside0.mk (below_step (by repeat (first | (with_reducible first | exact HB.out | apply below_alloc | apply pw_below_drewN | apply below_drew1 | refine below_set ?_ GE250.out | refine below_set ?_ GE257.out | refine below_set ?_ GE268.out) | exact HB.out)) hb); clear HO_251002; clear HO_258002; clear HO266; clear BK250; clear BK257; clear BK268; clear HB; have HO_251002 := n0_; have HO_258002 := n1_; have HO266 := n2_; have BK250 := n3_; have BK257 := n4_; have BK268 := n5_; have HB := n6_; clear n0_ n1_ n2_ n3_ n4_ n5_ n6_; (try clear hb); (try clear hb2); (try clear hk); (try clear hi)))
         go_meet
         case rel => exact ⟨_, ((t267 != t249)), (by first | rfl | (simp; done) | (simp [*]; done)), H', ⟨by have := HJ4.out; first | omega | exact Nat.le_refl _⟩, ⟨by (with_reducible repeat (first | apply Kd.R_alloc | apply Kd.R_drewN | apply Kd.R_drew)); exact HO_251002.out⟩, ⟨by (with_reducible repeat (first | apply Kd.R_alloc | apply Kd.R_drewN | apply Kd.R_drew)); exact HO_258002.out⟩, ⟨by (with_reducible repeat (first | apply Kd.R_alloc | apply Kd.R_drewN | apply Kd.R_drew)); exact Kd.R_mono HO266.out (fun _ hk => ⟨hk.1.2, hk.2⟩)⟩, ⟨by (with_reducible repeat (first | refine blk_drewN ?_ _ | refine blk_drew ?_ | refine blk_alloc ?_ _)); exact BK250.out⟩, ⟨by (with_reducible repeat (first | refine blk_drewN ?_ _ | refine blk_drew ?_ | refine blk_alloc ?_ _)); exact BK257.out⟩, ⟨by (with_reducible repeat (first | refine blk_drewN ?_ _ | refine blk_drew ?_ | refine blk_alloc ?_ _)); exact BK268.out⟩, ⟨by repeat (first | (with_reducible first | exact HB.out | apply below_alloc | apply pw_below_drewN | apply below_drew1 | refine below_set ?_ GE250.out | refine below_set ?_ GE257.out | refine below_set ?_ GE268.out) | exact HB.out)⟩⟩
        ·replace c49 := Bool.eq_false_iff.mpr c49
         subst c49
         have H1 : (laws_FnExactReadFixed.j1 kj4 t259 true t251 t252 t260) = some r := by rw [if_neg (show ¬ (false = true) by decide)] at H; exact H
         clear H
         have H := H1
         clear H1
         have H' := Aside0.mk H
         clear H
         have hnb56 := NB268_250.out
         have hnc56 := NB250_268.out
         have hnb57 := NB268_257.out
         have hnc57 := NB257_268.out
         have hcz58_0 : w43.cell? ⟨gb268, 0, none⟩ = some (.int .i8 0) := (blk_cell BK268.out 0).trans rfl
         have hcz58_1 : w43.cell? ⟨gb268, 1, none⟩ = some (.int .i8 0) := (blk_cell BK268.out 1).trans rfl
         have hcz58_2 : w43.cell? ⟨gb268, 2, none⟩ = some (.slice none 0 0) := (blk_cell BK268.out 2).trans rfl
         have hfz58_0 := blk_frozen BK268.out 0
         have hfz58_1 := blk_frozen BK268.out 1
         have hfz58_2 := blk_frozen BK268.out 2
         have hnb59 := NB250_257.out
         have hnc59 := NB257_250.out
         have hcz60_0 : w43.cell? ⟨gb250, 0, none⟩ = some (.int .i8 t244) := (blk_cell BK250.out 0).trans rfl
         have hcz60_1 : w43.cell? ⟨gb250, 1, none⟩ = some (.int .i8 t245) := (blk_cell BK250.out 1).trans rfl
         have hcz60_2 : w43.cell? ⟨gb250, 2, none⟩ = some (.slice Ao9 t246.length co9) := (blk_cell BK250.out 2).trans rfl
         have hfz60_0 := blk_frozen BK250.out 0
         have hfz60_1 := blk_frozen BK250.out 1
         have hfz60_2 := blk_frozen BK250.out 2
         go_wp2_with (first | ((with_reducible refine gate_callee (f := 21) rfl ?_); refine goesL_ (some 51) rfl rfl Tryd.func21 (by kernel_rfl) rfl #[.agg #[.int .i8 t262, .int .i8 t263, .slice Ao47 t264.length co47], .agg #[.int .i8 t244, .int .i8 t245, .slice Ao9 t246.length co9]] rfl (by (try simp only [List.map_toArray, List.map_cons, List.map_nil]); first | done | rfl | (simp only [List.length_drop, List.length_take]; rfl)) ?_; (with_reducible refine (laws_eqFixed.calls kj4 t262 t263 _ _ t264 t244 t245 _ _ t246 false _ ?side1 ?side2 ?side3 ?side4 A48.out).mono ?_); (case side1 => refine (Kd.R_reads' (e := 35) (base := w.heap.size) (ok := fun k_ => ((True ∧ some k_ ≠ (.slice Ao9 t246.length co9 : Value).ownBlock) ∧ some k_ ≠ (.slice Ao14 t253.length co14 : Value).ownBlock)) (n := t264.length) (c := co47) ?_).2.2; exact (by (with_reducible repeat (first | apply Kd.R_alloc | apply Kd.R_drewN | apply Kd.R_drew)); exact (Kd.R_mono (Kd.R_far (p := ⟨gb268, 2, none⟩) (Kd.R_far (p := ⟨gb268, 1, none⟩) (Kd.R_far (p := ⟨gb268, 0, none⟩) (Kd.R_types HO266.out BK268.out (by decide)) (fun _ hk => hk.2) (.int .i8 t262)) (fun _ hk => hk.2) (.int .i8 t263)) (fun _ hk => hk.2) (.slice Ao47 t264.length co47)) (fun _ h_ => h_.1)))); (case side2 => exact (Kd.R_reads' HO266.out).2.1); (case side3 => refine (Kd.R_reads' (e := 35) (base := w.heap.size) (ok := fun k_ => (some k_ ≠ (.slice Ao14 t253.length co14 : Value).ownBlock ∧ some k_ ≠ (.slice Ao47 t264.length co47 : Value).ownBlock)) (n := t246.length) (c := co9) ?_).2.2; exact (by (with_reducible repeat (first | apply Kd.R_alloc | apply Kd.R_drewN | apply Kd.R_drew)); exact (Kd.R_mono (Kd.R_far (p := ⟨gb268, 2, none⟩) (Kd.R_far (p := ⟨gb268, 1, none⟩) (Kd.R_far (p := ⟨gb268, 0, none⟩) (Kd.R_types HO_251002.out BK268.out (by decide)) (fun _ hk => hk.2) (.int .i8 t262)) (fun _ hk => hk.2) (.int .i8 t263)) (fun _ hk => hk.2) (.slice Ao47 t264.length co47)) (fun _ h_ => h_.1)))); (case side4 => exact (Kd.R_reads' HO_251002.out).2.1); rintro e w61 ⟨rfl, hb⟩; refine ⟨_, rfl, ?_⟩; have n0_ := Aside0.mk (Kd.R_below (by (with_reducible repeat (first | apply Kd.R_alloc | apply Kd.R_drewN | apply Kd.R_drew)); exact (Kd.R_mono (Kd.R_far (p := ⟨gb268, 2, none⟩) (Kd.R_far (p := ⟨gb268, 1, none⟩) (Kd.R_far (p := ⟨gb268, 0, none⟩) (Kd.R_types HO_251002.out BK268.out (by decide)) (fun _ hk => hk.2) (.int .i8 t262)) (fun _ hk => hk.2) (.int .i8 t263)) (fun _ hk => hk.2) (.slice Ao47 t264.length co47)) (fun _ h_ => h_.1))) hb); have n1_ := Aside0.mk (Kd.R_below (by (with_reducible repeat (first | apply Kd.R_alloc | apply Kd.R_drewN | apply Kd.R_drew)); exact (Kd.R_mono (Kd.R_far (p := ⟨gb268, 2, none⟩) (Kd.R_far (p := ⟨gb268, 1, none⟩) (Kd.R_far (p := ⟨gb268, 0, none⟩) (Kd.R_types HO_258002.out BK268.out (by decide)) (fun _ hk => hk.2) (.int .i8 t262)) (fun _ hk => hk.2) (.int .i8 t263)) (fun _ hk => hk.2) (.slice Ao47 t264.length co47)) (fun _ h_ => h_.1))) hb); have n2_ := Aside0.mk (Kd.R_below (by (with_reducible repeat (first | apply Kd.R_alloc | apply Kd.R_drewN | apply Kd.R_drew)); exact (Kd.R_mono (Kd.R_far (p := ⟨gb268, 2, none⟩) (Kd.R_far (p := ⟨gb268, 1, none⟩) (Kd.R_far (p := ⟨gb268, 0, none⟩) (Kd.R_types HO266.out BK268.out (by decide)) (fun _ hk => hk.2) (.int .i8 t262)) (fun _ hk => hk.2) (.int .i8 t263)) (fun _ hk => hk.2) (.slice Ao47 t264.length co47)) (fun _ h_ => h_.1))) hb); have n3_ := Aside0.mk (blk_below (g := gb250) (o := .cells #[.int .i8 t244, .int .i8 t245, .slice Ao9 t246.length co9] 27 (0, 0)) (by (with_reducible repeat (first | refine blk_drewN ?_ _ | refine blk_drew ?_ | refine blk_alloc ?_ _)); refine blk_far ?_ NB250_268.out _; (with_reducible repeat (first | refine blk_drewN ?_ _ | refine blk_drew ?_ | refine blk_alloc ?_ _)); refine blk_far ?_ NB250_268.out _; (with_reducible repeat (first | refine blk_drewN ?_ _ | refine blk_drew ?_ | refine blk_alloc ?_ _)); refine blk_far ?_ NB250_268.out _; (with_reducible repeat (first | refine blk_drewN ?_ _ | refine blk_drew ?_ | refine blk_alloc ?_ _)); exact BK250.out) hb); have n4_ := Aside0.mk (blk_below (g := gb257) (o := .cells #[.int .i8 t251, .int .i8 t252, .slice Ao14 t253.length co14] 27 (0, 0)) (by (with_reducible repeat (first | refine blk_drewN ?_ _ | refine blk_drew ?_ | refine blk_alloc ?_ _)); refine blk_far ?_ NB257_268.out _; (with_reducible repeat (first | refine blk_drewN ?_ _ | refine blk_drew ?_ | refine blk_alloc ?_ _)); refine blk_far ?_ NB257_268.out _; (with_reducible repeat (first | refine blk_drewN ?_ _ | refine blk_drew ?_ | refine blk_alloc ?_ _)); refine blk_far ?_ NB257_268.out _; (with_reducible repeat (first | refine blk_drewN ?_ _ | refine blk_drew ?_ | refine blk_alloc ?_ _)); exact BK257.out) hb); have n5_ := Aside0.mk (blk_below (g := gb268) (o := .cells #[.int .i8 t262, .int .i8 t263, .slice Ao47 t264.length co47] 27 (0, 0)) (by (with_reducible repeat (first | refine blk_drewN ?_ _ | refine blk_drew ?_ | refine blk_alloc ?_ _)); refine blk_put (cs := #[.int .i8 t262, .int .i8 t263, .slice none 0 0]) ?_ 2 _ rfl; (with_reducible repeat (first | refine blk_drewN ?_ _ | refine blk_drew ?_ | refine blk_alloc ?_ _)); refine blk_put (cs := #[.int .i8 t262, .int .i8 0, .slice none 0 0]) ?_ 1 _ rfl; (with_reducible repeat (first | refine blk_drewN ?_ _ | refine blk_drew ?_ | refine blk_alloc ?_ _)); refine blk_put (cs := #[.int .i8 0, .int .i8 0, .slice none 0 0]) ?_ 0 _ rfl; (with_reducible repeat (first | refine blk_drewN ?_ _ | refine blk_drew ?_ | refine blk_alloc ?_ _)); exact BK268.out) hb); have n6_ := Aside0.mk (below_step (by repeat (first | (with_reducible first | exact HB.out | apply below_alloc | apply pw_below_drewN | apply below_drew1 | refine below_set ?_ GE250.out | refine below_set ?_ GE257.out | refine below_set ?_ GE268.out) | exact HB.out)) hb); clear HO_251002; clear HO_258002; clear HO266; clear BK250; clear BK257; clear BK268; clear HB; have HO_251002 := n0_; have HO_258002 := n1_; have HO266 := n2_; have BK250 := n3_; have BK257 := n4_; have BK268 := n5_; have HB := n6_; clear n0_ n1_ n2_ n3_ n4_ n5_ n6_; (try clear hb); (try clear hb2); (try clear hk); (try clear hi)))
         go_meet
         case rel => exact ⟨_, (true), (by first | rfl | (simp; done) | (simp [*]; done)), H', ⟨by have := HJ4.out; first | omega | exact Nat.le_refl _⟩, ⟨by (with_reducible repeat (first | apply Kd.R_alloc | apply Kd.R_drewN | apply Kd.R_drew)); exact HO_251002.out⟩, ⟨by (with_reducible repeat (first | apply Kd.R_alloc | apply Kd.R_drewN | apply Kd.R_drew)); exact HO_258002.out⟩, ⟨by (with_reducible repeat (first | apply Kd.R_alloc | apply Kd.R_drewN | apply Kd.R_drew)); exact Kd.R_mono HO266.out (fun _ hk => ⟨hk.1.2, hk.2⟩)⟩, ⟨by (with_reducible repeat (first | refine blk_drewN ?_ _ | refine blk_drew ?_ | refine blk_alloc ?_ _)); exact BK250.out⟩, ⟨by (with_reducible repeat (first | refine blk_drewN ?_ _ | refine blk_drew ?_ | refine blk_alloc ?_ _)); exact BK257.out⟩, ⟨by (with_reducible repeat (first | refine blk_drewN ?_ _ | refine blk_drew ?_ | refine blk_alloc ?_ _)); exact BK268.out⟩, ⟨by repeat (first | (with_reducible first | exact HB.out | apply below_alloc | apply pw_below_drewN | apply below_drew1 | refine below_set ?_ GE250.out | refine below_set ?_ GE257.out | refine below_set ?_ GE268.out) | exact HB.out)⟩⟩
       case rest =>
        clear HC36
        try clear c1
        try clear c2
        try clear c2b0
        try clear c2b1
        try clear p2
        try clear c3
        try clear c4
        try clear c5
        try clear c7
        try clear c12
        try clear c16
        try clear c17
        try clear c20
        try clear c21
        try clear c22
        try clear c23
        try clear c25
        try clear c28
        try clear c28b0
        try clear c29
        try clear c34
        try clear c34b0
        try clear c34b1
        try clear c37
        try clear c44
        try clear c45
        try clear c49
        try clear c50
        try clear c51
        try clear c53
        try clear c56
        try clear c57
        try clear c59
        try clear hcz13_0
        try clear hcz13_1
        try clear hcz13_2
        try clear hcz18_0
        try clear hcz18_1
        try clear hcz18_2
        try clear hcz19_0
        try clear hcz19_1
        try clear hcz19_2
        try clear hcz22_0
        try clear hcz22_1
        try clear hcz22_2
        try clear hcz23_0
        try clear hcz23_1
        try clear hcz23_2
        try clear hcz30_0
        try clear hcz30_1
        try clear hcz30_2
        try clear hcz32_0
        try clear hcz32_1
        try clear hcz32_2
        try clear hcz38_0
        try clear hcz38_1
        try clear hcz38_2
        try clear hcz40_0
        try clear hcz40_1
        try clear hcz40_2
        try clear hcz46_0
        try clear hcz46_1
        try clear hcz46_2
        try clear hcz52_0
        try clear hcz52_1
        try clear hcz52_2
        try clear hcz54_0
        try clear hcz54_1
        try clear hcz54_2
        try clear hcz58_0
        try clear hcz58_1
        try clear hcz58_2
        try clear hcz60_0
        try clear hcz60_1
        try clear hcz60_2
        try clear hcz8_0
        try clear hcz8_1
        try clear hcz8_2
        try clear hfz13_0
        try clear hfz13_1
        try clear hfz13_2
        try clear hfz18_0
        try clear hfz18_1
        try clear hfz18_2
        try clear hfz19_0
        try clear hfz19_1
        try clear hfz19_2
        try clear hfz22_0
        try clear hfz22_1
        try clear hfz22_2
        try clear hfz23_0
        try clear hfz23_1
        try clear hfz23_2
        try clear hfz30_0
        try clear hfz30_1
        try clear hfz30_2
        try clear hfz32_0
        try clear hfz32_1
        try clear hfz32_2
        try clear hfz38_0
        try clear hfz38_1
        try clear hfz38_2
        try clear hfz40_0
        try clear hfz40_1
        try clear hfz40_2
        try clear hfz46_0
        try clear hfz46_1
        try clear hfz46_2
        try clear hfz52_0
        try clear hfz52_1
        try clear hfz52_2
        try clear hfz54_0
        try clear hfz54_1
        try clear hfz54_2
        try clear hfz58_0
        try clear hfz58_1
        try clear hfz58_2
        try clear hfz60_0
        try clear hfz60_1
        try clear hfz60_2
        try clear hfz8_0
        try clear hfz8_1
        try clear hfz8_2
        try clear p2
        obtain ⟨kq, x57_35, rfl, HA, HJ35, HO_251002, HO_258002, HO_269002, BK250, BK257, BK268, HB⟩ := hcut
        have hl258002_35 := (Kd.R_reads' HO_258002.out).1
        rw [hl258002_35] at HO_258002
        (try simp only [hl258002_35])
        (try simp only [hl258002_35] at BK250)
        (try simp only [hl258002_35] at BK257)
        (try simp only [hl258002_35] at BK268)
        (try simp only [hl258002_35] at HO_251002)
        (try simp only [hl258002_35] at HO_269002)
        cases kq with
        | zero => exact absurd HA.out (by simp [laws_FnExactReadFixed.j1])
        | succ kj35 =>
         have H := HA.out
         clear HA
         simp only [laws_FnExactReadFixed.j1] at H
         by_cases c62 : x57_35 = true
         ·subst c62
          have H1 : (some false) = some r := by rw [if_pos rfl] at H; exact H
          clear H
          have H := H1
          clear H1
          obtain rfl := Option.some.inj H
          go_wp2
          go_ret
          exact ⟨by first | rfl | (simp [errW_none, errW_some] <;> rfl) | (simp [*, errW_none, errW_some] <;> rfl), by repeat (first | (with_reducible first | exact HB.out | apply below_alloc | apply pw_below_drewN | apply below_drew1 | refine below_set ?_ GE250.out | refine below_set ?_ GE257.out | refine below_set ?_ GE268.out) | exact HB.out)⟩
         ·replace c62 := Bool.eq_false_iff.mpr c62
          subst c62
          have H1 : ((laws_heldFixed.f kj35 t251 t252 t260 1).bind fun t270 => (if t270 < 0 then (some false) else (if t270 = t259 then (some true) else (some false)))) = some r := by rw [if_neg (show ¬ (false = true) by decide)] at H; exact H
          clear H
          have H := H1
          clear H1
          replace H := Option.bind_eq_some_iff.mp H
          obtain ⟨t270, A630, H⟩ := H
          replace H : (if t270 < 0 then (some false) else (if t270 = t259 then (some true) else (some false))) = some r := H
          have A63 := Aside0.mk A630
          clear A630
          by_cases c64 : t270 < 0
          ·rw [if_pos c64] at H
           have c64b0 : decide (t270 < 0) = true := decide_eq_true c64
           clear c64
           obtain rfl := Option.some.inj H
           have hnb65 := NB257_250.out
           have hnc65 := NB250_257.out
           have hnb66 := NB257_268.out
           have hnc66 := NB268_257.out
           have hcz67_0 : wc.cell? ⟨gb257, 0, none⟩ = some (.int .i8 t251) := (blk_cell BK257.out 0).trans rfl
           have hcz67_1 : wc.cell? ⟨gb257, 1, none⟩ = some (.int .i8 t252) := (blk_cell BK257.out 1).trans rfl
           have hcz67_2 : wc.cell? ⟨gb257, 2, none⟩ = some (.slice Ao14 t260.length co14) := (blk_cell BK257.out 2).trans rfl
           have hfz67_0 := blk_frozen BK257.out 0
           have hfz67_1 := blk_frozen BK257.out 1
           have hfz67_2 := blk_frozen BK257.out 2
           go_wp2_with (first | ((with_reducible refine gate_callee (f := 23) rfl ?_); refine goesL_ (some 60) rfl rfl Tryd.func23 (by kernel_rfl) rfl #[.agg #[.int .i8 t251, .int .i8 t252, .slice Ao14 t260.length co14], .int .i64 1] rfl (by (try simp only [List.map_toArray, List.map_cons, List.map_nil]); first | done | rfl | (simp only [List.length_drop, List.length_take]; rfl)) ?_; (with_reducible refine (laws_heldFixed.calls kj35 t251 t252 _ _ t260 1 t270 _ ?side1 ?side2 A63.out).mono ?_); (case side1 => repeat (first | exact (Kd.R_reads' HO_258002.out).2.2 | (with_reducible refine Kd.C_alloc ?_ _) | (with_reducible refine Kd.C_drewN ?_ _) | (with_reducible refine Kd.C_drew ?_))); (case side2 => exact (Kd.R_reads' HO_258002.out).2.1); rintro e w68 ⟨rfl, hb⟩; refine ⟨_, rfl, ?_⟩; have n0_ := Aside0.mk (Kd.R_below (by (with_reducible repeat (first | apply Kd.R_alloc | apply Kd.R_drewN | apply Kd.R_drew)); exact HO_251002.out) hb); have n1_ := Aside0.mk (Kd.R_below (by (with_reducible repeat (first | apply Kd.R_alloc | apply Kd.R_drewN | apply Kd.R_drew)); exact HO_258002.out) hb); have n2_ := Aside0.mk (Kd.R_below (by (with_reducible repeat (first | apply Kd.R_alloc | apply Kd.R_drewN | apply Kd.R_drew)); exact HO_269002.out) hb); have n3_ := Aside0.mk (blk_below (g := gb250) (o := .cells #[.int .i8 t244, .int .i8 t245, .slice Ao9 t246.length co9] 27 (0, 0)) (by (with_reducible repeat (first | refine blk_drewN ?_ _ | refine blk_drew ?_ | refine blk_alloc ?_ _)); exact BK250.out) hb); have n4_ := Aside0.mk (blk_below (g := gb257) (o := .cells #[.int .i8 t251, .int .i8 t252, .slice Ao14 t260.length co14] 27 (0, 0)) (by (with_reducible repeat (first | refine blk_drewN ?_ _ | refine blk_drew ?_ | refine blk_alloc ?_ _)); exact BK257.out) hb); have n5_ := Aside0.mk (blk_below (g := gb268) (o := .cells #[.int .i8 t262, .int .i8 t263, .slice Ao47 t264.length co47] 27 (0, 0)) (by (with_reducible repeat (first | refine blk_drewN ?_ _ | refine blk_drew ?_ | refine blk_alloc ?_ _)); exact BK268.out) hb); have n6_ := Aside0.mk (below_step (by repeat (first | (with_reducible first | exact HB.out | apply below_alloc | apply pw_below_drewN | apply below_drew1 | refine below_set ?_ GE250.out | refine below_set ?_ GE257.out | refine below_set ?_ GE268.out) | exact HB.out)) hb); clear HO_251002; clear HO_258002; clear HO_269002; clear BK250; clear BK257; clear BK268; clear HB; have HO_251002 := n0_; have HO_258002 := n1_; have HO_269002 := n2_; have BK250 := n3_; have BK257 := n4_; have BK268 := n5_; have HB := n6_; clear n0_ n1_ n2_ n3_ n4_ n5_ n6_; (try clear hb); (try clear hb2); (try clear hk); (try clear hi)))
           go_ret
           exact ⟨by first | rfl | (simp [errW_none, errW_some] <;> rfl) | (simp [*, errW_none, errW_some] <;> rfl), by repeat (first | (with_reducible first | exact HB.out | apply below_alloc | apply pw_below_drewN | apply below_drew1 | refine below_set ?_ GE250.out | refine below_set ?_ GE257.out | refine below_set ?_ GE268.out) | exact HB.out)⟩
          ·rw [if_neg c64] at H
           have c64b0 : decide (t270 < 0) = false := decide_eq_false c64
           clear c64
           by_cases c69 : t270 = t259
           ·rw [if_pos c69] at H
            have c69b0 : (t270 == t259) = true := beq_iff_eq.mpr c69
            have c69b1 : (t270 != t259) = false := bne_eq_false_iff_eq.mpr c69
            clear c69
            obtain rfl := Option.some.inj H
            have hnb70 := NB257_250.out
            have hnc70 := NB250_257.out
            have hnb71 := NB257_268.out
            have hnc71 := NB268_257.out
            have hcz72_0 : wc.cell? ⟨gb257, 0, none⟩ = some (.int .i8 t251) := (blk_cell BK257.out 0).trans rfl
            have hcz72_1 : wc.cell? ⟨gb257, 1, none⟩ = some (.int .i8 t252) := (blk_cell BK257.out 1).trans rfl
            have hcz72_2 : wc.cell? ⟨gb257, 2, none⟩ = some (.slice Ao14 t260.length co14) := (blk_cell BK257.out 2).trans rfl
            have hfz72_0 := blk_frozen BK257.out 0
            have hfz72_1 := blk_frozen BK257.out 1
            have hfz72_2 := blk_frozen BK257.out 2
            go_wp2_with (first | ((with_reducible refine gate_callee (f := 23) rfl ?_); refine goesL_ (some 60) rfl rfl Tryd.func23 (by kernel_rfl) rfl #[.agg #[.int .i8 t251, .int .i8 t252, .slice Ao14 t260.length co14], .int .i64 1] rfl (by (try simp only [List.map_toArray, List.map_cons, List.map_nil]); first | done | rfl | (simp only [List.length_drop, List.length_take]; rfl)) ?_; (with_reducible refine (laws_heldFixed.calls kj35 t251 t252 _ _ t260 1 t270 _ ?side1 ?side2 A63.out).mono ?_); (case side1 => repeat (first | exact (Kd.R_reads' HO_258002.out).2.2 | (with_reducible refine Kd.C_alloc ?_ _) | (with_reducible refine Kd.C_drewN ?_ _) | (with_reducible refine Kd.C_drew ?_))); (case side2 => exact (Kd.R_reads' HO_258002.out).2.1); rintro e w73 ⟨rfl, hb⟩; refine ⟨_, rfl, ?_⟩; have n0_ := Aside0.mk (Kd.R_below (by (with_reducible repeat (first | apply Kd.R_alloc | apply Kd.R_drewN | apply Kd.R_drew)); exact HO_251002.out) hb); have n1_ := Aside0.mk (Kd.R_below (by (with_reducible repeat (first | apply Kd.R_alloc | apply Kd.R_drewN | apply Kd.R_drew)); exact HO_258002.out) hb); have n2_ := Aside0.mk (Kd.R_below (by (with_reducible repeat (first | apply Kd.R_alloc | apply Kd.R_drewN | apply Kd.R_drew)); exact HO_269002.out) hb); have n3_ := Aside0.mk (blk_below (g := gb250) (o := .cells #[.int .i8 t244, .int .i8 t245, .slice Ao9 t246.length co9] 27 (0, 0)) (by (with_reducible repeat (first | refine blk_drewN ?_ _ | refine blk_drew ?_ | refine blk_alloc ?_ _)); exact BK250.out) hb); have n4_ := Aside0.mk (blk_below (g := gb257) (o := .cells #[.int .i8 t251, .int .i8 t252, .slice Ao14 t260.length co14] 27 (0, 0)) (by (with_reducible repeat (first | refine blk_drewN ?_ _ | refine blk_drew ?_ | refine blk_alloc ?_ _)); exact BK257.out) hb); have n5_ := Aside0.mk (blk_below (g := gb268) (o := .cells #[.int .i8 t262, .int .i8 t263, .slice Ao47 t264.length co47] 27 (0, 0)) (by (with_reducible repeat (first | refine blk_drewN ?_ _ | refine blk_drew ?_ | refine blk_alloc ?_ _)); exact BK268.out) hb); have n6_ := Aside0.mk (below_step (by repeat (first | (with_reducible first | exact HB.out | apply below_alloc | apply pw_below_drewN | apply below_drew1 | refine below_set ?_ GE250.out | refine below_set ?_ GE257.out | refine below_set ?_ GE268.out) | exact HB.out)) hb); clear HO_251002; clear HO_258002; clear HO_269002; clear BK250; clear BK257; clear BK268; clear HB; have HO_251002 := n0_; have HO_258002 := n1_; have HO_269002 := n2_; have BK250 := n3_; have BK257 := n4_; have BK268 := n5_; have HB := n6_; clear n0_ n1_ n2_ n3_ n4_ n5_ n6_; (try clear hb); (try clear hb2); (try clear hk); (try clear hi)))
            go_ret
            exact ⟨by first | rfl | (simp [errW_none, errW_some] <;> rfl) | (simp [*, errW_none, errW_some] <;> rfl), by repeat (first | (with_reducible first | exact HB.out | apply below_alloc | apply pw_below_drewN | apply below_drew1 | refine below_set ?_ GE250.out | refine below_set ?_ GE257.out | refine below_set ?_ GE268.out) | exact HB.out)⟩
           ·rw [if_neg c69] at H
            have c69b0 : (t270 == t259) = false := beq_eq_false_iff_ne.mpr c69
            have c69b1 : (t270 != t259) = true := bne_iff_ne.mpr c69
            obtain rfl := Option.some.inj H
            have hnb74 := NB257_250.out
            have hnc74 := NB250_257.out
            have hnb75 := NB257_268.out
            have hnc75 := NB268_257.out
            have hcz76_0 : wc.cell? ⟨gb257, 0, none⟩ = some (.int .i8 t251) := (blk_cell BK257.out 0).trans rfl
            have hcz76_1 : wc.cell? ⟨gb257, 1, none⟩ = some (.int .i8 t252) := (blk_cell BK257.out 1).trans rfl
            have hcz76_2 : wc.cell? ⟨gb257, 2, none⟩ = some (.slice Ao14 t260.length co14) := (blk_cell BK257.out 2).trans rfl
            have hfz76_0 := blk_frozen BK257.out 0
            have hfz76_1 := blk_frozen BK257.out 1
            have hfz76_2 := blk_frozen BK257.out 2
            go_wp2_with (first | ((with_reducible refine gate_callee (f := 23) rfl ?_); refine goesL_ (some 60) rfl rfl Tryd.func23 (by kernel_rfl) rfl #[.agg #[.int .i8 t251, .int .i8 t252, .slice Ao14 t260.length co14], .int .i64 1] rfl (by (try simp only [List.map_toArray, List.map_cons, List.map_nil]); first | done | rfl | (simp only [List.length_drop, List.length_take]; rfl)) ?_; (with_reducible refine (laws_heldFixed.calls kj35 t251 t252 _ _ t260 1 t270 _ ?side1 ?side2 A63.out).mono ?_); (case side1 => repeat (first | exact (Kd.R_reads' HO_258002.out).2.2 | (with_reducible refine Kd.C_alloc ?_ _) | (with_reducible refine Kd.C_drewN ?_ _) | (with_reducible refine Kd.C_drew ?_))); (case side2 => exact (Kd.R_reads' HO_258002.out).2.1); rintro e w77 ⟨rfl, hb⟩; refine ⟨_, rfl, ?_⟩; have n0_ := Aside0.mk (Kd.R_below (by (with_reducible repeat (first | apply Kd.R_alloc | apply Kd.R_drewN | apply Kd.R_drew)); exact HO_251002.out) hb); have n1_ := Aside0.mk (Kd.R_below (by (with_reducible repeat (first | apply Kd.R_alloc | apply Kd.R_drewN | apply Kd.R_drew)); exact HO_258002.out) hb); have n2_ := Aside0.mk (Kd.R_below (by (with_reducible repeat (first | apply Kd.R_alloc | apply Kd.R_drewN | apply Kd.R_drew)); exact HO_269002.out) hb); have n3_ := Aside0.mk (blk_below (g := gb250) (o := .cells #[.int .i8 t244, .int .i8 t245, .slice Ao9 t246.length co9] 27 (0, 0)) (by (with_reducible repeat (first | refine blk_drewN ?_ _ | refine blk_drew ?_ | refine blk_alloc ?_ _)); exact BK250.out) hb); have n4_ := Aside0.mk (blk_below (g := gb257) (o := .cells #[.int .i8 t251, .int .i8 t252, .slice Ao14 t260.length co14] 27 (0, 0)) (by (with_reducible repeat (first | refine blk_drewN ?_ _ | refine blk_drew ?_ | refine blk_alloc ?_ _)); exact BK257.out) hb); have n5_ := Aside0.mk (blk_below (g := gb268) (o := .cells #[.int .i8 t262, .int .i8 t263, .slice Ao47 t264.length co47] 27 (0, 0)) (by (with_reducible repeat (first | refine blk_drewN ?_ _ | refine blk_drew ?_ | refine blk_alloc ?_ _)); exact BK268.out) hb); have n6_ := Aside0.mk (below_step (by repeat (first | (with_reducible first | exact HB.out | apply below_alloc | apply pw_below_drewN | apply below_drew1 | refine below_set ?_ GE250.out | refine below_set ?_ GE257.out | refine below_set ?_ GE268.out) | exact HB.out)) hb); clear HO_251002; clear HO_258002; clear HO_269002; clear BK250; clear BK257; clear BK268; clear HB; have HO_251002 := n0_; have HO_258002 := n1_; have HO_269002 := n2_; have BK250 := n3_; have BK257 := n4_; have BK268 := n5_; have HB := n6_; clear n0_ n1_ n2_ n3_ n4_ n5_ n6_; (try clear hb); (try clear hb2); (try clear hk); (try clear hi)))
            go_ret
            exact ⟨by first | rfl | (simp [errW_none, errW_some] <;> rfl) | (simp [*, errW_none, errW_some] <;> rfl), by repeat (first | (with_reducible first | exact HB.out | apply below_alloc | apply pw_below_drewN | apply below_drew1 | refine below_set ?_ GE250.out | refine below_set ?_ GE257.out | refine below_set ?_ GE268.out) | exact HB.out)⟩
      ·rw [if_neg c34] at H
       have c34b0 : (t261 == t259) = false := beq_eq_false_iff_ne.mpr c34
       have c34b1 : (t261 != t259) = true := bne_iff_ne.mpr c34
       obtain rfl := Option.some.inj H
       have hnb78 := NB257_250.out
       have hnc78 := NB250_257.out
       have hcz79_0 : wc.cell? ⟨gb257, 0, none⟩ = some (.int .i8 t251) := (blk_cell BK257.out 0).trans rfl
       have hcz79_1 : wc.cell? ⟨gb257, 1, none⟩ = some (.int .i8 t252) := (blk_cell BK257.out 1).trans rfl
       have hcz79_2 : wc.cell? ⟨gb257, 2, none⟩ = some (.slice Ao14 t253.length co14) := (blk_cell BK257.out 2).trans rfl
       have hfz79_0 := blk_frozen BK257.out 0
       have hfz79_1 := blk_frozen BK257.out 1
       have hfz79_2 := blk_frozen BK257.out 2
       go_wp2_with (first | ((with_reducible refine gate_callee (f := 22) rfl ?_); refine goesL_ (some 35) rfl rfl Tryd.func22 (by kernel_rfl) rfl #[.agg #[.int .i8 t251, .int .i8 t252, .slice Ao14 t253.length co14], .int .i64 1] rfl (by (try simp only [List.map_toArray, List.map_cons, List.map_nil]); first | done | rfl | (simp only [List.length_drop, List.length_take]; rfl)) ?_; (with_reducible refine (laws_markFixed.calls kj4 t251 t252 (fun k_ => some k_ = (.slice Ao14 t253.length co14 : Value).ownBlock) (.slice Ao14 t253.length co14) t253 1 t259 t260 w _ ?side1 ?side2 A26.out).mono ?_); (case side1 => repeat (first | (with_reducible first | exact HB.out | apply below_alloc | apply pw_below_drewN | apply below_drew1 | refine below_set ?_ GE250.out | refine below_set ?_ GE257.out) | exact HB.out)); (case side2 => exact Kd.R_tight rfl HO_258002.out); rintro e w80 ⟨rfl, hy0, hb, hkp⟩; refine ⟨_, rfl, ?_⟩; have n0_ := Aside0.mk (Kd.R_mono (ok' := fun k_ => some k_ ≠ (.slice Ao14 t253.length co14 : Value).ownBlock) (Kd.R_keptB (HO_251002.out) hkp (fun k_ hk_ hs_ => (hk_) hs_)) (fun k_ hk_ => hk_.1)); have n1_ := Aside0.mk (Kd.R_reok rfl hy0 (fun k_ e_ => HO_258002.out.1 k_ e_)); have n2_ := Aside0.mk (blk_kept (by (with_reducible repeat (first | refine blk_drewN ?_ _ | refine blk_drew ?_ | refine blk_alloc ?_ _)); exact BK250.out) hkp (fun hs_ => (fun e_ => (Kd.R_ne HO_258002.out BK250.out (by decide)) e_) hs_)); have n3_ := Aside0.mk (blk_kept (by (with_reducible repeat (first | refine blk_drewN ?_ _ | refine blk_drew ?_ | refine blk_alloc ?_ _)); exact BK257.out) hkp (fun hs_ => (fun e_ => (Kd.R_ne HO_258002.out BK257.out (by decide)) e_) hs_)); have n4_ := Aside0.mk (hb); clear HO_251002; clear HO_258002; clear BK250; clear BK257; clear HB; have HO_251002 := n0_; have HO_258002 := n1_; have BK250 := n2_; have BK257 := n3_; have HB := n4_; clear n0_ n1_ n2_ n3_ n4_; (try clear hb); (try clear hkp); (try clear hy0); have hcz81_0 : w80.cell? ⟨gb257, 0, none⟩ = some (.int .i8 t251) := (blk_cell BK257.out 0).trans rfl; have hcz81_1 : w80.cell? ⟨gb257, 1, none⟩ = some (.int .i8 t252) := (blk_cell BK257.out 1).trans rfl; have hcz81_2 : w80.cell? ⟨gb257, 2, none⟩ = some (.slice Ao14 t253.length co14) := (blk_cell BK257.out 2).trans rfl; have hfz81_0 := blk_frozen BK257.out 0; have hfz81_1 := blk_frozen BK257.out 1; have hfz81_2 := blk_frozen BK257.out 2) | ((with_reducible refine gate_callee (f := 23) rfl ?_); refine goesL_ (some 38) rfl rfl Tryd.func23 (by kernel_rfl) rfl #[.agg #[.int .i8 t251, .int .i8 t252, .slice Ao14 t260.length co14], .int .i64 1] rfl (by (try simp only [List.map_toArray, List.map_cons, List.map_nil]); first | done | (rw [show t260.length = t253.length from (Kd.R_reads' HO_258002.out).1.symm] <;> rfl) | rfl | (simp only [List.length_drop, List.length_take]; rfl)) ?_; (with_reducible refine (laws_heldFixed.calls kj4 t251 t252 _ _ t260 1 t261 _ ?side1 ?side2 A27.out).mono ?_); (case side1 => repeat (first | exact (Kd.R_reads' HO_258002.out).2.2 | (with_reducible refine Kd.C_alloc ?_ _) | (with_reducible refine Kd.C_drewN ?_ _) | (with_reducible refine Kd.C_drew ?_))); (case side2 => rw [show t260.length = t253.length from (Kd.R_reads' HO_258002.out).1.symm]; exact (Kd.R_reads' HO_258002.out).2.1); rintro e w82 ⟨rfl, hb⟩; refine ⟨_, rfl, ?_⟩; have n0_ := Aside0.mk (Kd.R_below (by (with_reducible repeat (first | apply Kd.R_alloc | apply Kd.R_drewN | apply Kd.R_drew)); exact HO_251002.out) hb); have n1_ := Aside0.mk (Kd.R_below (by (with_reducible repeat (first | apply Kd.R_alloc | apply Kd.R_drewN | apply Kd.R_drew)); exact HO_258002.out) hb); have n2_ := Aside0.mk (blk_below (g := gb250) (o := .cells #[.int .i8 t244, .int .i8 t245, .slice Ao9 t246.length co9] 27 (0, 0)) (by (with_reducible repeat (first | refine blk_drewN ?_ _ | refine blk_drew ?_ | refine blk_alloc ?_ _)); exact BK250.out) hb); have n3_ := Aside0.mk (blk_below (g := gb257) (o := .cells #[.int .i8 t251, .int .i8 t252, .slice Ao14 t253.length co14] 27 (0, 0)) (by (with_reducible repeat (first | refine blk_drewN ?_ _ | refine blk_drew ?_ | refine blk_alloc ?_ _)); exact BK257.out) hb); have n4_ := Aside0.mk (below_step (by repeat (first | (with_reducible first | exact HB.out | apply below_alloc | apply pw_below_drewN | apply below_drew1 | refine below_set ?_ GE250.out | refine below_set ?_ GE257.out) | exact HB.out)) hb); clear HO_251002; clear HO_258002; clear BK250; clear BK257; clear HB; have HO_251002 := n0_; have HO_258002 := n1_; have BK250 := n2_; have BK257 := n3_; have HB := n4_; clear n0_ n1_ n2_ n3_ n4_; (try clear hb); (try clear hb2); (try clear hk); (try clear hi)))
       go_ret
       exact ⟨by first | rfl | (simp [errW_none, errW_some] <;> rfl) | (simp [*, errW_none, errW_some] <;> rfl), by repeat (first | (with_reducible first | exact HB.out | apply below_alloc | apply pw_below_drewN | apply below_drew1 | refine below_set ?_ GE250.out | refine below_set ?_ GE257.out) | exact HB.out)⟩

/-- THE ONE PURE STATEMENT of laws_FnExactReadFixed: yours. -/
def laws_FnExactReadFixed.Pure : Prop := ∀ (a0 : ByteArray), a0.size ≤ 140737488351232 → ∃ k, laws_FnExactReadFixed.f k a0 = some true
theorem laws_FnExactReadFixed.walk (P : laws_FnExactReadFixed.Pure) (a0 : ByteArray) (w : World) (hml : MaxL w) (w0 : a0.size ≤ 140737488351232) :
  Calls Tryd.prog 4 #[.string a0] w fun e w' => e = .returned (.bool true) ∧ Below w.heap.size w w' := by
 obtain ⟨k, h⟩ := P a0 w0
 refine (laws_FnExactReadFixed.calls k a0 true w hml h).mono ?_
 rintro e w' ⟨rfl, hd⟩
 exact ⟨rfl, hd⟩

end Go.Proofs.YtmfbcklaomigaaaDoor.D
