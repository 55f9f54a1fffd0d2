-- Written by wip/tools/myprint.py, a program of this session, by way of the kit's print.
import Derived.Test.YtikdnhhegknplaaXx0
import Derived.Test.YtikdnhhegknplaaXx1
import Derived.Test.YtikdnhhegknplaaXx2
import Derived.Test.YtikdnhhegknplaaXx6
import Derived.Test.YtikdnhhegknplaaXx13
namespace Go.Proofs.Ytikdnhhegknplaa.X
open Go.RowKit Go.Proofs.YtikdnhhegknplaaW.PrintWords Go.Proofs.YtikdnhhegknplaaW.PrintLast Go.Proofs.YtikdnhhegknplaaW.PrintMore
attribute [local go_sem] max2_int min2_int max_two min_two max_three min_three max_four min_four   -- for this text's walks alone
set_option linter.unusedVariables false
set_option linter.unusedSimpArgs false

/-! ### laws_FnExactCrossWith: function 11 -/
def laws_FnExactCrossWith.j0 : Nat → Bool → Int → Int → List Int → Int → Int → List Int → Option (Bool)
  | 0, _, _, _, _, _, _, _ => none
  | k + 1, x45, x204000, x204001, x204002, x223000, x223001, x223002 => if x45 = true then (some false) else ((laws_toFerry.f k x204000 x204001 x204002).bind fun bt230 => ((laws_eqFerry.f k x223000 x223001 x223002 bt230.1 bt230.2.1 bt230.2.2).bind fun t235 => (if t235 = true then (some true) else (some false))))
def laws_FnExactCrossWith.f (k : Nat) (a0_0 : Int) (a0_1 : Int) (l0_2 : List Int) (a1_0 : Int) (a1_1 : Bool) (a2 : Int) : Option (Bool) := (laws_szFerry.f a0_0 a0_1 l0_2 1048576).bind fun t205 => (if t205 < 0 then (some true) else ((laws_toFerry.f k a0_0 a0_1 l0_2).bind fun bt206 => ((laws_toBank.f a1_0 a1_1).bind fun bt211 => ((spec_CrossWith.f k bt206.1 bt206.2.1 bt206.2.2 bt211.1 bt211.2 a2).bind fun bt213 => ((laws_toFerry.f k a0_0 a0_1 l0_2).bind fun bt217 => ((laws_toBank.f a1_0 a1_1).bind fun bt223 => ((impl_CrossWith.f k bt217.1 bt217.2.1 bt217.2.2 bt223.1 bt223.2 a2).bind fun bt225 => ((laws_eqBank.f bt225.1 bt225.2.1 bt213.1 bt213.2.1).bind fun t229 => (if t229 = true then (laws_FnExactCrossWith.j0 k (bt225.2.2 != bt213.2.2) a0_0 a0_1 l0_2 bt217.1 bt217.2.1 bt217.2.2) else (laws_FnExactCrossWith.j0 k true a0_0 a0_1 l0_2 bt217.1 bt217.2.1 bt217.2.2))))))))))
theorem laws_FnExactCrossWith.mono_l : ∀ k, (∀ y0 y1 y2 y3 y4 y5 y6, LeO (laws_FnExactCrossWith.j0 k y0 y1 y2 y3 y4 y5 y6) (laws_FnExactCrossWith.j0 (k + 1) y0 y1 y2 y3 y4 y5 y6))
  | 0 => fun _ _ _ _ _ _ _ r h => by simp [laws_FnExactCrossWith.j0] at h
  | k + 1 => by
    have ih0 := laws_FnExactCrossWith.mono_l k
    · intro y0 y1 y2 y3 y4 y5 y6
      unfold laws_FnExactCrossWith.j0
      repeat' first
      | (with_reducible exact ih0 _ _ _ _ _ _ _)
      | (with_reducible exact impl_CrossWith.mono _ _ _ _ _ _ _)
      | (with_reducible exact laws_eqFerry.mono _ _ _ _ _ _ _)
      | (with_reducible exact laws_toFerry.mono _ _ _ _)
      | (with_reducible exact spec_CrossWith.mono _ _ _ _ _ _ _)
      | (with_reducible exact LeO.refl _)
      | (with_reducible exact LeO.none _)
      | (with_reducible refine LeO.ite ?_ ?_)
      | (with_reducible refine LeO.bind ?_ (fun _ => ?_))
      | exact ih0 _ _ _ _ _ _ _
      | exact impl_CrossWith.mono _ _ _ _ _ _ _
      | exact laws_eqFerry.mono _ _ _ _ _ _ _
      | exact laws_toFerry.mono _ _ _ _
      | exact spec_CrossWith.mono _ _ _ _ _ _ _
      | exact LeO.none _
      | refine LeO.ite ?_ ?_
      | refine LeO.bind ?_ (fun _ => ?_)
theorem laws_FnExactCrossWith.mono : ∀ a0 a1 a2 a3 a4 a5 k, LeO (laws_FnExactCrossWith.f k a0 a1 a2 a3 a4 a5) (laws_FnExactCrossWith.f (k + 1) a0 a1 a2 a3 a4 a5) := by
  intro a0 a1 a2 a3 a4 a5 k
  have ih0 := laws_FnExactCrossWith.mono_l k
  unfold laws_FnExactCrossWith.f
  repeat' first
      | (with_reducible exact ih0 _ _ _ _ _ _ _)
      | (with_reducible exact impl_CrossWith.mono _ _ _ _ _ _ _)
      | (with_reducible exact laws_eqFerry.mono _ _ _ _ _ _ _)
      | (with_reducible exact laws_toFerry.mono _ _ _ _)
      | (with_reducible exact spec_CrossWith.mono _ _ _ _ _ _ _)
      | (with_reducible exact LeO.refl _)
      | (with_reducible exact LeO.none _)
      | (with_reducible refine LeO.ite ?_ ?_)
      | (with_reducible refine LeO.bind ?_ (fun _ => ?_))
      | exact ih0 _ _ _ _ _ _ _
      | exact impl_CrossWith.mono _ _ _ _ _ _ _
      | exact laws_eqFerry.mono _ _ _ _ _ _ _
      | exact laws_toFerry.mono _ _ _ _
      | exact spec_CrossWith.mono _ _ _ _ _ _ _
      | exact LeO.none _
      | refine LeO.ite ?_ ?_
      | refine LeO.bind ?_ (fun _ => ?_)
def laws_FnExactCrossWith.T5 : Bool × List (List Nat × List Nat) := (true, [([], []), ([0], [0]), ([], []), ([2, 1], [2]), ([], []), ([1, 3, 4, 3], [1, 3, 4]), ([5], [5]), ([6], [6]), ([6], [6]), ([], []), ([9, 7, 5, 0, 1, 2, 3, 4, 5, 6, 7, 9], [7, 9]), ([8, 10, 0, 1, 2, 3, 4, 5, 6, 7, 8, 9, 10], [8])])
def laws_FnExactCrossWith.B5 : List Nat := [0, 1, 0, 7, 0, 31, 63, 127, 127, 0, 767, 2047]
theorem laws_FnExactCrossWith.tab5 : rtab .any (opsOf Try.f11 5) = laws_FnExactCrossWith.T5 := by kernel_rfl
theorem laws_FnExactCrossWith.bits5 : waitsOk laws_FnExactCrossWith.T5.2 laws_FnExactCrossWith.B5 = true := by kernel_rfl
def laws_FnExactCrossWith.T7 : Bool × List (List Nat × List Nat) := (true, [([], []), ([], []), ([1], [1]), ([], []), ([0, 2, 3, 2], [0, 2, 3]), ([4], [4]), ([5], [5]), ([5], [5]), ([], []), ([8, 6, 4, 0, 1, 2, 3, 4, 5, 6, 8], [6, 8]), ([7, 9, 0, 1, 2, 3, 4, 5, 6, 7, 8, 9], [7])])
def laws_FnExactCrossWith.B7 : List Nat := [0, 0, 2, 0, 15, 31, 63, 63, 0, 383, 1023]
theorem laws_FnExactCrossWith.tab7 : rtab .any (opsOf Try.f11 7) = laws_FnExactCrossWith.T7 := by kernel_rfl
theorem laws_FnExactCrossWith.bits7 : waitsOk laws_FnExactCrossWith.T7.2 laws_FnExactCrossWith.B7 = true := by kernel_rfl
set_option maxHeartbeats 8000000 in
set_option maxRecDepth 100000 in
theorem laws_FnExactCrossWith.calls (k : Nat) (a0_0 : Int) (a0_1 : Int) (A0_2 : Option Addr) (c0_2 : Nat) (l0_2 : List Int) (a1_0 : Int) (a1_1 : Bool) (a2 : Int) (r : Bool) (w : World) (hr0_2 : Kd.C (Kd.int .u16) w A0_2 l0_2.length l0_2) (hc0_2 : l0_2.length ≤ c0_2) (h : laws_FnExactCrossWith.f k a0_0 a0_1 l0_2 a1_0 a1_1 a2 = some r) :
    Calls Try.prog 11 #[.agg #[.int .i8 a0_0, .int .i8 a0_1, .slice A0_2 l0_2.length c0_2], .agg #[.int .u16 a1_0, .bool a1_1], .int .u16 a2] w fun e w' => e = .returned (.bool r) ∧ Below w.heap.size w w' := by
  have hu25 := Try.underlying25
  have hu39 := Try.underlying39
  have hu41 := Try.underlying41
  have hu28 := Try.underlying28
  have HR0_2 := Aside0.mk hr0_2
  have HC0_2 := Aside0.mk hc0_2
  clear hr0_2 hc0_2
  have HB := Aside0.mk (Below.refl w.heap.size w)
  have H : ((laws_szFerry.f a0_0 a0_1 l0_2 1048576).bind fun t205 => (if t205 < 0 then (some true) else ((laws_toFerry.f k a0_0 a0_1 l0_2).bind fun bt206 => ((laws_toBank.f a1_0 a1_1).bind fun bt211 => ((spec_CrossWith.f k bt206.1 bt206.2.1 bt206.2.2 bt211.1 bt211.2 a2).bind fun bt213 => ((laws_toFerry.f k a0_0 a0_1 l0_2).bind fun bt217 => ((laws_toBank.f a1_0 a1_1).bind fun bt223 => ((impl_CrossWith.f k bt217.1 bt217.2.1 bt217.2.2 bt223.1 bt223.2 a2).bind fun bt225 => ((laws_eqBank.f bt225.1 bt225.2.1 bt213.1 bt213.2.1).bind fun t229 => (if t229 = true then (laws_FnExactCrossWith.j0 k (bt225.2.2 != bt213.2.2) a0_0 a0_1 l0_2 bt217.1 bt217.2.1 bt217.2.2) else (laws_FnExactCrossWith.j0 k true a0_0 a0_1 l0_2 bt217.1 bt217.2.1 bt217.2.2))))))))))) = some r := h
  clear h
  replace H := Option.bind_eq_some_iff.mp H
  obtain ⟨t205, A40, H⟩ := H
  replace H : (if t205 < 0 then (some true) else ((laws_toFerry.f k a0_0 a0_1 l0_2).bind fun bt206 => ((laws_toBank.f a1_0 a1_1).bind fun bt211 => ((spec_CrossWith.f k bt206.1 bt206.2.1 bt206.2.2 bt211.1 bt211.2 a2).bind fun bt213 => ((laws_toFerry.f k a0_0 a0_1 l0_2).bind fun bt217 => ((laws_toBank.f a1_0 a1_1).bind fun bt223 => ((impl_CrossWith.f k bt217.1 bt217.2.1 bt217.2.2 bt223.1 bt223.2 a2).bind fun bt225 => ((laws_eqBank.f bt225.1 bt225.2.1 bt213.1 bt213.2.1).bind fun t229 => (if t229 = true then (laws_FnExactCrossWith.j0 k (bt225.2.2 != bt213.2.2) a0_0 a0_1 l0_2 bt217.1 bt217.2.1 bt217.2.2) else (laws_FnExactCrossWith.j0 k true a0_0 a0_1 l0_2 bt217.1 bt217.2.1 bt217.2.2)))))))))) = some r := H
  have A4 := Aside0.mk A40
  clear A40
  by_cases c5 : t205 < 0
  · rw [if_pos c5] at H
    have c5b0 : decide (t205 < 0) = true := decide_eq_true c5
    clear c5
    obtain rfl := Option.some.inj H
    go_enter Try.func11, Try.ntmps11
    go_wp2_with (first | ((with_reducible refine gate_dst (N := 3) rfl ?_); refine box_event ?hg (N := 3) ?hd (cs := #[.int .i8 a0_0, .int .i8 a0_1, .slice A0_2 l0_2.length c0_2]) (t := 25) ?hr ?_; (case hd => rfl); (case hg => rfl); (case hr => first | (go_simp; done) | (go_simp; rfl)); intro gb203 hg w6 hbox hb; have n0_ := Aside0.mk (below_step (by repeat (first | (with_reducible first | exact HB.out | apply below_alloc | apply pw_below_drewN | apply below_drew1) | exact HB.out)) hb); have n1_ := Aside0.mk (hbox); have n2_ := Aside0.mk ((by rw [hg]; exact (below_size (by repeat (first | (with_reducible first | exact HB.out | apply below_alloc | apply pw_below_drewN | apply below_drew1) | exact HB.out))) : w.heap.size ≤ gb203)); have n3_ := Aside0.mk ((by rw [hg]; exact (below_size (by repeat (first | (with_reducible first | exact HB.out | apply below_alloc | apply pw_below_drewN | apply below_drew1) | exact HB.out))) : w.heap.size ≤ gb203)); clear HB; have HB := n0_; have BK203 := n1_; have GW203 := n2_; have GE203 := n3_; clear n0_ n1_ n2_ n3_; clear hb hbox hg) | ((with_reducible refine gate_dst (N := 4) rfl ?_); refine box_event ?hg (N := 4) ?hd (cs := #[.int .u16 a1_0, .bool a1_1]) (t := 39) ?hr ?_; (case hd => rfl); (case hg => rfl); (case hr => first | (go_simp; done) | (go_simp; rfl)); intro gb204 hg w7 hbox hb; have n0_ := Aside0.mk (blk_below (g := gb203) (o := .cells #[.int .i8 a0_0, .int .i8 a0_1, .slice A0_2 l0_2.length c0_2] 25 (0, 0)) (by (with_reducible repeat (first | refine blk_drewN ?_ _ | refine blk_drew ?_ | refine blk_alloc ?_ _)); exact BK203.out) hb); have n1_ := Aside0.mk (below_step (by repeat (first | (with_reducible first | exact HB.out | apply below_alloc | apply pw_below_drewN | apply below_drew1 | refine below_set ?_ GE203.out) | exact HB.out)) hb); have n2_ := Aside0.mk (hbox); have n3_ := Aside0.mk ((by rw [hg]; exact (below_size (by repeat (first | (with_reducible first | exact HB.out | apply below_alloc | apply pw_below_drewN | apply below_drew1 | refine below_set ?_ GE203.out) | exact HB.out))) : w.heap.size ≤ gb204)); have n4_ := Aside0.mk ((by rw [hg]; exact (below_size (by repeat (first | (with_reducible first | exact HB.out | apply below_alloc | apply pw_below_drewN | apply below_drew1 | refine below_set ?_ GE203.out) | exact HB.out))) : w.heap.size ≤ gb204)); have n5_ := Aside0.mk ((by rw [hg]; exact Nat.ne_of_lt (blk_lt (g := gb203) (o := .cells #[.int .i8 a0_0, .int .i8 a0_1, .slice A0_2 l0_2.length c0_2] 25 (0, 0)) (by (with_reducible repeat (first | refine blk_drewN ?_ _ | refine blk_drew ?_ | refine blk_alloc ?_ _)); exact BK203.out)) : gb203 ≠ gb204)); have n6_ := Aside0.mk ((by rw [hg]; exact Nat.ne_of_gt (blk_lt (g := gb203) (o := .cells #[.int .i8 a0_0, .int .i8 a0_1, .slice A0_2 l0_2.length c0_2] 25 (0, 0)) (by (with_reducible repeat (first | refine blk_drewN ?_ _ | refine blk_drew ?_ | refine blk_alloc ?_ _)); exact BK203.out)) : gb204 ≠ gb203)); clear BK203; clear HB; have BK203 := n0_; have HB := n1_; have BK204 := n2_; have GW204 := n3_; have GE204 := n4_; have NB203_204 := n5_; have NB204_203 := n6_; clear n0_ n1_ n2_ n3_ n4_ n5_ n6_; clear hb hbox hg; have hnb8 := NB203_204.out; have hnc8 := NB204_203.out; have hcz9_0 : w7.cell? ⟨gb203, 0, none⟩ = some (.int .i8 a0_0) := (blk_cell BK203.out 0).trans rfl; have hcz9_1 : w7.cell? ⟨gb203, 1, none⟩ = some (.int .i8 a0_1) := (blk_cell BK203.out 1).trans rfl; have hcz9_2 : w7.cell? ⟨gb203, 2, none⟩ = some (.slice A0_2 l0_2.length c0_2) := (blk_cell BK203.out 2).trans rfl; have hfz9_0 := blk_frozen BK203.out 0; have hfz9_1 := blk_frozen BK203.out 1; have hfz9_2 := blk_frozen BK203.out 2) | ((with_reducible refine gate_callee (f := 12) rfl ?_); refine goesL_ (some 15) rfl rfl Try.func12 (by kernel_rfl) rfl #[.agg #[.int .i8 a0_0, .int .i8 a0_1, .slice A0_2 l0_2.length c0_2], .int .i64 1048576] rfl (by (try simp only [List.map_toArray, List.map_cons, List.map_nil]); first | done | rfl | (simp only [List.length_drop, List.length_take]; rfl)) ?_; (with_reducible refine (laws_szFerry.calls a0_0 a0_1 _ _ l0_2 1048576 t205 _ ?side1 ?side2 A4.out).mono ?_); (case side1 => repeat (first | exact (Kd.C_below HR0_2.out HB.out) | (with_reducible refine Kd.C_alloc ?_ _) | (with_reducible refine Kd.C_drewN ?_ _) | (with_reducible refine Kd.C_drew ?_))); (case side2 => exact HC0_2.out); rintro e w10 ⟨rfl, hb⟩; refine ⟨_, rfl, ?_⟩; have n0_ := Aside0.mk (blk_below (g := gb203) (o := .cells #[.int .i8 a0_0, .int .i8 a0_1, .slice A0_2 l0_2.length c0_2] 25 (0, 0)) (by (with_reducible repeat (first | refine blk_drewN ?_ _ | refine blk_drew ?_ | refine blk_alloc ?_ _)); exact BK203.out) hb); have n1_ := Aside0.mk (blk_below (g := gb204) (o := .cells #[.int .u16 a1_0, .bool a1_1] 39 (0, 0)) (by (with_reducible repeat (first | refine blk_drewN ?_ _ | refine blk_drew ?_ | refine blk_alloc ?_ _)); exact BK204.out) hb); have n2_ := Aside0.mk (below_step (by repeat (first | (with_reducible first | exact HB.out | apply below_alloc | apply pw_below_drewN | apply below_drew1 | refine below_set ?_ GE203.out | refine below_set ?_ GE204.out) | exact HB.out)) hb); clear BK203; clear BK204; clear HB; have BK203 := n0_; have BK204 := n1_; have HB := n2_; clear n0_ n1_ n2_; (try clear hb); (try clear hb2); (try clear hk); (try clear hi)))
    go_ret
    exact ⟨by first | rfl | (simp [errW_none, errW_some] <;> rfl) | (simp [*, errW_none, errW_some] <;> rfl), by repeat (first | (with_reducible first | exact HB.out | apply below_alloc | apply pw_below_drewN | apply below_drew1 | refine below_set ?_ GE203.out | refine below_set ?_ GE204.out) | exact HB.out)⟩
  · rw [if_neg c5] at H
    have c5b0 : decide (t205 < 0) = false := decide_eq_false c5
    clear c5
    replace H := Option.bind_eq_some_iff.mp H
    obtain ⟨⟨t206, t207, t208⟩, A110, H⟩ := H
    replace H : ((laws_toBank.f a1_0 a1_1).bind fun bt211 => ((spec_CrossWith.f k t206 t207 t208 bt211.1 bt211.2 a2).bind fun bt213 => ((laws_toFerry.f k a0_0 a0_1 l0_2).bind fun bt217 => ((laws_toBank.f a1_0 a1_1).bind fun bt223 => ((impl_CrossWith.f k bt217.1 bt217.2.1 bt217.2.2 bt223.1 bt223.2 a2).bind fun bt225 => ((laws_eqBank.f bt225.1 bt225.2.1 bt213.1 bt213.2.1).bind fun t229 => (if t229 = true then (laws_FnExactCrossWith.j0 k (bt225.2.2 != bt213.2.2) a0_0 a0_1 l0_2 bt217.1 bt217.2.1 bt217.2.2) else (laws_FnExactCrossWith.j0 k true a0_0 a0_1 l0_2 bt217.1 bt217.2.1 bt217.2.2)))))))) = some r := H
    have A11 := Aside0.mk A110
    clear A110
    replace H := Option.bind_eq_some_iff.mp H
    obtain ⟨⟨t211, t212⟩, A120, H⟩ := H
    replace H : ((spec_CrossWith.f k t206 t207 t208 t211 t212 a2).bind fun bt213 => ((laws_toFerry.f k a0_0 a0_1 l0_2).bind fun bt217 => ((laws_toBank.f a1_0 a1_1).bind fun bt223 => ((impl_CrossWith.f k bt217.1 bt217.2.1 bt217.2.2 bt223.1 bt223.2 a2).bind fun bt225 => ((laws_eqBank.f bt225.1 bt225.2.1 bt213.1 bt213.2.1).bind fun t229 => (if t229 = true then (laws_FnExactCrossWith.j0 k (bt225.2.2 != bt213.2.2) a0_0 a0_1 l0_2 bt217.1 bt217.2.1 bt217.2.2) else (laws_FnExactCrossWith.j0 k true a0_0 a0_1 l0_2 bt217.1 bt217.2.1 bt217.2.2))))))) = some r := H
    have A12 := Aside0.mk A120
    clear A120
    replace H := Option.bind_eq_some_iff.mp H
    obtain ⟨⟨t213, t214, t215⟩, A130, H⟩ := H
    replace H : ((laws_toFerry.f k a0_0 a0_1 l0_2).bind fun bt217 => ((laws_toBank.f a1_0 a1_1).bind fun bt223 => ((impl_CrossWith.f k bt217.1 bt217.2.1 bt217.2.2 bt223.1 bt223.2 a2).bind fun bt225 => ((laws_eqBank.f bt225.1 bt225.2.1 t213 t214).bind fun t229 => (if t229 = true then (laws_FnExactCrossWith.j0 k (bt225.2.2 != t215) a0_0 a0_1 l0_2 bt217.1 bt217.2.1 bt217.2.2) else (laws_FnExactCrossWith.j0 k true a0_0 a0_1 l0_2 bt217.1 bt217.2.1 bt217.2.2)))))) = some r := H
    have A13 := Aside0.mk A130
    clear A130
    replace H := Option.bind_eq_some_iff.mp H
    obtain ⟨⟨t217, t218, t219⟩, A140, H⟩ := H
    replace H : ((laws_toBank.f a1_0 a1_1).bind fun bt223 => ((impl_CrossWith.f k t217 t218 t219 bt223.1 bt223.2 a2).bind fun bt225 => ((laws_eqBank.f bt225.1 bt225.2.1 t213 t214).bind fun t229 => (if t229 = true then (laws_FnExactCrossWith.j0 k (bt225.2.2 != t215) a0_0 a0_1 l0_2 t217 t218 t219) else (laws_FnExactCrossWith.j0 k true a0_0 a0_1 l0_2 t217 t218 t219))))) = some r := H
    have A14 := Aside0.mk A140
    clear A140
    replace H := Option.bind_eq_some_iff.mp H
    obtain ⟨⟨t223, t224⟩, A150, H⟩ := H
    replace H : ((impl_CrossWith.f k t217 t218 t219 t223 t224 a2).bind fun bt225 => ((laws_eqBank.f bt225.1 bt225.2.1 t213 t214).bind fun t229 => (if t229 = true then (laws_FnExactCrossWith.j0 k (bt225.2.2 != t215) a0_0 a0_1 l0_2 t217 t218 t219) else (laws_FnExactCrossWith.j0 k true a0_0 a0_1 l0_2 t217 t218 t219)))) = some r := H
    have A15 := Aside0.mk A150
    clear A150
    replace H := Option.bind_eq_some_iff.mp H
    obtain ⟨⟨t225, t226, t227⟩, A160, H⟩ := H
    replace H : ((laws_eqBank.f t225 t226 t213 t214).bind fun t229 => (if t229 = true then (laws_FnExactCrossWith.j0 k (t227 != t215) a0_0 a0_1 l0_2 t217 t218 t219) else (laws_FnExactCrossWith.j0 k true a0_0 a0_1 l0_2 t217 t218 t219))) = some r := H
    have A16 := Aside0.mk A160
    clear A160
    have HC17 := Aside0.mk H
    clear H
    go_enter Try.func11, Try.ntmps11
    try go_wp2_with (first | ((with_reducible refine gate_dst (N := 3) rfl ?_); refine box_event ?hg (N := 3) ?hd (cs := #[.int .i8 a0_0, .int .i8 a0_1, .slice A0_2 l0_2.length c0_2]) (t := 25) ?hr ?_; (case hd => rfl); (case hg => rfl); (case hr => first | (go_simp; done) | (go_simp; rfl)); intro gb203 hg w18 hbox hb; have n0_ := Aside0.mk (below_step (by repeat (first | (with_reducible first | exact HB.out | apply below_alloc | apply pw_below_drewN | apply below_drew1) | exact HB.out)) hb); have n1_ := Aside0.mk (hbox); have n2_ := Aside0.mk ((by rw [hg]; exact (below_size (by repeat (first | (with_reducible first | exact HB.out | apply below_alloc | apply pw_below_drewN | apply below_drew1) | exact HB.out))) : w.heap.size ≤ gb203)); have n3_ := Aside0.mk ((by rw [hg]; exact (below_size (by repeat (first | (with_reducible first | exact HB.out | apply below_alloc | apply pw_below_drewN | apply below_drew1) | exact HB.out))) : w.heap.size ≤ gb203)); clear HB; have HB := n0_; have BK203 := n1_; have GW203 := n2_; have GE203 := n3_; clear n0_ n1_ n2_ n3_; clear hb hbox hg) | ((with_reducible refine gate_dst (N := 4) rfl ?_); refine box_event ?hg (N := 4) ?hd (cs := #[.int .u16 a1_0, .bool a1_1]) (t := 39) ?hr ?_; (case hd => rfl); (case hg => rfl); (case hr => first | (go_simp; done) | (go_simp; rfl)); intro gb204 hg w19 hbox hb; have n0_ := Aside0.mk (blk_below (g := gb203) (o := .cells #[.int .i8 a0_0, .int .i8 a0_1, .slice A0_2 l0_2.length c0_2] 25 (0, 0)) (by (with_reducible repeat (first | refine blk_drewN ?_ _ | refine blk_drew ?_ | refine blk_alloc ?_ _)); exact BK203.out) hb); have n1_ := Aside0.mk (below_step (by repeat (first | (with_reducible first | exact HB.out | apply below_alloc | apply pw_below_drewN | apply below_drew1 | refine below_set ?_ GE203.out) | exact HB.out)) hb); have n2_ := Aside0.mk (hbox); have n3_ := Aside0.mk ((by rw [hg]; exact (below_size (by repeat (first | (with_reducible first | exact HB.out | apply below_alloc | apply pw_below_drewN | apply below_drew1 | refine below_set ?_ GE203.out) | exact HB.out))) : w.heap.size ≤ gb204)); have n4_ := Aside0.mk ((by rw [hg]; exact (below_size (by repeat (first | (with_reducible first | exact HB.out | apply below_alloc | apply pw_below_drewN | apply below_drew1 | refine below_set ?_ GE203.out) | exact HB.out))) : w.heap.size ≤ gb204)); have n5_ := Aside0.mk ((by rw [hg]; exact Nat.ne_of_lt (blk_lt (g := gb203) (o := .cells #[.int .i8 a0_0, .int .i8 a0_1, .slice A0_2 l0_2.length c0_2] 25 (0, 0)) (by (with_reducible repeat (first | refine blk_drewN ?_ _ | refine blk_drew ?_ | refine blk_alloc ?_ _)); exact BK203.out)) : gb203 ≠ gb204)); have n6_ := Aside0.mk ((by rw [hg]; exact Nat.ne_of_gt (blk_lt (g := gb203) (o := .cells #[.int .i8 a0_0, .int .i8 a0_1, .slice A0_2 l0_2.length c0_2] 25 (0, 0)) (by (with_reducible repeat (first | refine blk_drewN ?_ _ | refine blk_drew ?_ | refine blk_alloc ?_ _)); exact BK203.out)) : gb204 ≠ gb203)); clear BK203; clear HB; have BK203 := n0_; have HB := n1_; have BK204 := n2_; have GW204 := n3_; have GE204 := n4_; have NB203_204 := n5_; have NB204_203 := n6_; clear n0_ n1_ n2_ n3_ n4_ n5_ n6_; clear hb hbox hg; have hnb20 := NB203_204.out; have hnc20 := NB204_203.out; have hcz21_0 : w19.cell? ⟨gb203, 0, none⟩ = some (.int .i8 a0_0) := (blk_cell BK203.out 0).trans rfl; have hcz21_1 : w19.cell? ⟨gb203, 1, none⟩ = some (.int .i8 a0_1) := (blk_cell BK203.out 1).trans rfl; have hcz21_2 : w19.cell? ⟨gb203, 2, none⟩ = some (.slice A0_2 l0_2.length c0_2) := (blk_cell BK203.out 2).trans rfl; have hfz21_0 := blk_frozen BK203.out 0; have hfz21_1 := blk_frozen BK203.out 1; have hfz21_2 := blk_frozen BK203.out 2) | ((with_reducible refine gate_callee (f := 12) rfl ?_); refine goesL_ (some 15) rfl rfl Try.func12 (by kernel_rfl) rfl #[.agg #[.int .i8 a0_0, .int .i8 a0_1, .slice A0_2 l0_2.length c0_2], .int .i64 1048576] rfl (by (try simp only [List.map_toArray, List.map_cons, List.map_nil]); first | done | rfl | (simp only [List.length_drop, List.length_take]; rfl)) ?_; (with_reducible refine (laws_szFerry.calls a0_0 a0_1 _ _ l0_2 1048576 t205 _ ?side1 ?side2 A4.out).mono ?_); (case side1 => repeat (first | exact (Kd.C_below HR0_2.out HB.out) | (with_reducible refine Kd.C_alloc ?_ _) | (with_reducible refine Kd.C_drewN ?_ _) | (with_reducible refine Kd.C_drew ?_))); (case side2 => exact HC0_2.out); rintro e w22 ⟨rfl, hb⟩; refine ⟨_, rfl, ?_⟩; have n0_ := Aside0.mk (blk_below (g := gb203) (o := .cells #[.int .i8 a0_0, .int .i8 a0_1, .slice A0_2 l0_2.length c0_2] 25 (0, 0)) (by (with_reducible repeat (first | refine blk_drewN ?_ _ | refine blk_drew ?_ | refine blk_alloc ?_ _)); exact BK203.out) hb); have n1_ := Aside0.mk (blk_below (g := gb204) (o := .cells #[.int .u16 a1_0, .bool a1_1] 39 (0, 0)) (by (with_reducible repeat (first | refine blk_drewN ?_ _ | refine blk_drew ?_ | refine blk_alloc ?_ _)); exact BK204.out) hb); have n2_ := Aside0.mk (below_step (by repeat (first | (with_reducible first | exact HB.out | apply below_alloc | apply pw_below_drewN | apply below_drew1 | refine below_set ?_ GE203.out | refine below_set ?_ GE204.out) | exact HB.out)) hb); clear BK203; clear BK204; clear HB; have BK203 := n0_; have BK204 := n1_; have HB := n2_; clear n0_ n1_ n2_; (try clear hb); (try clear hb2); (try clear hk); (try clear hi)))
    have n0_ := Aside0.mk (blk_drew BK203.out)
    have n1_ := Aside0.mk (blk_drew BK204.out)
    have n2_ := Aside0.mk (below_drew1 HB.out)
    clear BK203
    clear BK204
    clear HB
    have BK203 := n0_
    have BK204 := n1_
    have HB := n2_
    clear n0_ n1_ n2_
    refine start_ (n := 12) (S := fun w' => w'.cell? ⟨gb203, 0, none⟩ = some (.int .i8 a0_0) ∧ w'.cell? ⟨gb203, 1, none⟩ = some (.int .i8 a0_1) ∧ w'.cell? ⟨gb203, 2, none⟩ = some (.slice A0_2 l0_2.length c0_2) ∧ w'.cell? ⟨gb204, 0, none⟩ = some (.int .u16 a1_0) ∧ w'.cell? ⟨gb204, 1, none⟩ = some (.bool a1_1)) (ds := []) #[false, false, false, false, false, false, false, false, false, false, false, false] (by kernel_rfl) rfl rfl ⟨(blk_cell BK203.out 0).trans rfl, (blk_cell BK203.out 1).trans rfl, (blk_cell BK203.out 2).trans rfl, (blk_cell BK204.out 0).trans rfl, (blk_cell BK204.out 1).trans rfl⟩ (fun hHeld => ?_); refine with_tabW laws_FnExactCrossWith.tab5 laws_FnExactCrossWith.bits5 (fun HT_ HW_ => ?_)
    generalize w22.drew = w23 at BK203 BK204 HB hHeld ⊢
    refine pure_ (i := 4) (N := some 23) (v := ?_) (a' := ?_) #[false, false, false, false, true, false, false, false, false, false, false, false] rfl rfl (any_of HT_.out (by kernel_rfl)) (fun _ _ _ h => h) (Or.inl ⟨by rfl, ?_⟩) ?_ ?_
    rotate_left
    · intro w'
      go_simp
      with_reducible rfl
    rotate_left
    · simp only [Act.put, List.setIfInBounds_toArray, List.set_cons_zero, List.set_cons_succ, i64_w, i32_w]
      rfl
    refine take_ (i := 0) (N := some 19) (v := ?_) (a' := ?_) #[true, false, false, false, true, false, false, false, false, false, false, false] rfl rfl (take_ofW HT_.out HW_.out (by kernel_rfl)) (fun _ _ _ h => h) (Or.inl ⟨by rfl, ?_⟩) hHeld ?_ ?_
    rotate_left
    · rintro w' ⟨s0, s1, s2, s3, s4⟩
      go_simp
      with_reducible rfl
    rotate_left
    · simp only [Act.put, List.setIfInBounds_toArray, List.set_cons_zero, List.set_cons_succ, i64_w, i32_w]
      rfl
    refine take_ (i := 2) (N := some 21) (v := ?_) (a' := ?_) #[true, false, true, false, true, false, false, false, false, false, false, false] rfl rfl (take_ofW HT_.out HW_.out (by kernel_rfl)) (fun _ _ _ h => h) (Or.inl ⟨by rfl, ?_⟩) hHeld ?_ ?_
    rotate_left
    · rintro w' ⟨s0, s1, s2, s3, s4⟩
      go_simp
      with_reducible rfl
    rotate_left
    · simp only [Act.put, List.setIfInBounds_toArray, List.set_cons_zero, List.set_cons_succ, i64_w, i32_w]
      rfl
    refine join_ (σ := Value × Nat) 2 #[true, true, true, true, true, true, true, true, true, true, false, false] (fun s_ => [(20, .agg #[.int .i8 t206, .int .i8 t207, s_.1]), (22, .agg #[.int .u16 t211, .bool t212]), (24, .tuple #[.agg #[.int .u16 t213, .bool t214], .int .i64 t215]), (8, .pointer (some ⟨s_.2, 0, none⟩)), (18, .tuple #[.agg #[.int .u16 t213, .bool t214], .int .i64 t215]), (25, .agg #[.int .u16 t213, .bool t214]), (26, .int .i64 t215)]) (fun s_ w' => (w'.cell? ⟨gb203, 0, none⟩ = some (.int .i8 a0_0) ∧ w'.cell? ⟨gb203, 1, none⟩ = some (.int .i8 a0_1) ∧ w'.cell? ⟨gb203, 2, none⟩ = some (.slice A0_2 l0_2.length c0_2) ∧ w'.cell? ⟨gb204, 0, none⟩ = some (.int .u16 a1_0) ∧ w'.cell? ⟨gb204, 1, none⟩ = some (.bool a1_1)) ∧ (Kd.R (Kd.int .u16) 35 w' w.heap.size (fun _ => True) s_.1 t208) ∧ (w'.heap[gb203]? = some (.cells #[.int .i8 a0_0, .int .i8 a0_1, .slice A0_2 l0_2.length c0_2] 25 (0, 0))) ∧ (w'.heap[gb204]? = some (.cells #[.int .u16 a1_0, .bool a1_1] 39 (0, 0))) ∧ (w'.heap[s_.2]? = some (.cells #[.int .u16 0, .bool false] 41 (0, 0))) ∧ (w.heap.size ≤ s_.2) ∧ (w.heap.size ≤ s_.2) ∧ (gb203 ≠ s_.2) ∧ (s_.2 ≠ gb203) ∧ (gb204 ≠ s_.2) ∧ (s_.2 ≠ gb204) ∧ (Below w.heap.size w w')) ?_ ?_
    rotate_left
    · intro hCont
      refine two_ (i := 1) (j := 9) (Ni := some 20) (Nj := some 8) #[true, true, true, false, true, false, false, false, false, false, false, false] #[true, false, true, false, true, false, false, false, false, true, false, false] rfl rfl rfl rfl (two_of HT_.out (by kernel_rfl)) (by decide) (by decide) (fun K hK => ?_) (fun K hK => ?_)
      · skip
        refine goes_ Try.func14 (by kernel_rfl) rfl #[.agg #[.int .i8 a0_0, .int .i8 a0_1, .slice A0_2 l0_2.length c0_2]] (by rfl) rfl rfl (by (try simp only [List.map_toArray, List.map_cons, List.map_nil]); first | done | rfl | (simp only [List.length_drop, List.length_take]; rfl)) ?_
        with_reducible refine (laws_toFerry.calls k a0_0 a0_1 _ _ l0_2 t206 t207 t208 _ ?side1 ?side2 A11.out).mono ?_
        (case side1 => repeat (first | exact (Kd.C_below HR0_2.out HB.out) | (with_reducible refine Kd.C_alloc ?_ _) | (with_reducible refine Kd.C_drewN ?_ _) | (with_reducible refine Kd.C_drew ?_)))
        (case side2 => exact HC0_2.out)
        rintro e w24 ⟨v209, rfl, ho0, hb⟩
        refine ⟨_, rfl, ?_⟩
        have n0_ := Aside0.mk (Kd.R_lower ho0 (below_size (by repeat (first | (with_reducible first | exact HB.out | apply below_alloc | apply pw_below_drewN | apply below_drew1 | refine below_set ?_ GE203.out | refine below_set ?_ GE204.out) | exact HB.out))))
        have n1_ := Aside0.mk (blk_below (g := gb203) (o := .cells #[.int .i8 a0_0, .int .i8 a0_1, .slice A0_2 l0_2.length c0_2] 25 (0, 0)) (by (with_reducible repeat (first | refine blk_drewN ?_ _ | refine blk_drew ?_ | refine blk_alloc ?_ _)); exact BK203.out) hb)
        have n2_ := Aside0.mk (blk_below (g := gb204) (o := .cells #[.int .u16 a1_0, .bool a1_1] 39 (0, 0)) (by (with_reducible repeat (first | refine blk_drewN ?_ _ | refine blk_drew ?_ | refine blk_alloc ?_ _)); exact BK204.out) hb)
        have n3_ := Aside0.mk (below_step (by repeat (first | (with_reducible first | exact HB.out | apply below_alloc | apply pw_below_drewN | apply below_drew1 | refine below_set ?_ GE203.out | refine below_set ?_ GE204.out) | exact HB.out)) hb)
        clear BK203
        clear BK204
        clear HB
        have HO210 := n0_
        have BK203 := n1_
        have BK204 := n2_
        have HB := n3_
        clear n0_ n1_ n2_ n3_
        (try clear hb)
        (try clear hb2)
        (try clear hk)
        (try clear hi)
        (try clear ho0)
        refine hK.out _ _ ⟨(blk_cell BK203.out 0).trans rfl, (blk_cell BK203.out 1).trans rfl, (blk_cell BK203.out 2).trans rfl, (blk_cell BK204.out 0).trans rfl, (blk_cell BK204.out 1).trans rfl⟩ (fun hHeld => ?_)
        clear hK K
        refine norm_ (a' := ?_) ?_ ?_
        rotate_left
        · show Act.put _ (some 20) _ = _
          simp only [Act.put, List.setIfInBounds_toArray, List.set_cons_zero, List.set_cons_succ, i64_w, i32_w]
          rfl
        refine two_ (i := 3) (j := 9) (Ni := some 22) (Nj := some 8) #[true, true, true, true, true, false, false, false, false, false, false, false] #[true, true, true, false, true, false, false, false, false, true, false, false] rfl rfl rfl rfl (two_of HT_.out (by kernel_rfl)) (by decide) (by decide) (fun K hK => ?_) (fun K hK => ?_)
        · skip
          refine goes_ Try.func24 (by kernel_rfl) rfl #[.agg #[.int .u16 a1_0, .bool a1_1]] (by rfl) rfl rfl (by (try simp only [List.map_toArray, List.map_cons, List.map_nil]); first | done | rfl | (simp only [List.length_drop, List.length_take]; rfl)) ?_
          with_reducible refine (laws_toBank.calls a1_0 a1_1 t211 t212 _ A12.out).mono ?_
          rintro e w25 ⟨rfl, hb⟩
          refine ⟨_, rfl, ?_⟩
          have n0_ := Aside0.mk (Kd.R_below (by (with_reducible repeat (first | apply Kd.R_alloc | apply Kd.R_drewN | apply Kd.R_drew)); exact HO210.out) hb)
          have n1_ := Aside0.mk (blk_below (g := gb203) (o := .cells #[.int .i8 a0_0, .int .i8 a0_1, .slice A0_2 l0_2.length c0_2] 25 (0, 0)) (by (with_reducible repeat (first | refine blk_drewN ?_ _ | refine blk_drew ?_ | refine blk_alloc ?_ _)); exact BK203.out) hb)
          have n2_ := Aside0.mk (blk_below (g := gb204) (o := .cells #[.int .u16 a1_0, .bool a1_1] 39 (0, 0)) (by (with_reducible repeat (first | refine blk_drewN ?_ _ | refine blk_drew ?_ | refine blk_alloc ?_ _)); exact BK204.out) hb)
          have n3_ := Aside0.mk (below_step (by repeat (first | (with_reducible first | exact HB.out | apply below_alloc | apply pw_below_drewN | apply below_drew1 | refine below_set ?_ GE203.out | refine below_set ?_ GE204.out) | exact HB.out)) hb)
          clear HO210
          clear BK203
          clear BK204
          clear HB
          have HO210 := n0_
          have BK203 := n1_
          have BK204 := n2_
          have HB := n3_
          clear n0_ n1_ n2_ n3_
          (try clear hb)
          (try clear hb2)
          (try clear hk)
          (try clear hi)
          obtain ⟨Ao26, co26, eo26⟩ := Kd.R_slice HO210.out
          (first | subst eo26 | (injection eo26 with f1_ f2_ f3_; have f4_ := f1_.symm; have f5_ := f3_.symm; clear f1_ f2_ f3_; subst f4_; subst f5_))
          refine hK.out _ _ ⟨(blk_cell BK203.out 0).trans rfl, (blk_cell BK203.out 1).trans rfl, (blk_cell BK203.out 2).trans rfl, (blk_cell BK204.out 0).trans rfl, (blk_cell BK204.out 1).trans rfl⟩ (fun hHeld => ?_)
          clear hK K
          refine norm_ (a' := ?_) ?_ ?_
          rotate_left
          · show Act.put _ (some 22) _ = _
            simp only [Act.put, List.setIfInBounds_toArray, List.set_cons_zero, List.set_cons_succ, i64_w, i32_w]
            rfl
          refine two_ (i := 5) (j := 9) (Ni := some 24) (Nj := some 8) #[true, true, true, true, true, true, false, false, false, false, false, false] #[true, true, true, true, true, false, false, false, false, true, false, false] rfl rfl rfl rfl (two_of HT_.out (by kernel_rfl)) (by decide) (by decide) (fun K hK => ?_) (fun K hK => ?_)
          · skip
            refine goes_ Try.func34 (by kernel_rfl) rfl #[.agg #[.int .i8 t206, .int .i8 t207, .slice Ao26 t208.length co26], .agg #[.int .u16 t211, .bool t212], .int .u16 a2] (by rfl) rfl rfl (by (try simp only [List.map_toArray, List.map_cons, List.map_nil]); first | done | rfl | (simp only [List.length_drop, List.length_take]; rfl)) ?_
            with_reducible refine (spec_CrossWith.calls k t206 t207 _ _ t208 t211 t212 a2 t213 t214 t215 _ ?side1 ?side2 A13.out).mono ?_
            (case side1 => repeat (first | exact (Kd.R_reads' HO210.out).2.2 | (with_reducible refine Kd.C_alloc ?_ _) | (with_reducible refine Kd.C_drewN ?_ _) | (with_reducible refine Kd.C_drew ?_)))
            (case side2 => exact (Kd.R_reads' HO210.out).2.1)
            rintro e w27 ⟨rfl, hb⟩
            refine ⟨_, rfl, ?_⟩
            have n0_ := Aside0.mk (Kd.R_below (by (with_reducible repeat (first | apply Kd.R_alloc | apply Kd.R_drewN | apply Kd.R_drew)); exact HO210.out) hb)
            have n1_ := Aside0.mk (blk_below (g := gb203) (o := .cells #[.int .i8 a0_0, .int .i8 a0_1, .slice A0_2 l0_2.length c0_2] 25 (0, 0)) (by (with_reducible repeat (first | refine blk_drewN ?_ _ | refine blk_drew ?_ | refine blk_alloc ?_ _)); exact BK203.out) hb)
            have n2_ := Aside0.mk (blk_below (g := gb204) (o := .cells #[.int .u16 a1_0, .bool a1_1] 39 (0, 0)) (by (with_reducible repeat (first | refine blk_drewN ?_ _ | refine blk_drew ?_ | refine blk_alloc ?_ _)); exact BK204.out) hb)
            have n3_ := Aside0.mk (below_step (by repeat (first | (with_reducible first | exact HB.out | apply below_alloc | apply pw_below_drewN | apply below_drew1 | refine below_set ?_ GE203.out | refine below_set ?_ GE204.out) | exact HB.out)) hb)
            clear HO210
            clear BK203
            clear BK204
            clear HB
            have HO210 := n0_
            have BK203 := n1_
            have BK204 := n2_
            have HB := n3_
            clear n0_ n1_ n2_ n3_
            (try clear hb)
            (try clear hb2)
            (try clear hk)
            (try clear hi)
            refine hK.out _ _ ⟨(blk_cell BK203.out 0).trans rfl, (blk_cell BK203.out 1).trans rfl, (blk_cell BK203.out 2).trans rfl, (blk_cell BK204.out 0).trans rfl, (blk_cell BK204.out 1).trans rfl⟩ (fun hHeld => ?_)
            clear hK K
            refine norm_ (a' := ?_) ?_ ?_
            rotate_left
            · show Act.put _ (some 24) _ = _
              simp only [Act.put, List.setIfInBounds_toArray, List.set_cons_zero, List.set_cons_succ, i64_w, i32_w]
              rfl
            refine pure_ (i := 6) (N := some 18) (v := ?_) (a' := ?_) #[true, true, true, true, true, true, true, false, false, false, false, false] rfl rfl (any_of HT_.out (by kernel_rfl)) (fun _ _ _ h => h) (Or.inl ⟨by rfl, ?_⟩) ?_ ?_
            rotate_left
            · intro w'
              go_simp
              with_reducible rfl
            rotate_left
            · simp only [Act.put, List.setIfInBounds_toArray, List.set_cons_zero, List.set_cons_succ, i64_w, i32_w]
              rfl
            refine pure_ (i := 7) (N := some 25) (v := ?_) (a' := ?_) #[true, true, true, true, true, true, true, true, false, false, false, false] rfl rfl (any_of HT_.out (by kernel_rfl)) (fun _ _ _ h => h) (Or.inl ⟨by rfl, ?_⟩) ?_ ?_
            rotate_left
            · intro w'
              go_simp
              with_reducible rfl
            rotate_left
            · simp only [Act.put, List.setIfInBounds_toArray, List.set_cons_zero, List.set_cons_succ, i64_w, i32_w]
              rfl
            refine pure_ (i := 8) (N := some 26) (v := ?_) (a' := ?_) #[true, true, true, true, true, true, true, true, true, false, false, false] rfl rfl (any_of HT_.out (by kernel_rfl)) (fun _ _ _ h => h) (Or.inl ⟨by rfl, ?_⟩) ?_ ?_
            rotate_left
            · intro w'
              go_simp
              with_reducible rfl
            rotate_left
            · simp only [Act.put, List.setIfInBounds_toArray, List.set_cons_zero, List.set_cons_succ, i64_w, i32_w]
              rfl
            refine one_ (i := 9) (N := some 8) #[true, true, true, true, true, true, true, true, true, true, false, false] rfl rfl (one_of HT_.out (by kernel_rfl)) (by decide) (fun K hK => ?_)
            refine box_step ?hg (N := 8) ?hd (cs := #[.int .u16 0, .bool false]) (t := 41) ?hr ?_; (case hd => rfl); (case hg => rfl); (case hr => first | (go_simp; done) | (go_simp; rfl))
            intro gb216 hg w28 hbox hb
            have n0_ := Aside0.mk (Kd.R_below (by (with_reducible repeat (first | apply Kd.R_alloc | apply Kd.R_drewN | apply Kd.R_drew)); exact HO210.out) hb)
            have n1_ := Aside0.mk (blk_below (g := gb203) (o := .cells #[.int .i8 a0_0, .int .i8 a0_1, .slice A0_2 l0_2.length c0_2] 25 (0, 0)) (by (with_reducible repeat (first | refine blk_drewN ?_ _ | refine blk_drew ?_ | refine blk_alloc ?_ _)); exact BK203.out) hb)
            have n2_ := Aside0.mk (blk_below (g := gb204) (o := .cells #[.int .u16 a1_0, .bool a1_1] 39 (0, 0)) (by (with_reducible repeat (first | refine blk_drewN ?_ _ | refine blk_drew ?_ | refine blk_alloc ?_ _)); exact BK204.out) hb)
            have n3_ := Aside0.mk (below_step (by repeat (first | (with_reducible first | exact HB.out | apply below_alloc | apply pw_below_drewN | apply below_drew1 | refine below_set ?_ GE203.out | refine below_set ?_ GE204.out) | exact HB.out)) hb)
            have n4_ := Aside0.mk (hbox)
            have n5_ := Aside0.mk ((by rw [hg]; exact (below_size (by repeat (first | (with_reducible first | exact HB.out | apply below_alloc | apply pw_below_drewN | apply below_drew1 | refine below_set ?_ GE203.out | refine below_set ?_ GE204.out) | exact HB.out))) : w.heap.size ≤ gb216))
            have n6_ := Aside0.mk ((by rw [hg]; exact (below_size (by repeat (first | (with_reducible first | exact HB.out | apply below_alloc | apply pw_below_drewN | apply below_drew1 | refine below_set ?_ GE203.out | refine below_set ?_ GE204.out) | exact HB.out))) : w.heap.size ≤ gb216))
            have n7_ := Aside0.mk ((by rw [hg]; exact Nat.ne_of_lt (blk_lt (g := gb203) (o := .cells #[.int .i8 a0_0, .int .i8 a0_1, .slice A0_2 l0_2.length c0_2] 25 (0, 0)) (by (with_reducible repeat (first | refine blk_drewN ?_ _ | refine blk_drew ?_ | refine blk_alloc ?_ _)); exact BK203.out)) : gb203 ≠ gb216))
            have n8_ := Aside0.mk ((by rw [hg]; exact Nat.ne_of_gt (blk_lt (g := gb203) (o := .cells #[.int .i8 a0_0, .int .i8 a0_1, .slice A0_2 l0_2.length c0_2] 25 (0, 0)) (by (with_reducible repeat (first | refine blk_drewN ?_ _ | refine blk_drew ?_ | refine blk_alloc ?_ _)); exact BK203.out)) : gb216 ≠ gb203))
            have n9_ := Aside0.mk ((by rw [hg]; exact Nat.ne_of_lt (blk_lt (g := gb204) (o := .cells #[.int .u16 a1_0, .bool a1_1] 39 (0, 0)) (by (with_reducible repeat (first | refine blk_drewN ?_ _ | refine blk_drew ?_ | refine blk_alloc ?_ _)); exact BK204.out)) : gb204 ≠ gb216))
            have n10_ := Aside0.mk ((by rw [hg]; exact Nat.ne_of_gt (blk_lt (g := gb204) (o := .cells #[.int .u16 a1_0, .bool a1_1] 39 (0, 0)) (by (with_reducible repeat (first | refine blk_drewN ?_ _ | refine blk_drew ?_ | refine blk_alloc ?_ _)); exact BK204.out)) : gb216 ≠ gb204))
            clear HO210
            clear BK203
            clear BK204
            clear HB
            have HO210 := n0_
            have BK203 := n1_
            have BK204 := n2_
            have HB := n3_
            have BK216 := n4_
            have GW216 := n5_
            have GE216 := n6_
            have NB203_216 := n7_
            have NB216_203 := n8_
            have NB204_216 := n9_
            have NB216_204 := n10_
            clear n0_ n1_ n2_ n3_ n4_ n5_ n6_ n7_ n8_ n9_ n10_
            clear hb hbox hg
            refine hK.out _ _ ⟨(blk_cell BK203.out 0).trans rfl, (blk_cell BK203.out 1).trans rfl, (blk_cell BK203.out 2).trans rfl, (blk_cell BK204.out 0).trans rfl, (blk_cell BK204.out 1).trans rfl⟩ (fun hHeld => ?_)
            clear hK K
            refine norm_ (a' := ?_) ?_ ?_
            rotate_left
            · show Act.put _ (some 8) _ = _
              simp only [Act.put, List.setIfInBounds_toArray, List.set_cons_zero, List.set_cons_succ, i64_w, i32_w]
              rfl
            exact norm_ (by simp only [putAll, Act.put, List.setIfInBounds_toArray, List.set_cons_zero, List.set_cons_succ]) (hCont (.slice Ao26 t208.length co26, gb216) _ ⟨hHeld, (by (with_reducible repeat (first | apply Kd.R_alloc | apply Kd.R_drewN | apply Kd.R_drew)); exact HO210.out), (by (with_reducible repeat (first | refine blk_drewN ?_ _ | refine blk_drew ?_ | refine blk_alloc ?_ _)); exact BK203.out), (by (with_reducible repeat (first | refine blk_drewN ?_ _ | refine blk_drew ?_ | refine blk_alloc ?_ _)); exact BK204.out), (by (with_reducible repeat (first | refine blk_drewN ?_ _ | refine blk_drew ?_ | refine blk_alloc ?_ _)); exact BK216.out), GW216.out, GE216.out, NB203_216.out, NB216_203.out, NB204_216.out, NB216_204.out, (by repeat (first | (with_reducible first | exact HB.out | apply below_alloc | apply pw_below_drewN | apply below_drew1 | refine below_set ?_ GE203.out | refine below_set ?_ GE204.out | refine below_set ?_ GE216.out) | exact HB.out))⟩)
          · skip
            refine box_step ?hg (N := 8) ?hd (cs := #[.int .u16 0, .bool false]) (t := 41) ?hr ?_; (case hd => rfl); (case hg => rfl); (case hr => first | (go_simp; done) | (go_simp; rfl))
            intro gb216 hg w26 hbox hb
            have n0_ := Aside0.mk (Kd.R_below (by (with_reducible repeat (first | apply Kd.R_alloc | apply Kd.R_drewN | apply Kd.R_drew)); exact HO210.out) hb)
            have n1_ := Aside0.mk (blk_below (g := gb203) (o := .cells #[.int .i8 a0_0, .int .i8 a0_1, .slice A0_2 l0_2.length c0_2] 25 (0, 0)) (by (with_reducible repeat (first | refine blk_drewN ?_ _ | refine blk_drew ?_ | refine blk_alloc ?_ _)); exact BK203.out) hb)
            have n2_ := Aside0.mk (blk_below (g := gb204) (o := .cells #[.int .u16 a1_0, .bool a1_1] 39 (0, 0)) (by (with_reducible repeat (first | refine blk_drewN ?_ _ | refine blk_drew ?_ | refine blk_alloc ?_ _)); exact BK204.out) hb)
            have n3_ := Aside0.mk (below_step (by repeat (first | (with_reducible first | exact HB.out | apply below_alloc | apply pw_below_drewN | apply below_drew1 | refine below_set ?_ GE203.out | refine below_set ?_ GE204.out) | exact HB.out)) hb)
            have n4_ := Aside0.mk (hbox)
            have n5_ := Aside0.mk ((by rw [hg]; exact (below_size (by repeat (first | (with_reducible first | exact HB.out | apply below_alloc | apply pw_below_drewN | apply below_drew1 | refine below_set ?_ GE203.out | refine below_set ?_ GE204.out) | exact HB.out))) : w.heap.size ≤ gb216))
            have n6_ := Aside0.mk ((by rw [hg]; exact (below_size (by repeat (first | (with_reducible first | exact HB.out | apply below_alloc | apply pw_below_drewN | apply below_drew1 | refine below_set ?_ GE203.out | refine below_set ?_ GE204.out) | exact HB.out))) : w.heap.size ≤ gb216))
            have n7_ := Aside0.mk ((by rw [hg]; exact Nat.ne_of_lt (blk_lt (g := gb203) (o := .cells #[.int .i8 a0_0, .int .i8 a0_1, .slice A0_2 l0_2.length c0_2] 25 (0, 0)) (by (with_reducible repeat (first | refine blk_drewN ?_ _ | refine blk_drew ?_ | refine blk_alloc ?_ _)); exact BK203.out)) : gb203 ≠ gb216))
            have n8_ := Aside0.mk ((by rw [hg]; exact Nat.ne_of_gt (blk_lt (g := gb203) (o := .cells #[.int .i8 a0_0, .int .i8 a0_1, .slice A0_2 l0_2.length c0_2] 25 (0, 0)) (by (with_reducible repeat (first | refine blk_drewN ?_ _ | refine blk_drew ?_ | refine blk_alloc ?_ _)); exact BK203.out)) : gb216 ≠ gb203))
            have n9_ := Aside0.mk ((by rw [hg]; exact Nat.ne_of_lt (blk_lt (g := gb204) (o := .cells #[.int .u16 a1_0, .bool a1_1] 39 (0, 0)) (by (with_reducible repeat (first | refine blk_drewN ?_ _ | refine blk_drew ?_ | refine blk_alloc ?_ _)); exact BK204.out)) : gb204 ≠ gb216))
            have n10_ := Aside0.mk ((by rw [hg]; exact Nat.ne_of_gt (blk_lt (g := gb204) (o := .cells #[.int .u16 a1_0, .bool a1_1] 39 (0, 0)) (by (with_reducible repeat (first | refine blk_drewN ?_ _ | refine blk_drew ?_ | refine blk_alloc ?_ _)); exact BK204.out)) : gb216 ≠ gb204))
            clear HO210
            clear BK203
            clear BK204
            clear HB
            have HO210 := n0_
            have BK203 := n1_
            have BK204 := n2_
            have HB := n3_
            have BK216 := n4_
            have GW216 := n5_
            have GE216 := n6_
            have NB203_216 := n7_
            have NB216_203 := n8_
            have NB204_216 := n9_
            have NB216_204 := n10_
            clear n0_ n1_ n2_ n3_ n4_ n5_ n6_ n7_ n8_ n9_ n10_
            clear hb hbox hg
            obtain ⟨Ao27, co27, eo27⟩ := Kd.R_slice HO210.out
            (first | subst eo27 | (injection eo27 with f1_ f2_ f3_; have f4_ := f1_.symm; have f5_ := f3_.symm; clear f1_ f2_ f3_; subst f4_; subst f5_))
            refine hK.out _ _ ⟨(blk_cell BK203.out 0).trans rfl, (blk_cell BK203.out 1).trans rfl, (blk_cell BK203.out 2).trans rfl, (blk_cell BK204.out 0).trans rfl, (blk_cell BK204.out 1).trans rfl⟩ (fun hHeld => ?_)
            clear hK K
            refine norm_ (a' := ?_) ?_ ?_
            rotate_left
            · show Act.put _ (some 8) _ = _
              simp only [Act.put, List.setIfInBounds_toArray, List.set_cons_zero, List.set_cons_succ, i64_w, i32_w]
              rfl
            refine one_ (i := 5) (N := some 24) #[true, true, true, true, true, true, false, false, false, true, false, false] rfl rfl (one_of HT_.out (by kernel_rfl)) (by decide) (fun K hK => ?_)
            refine goes_ Try.func34 (by kernel_rfl) rfl #[.agg #[.int .i8 t206, .int .i8 t207, .slice Ao27 t208.length co27], .agg #[.int .u16 t211, .bool t212], .int .u16 a2] (by rfl) rfl rfl (by (try simp only [List.map_toArray, List.map_cons, List.map_nil]); first | done | rfl | (simp only [List.length_drop, List.length_take]; rfl)) ?_
            with_reducible refine (spec_CrossWith.calls k t206 t207 _ _ t208 t211 t212 a2 t213 t214 t215 _ ?side1 ?side2 A13.out).mono ?_
            (case side1 => repeat (first | exact (Kd.R_reads' HO210.out).2.2 | (with_reducible refine Kd.C_alloc ?_ _) | (with_reducible refine Kd.C_drewN ?_ _) | (with_reducible refine Kd.C_drew ?_)))
            (case side2 => exact (Kd.R_reads' HO210.out).2.1)
            rintro e w28 ⟨rfl, hb⟩
            refine ⟨_, rfl, ?_⟩
            have n0_ := Aside0.mk (Kd.R_below (by (with_reducible repeat (first | apply Kd.R_alloc | apply Kd.R_drewN | apply Kd.R_drew)); exact HO210.out) hb)
            have n1_ := Aside0.mk (blk_below (g := gb203) (o := .cells #[.int .i8 a0_0, .int .i8 a0_1, .slice A0_2 l0_2.length c0_2] 25 (0, 0)) (by (with_reducible repeat (first | refine blk_drewN ?_ _ | refine blk_drew ?_ | refine blk_alloc ?_ _)); exact BK203.out) hb)
            have n2_ := Aside0.mk (blk_below (g := gb204) (o := .cells #[.int .u16 a1_0, .bool a1_1] 39 (0, 0)) (by (with_reducible repeat (first | refine blk_drewN ?_ _ | refine blk_drew ?_ | refine blk_alloc ?_ _)); exact BK204.out) hb)
            have n3_ := Aside0.mk (blk_below (g := gb216) (o := .cells #[.int .u16 0, .bool false] 41 (0, 0)) (by (with_reducible repeat (first | refine blk_drewN ?_ _ | refine blk_drew ?_ | refine blk_alloc ?_ _)); exact BK216.out) hb)
            have n4_ := Aside0.mk (below_step (by repeat (first | (with_reducible first | exact HB.out | apply below_alloc | apply pw_below_drewN | apply below_drew1 | refine below_set ?_ GE203.out | refine below_set ?_ GE204.out | refine below_set ?_ GE216.out) | exact HB.out)) hb)
            clear HO210
            clear BK203
            clear BK204
            clear BK216
            clear HB
            have HO210 := n0_
            have BK203 := n1_
            have BK204 := n2_
            have BK216 := n3_
            have HB := n4_
            clear n0_ n1_ n2_ n3_ n4_
            (try clear hb)
            (try clear hb2)
            (try clear hk)
            (try clear hi)
            refine hK.out _ _ ⟨(blk_cell BK203.out 0).trans rfl, (blk_cell BK203.out 1).trans rfl, (blk_cell BK203.out 2).trans rfl, (blk_cell BK204.out 0).trans rfl, (blk_cell BK204.out 1).trans rfl⟩ (fun hHeld => ?_)
            clear hK K
            refine norm_ (a' := ?_) ?_ ?_
            rotate_left
            · show Act.put _ (some 24) _ = _
              simp only [Act.put, List.setIfInBounds_toArray, List.set_cons_zero, List.set_cons_succ, i64_w, i32_w]
              rfl
            refine pure_ (i := 6) (N := some 18) (v := ?_) (a' := ?_) #[true, true, true, true, true, true, true, false, false, true, false, false] rfl rfl (any_of HT_.out (by kernel_rfl)) (fun _ _ _ h => h) (Or.inl ⟨by rfl, ?_⟩) ?_ ?_
            rotate_left
            · intro w'
              go_simp
              with_reducible rfl
            rotate_left
            · simp only [Act.put, List.setIfInBounds_toArray, List.set_cons_zero, List.set_cons_succ, i64_w, i32_w]
              rfl
            refine pure_ (i := 7) (N := some 25) (v := ?_) (a' := ?_) #[true, true, true, true, true, true, true, true, false, true, false, false] rfl rfl (any_of HT_.out (by kernel_rfl)) (fun _ _ _ h => h) (Or.inl ⟨by rfl, ?_⟩) ?_ ?_
            rotate_left
            · intro w'
              go_simp
              with_reducible rfl
            rotate_left
            · simp only [Act.put, List.setIfInBounds_toArray, List.set_cons_zero, List.set_cons_succ, i64_w, i32_w]
              rfl
            refine pure_ (i := 8) (N := some 26) (v := ?_) (a' := ?_) #[true, true, true, true, true, true, true, true, true, true, false, false] rfl rfl (any_of HT_.out (by kernel_rfl)) (fun _ _ _ h => h) (Or.inl ⟨by rfl, ?_⟩) ?_ ?_
            rotate_left
            · intro w'
              go_simp
              with_reducible rfl
            rotate_left
            · simp only [Act.put, List.setIfInBounds_toArray, List.set_cons_zero, List.set_cons_succ, i64_w, i32_w]
              rfl
            exact norm_ (by simp only [putAll, Act.put, List.setIfInBounds_toArray, List.set_cons_zero, List.set_cons_succ]) (hCont (.slice Ao27 t208.length co27, gb216) _ ⟨hHeld, (by (with_reducible repeat (first | apply Kd.R_alloc | apply Kd.R_drewN | apply Kd.R_drew)); exact HO210.out), (by (with_reducible repeat (first | refine blk_drewN ?_ _ | refine blk_drew ?_ | refine blk_alloc ?_ _)); exact BK203.out), (by (with_reducible repeat (first | refine blk_drewN ?_ _ | refine blk_drew ?_ | refine blk_alloc ?_ _)); exact BK204.out), (by (with_reducible repeat (first | refine blk_drewN ?_ _ | refine blk_drew ?_ | refine blk_alloc ?_ _)); exact BK216.out), GW216.out, GE216.out, NB203_216.out, NB216_203.out, NB204_216.out, NB216_204.out, (by repeat (first | (with_reducible first | exact HB.out | apply below_alloc | apply pw_below_drewN | apply below_drew1 | refine below_set ?_ GE203.out | refine below_set ?_ GE204.out | refine below_set ?_ GE216.out) | exact HB.out))⟩)
        · skip
          refine box_step ?hg (N := 8) ?hd (cs := #[.int .u16 0, .bool false]) (t := 41) ?hr ?_; (case hd => rfl); (case hg => rfl); (case hr => first | (go_simp; done) | (go_simp; rfl))
          intro gb216 hg w25 hbox hb
          have n0_ := Aside0.mk (Kd.R_below (by (with_reducible repeat (first | apply Kd.R_alloc | apply Kd.R_drewN | apply Kd.R_drew)); exact HO210.out) hb)
          have n1_ := Aside0.mk (blk_below (g := gb203) (o := .cells #[.int .i8 a0_0, .int .i8 a0_1, .slice A0_2 l0_2.length c0_2] 25 (0, 0)) (by (with_reducible repeat (first | refine blk_drewN ?_ _ | refine blk_drew ?_ | refine blk_alloc ?_ _)); exact BK203.out) hb)
          have n2_ := Aside0.mk (blk_below (g := gb204) (o := .cells #[.int .u16 a1_0, .bool a1_1] 39 (0, 0)) (by (with_reducible repeat (first | refine blk_drewN ?_ _ | refine blk_drew ?_ | refine blk_alloc ?_ _)); exact BK204.out) hb)
          have n3_ := Aside0.mk (below_step (by repeat (first | (with_reducible first | exact HB.out | apply below_alloc | apply pw_below_drewN | apply below_drew1 | refine below_set ?_ GE203.out | refine below_set ?_ GE204.out) | exact HB.out)) hb)
          have n4_ := Aside0.mk (hbox)
          have n5_ := Aside0.mk ((by rw [hg]; exact (below_size (by repeat (first | (with_reducible first | exact HB.out | apply below_alloc | apply pw_below_drewN | apply below_drew1 | refine below_set ?_ GE203.out | refine below_set ?_ GE204.out) | exact HB.out))) : w.heap.size ≤ gb216))
          have n6_ := Aside0.mk ((by rw [hg]; exact (below_size (by repeat (first | (with_reducible first | exact HB.out | apply below_alloc | apply pw_below_drewN | apply below_drew1 | refine below_set ?_ GE203.out | refine below_set ?_ GE204.out) | exact HB.out))) : w.heap.size ≤ gb216))
          have n7_ := Aside0.mk ((by rw [hg]; exact Nat.ne_of_lt (blk_lt (g := gb203) (o := .cells #[.int .i8 a0_0, .int .i8 a0_1, .slice A0_2 l0_2.length c0_2] 25 (0, 0)) (by (with_reducible repeat (first | refine blk_drewN ?_ _ | refine blk_drew ?_ | refine blk_alloc ?_ _)); exact BK203.out)) : gb203 ≠ gb216))
          have n8_ := Aside0.mk ((by rw [hg]; exact Nat.ne_of_gt (blk_lt (g := gb203) (o := .cells #[.int .i8 a0_0, .int .i8 a0_1, .slice A0_2 l0_2.length c0_2] 25 (0, 0)) (by (with_reducible repeat (first | refine blk_drewN ?_ _ | refine blk_drew ?_ | refine blk_alloc ?_ _)); exact BK203.out)) : gb216 ≠ gb203))
          have n9_ := Aside0.mk ((by rw [hg]; exact Nat.ne_of_lt (blk_lt (g := gb204) (o := .cells #[.int .u16 a1_0, .bool a1_1] 39 (0, 0)) (by (with_reducible repeat (first | refine blk_drewN ?_ _ | refine blk_drew ?_ | refine blk_alloc ?_ _)); exact BK204.out)) : gb204 ≠ gb216))
          have n10_ := Aside0.mk ((by rw [hg]; exact Nat.ne_of_gt (blk_lt (g := gb204) (o := .cells #[.int .u16 a1_0, .bool a1_1] 39 (0, 0)) (by (with_reducible repeat (first | refine blk_drewN ?_ _ | refine blk_drew ?_ | refine blk_alloc ?_ _)); exact BK204.out)) : gb216 ≠ gb204))
          clear HO210
          clear BK203
          clear BK204
          clear HB
          have HO210 := n0_
          have BK203 := n1_
          have BK204 := n2_
          have HB := n3_
          have BK216 := n4_
          have GW216 := n5_
          have GE216 := n6_
          have NB203_216 := n7_
          have NB216_203 := n8_
          have NB204_216 := n9_
          have NB216_204 := n10_
          clear n0_ n1_ n2_ n3_ n4_ n5_ n6_ n7_ n8_ n9_ n10_
          clear hb hbox hg
          refine hK.out _ _ ⟨(blk_cell BK203.out 0).trans rfl, (blk_cell BK203.out 1).trans rfl, (blk_cell BK203.out 2).trans rfl, (blk_cell BK204.out 0).trans rfl, (blk_cell BK204.out 1).trans rfl⟩ (fun hHeld => ?_)
          clear hK K
          refine norm_ (a' := ?_) ?_ ?_
          rotate_left
          · show Act.put _ (some 8) _ = _
            simp only [Act.put, List.setIfInBounds_toArray, List.set_cons_zero, List.set_cons_succ, i64_w, i32_w]
            rfl
          refine one_ (i := 3) (N := some 22) #[true, true, true, true, true, false, false, false, false, true, false, false] rfl rfl (one_of HT_.out (by kernel_rfl)) (by decide) (fun K hK => ?_)
          refine goes_ Try.func24 (by kernel_rfl) rfl #[.agg #[.int .u16 a1_0, .bool a1_1]] (by rfl) rfl rfl (by (try simp only [List.map_toArray, List.map_cons, List.map_nil]); first | done | rfl | (simp only [List.length_drop, List.length_take]; rfl)) ?_
          with_reducible refine (laws_toBank.calls a1_0 a1_1 t211 t212 _ A12.out).mono ?_
          rintro e w26 ⟨rfl, hb⟩
          refine ⟨_, rfl, ?_⟩
          have n0_ := Aside0.mk (Kd.R_below (by (with_reducible repeat (first | apply Kd.R_alloc | apply Kd.R_drewN | apply Kd.R_drew)); exact HO210.out) hb)
          have n1_ := Aside0.mk (blk_below (g := gb203) (o := .cells #[.int .i8 a0_0, .int .i8 a0_1, .slice A0_2 l0_2.length c0_2] 25 (0, 0)) (by (with_reducible repeat (first | refine blk_drewN ?_ _ | refine blk_drew ?_ | refine blk_alloc ?_ _)); exact BK203.out) hb)
          have n2_ := Aside0.mk (blk_below (g := gb204) (o := .cells #[.int .u16 a1_0, .bool a1_1] 39 (0, 0)) (by (with_reducible repeat (first | refine blk_drewN ?_ _ | refine blk_drew ?_ | refine blk_alloc ?_ _)); exact BK204.out) hb)
          have n3_ := Aside0.mk (blk_below (g := gb216) (o := .cells #[.int .u16 0, .bool false] 41 (0, 0)) (by (with_reducible repeat (first | refine blk_drewN ?_ _ | refine blk_drew ?_ | refine blk_alloc ?_ _)); exact BK216.out) hb)
          have n4_ := Aside0.mk (below_step (by repeat (first | (with_reducible first | exact HB.out | apply below_alloc | apply pw_below_drewN | apply below_drew1 | refine below_set ?_ GE203.out | refine below_set ?_ GE204.out | refine below_set ?_ GE216.out) | exact HB.out)) hb)
          clear HO210
          clear BK203
          clear BK204
          clear BK216
          clear HB
          have HO210 := n0_
          have BK203 := n1_
          have BK204 := n2_
          have BK216 := n3_
          have HB := n4_
          clear n0_ n1_ n2_ n3_ n4_
          (try clear hb)
          (try clear hb2)
          (try clear hk)
          (try clear hi)
          obtain ⟨Ao27, co27, eo27⟩ := Kd.R_slice HO210.out
          (first | subst eo27 | (injection eo27 with f1_ f2_ f3_; have f4_ := f1_.symm; have f5_ := f3_.symm; clear f1_ f2_ f3_; subst f4_; subst f5_))
          refine hK.out _ _ ⟨(blk_cell BK203.out 0).trans rfl, (blk_cell BK203.out 1).trans rfl, (blk_cell BK203.out 2).trans rfl, (blk_cell BK204.out 0).trans rfl, (blk_cell BK204.out 1).trans rfl⟩ (fun hHeld => ?_)
          clear hK K
          refine norm_ (a' := ?_) ?_ ?_
          rotate_left
          · show Act.put _ (some 22) _ = _
            simp only [Act.put, List.setIfInBounds_toArray, List.set_cons_zero, List.set_cons_succ, i64_w, i32_w]
            rfl
          refine one_ (i := 5) (N := some 24) #[true, true, true, true, true, true, false, false, false, true, false, false] rfl rfl (one_of HT_.out (by kernel_rfl)) (by decide) (fun K hK => ?_)
          refine goes_ Try.func34 (by kernel_rfl) rfl #[.agg #[.int .i8 t206, .int .i8 t207, .slice Ao27 t208.length co27], .agg #[.int .u16 t211, .bool t212], .int .u16 a2] (by rfl) rfl rfl (by (try simp only [List.map_toArray, List.map_cons, List.map_nil]); first | done | rfl | (simp only [List.length_drop, List.length_take]; rfl)) ?_
          with_reducible refine (spec_CrossWith.calls k t206 t207 _ _ t208 t211 t212 a2 t213 t214 t215 _ ?side1 ?side2 A13.out).mono ?_
          (case side1 => repeat (first | exact (Kd.R_reads' HO210.out).2.2 | (with_reducible refine Kd.C_alloc ?_ _) | (with_reducible refine Kd.C_drewN ?_ _) | (with_reducible refine Kd.C_drew ?_)))
          (case side2 => exact (Kd.R_reads' HO210.out).2.1)
          rintro e w28 ⟨rfl, hb⟩
          refine ⟨_, rfl, ?_⟩
          have n0_ := Aside0.mk (Kd.R_below (by (with_reducible repeat (first | apply Kd.R_alloc | apply Kd.R_drewN | apply Kd.R_drew)); exact HO210.out) hb)
          have n1_ := Aside0.mk (blk_below (g := gb203) (o := .cells #[.int .i8 a0_0, .int .i8 a0_1, .slice A0_2 l0_2.length c0_2] 25 (0, 0)) (by (with_reducible repeat (first | refine blk_drewN ?_ _ | refine blk_drew ?_ | refine blk_alloc ?_ _)); exact BK203.out) hb)
          have n2_ := Aside0.mk (blk_below (g := gb204) (o := .cells #[.int .u16 a1_0, .bool a1_1] 39 (0, 0)) (by (with_reducible repeat (first | refine blk_drewN ?_ _ | refine blk_drew ?_ | refine blk_alloc ?_ _)); exact BK204.out) hb)
          have n3_ := Aside0.mk (blk_below (g := gb216) (o := .cells #[.int .u16 0, .bool false] 41 (0, 0)) (by (with_reducible repeat (first | refine blk_drewN ?_ _ | refine blk_drew ?_ | refine blk_alloc ?_ _)); exact BK216.out) hb)
          have n4_ := Aside0.mk (below_step (by repeat (first | (with_reducible first | exact HB.out | apply below_alloc | apply pw_below_drewN | apply below_drew1 | refine below_set ?_ GE203.out | refine below_set ?_ GE204.out | refine below_set ?_ GE216.out) | exact HB.out)) hb)
          clear HO210
          clear BK203
          clear BK204
          clear BK216
          clear HB
          have HO210 := n0_
          have BK203 := n1_
          have BK204 := n2_
          have BK216 := n3_
          have HB := n4_
          clear n0_ n1_ n2_ n3_ n4_
          (try clear hb)
          (try clear hb2)
          (try clear hk)
          (try clear hi)
          refine hK.out _ _ ⟨(blk_cell BK203.out 0).trans rfl, (blk_cell BK203.out 1).trans rfl, (blk_cell BK203.out 2).trans rfl, (blk_cell BK204.out 0).trans rfl, (blk_cell BK204.out 1).trans rfl⟩ (fun hHeld => ?_)
          clear hK K
          refine norm_ (a' := ?_) ?_ ?_
          rotate_left
          · show Act.put _ (some 24) _ = _
            simp only [Act.put, List.setIfInBounds_toArray, List.set_cons_zero, List.set_cons_succ, i64_w, i32_w]
            rfl
          refine pure_ (i := 6) (N := some 18) (v := ?_) (a' := ?_) #[true, true, true, true, true, true, true, false, false, true, false, false] rfl rfl (any_of HT_.out (by kernel_rfl)) (fun _ _ _ h => h) (Or.inl ⟨by rfl, ?_⟩) ?_ ?_
          rotate_left
          · intro w'
            go_simp
            with_reducible rfl
          rotate_left
          · simp only [Act.put, List.setIfInBounds_toArray, List.set_cons_zero, List.set_cons_succ, i64_w, i32_w]
            rfl
          refine pure_ (i := 7) (N := some 25) (v := ?_) (a' := ?_) #[true, true, true, true, true, true, true, true, false, true, false, false] rfl rfl (any_of HT_.out (by kernel_rfl)) (fun _ _ _ h => h) (Or.inl ⟨by rfl, ?_⟩) ?_ ?_
          rotate_left
          · intro w'
            go_simp
            with_reducible rfl
          rotate_left
          · simp only [Act.put, List.setIfInBounds_toArray, List.set_cons_zero, List.set_cons_succ, i64_w, i32_w]
            rfl
          refine pure_ (i := 8) (N := some 26) (v := ?_) (a' := ?_) #[true, true, true, true, true, true, true, true, true, true, false, false] rfl rfl (any_of HT_.out (by kernel_rfl)) (fun _ _ _ h => h) (Or.inl ⟨by rfl, ?_⟩) ?_ ?_
          rotate_left
          · intro w'
            go_simp
            with_reducible rfl
          rotate_left
          · simp only [Act.put, List.setIfInBounds_toArray, List.set_cons_zero, List.set_cons_succ, i64_w, i32_w]
            rfl
          exact norm_ (by simp only [putAll, Act.put, List.setIfInBounds_toArray, List.set_cons_zero, List.set_cons_succ]) (hCont (.slice Ao27 t208.length co27, gb216) _ ⟨hHeld, (by (with_reducible repeat (first | apply Kd.R_alloc | apply Kd.R_drewN | apply Kd.R_drew)); exact HO210.out), (by (with_reducible repeat (first | refine blk_drewN ?_ _ | refine blk_drew ?_ | refine blk_alloc ?_ _)); exact BK203.out), (by (with_reducible repeat (first | refine blk_drewN ?_ _ | refine blk_drew ?_ | refine blk_alloc ?_ _)); exact BK204.out), (by (with_reducible repeat (first | refine blk_drewN ?_ _ | refine blk_drew ?_ | refine blk_alloc ?_ _)); exact BK216.out), GW216.out, GE216.out, NB203_216.out, NB216_203.out, NB204_216.out, NB216_204.out, (by repeat (first | (with_reducible first | exact HB.out | apply below_alloc | apply pw_below_drewN | apply below_drew1 | refine below_set ?_ GE203.out | refine below_set ?_ GE204.out | refine below_set ?_ GE216.out) | exact HB.out))⟩)
      · skip
        refine box_step ?hg (N := 8) ?hd (cs := #[.int .u16 0, .bool false]) (t := 41) ?hr ?_; (case hd => rfl); (case hg => rfl); (case hr => first | (go_simp; done) | (go_simp; rfl))
        intro gb216 hg w24 hbox hb
        have n0_ := Aside0.mk (blk_below (g := gb203) (o := .cells #[.int .i8 a0_0, .int .i8 a0_1, .slice A0_2 l0_2.length c0_2] 25 (0, 0)) (by (with_reducible repeat (first | refine blk_drewN ?_ _ | refine blk_drew ?_ | refine blk_alloc ?_ _)); exact BK203.out) hb)
        have n1_ := Aside0.mk (blk_below (g := gb204) (o := .cells #[.int .u16 a1_0, .bool a1_1] 39 (0, 0)) (by (with_reducible repeat (first | refine blk_drewN ?_ _ | refine blk_drew ?_ | refine blk_alloc ?_ _)); exact BK204.out) hb)
        have n2_ := Aside0.mk (below_step (by repeat (first | (with_reducible first | exact HB.out | apply below_alloc | apply pw_below_drewN | apply below_drew1 | refine below_set ?_ GE203.out | refine below_set ?_ GE204.out) | exact HB.out)) hb)
        have n3_ := Aside0.mk (hbox)
        have n4_ := Aside0.mk ((by rw [hg]; exact (below_size (by repeat (first | (with_reducible first | exact HB.out | apply below_alloc | apply pw_below_drewN | apply below_drew1 | refine below_set ?_ GE203.out | refine below_set ?_ GE204.out) | exact HB.out))) : w.heap.size ≤ gb216))
        have n5_ := Aside0.mk ((by rw [hg]; exact (below_size (by repeat (first | (with_reducible first | exact HB.out | apply below_alloc | apply pw_below_drewN | apply below_drew1 | refine below_set ?_ GE203.out | refine below_set ?_ GE204.out) | exact HB.out))) : w.heap.size ≤ gb216))
        have n6_ := Aside0.mk ((by rw [hg]; exact Nat.ne_of_lt (blk_lt (g := gb203) (o := .cells #[.int .i8 a0_0, .int .i8 a0_1, .slice A0_2 l0_2.length c0_2] 25 (0, 0)) (by (with_reducible repeat (first | refine blk_drewN ?_ _ | refine blk_drew ?_ | refine blk_alloc ?_ _)); exact BK203.out)) : gb203 ≠ gb216))
        have n7_ := Aside0.mk ((by rw [hg]; exact Nat.ne_of_gt (blk_lt (g := gb203) (o := .cells #[.int .i8 a0_0, .int .i8 a0_1, .slice A0_2 l0_2.length c0_2] 25 (0, 0)) (by (with_reducible repeat (first | refine blk_drewN ?_ _ | refine blk_drew ?_ | refine blk_alloc ?_ _)); exact BK203.out)) : gb216 ≠ gb203))
        have n8_ := Aside0.mk ((by rw [hg]; exact Nat.ne_of_lt (blk_lt (g := gb204) (o := .cells #[.int .u16 a1_0, .bool a1_1] 39 (0, 0)) (by (with_reducible repeat (first | refine blk_drewN ?_ _ | refine blk_drew ?_ | refine blk_alloc ?_ _)); exact BK204.out)) : gb204 ≠ gb216))
        have n9_ := Aside0.mk ((by rw [hg]; exact Nat.ne_of_gt (blk_lt (g := gb204) (o := .cells #[.int .u16 a1_0, .bool a1_1] 39 (0, 0)) (by (with_reducible repeat (first | refine blk_drewN ?_ _ | refine blk_drew ?_ | refine blk_alloc ?_ _)); exact BK204.out)) : gb216 ≠ gb204))
        clear BK203
        clear BK204
        clear HB
        have BK203 := n0_
        have BK204 := n1_
        have HB := n2_
        have BK216 := n3_
        have GW216 := n4_
        have GE216 := n5_
        have NB203_216 := n6_
        have NB216_203 := n7_
        have NB204_216 := n8_
        have NB216_204 := n9_
        clear n0_ n1_ n2_ n3_ n4_ n5_ n6_ n7_ n8_ n9_
        clear hb hbox hg
        refine hK.out _ _ ⟨(blk_cell BK203.out 0).trans rfl, (blk_cell BK203.out 1).trans rfl, (blk_cell BK203.out 2).trans rfl, (blk_cell BK204.out 0).trans rfl, (blk_cell BK204.out 1).trans rfl⟩ (fun hHeld => ?_)
        clear hK K
        refine norm_ (a' := ?_) ?_ ?_
        rotate_left
        · show Act.put _ (some 8) _ = _
          simp only [Act.put, List.setIfInBounds_toArray, List.set_cons_zero, List.set_cons_succ, i64_w, i32_w]
          rfl
        refine one_ (i := 1) (N := some 20) #[true, true, true, false, true, false, false, false, false, true, false, false] rfl rfl (one_of HT_.out (by kernel_rfl)) (by decide) (fun K hK => ?_)
        refine goes_ Try.func14 (by kernel_rfl) rfl #[.agg #[.int .i8 a0_0, .int .i8 a0_1, .slice A0_2 l0_2.length c0_2]] (by rfl) rfl rfl (by (try simp only [List.map_toArray, List.map_cons, List.map_nil]); first | done | rfl | (simp only [List.length_drop, List.length_take]; rfl)) ?_
        with_reducible refine (laws_toFerry.calls k a0_0 a0_1 _ _ l0_2 t206 t207 t208 _ ?side1 ?side2 A11.out).mono ?_
        (case side1 => repeat (first | exact (Kd.C_below HR0_2.out HB.out) | (with_reducible refine Kd.C_alloc ?_ _) | (with_reducible refine Kd.C_drewN ?_ _) | (with_reducible refine Kd.C_drew ?_)))
        (case side2 => exact HC0_2.out)
        rintro e w25 ⟨v209, rfl, ho0, hb⟩
        refine ⟨_, rfl, ?_⟩
        have n0_ := Aside0.mk (Kd.R_lower ho0 (below_size (by repeat (first | (with_reducible first | exact HB.out | apply below_alloc | apply pw_below_drewN | apply below_drew1 | refine below_set ?_ GE203.out | refine below_set ?_ GE204.out | refine below_set ?_ GE216.out) | exact HB.out))))
        have n1_ := Aside0.mk (blk_below (g := gb203) (o := .cells #[.int .i8 a0_0, .int .i8 a0_1, .slice A0_2 l0_2.length c0_2] 25 (0, 0)) (by (with_reducible repeat (first | refine blk_drewN ?_ _ | refine blk_drew ?_ | refine blk_alloc ?_ _)); exact BK203.out) hb)
        have n2_ := Aside0.mk (blk_below (g := gb204) (o := .cells #[.int .u16 a1_0, .bool a1_1] 39 (0, 0)) (by (with_reducible repeat (first | refine blk_drewN ?_ _ | refine blk_drew ?_ | refine blk_alloc ?_ _)); exact BK204.out) hb)
        have n3_ := Aside0.mk (blk_below (g := gb216) (o := .cells #[.int .u16 0, .bool false] 41 (0, 0)) (by (with_reducible repeat (first | refine blk_drewN ?_ _ | refine blk_drew ?_ | refine blk_alloc ?_ _)); exact BK216.out) hb)
        have n4_ := Aside0.mk (below_step (by repeat (first | (with_reducible first | exact HB.out | apply below_alloc | apply pw_below_drewN | apply below_drew1 | refine below_set ?_ GE203.out | refine below_set ?_ GE204.out | refine below_set ?_ GE216.out) | exact HB.out)) hb)
        clear BK203
        clear BK204
        clear BK216
        clear HB
        have HO210 := n0_
        have BK203 := n1_
        have BK204 := n2_
        have BK216 := n3_
        have HB := n4_
        clear n0_ n1_ n2_ n3_ n4_
        (try clear hb)
        (try clear hb2)
        (try clear hk)
        (try clear hi)
        (try clear ho0)
        refine hK.out _ _ ⟨(blk_cell BK203.out 0).trans rfl, (blk_cell BK203.out 1).trans rfl, (blk_cell BK203.out 2).trans rfl, (blk_cell BK204.out 0).trans rfl, (blk_cell BK204.out 1).trans rfl⟩ (fun hHeld => ?_)
        clear hK K
        refine norm_ (a' := ?_) ?_ ?_
        rotate_left
        · show Act.put _ (some 20) _ = _
          simp only [Act.put, List.setIfInBounds_toArray, List.set_cons_zero, List.set_cons_succ, i64_w, i32_w]
          rfl
        refine one_ (i := 3) (N := some 22) #[true, true, true, true, true, false, false, false, false, true, false, false] rfl rfl (one_of HT_.out (by kernel_rfl)) (by decide) (fun K hK => ?_)
        refine goes_ Try.func24 (by kernel_rfl) rfl #[.agg #[.int .u16 a1_0, .bool a1_1]] (by rfl) rfl rfl (by (try simp only [List.map_toArray, List.map_cons, List.map_nil]); first | done | rfl | (simp only [List.length_drop, List.length_take]; rfl)) ?_
        with_reducible refine (laws_toBank.calls a1_0 a1_1 t211 t212 _ A12.out).mono ?_
        rintro e w26 ⟨rfl, hb⟩
        refine ⟨_, rfl, ?_⟩
        have n0_ := Aside0.mk (Kd.R_below (by (with_reducible repeat (first | apply Kd.R_alloc | apply Kd.R_drewN | apply Kd.R_drew)); exact HO210.out) hb)
        have n1_ := Aside0.mk (blk_below (g := gb203) (o := .cells #[.int .i8 a0_0, .int .i8 a0_1, .slice A0_2 l0_2.length c0_2] 25 (0, 0)) (by (with_reducible repeat (first | refine blk_drewN ?_ _ | refine blk_drew ?_ | refine blk_alloc ?_ _)); exact BK203.out) hb)
        have n2_ := Aside0.mk (blk_below (g := gb204) (o := .cells #[.int .u16 a1_0, .bool a1_1] 39 (0, 0)) (by (with_reducible repeat (first | refine blk_drewN ?_ _ | refine blk_drew ?_ | refine blk_alloc ?_ _)); exact BK204.out) hb)
        have n3_ := Aside0.mk (blk_below (g := gb216) (o := .cells #[.int .u16 0, .bool false] 41 (0, 0)) (by (with_reducible repeat (first | refine blk_drewN ?_ _ | refine blk_drew ?_ | refine blk_alloc ?_ _)); exact BK216.out) hb)
        have n4_ := Aside0.mk (below_step (by repeat (first | (with_reducible first | exact HB.out | apply below_alloc | apply pw_below_drewN | apply below_drew1 | refine below_set ?_ GE203.out | refine below_set ?_ GE204.out | refine below_set ?_ GE216.out) | exact HB.out)) hb)
        clear HO210
        clear BK203
        clear BK204
        clear BK216
        clear HB
        have HO210 := n0_
        have BK203 := n1_
        have BK204 := n2_
        have BK216 := n3_
        have HB := n4_
        clear n0_ n1_ n2_ n3_ n4_
        (try clear hb)
        (try clear hb2)
        (try clear hk)
        (try clear hi)
        obtain ⟨Ao27, co27, eo27⟩ := Kd.R_slice HO210.out
        (first | subst eo27 | (injection eo27 with f1_ f2_ f3_; have f4_ := f1_.symm; have f5_ := f3_.symm; clear f1_ f2_ f3_; subst f4_; subst f5_))
        refine hK.out _ _ ⟨(blk_cell BK203.out 0).trans rfl, (blk_cell BK203.out 1).trans rfl, (blk_cell BK203.out 2).trans rfl, (blk_cell BK204.out 0).trans rfl, (blk_cell BK204.out 1).trans rfl⟩ (fun hHeld => ?_)
        clear hK K
        refine norm_ (a' := ?_) ?_ ?_
        rotate_left
        · show Act.put _ (some 22) _ = _
          simp only [Act.put, List.setIfInBounds_toArray, List.set_cons_zero, List.set_cons_succ, i64_w, i32_w]
          rfl
        refine one_ (i := 5) (N := some 24) #[true, true, true, true, true, true, false, false, false, true, false, false] rfl rfl (one_of HT_.out (by kernel_rfl)) (by decide) (fun K hK => ?_)
        refine goes_ Try.func34 (by kernel_rfl) rfl #[.agg #[.int .i8 t206, .int .i8 t207, .slice Ao27 t208.length co27], .agg #[.int .u16 t211, .bool t212], .int .u16 a2] (by rfl) rfl rfl (by (try simp only [List.map_toArray, List.map_cons, List.map_nil]); first | done | rfl | (simp only [List.length_drop, List.length_take]; rfl)) ?_
        with_reducible refine (spec_CrossWith.calls k t206 t207 _ _ t208 t211 t212 a2 t213 t214 t215 _ ?side1 ?side2 A13.out).mono ?_
        (case side1 => repeat (first | exact (Kd.R_reads' HO210.out).2.2 | (with_reducible refine Kd.C_alloc ?_ _) | (with_reducible refine Kd.C_drewN ?_ _) | (with_reducible refine Kd.C_drew ?_)))
        (case side2 => exact (Kd.R_reads' HO210.out).2.1)
        rintro e w28 ⟨rfl, hb⟩
        refine ⟨_, rfl, ?_⟩
        have n0_ := Aside0.mk (Kd.R_below (by (with_reducible repeat (first | apply Kd.R_alloc | apply Kd.R_drewN | apply Kd.R_drew)); exact HO210.out) hb)
        have n1_ := Aside0.mk (blk_below (g := gb203) (o := .cells #[.int .i8 a0_0, .int .i8 a0_1, .slice A0_2 l0_2.length c0_2] 25 (0, 0)) (by (with_reducible repeat (first | refine blk_drewN ?_ _ | refine blk_drew ?_ | refine blk_alloc ?_ _)); exact BK203.out) hb)
        have n2_ := Aside0.mk (blk_below (g := gb204) (o := .cells #[.int .u16 a1_0, .bool a1_1] 39 (0, 0)) (by (with_reducible repeat (first | refine blk_drewN ?_ _ | refine blk_drew ?_ | refine blk_alloc ?_ _)); exact BK204.out) hb)
        have n3_ := Aside0.mk (blk_below (g := gb216) (o := .cells #[.int .u16 0, .bool false] 41 (0, 0)) (by (with_reducible repeat (first | refine blk_drewN ?_ _ | refine blk_drew ?_ | refine blk_alloc ?_ _)); exact BK216.out) hb)
        have n4_ := Aside0.mk (below_step (by repeat (first | (with_reducible first | exact HB.out | apply below_alloc | apply pw_below_drewN | apply below_drew1 | refine below_set ?_ GE203.out | refine below_set ?_ GE204.out | refine below_set ?_ GE216.out) | exact HB.out)) hb)
        clear HO210
        clear BK203
        clear BK204
        clear BK216
        clear HB
        have HO210 := n0_
        have BK203 := n1_
        have BK204 := n2_
        have BK216 := n3_
        have HB := n4_
        clear n0_ n1_ n2_ n3_ n4_
        (try clear hb)
        (try clear hb2)
        (try clear hk)
        (try clear hi)
        refine hK.out _ _ ⟨(blk_cell BK203.out 0).trans rfl, (blk_cell BK203.out 1).trans rfl, (blk_cell BK203.out 2).trans rfl, (blk_cell BK204.out 0).trans rfl, (blk_cell BK204.out 1).trans rfl⟩ (fun hHeld => ?_)
        clear hK K
        refine norm_ (a' := ?_) ?_ ?_
        rotate_left
        · show Act.put _ (some 24) _ = _
          simp only [Act.put, List.setIfInBounds_toArray, List.set_cons_zero, List.set_cons_succ, i64_w, i32_w]
          rfl
        refine pure_ (i := 6) (N := some 18) (v := ?_) (a' := ?_) #[true, true, true, true, true, true, true, false, false, true, false, false] rfl rfl (any_of HT_.out (by kernel_rfl)) (fun _ _ _ h => h) (Or.inl ⟨by rfl, ?_⟩) ?_ ?_
        rotate_left
        · intro w'
          go_simp
          with_reducible rfl
        rotate_left
        · simp only [Act.put, List.setIfInBounds_toArray, List.set_cons_zero, List.set_cons_succ, i64_w, i32_w]
          rfl
        refine pure_ (i := 7) (N := some 25) (v := ?_) (a' := ?_) #[true, true, true, true, true, true, true, true, false, true, false, false] rfl rfl (any_of HT_.out (by kernel_rfl)) (fun _ _ _ h => h) (Or.inl ⟨by rfl, ?_⟩) ?_ ?_
        rotate_left
        · intro w'
          go_simp
          with_reducible rfl
        rotate_left
        · simp only [Act.put, List.setIfInBounds_toArray, List.set_cons_zero, List.set_cons_succ, i64_w, i32_w]
          rfl
        refine pure_ (i := 8) (N := some 26) (v := ?_) (a' := ?_) #[true, true, true, true, true, true, true, true, true, true, false, false] rfl rfl (any_of HT_.out (by kernel_rfl)) (fun _ _ _ h => h) (Or.inl ⟨by rfl, ?_⟩) ?_ ?_
        rotate_left
        · intro w'
          go_simp
          with_reducible rfl
        rotate_left
        · simp only [Act.put, List.setIfInBounds_toArray, List.set_cons_zero, List.set_cons_succ, i64_w, i32_w]
          rfl
        exact norm_ (by simp only [putAll, Act.put, List.setIfInBounds_toArray, List.set_cons_zero, List.set_cons_succ]) (hCont (.slice Ao27 t208.length co27, gb216) _ ⟨hHeld, (by (with_reducible repeat (first | apply Kd.R_alloc | apply Kd.R_drewN | apply Kd.R_drew)); exact HO210.out), (by (with_reducible repeat (first | refine blk_drewN ?_ _ | refine blk_drew ?_ | refine blk_alloc ?_ _)); exact BK203.out), (by (with_reducible repeat (first | refine blk_drewN ?_ _ | refine blk_drew ?_ | refine blk_alloc ?_ _)); exact BK204.out), (by (with_reducible repeat (first | refine blk_drewN ?_ _ | refine blk_drew ?_ | refine blk_alloc ?_ _)); exact BK216.out), GW216.out, GE216.out, NB203_216.out, NB216_203.out, NB204_216.out, NB216_204.out, (by repeat (first | (with_reducible first | exact HB.out | apply below_alloc | apply pw_below_drewN | apply below_drew1 | refine below_set ?_ GE203.out | refine below_set ?_ GE204.out | refine below_set ?_ GE216.out) | exact HB.out))⟩)
    rintro ⟨v209, gb216⟩ w29 ⟨hS_, h0_, h1_, h2_, h3_, h4_, h5_, h6_, h7_, h8_, h9_, h10_⟩
    have n0_ : Aside0 (Kd.R (Kd.int .u16) 35 w29 w.heap.size (fun _ => True) v209 t208) := ⟨h0_⟩
    have n1_ : Aside0 (w29.heap[gb203]? = some (.cells #[.int .i8 a0_0, .int .i8 a0_1, .slice A0_2 l0_2.length c0_2] 25 (0, 0))) := ⟨h1_⟩
    have n2_ : Aside0 (w29.heap[gb204]? = some (.cells #[.int .u16 a1_0, .bool a1_1] 39 (0, 0))) := ⟨h2_⟩
    have n3_ : Aside0 (w29.heap[gb216]? = some (.cells #[.int .u16 0, .bool false] 41 (0, 0))) := ⟨h3_⟩
    have n4_ : Aside0 (w.heap.size ≤ gb216) := ⟨h4_⟩
    have n5_ : Aside0 (w.heap.size ≤ gb216) := ⟨h5_⟩
    have n6_ : Aside0 (gb203 ≠ gb216) := ⟨h6_⟩
    have n7_ : Aside0 (gb216 ≠ gb203) := ⟨h7_⟩
    have n8_ : Aside0 (gb204 ≠ gb216) := ⟨h8_⟩
    have n9_ : Aside0 (gb216 ≠ gb204) := ⟨h9_⟩
    have n10_ : Aside0 (Below w.heap.size w w29) := ⟨h10_⟩
    clear BK203
    clear BK204
    clear HB
    clear h0_ h1_ h2_ h3_ h4_ h5_ h6_ h7_ h8_ h9_ h10_
    have HO210 := n0_
    have BK203 := n1_
    have BK204 := n2_
    have BK216 := n3_
    have GW216 := n4_
    have GE216 := n5_
    have NB203_216 := n6_
    have NB216_203 := n7_
    have NB204_216 := n8_
    have NB216_204 := n9_
    have HB := n10_
    clear n0_ n1_ n2_ n3_ n4_ n5_ n6_ n7_ n8_ n9_ n10_
    have hHeld : w29.cell? ⟨gb203, 0, none⟩ = some (.int .i8 a0_0) ∧ w29.cell? ⟨gb203, 1, none⟩ = some (.int .i8 a0_1) ∧ w29.cell? ⟨gb203, 2, none⟩ = some (.slice A0_2 l0_2.length c0_2) ∧ w29.cell? ⟨gb204, 0, none⟩ = some (.int .u16 a1_0) ∧ w29.cell? ⟨gb204, 1, none⟩ = some (.bool a1_1) := hS_
    refine norm_ (a' := ?_) ?_ ?_
    rotate_left
    · simp only [putAll, Act.put, List.setIfInBounds_toArray, List.set_cons_zero, List.set_cons_succ]
      rfl
    refine one_ (i := 10) (N := none) #[true, true, true, true, true, true, true, true, true, true, true, false] rfl rfl (one_of HT_.out (by kernel_rfl)) (by decide) (fun K hK => ?_)
    have hs30 : w29.cell? ⟨gb216, 0, none⟩ = some (.int .u16 0) := (blk_cell BK216.out 0).trans rfl
    have hfs30 := blk_frozen BK216.out 0
    have hns30_0 := NB203_216.out
    have hns30_1 := NB204_216.out
    have hms30_0 := NB216_203.out
    have hms30_1 := NB216_204.out
    have hs31 : w29.cell? ⟨gb216, 1, none⟩ = some (.bool false) := (blk_cell BK216.out 1).trans rfl
    have hfs31 := blk_frozen BK216.out 1
    have hns31_0 := NB203_216.out
    have hns31_1 := NB204_216.out
    have hms31_0 := NB216_203.out
    have hms31_1 := NB216_204.out
    refine skip_ (w1 := ?_) (by rfl) rfl ?_ ?_
    rotate_left
    · go_simp
      rfl
    refine hK.out _ _ ⟨((cell_far (p := ⟨gb216, _, none⟩) NB203_216.out _).trans (((cell_far (p := ⟨gb216, _, none⟩) NB203_216.out _).trans (hHeld.1)))), ((cell_far (p := ⟨gb216, _, none⟩) NB203_216.out _).trans (((cell_far (p := ⟨gb216, _, none⟩) NB203_216.out _).trans (hHeld.2.1)))), ((cell_far (p := ⟨gb216, _, none⟩) NB203_216.out _).trans (((cell_far (p := ⟨gb216, _, none⟩) NB203_216.out _).trans (hHeld.2.2.1)))), ((cell_far (p := ⟨gb216, _, none⟩) NB204_216.out _).trans (((cell_far (p := ⟨gb216, _, none⟩) NB204_216.out _).trans (hHeld.2.2.2.1)))), ((cell_far (p := ⟨gb216, _, none⟩) NB204_216.out _).trans (((cell_far (p := ⟨gb216, _, none⟩) NB204_216.out _).trans (hHeld.2.2.2.2))))⟩ (fun hHeld => ?_)
    clear hK K
    refine pure_ (i := 11) (N := some 9) (v := ?_) (a' := ?_) #[true, true, true, true, true, true, true, true, true, true, true, true] rfl rfl (any_of HT_.out (by kernel_rfl)) (fun _ _ _ h => h) (Or.inl ⟨by rfl, ?_⟩) ?_ ?_
    rotate_left
    · intro w'
      go_simp
      with_reducible rfl
    rotate_left
    · simp only [Act.put, List.setIfInBounds_toArray, List.set_cons_zero, List.set_cons_succ, i64_w, i32_w]
      rfl
    refine done_ (done_of HT_.out (by kernel_rfl)) ?_
    have hnb32 := NB203_216.out
    have hnc32 := NB216_203.out
    have hcz33_0 : w29.cell? ⟨gb203, 0, none⟩ = some (.int .i8 a0_0) := (blk_cell BK203.out 0).trans rfl
    have hcz33_1 : w29.cell? ⟨gb203, 1, none⟩ = some (.int .i8 a0_1) := (blk_cell BK203.out 1).trans rfl
    have hcz33_2 : w29.cell? ⟨gb203, 2, none⟩ = some (.slice A0_2 l0_2.length c0_2) := (blk_cell BK203.out 2).trans rfl
    have hfz33_0 := blk_frozen BK203.out 0
    have hfz33_1 := blk_frozen BK203.out 1
    have hfz33_2 := blk_frozen BK203.out 2
    try go_wp2_with (first | ((with_reducible refine gate_callee (f := 14) rfl ?_); refine goesL_ (some 28) rfl rfl Try.func14 (by kernel_rfl) rfl #[.agg #[.int .i8 a0_0, .int .i8 a0_1, .slice A0_2 l0_2.length c0_2]] rfl (by (try simp only [List.map_toArray, List.map_cons, List.map_nil]); first | done | rfl | (simp only [List.length_drop, List.length_take]; rfl)) ?_; (with_reducible refine (laws_toFerry.calls k a0_0 a0_1 _ _ l0_2 t217 t218 t219 _ ?side1 ?side2 A14.out).mono ?_); (case side1 => exact Kd.C_below HR0_2.out (by repeat (first | (with_reducible first | exact HB.out | apply below_alloc | apply pw_below_drewN | apply below_drew1 | refine below_set ?_ GE203.out | refine below_set ?_ GE204.out | refine below_set ?_ GE216.out) | exact HB.out))); (case side2 => exact HC0_2.out); rintro e w34 ⟨v220, rfl, ho0, hb⟩; refine ⟨_, rfl, ?_⟩; have n0_ := Aside0.mk (Kd.R_elder' (by (with_reducible repeat (first | apply Kd.R_alloc | apply Kd.R_drewN | apply Kd.R_drew)); exact (Kd.R_mono (Kd.R_far (p := ⟨gb216, 1, none⟩) (Kd.R_far (p := ⟨gb216, 0, none⟩) (Kd.R_types HO210.out BK216.out (by decide)) (fun _ hk => hk.2) (.int .u16 t213)) (fun _ hk => hk.2) (.bool t214)) (fun _ h_ => h_.1))) (Kd.R_base ho0) hb); have n1_ := Aside0.mk (Kd.R_lower (Kd.R_new' ho0 (Kd.R_lt (by (with_reducible repeat (first | apply Kd.R_alloc | apply Kd.R_drewN | apply Kd.R_drew)); exact (Kd.R_mono (Kd.R_far (p := ⟨gb216, 1, none⟩) (Kd.R_far (p := ⟨gb216, 0, none⟩) (Kd.R_types HO210.out BK216.out (by decide)) (fun _ hk => hk.2) (.int .u16 t213)) (fun _ hk => hk.2) (.bool t214)) (fun _ h_ => h_.1))))) (below_size (by repeat (first | (with_reducible first | exact HB.out | apply below_alloc | apply pw_below_drewN | apply below_drew1 | refine below_set ?_ GE203.out | refine below_set ?_ GE204.out | refine below_set ?_ GE216.out) | exact HB.out)))); have n2_ := Aside0.mk (blk_below (g := gb203) (o := .cells #[.int .i8 a0_0, .int .i8 a0_1, .slice A0_2 l0_2.length c0_2] 25 (0, 0)) (by (with_reducible repeat (first | refine blk_drewN ?_ _ | refine blk_drew ?_ | refine blk_alloc ?_ _)); refine blk_far ?_ NB203_216.out _; (with_reducible repeat (first | refine blk_drewN ?_ _ | refine blk_drew ?_ | refine blk_alloc ?_ _)); refine blk_far ?_ NB203_216.out _; (with_reducible repeat (first | refine blk_drewN ?_ _ | refine blk_drew ?_ | refine blk_alloc ?_ _)); exact BK203.out) hb); have n3_ := Aside0.mk (blk_below (g := gb204) (o := .cells #[.int .u16 a1_0, .bool a1_1] 39 (0, 0)) (by (with_reducible repeat (first | refine blk_drewN ?_ _ | refine blk_drew ?_ | refine blk_alloc ?_ _)); refine blk_far ?_ NB204_216.out _; (with_reducible repeat (first | refine blk_drewN ?_ _ | refine blk_drew ?_ | refine blk_alloc ?_ _)); refine blk_far ?_ NB204_216.out _; (with_reducible repeat (first | refine blk_drewN ?_ _ | refine blk_drew ?_ | refine blk_alloc ?_ _)); exact BK204.out) hb); have n4_ := Aside0.mk (blk_below (g := gb216) (o := .cells #[.int .u16 t213, .bool t214] 41 (0, 0)) (by (with_reducible repeat (first | refine blk_drewN ?_ _ | refine blk_drew ?_ | refine blk_alloc ?_ _)); refine blk_put (cs := #[.int .u16 t213, .bool false]) ?_ 1 _ rfl; (with_reducible repeat (first | refine blk_drewN ?_ _ | refine blk_drew ?_ | refine blk_alloc ?_ _)); refine blk_put (cs := #[.int .u16 0, .bool false]) ?_ 0 _ rfl; (with_reducible repeat (first | refine blk_drewN ?_ _ | refine blk_drew ?_ | refine blk_alloc ?_ _)); exact BK216.out) hb); have n5_ := Aside0.mk (below_step (by repeat (first | (with_reducible first | exact HB.out | apply below_alloc | apply pw_below_drewN | apply below_drew1 | refine below_set ?_ GE203.out | refine below_set ?_ GE204.out | refine below_set ?_ GE216.out) | exact HB.out)) hb); clear HO210; clear BK203; clear BK204; clear BK216; clear HB; have HO210 := n0_; have HO221 := n1_; have BK203 := n2_; have BK204 := n3_; have BK216 := n4_; have HB := n5_; clear n0_ n1_ n2_ n3_ n4_ n5_; (try clear hb); (try clear hb2); (try clear hk); (try clear hi); (try clear ho0)) | ((with_reducible refine gate_dst (N := 10) rfl ?_); refine box_event ?hg (N := 10) ?hd (cs := #[.int .i8 0, .int .i8 0, .slice none 0 0]) (t := 28) ?hr ?_; (case hd => rfl); (case hg => rfl); (case hr => first | (go_simp; done) | (go_simp; rfl)); intro gb222 hg w35 hbox hb; have n0_ := Aside0.mk (Kd.R_below (by (with_reducible repeat (first | apply Kd.R_alloc | apply Kd.R_drewN | apply Kd.R_drew)); exact HO210.out) hb); have n1_ := Aside0.mk (Kd.R_below (by (with_reducible repeat (first | apply Kd.R_alloc | apply Kd.R_drewN | apply Kd.R_drew)); exact HO221.out) hb); have n2_ := Aside0.mk (blk_below (g := gb203) (o := .cells #[.int .i8 a0_0, .int .i8 a0_1, .slice A0_2 l0_2.length c0_2] 25 (0, 0)) (by (with_reducible repeat (first | refine blk_drewN ?_ _ | refine blk_drew ?_ | refine blk_alloc ?_ _)); exact BK203.out) hb); have n3_ := Aside0.mk (blk_below (g := gb204) (o := .cells #[.int .u16 a1_0, .bool a1_1] 39 (0, 0)) (by (with_reducible repeat (first | refine blk_drewN ?_ _ | refine blk_drew ?_ | refine blk_alloc ?_ _)); exact BK204.out) hb); have n4_ := Aside0.mk (blk_below (g := gb216) (o := .cells #[.int .u16 t213, .bool t214] 41 (0, 0)) (by (with_reducible repeat (first | refine blk_drewN ?_ _ | refine blk_drew ?_ | refine blk_alloc ?_ _)); exact BK216.out) hb); have n5_ := Aside0.mk (below_step (by repeat (first | (with_reducible first | exact HB.out | apply below_alloc | apply pw_below_drewN | apply below_drew1 | refine below_set ?_ GE203.out | refine below_set ?_ GE204.out | refine below_set ?_ GE216.out) | exact HB.out)) hb); have n6_ := Aside0.mk (hbox); have n7_ := Aside0.mk ((by rw [hg]; exact (below_size (by repeat (first | (with_reducible first | exact HB.out | apply below_alloc | apply pw_below_drewN | apply below_drew1 | refine below_set ?_ GE203.out | refine below_set ?_ GE204.out | refine below_set ?_ GE216.out) | exact HB.out))) : w.heap.size ≤ gb222)); have n8_ := Aside0.mk ((by rw [hg]; exact (below_size (by repeat (first | (with_reducible first | exact HB.out | apply below_alloc | apply pw_below_drewN | apply below_drew1 | refine below_set ?_ GE203.out | refine below_set ?_ GE204.out | refine below_set ?_ GE216.out) | exact HB.out))) : w.heap.size ≤ gb222)); have n9_ := Aside0.mk ((by rw [hg]; exact Nat.ne_of_lt (blk_lt (g := gb203) (o := .cells #[.int .i8 a0_0, .int .i8 a0_1, .slice A0_2 l0_2.length c0_2] 25 (0, 0)) (by (with_reducible repeat (first | refine blk_drewN ?_ _ | refine blk_drew ?_ | refine blk_alloc ?_ _)); exact BK203.out)) : gb203 ≠ gb222)); have n10_ := Aside0.mk ((by rw [hg]; exact Nat.ne_of_gt (blk_lt (g := gb203) (o := .cells #[.int .i8 a0_0, .int .i8 a0_1, .slice A0_2 l0_2.length c0_2] 25 (0, 0)) (by (with_reducible repeat (first | refine blk_drewN ?_ _ | refine blk_drew ?_ | refine blk_alloc ?_ _)); exact BK203.out)) : gb222 ≠ gb203)); have n11_ := Aside0.mk ((by rw [hg]; exact Nat.ne_of_lt (blk_lt (g := gb204) (o := .cells #[.int .u16 a1_0, .bool a1_1] 39 (0, 0)) (by (with_reducible repeat (first | refine blk_drewN ?_ _ | refine blk_drew ?_ | refine blk_alloc ?_ _)); exact BK204.out)) : gb204 ≠ gb222)); have n12_ := Aside0.mk ((by rw [hg]; exact Nat.ne_of_gt (blk_lt (g := gb204) (o := .cells #[.int .u16 a1_0, .bool a1_1] 39 (0, 0)) (by (with_reducible repeat (first | refine blk_drewN ?_ _ | refine blk_drew ?_ | refine blk_alloc ?_ _)); exact BK204.out)) : gb222 ≠ gb204)); have n13_ := Aside0.mk ((by rw [hg]; exact Nat.ne_of_lt (blk_lt (g := gb216) (o := .cells #[.int .u16 t213, .bool t214] 41 (0, 0)) (by (with_reducible repeat (first | refine blk_drewN ?_ _ | refine blk_drew ?_ | refine blk_alloc ?_ _)); exact BK216.out)) : gb216 ≠ gb222)); have n14_ := Aside0.mk ((by rw [hg]; exact Nat.ne_of_gt (blk_lt (g := gb216) (o := .cells #[.int .u16 t213, .bool t214] 41 (0, 0)) (by (with_reducible repeat (first | refine blk_drewN ?_ _ | refine blk_drew ?_ | refine blk_alloc ?_ _)); exact BK216.out)) : gb222 ≠ gb216)); clear HO210; clear HO221; clear BK203; clear BK204; clear BK216; clear HB; have HO210 := n0_; have HO221 := n1_; have BK203 := n2_; have BK204 := n3_; have BK216 := n4_; have HB := n5_; have BK222 := n6_; have GW222 := n7_; have GE222 := n8_; have NB203_222 := n9_; have NB222_203 := n10_; have NB204_222 := n11_; have NB222_204 := n12_; have NB216_222 := n13_; have NB222_216 := n14_; clear n0_ n1_ n2_ n3_ n4_ n5_ n6_ n7_ n8_ n9_ n10_ n11_ n12_ n13_ n14_; clear hb hbox hg; have hnb36 := NB222_203.out; have hnc36 := NB203_222.out; have hnb37 := NB222_204.out; have hnc37 := NB204_222.out; have hnb38 := NB222_216.out; have hnc38 := NB216_222.out; have hcz39_0 : w35.cell? ⟨gb222, 0, none⟩ = some (.int .i8 0) := (blk_cell BK222.out 0).trans rfl; have hcz39_1 : w35.cell? ⟨gb222, 1, none⟩ = some (.int .i8 0) := (blk_cell BK222.out 1).trans rfl; have hcz39_2 : w35.cell? ⟨gb222, 2, none⟩ = some (.slice none 0 0) := (blk_cell BK222.out 2).trans rfl; have hfz39_0 := blk_frozen BK222.out 0; have hfz39_1 := blk_frozen BK222.out 1; have hfz39_2 := blk_frozen BK222.out 2; obtain ⟨Ao40, co40, eo40⟩ := Kd.R_slice HO221.out; subst eo40))
    have n0_ : Aside0 (Kd.R (Kd.int .u16) 35 (((w35.setCell ⟨gb222, 0, none⟩ (.int .i8 t217)).setCell ⟨gb222, 1, none⟩ (.int .i8 t218)).setCell ⟨gb222, 2, none⟩ (.slice Ao40 t219.length co40)) w.heap.size (fun k_ => some k_ ≠ (.slice Ao40 t219.length co40 : Value).ownBlock) v209 t208) := ⟨by (with_reducible repeat (first | apply Kd.R_alloc | apply Kd.R_drewN | apply Kd.R_drew)); exact Kd.R_mono (Kd.R_far (p := ⟨gb222, 2, none⟩) (Kd.R_far (p := ⟨gb222, 1, none⟩) (Kd.R_far (p := ⟨gb222, 0, none⟩) (Kd.R_types HO210.out BK222.out (by decide)) (fun _ hk => hk.2) (.int .i8 t217)) (fun _ hk => hk.2) (.int .i8 t218)) (fun _ hk => hk.2) (.slice Ao40 t219.length co40)) (fun _ hk => hk.1.2)⟩
    have n1_ : Aside0 (Kd.R (Kd.int .u16) 35 (((w35.setCell ⟨gb222, 0, none⟩ (.int .i8 t217)).setCell ⟨gb222, 1, none⟩ (.int .i8 t218)).setCell ⟨gb222, 2, none⟩ (.slice Ao40 t219.length co40)) w.heap.size (fun k_ => some k_ ≠ (v209 : Value).ownBlock) (.slice Ao40 t219.length co40) t219) := ⟨by (with_reducible repeat (first | apply Kd.R_alloc | apply Kd.R_drewN | apply Kd.R_drew)); exact Kd.R_mono (Kd.R_far (p := ⟨gb222, 2, none⟩) (Kd.R_far (p := ⟨gb222, 1, none⟩) (Kd.R_far (p := ⟨gb222, 0, none⟩) (Kd.R_types HO221.out BK222.out (by decide)) (fun _ hk => hk.2) (.int .i8 t217)) (fun _ hk => hk.2) (.int .i8 t218)) (fun _ hk => hk.2) (.slice Ao40 t219.length co40)) (fun _ hk => hk.1.2)⟩
    have n2_ : Aside0 ((((w35.setCell ⟨gb222, 0, none⟩ (.int .i8 t217)).setCell ⟨gb222, 1, none⟩ (.int .i8 t218)).setCell ⟨gb222, 2, none⟩ (.slice Ao40 t219.length co40)).heap[gb203]? = some (.cells #[.int .i8 a0_0, .int .i8 a0_1, .slice A0_2 l0_2.length c0_2] 25 (0, 0))) := ⟨by (with_reducible repeat (first | refine blk_drewN ?_ _ | refine blk_drew ?_ | refine blk_alloc ?_ _)); refine blk_far ?_ NB203_222.out _; (with_reducible repeat (first | refine blk_drewN ?_ _ | refine blk_drew ?_ | refine blk_alloc ?_ _)); refine blk_far ?_ NB203_222.out _; (with_reducible repeat (first | refine blk_drewN ?_ _ | refine blk_drew ?_ | refine blk_alloc ?_ _)); refine blk_far ?_ NB203_222.out _; (with_reducible repeat (first | refine blk_drewN ?_ _ | refine blk_drew ?_ | refine blk_alloc ?_ _)); exact BK203.out⟩
    have n3_ : Aside0 ((((w35.setCell ⟨gb222, 0, none⟩ (.int .i8 t217)).setCell ⟨gb222, 1, none⟩ (.int .i8 t218)).setCell ⟨gb222, 2, none⟩ (.slice Ao40 t219.length co40)).heap[gb204]? = some (.cells #[.int .u16 a1_0, .bool a1_1] 39 (0, 0))) := ⟨by (with_reducible repeat (first | refine blk_drewN ?_ _ | refine blk_drew ?_ | refine blk_alloc ?_ _)); refine blk_far ?_ NB204_222.out _; (with_reducible repeat (first | refine blk_drewN ?_ _ | refine blk_drew ?_ | refine blk_alloc ?_ _)); refine blk_far ?_ NB204_222.out _; (with_reducible repeat (first | refine blk_drewN ?_ _ | refine blk_drew ?_ | refine blk_alloc ?_ _)); refine blk_far ?_ NB204_222.out _; (with_reducible repeat (first | refine blk_drewN ?_ _ | refine blk_drew ?_ | refine blk_alloc ?_ _)); exact BK204.out⟩
    have n4_ : Aside0 ((((w35.setCell ⟨gb222, 0, none⟩ (.int .i8 t217)).setCell ⟨gb222, 1, none⟩ (.int .i8 t218)).setCell ⟨gb222, 2, none⟩ (.slice Ao40 t219.length co40)).heap[gb216]? = some (.cells #[.int .u16 t213, .bool t214] 41 (0, 0))) := ⟨by (with_reducible repeat (first | refine blk_drewN ?_ _ | refine blk_drew ?_ | refine blk_alloc ?_ _)); refine blk_far ?_ NB216_222.out _; (with_reducible repeat (first | refine blk_drewN ?_ _ | refine blk_drew ?_ | refine blk_alloc ?_ _)); refine blk_far ?_ NB216_222.out _; (with_reducible repeat (first | refine blk_drewN ?_ _ | refine blk_drew ?_ | refine blk_alloc ?_ _)); refine blk_far ?_ NB216_222.out _; (with_reducible repeat (first | refine blk_drewN ?_ _ | refine blk_drew ?_ | refine blk_alloc ?_ _)); exact BK216.out⟩
    have n5_ : Aside0 ((((w35.setCell ⟨gb222, 0, none⟩ (.int .i8 t217)).setCell ⟨gb222, 1, none⟩ (.int .i8 t218)).setCell ⟨gb222, 2, none⟩ (.slice Ao40 t219.length co40)).heap[gb222]? = some (.cells #[.int .i8 t217, .int .i8 t218, .slice Ao40 t219.length co40] 28 (0, 0))) := ⟨by (with_reducible repeat (first | refine blk_drewN ?_ _ | refine blk_drew ?_ | refine blk_alloc ?_ _)); refine blk_put (cs := #[.int .i8 t217, .int .i8 t218, .slice none 0 0]) ?_ 2 _ rfl; (with_reducible repeat (first | refine blk_drewN ?_ _ | refine blk_drew ?_ | refine blk_alloc ?_ _)); refine blk_put (cs := #[.int .i8 t217, .int .i8 0, .slice none 0 0]) ?_ 1 _ rfl; (with_reducible repeat (first | refine blk_drewN ?_ _ | refine blk_drew ?_ | refine blk_alloc ?_ _)); refine blk_put (cs := #[.int .i8 0, .int .i8 0, .slice none 0 0]) ?_ 0 _ rfl; (with_reducible repeat (first | refine blk_drewN ?_ _ | refine blk_drew ?_ | refine blk_alloc ?_ _)); exact BK222.out⟩
    have n6_ : Aside0 (Below w.heap.size w (((w35.setCell ⟨gb222, 0, none⟩ (.int .i8 t217)).setCell ⟨gb222, 1, none⟩ (.int .i8 t218)).setCell ⟨gb222, 2, none⟩ (.slice Ao40 t219.length co40))) := ⟨by repeat (first | (with_reducible first | exact HB.out | apply below_alloc | apply pw_below_drewN | apply below_drew1 | refine below_set ?_ GE203.out | refine below_set ?_ GE204.out | refine below_set ?_ GE216.out | refine below_set ?_ GE222.out) | exact HB.out)⟩
    (try clear HO210)
    (try clear HO221)
    (try clear BK203)
    (try clear BK204)
    (try clear BK216)
    (try clear BK222)
    (try clear HB)
    generalize (((w35.setCell ⟨gb222, 0, none⟩ (.int .i8 t217)).setCell ⟨gb222, 1, none⟩ (.int .i8 t218)).setCell ⟨gb222, 2, none⟩ (.slice Ao40 t219.length co40)) = w41 at n0_ n1_ n2_ n3_ n4_ n5_ n6_ ⊢
    have HO210 := n0_
    have HO221 := n1_
    have BK203 := n2_
    have BK204 := n3_
    have BK216 := n4_
    have BK222 := n5_
    have HB := n6_
    clear n0_ n1_ n2_ n3_ n4_ n5_ n6_
    have n0_ := Aside0.mk (Kd.R_drew HO210.out)
    have n1_ := Aside0.mk (Kd.R_drew HO221.out)
    have n2_ := Aside0.mk (blk_drew BK203.out)
    have n3_ := Aside0.mk (blk_drew BK204.out)
    have n4_ := Aside0.mk (blk_drew BK216.out)
    have n5_ := Aside0.mk (blk_drew BK222.out)
    have n6_ := Aside0.mk (below_drew1 HB.out)
    clear HO210
    clear HO221
    clear BK203
    clear BK204
    clear BK216
    clear BK222
    clear HB
    have HO210 := n0_
    have HO221 := n1_
    have BK203 := n2_
    have BK204 := n3_
    have BK216 := n4_
    have BK222 := n5_
    have HB := n6_
    clear n0_ n1_ n2_ n3_ n4_ n5_ n6_
    refine start_ (n := 11) (S := fun w' => w'.cell? ⟨gb222, 0, none⟩ = some (.int .i8 t217) ∧ w'.cell? ⟨gb222, 1, none⟩ = some (.int .i8 t218) ∧ w'.cell? ⟨gb222, 2, none⟩ = some (.slice Ao40 t219.length co40) ∧ w'.cell? ⟨gb204, 0, none⟩ = some (.int .u16 a1_0) ∧ w'.cell? ⟨gb204, 1, none⟩ = some (.bool a1_1)) (ds := []) #[false, false, false, false, false, false, false, false, false, false, false] (by kernel_rfl) rfl rfl ⟨(blk_cell BK222.out 0).trans rfl, (blk_cell BK222.out 1).trans rfl, (blk_cell BK222.out 2).trans rfl, (blk_cell BK204.out 0).trans rfl, (blk_cell BK204.out 1).trans rfl⟩ (fun hHeld => ?_); refine with_tabW laws_FnExactCrossWith.tab7 laws_FnExactCrossWith.bits7 (fun HT_ HW_ => ?_)
    generalize w41.drew = w42 at HO210 HO221 BK203 BK204 BK216 BK222 HB hHeld ⊢
    refine pure_ (i := 3) (N := some 33) (v := ?_) (a' := ?_) #[false, false, false, true, false, false, false, false, false, false, false] rfl rfl (any_of HT_.out (by kernel_rfl)) (fun _ _ _ h => h) (Or.inl ⟨by rfl, ?_⟩) ?_ ?_
    rotate_left
    · intro w'
      go_simp
      with_reducible rfl
    rotate_left
    · simp only [Act.put, List.setIfInBounds_toArray, List.set_cons_zero, List.set_cons_succ, i64_w, i32_w]
      rfl
    refine take_ (i := 0) (N := some 30) (v := ?_) (a' := ?_) #[true, false, false, true, false, false, false, false, false, false, false] rfl rfl (take_ofW HT_.out HW_.out (by kernel_rfl)) (fun _ _ _ h => h) (Or.inl ⟨by rfl, ?_⟩) hHeld ?_ ?_
    rotate_left
    · rintro w' ⟨s0, s1, s2, s3, s4⟩
      go_simp
      with_reducible rfl
    rotate_left
    · simp only [Act.put, List.setIfInBounds_toArray, List.set_cons_zero, List.set_cons_succ, i64_w, i32_w]
      rfl
    refine take_ (i := 1) (N := some 31) (v := ?_) (a' := ?_) #[true, true, false, true, false, false, false, false, false, false, false] rfl rfl (take_ofW HT_.out HW_.out (by kernel_rfl)) (fun _ _ _ h => h) (Or.inl ⟨by rfl, ?_⟩) hHeld ?_ ?_
    rotate_left
    · rintro w' ⟨s0, s1, s2, s3, s4⟩
      go_simp
      with_reducible rfl
    rotate_left
    · simp only [Act.put, List.setIfInBounds_toArray, List.set_cons_zero, List.set_cons_succ, i64_w, i32_w]
      rfl
    refine join_ (σ := Nat) 2 #[true, true, true, true, true, true, true, true, true, false, false] (fun s_ => [(32, .agg #[.int .u16 t223, .bool t224]), (34, .tuple #[.agg #[.int .u16 t225, .bool t226], .int .i64 t227]), (11, .pointer (some ⟨s_, 0, none⟩)), (29, .tuple #[.agg #[.int .u16 t225, .bool t226], .int .i64 t227]), (35, .agg #[.int .u16 t225, .bool t226]), (36, .int .i64 t227)]) (fun s_ w' => (w'.cell? ⟨gb222, 0, none⟩ = some (.int .i8 t217) ∧ w'.cell? ⟨gb222, 1, none⟩ = some (.int .i8 t218) ∧ w'.cell? ⟨gb222, 2, none⟩ = some (.slice Ao40 t219.length co40) ∧ w'.cell? ⟨gb204, 0, none⟩ = some (.int .u16 a1_0) ∧ w'.cell? ⟨gb204, 1, none⟩ = some (.bool a1_1)) ∧ (Kd.R (Kd.int .u16) 35 w' w.heap.size (fun k_ => some k_ ≠ (.slice Ao40 t219.length co40 : Value).ownBlock) v209 t208) ∧ (Kd.R (Kd.int .u16) 35 w' w.heap.size (fun k_ => some k_ ≠ (v209 : Value).ownBlock) (.slice Ao40 t219.length co40) t219) ∧ (w'.heap[gb203]? = some (.cells #[.int .i8 a0_0, .int .i8 a0_1, .slice A0_2 l0_2.length c0_2] 25 (0, 0))) ∧ (w'.heap[gb204]? = some (.cells #[.int .u16 a1_0, .bool a1_1] 39 (0, 0))) ∧ (w'.heap[gb216]? = some (.cells #[.int .u16 t213, .bool t214] 41 (0, 0))) ∧ (w'.heap[gb222]? = some (.cells #[.int .i8 t217, .int .i8 t218, .slice Ao40 t219.length co40] 28 (0, 0))) ∧ (w'.heap[s_]? = some (.cells #[.int .u16 0, .bool false] 41 (0, 0))) ∧ (w.heap.size ≤ s_) ∧ (w.heap.size ≤ s_) ∧ (gb203 ≠ s_) ∧ (s_ ≠ gb203) ∧ (gb204 ≠ s_) ∧ (s_ ≠ gb204) ∧ (gb216 ≠ s_) ∧ (s_ ≠ gb216) ∧ (gb222 ≠ s_) ∧ (s_ ≠ gb222) ∧ (Below w.heap.size w w')) ?_ ?_
    rotate_left
    · intro hCont
      refine two_ (i := 2) (j := 8) (Ni := some 32) (Nj := some 11) #[true, true, true, true, false, false, false, false, false, false, false] #[true, true, false, true, false, false, false, false, true, false, false] rfl rfl rfl rfl (two_of HT_.out (by kernel_rfl)) (by decide) (by decide) (fun K hK => ?_) (fun K hK => ?_)
      · skip
        refine goes_ Try.func24 (by kernel_rfl) rfl #[.agg #[.int .u16 a1_0, .bool a1_1]] (by rfl) rfl rfl (by (try simp only [List.map_toArray, List.map_cons, List.map_nil]); first | done | rfl | (simp only [List.length_drop, List.length_take]; rfl)) ?_
        with_reducible refine (laws_toBank.calls a1_0 a1_1 t223 t224 _ A15.out).mono ?_
        rintro e w43 ⟨rfl, hb⟩
        refine ⟨_, rfl, ?_⟩
        have n0_ := Aside0.mk (Kd.R_below (by (with_reducible repeat (first | apply Kd.R_alloc | apply Kd.R_drewN | apply Kd.R_drew)); exact HO210.out) hb)
        have n1_ := Aside0.mk (Kd.R_below (by (with_reducible repeat (first | apply Kd.R_alloc | apply Kd.R_drewN | apply Kd.R_drew)); exact HO221.out) hb)
        have n2_ := Aside0.mk (blk_below (g := gb203) (o := .cells #[.int .i8 a0_0, .int .i8 a0_1, .slice A0_2 l0_2.length c0_2] 25 (0, 0)) (by (with_reducible repeat (first | refine blk_drewN ?_ _ | refine blk_drew ?_ | refine blk_alloc ?_ _)); exact BK203.out) hb)
        have n3_ := Aside0.mk (blk_below (g := gb204) (o := .cells #[.int .u16 a1_0, .bool a1_1] 39 (0, 0)) (by (with_reducible repeat (first | refine blk_drewN ?_ _ | refine blk_drew ?_ | refine blk_alloc ?_ _)); exact BK204.out) hb)
        have n4_ := Aside0.mk (blk_below (g := gb216) (o := .cells #[.int .u16 t213, .bool t214] 41 (0, 0)) (by (with_reducible repeat (first | refine blk_drewN ?_ _ | refine blk_drew ?_ | refine blk_alloc ?_ _)); exact BK216.out) hb)
        have n5_ := Aside0.mk (blk_below (g := gb222) (o := .cells #[.int .i8 t217, .int .i8 t218, .slice Ao40 t219.length co40] 28 (0, 0)) (by (with_reducible repeat (first | refine blk_drewN ?_ _ | refine blk_drew ?_ | refine blk_alloc ?_ _)); exact BK222.out) hb)
        have n6_ := Aside0.mk (below_step (by repeat (first | (with_reducible first | exact HB.out | apply below_alloc | apply pw_below_drewN | apply below_drew1 | refine below_set ?_ GE203.out | refine below_set ?_ GE204.out | refine below_set ?_ GE216.out | refine below_set ?_ GE222.out) | exact HB.out)) hb)
        clear HO210
        clear HO221
        clear BK203
        clear BK204
        clear BK216
        clear BK222
        clear HB
        have HO210 := n0_
        have HO221 := n1_
        have BK203 := n2_
        have BK204 := n3_
        have BK216 := n4_
        have BK222 := n5_
        have HB := n6_
        clear n0_ n1_ n2_ n3_ n4_ n5_ n6_
        (try clear hb)
        (try clear hb2)
        (try clear hk)
        (try clear hi)
        refine hK.out _ _ ⟨(blk_cell BK222.out 0).trans rfl, (blk_cell BK222.out 1).trans rfl, (blk_cell BK222.out 2).trans rfl, (blk_cell BK204.out 0).trans rfl, (blk_cell BK204.out 1).trans rfl⟩ (fun hHeld => ?_)
        clear hK K
        refine norm_ (a' := ?_) ?_ ?_
        rotate_left
        · show Act.put _ (some 32) _ = _
          simp only [Act.put, List.setIfInBounds_toArray, List.set_cons_zero, List.set_cons_succ, i64_w, i32_w]
          rfl
        refine two_ (i := 4) (j := 8) (Ni := some 34) (Nj := some 11) #[true, true, true, true, true, false, false, false, false, false, false] #[true, true, true, true, false, false, false, false, true, false, false] rfl rfl rfl rfl (two_of HT_.out (by kernel_rfl)) (by decide) (by decide) (fun K hK => ?_) (fun K hK => ?_)
        · skip
          refine goes_ Try.func35 (by kernel_rfl) rfl #[.agg #[.int .i8 t217, .int .i8 t218, .slice Ao40 t219.length co40], .agg #[.int .u16 t223, .bool t224], .int .u16 a2] (by rfl) rfl rfl (by (try simp only [List.map_toArray, List.map_cons, List.map_nil]); first | done | rfl | (simp only [List.length_drop, List.length_take]; rfl)) ?_
          with_reducible refine (impl_CrossWith.calls k t217 t218 _ _ t219 t223 t224 a2 t225 t226 t227 _ ?side1 ?side2 A16.out).mono ?_
          (case side1 => repeat (first | exact (Kd.R_reads' HO221.out).2.2 | (with_reducible refine Kd.C_alloc ?_ _) | (with_reducible refine Kd.C_drewN ?_ _) | (with_reducible refine Kd.C_drew ?_)))
          (case side2 => exact (Kd.R_reads' HO221.out).2.1)
          rintro e w44 ⟨rfl, hb⟩
          refine ⟨_, rfl, ?_⟩
          have n0_ := Aside0.mk (Kd.R_below (by (with_reducible repeat (first | apply Kd.R_alloc | apply Kd.R_drewN | apply Kd.R_drew)); exact HO210.out) hb)
          have n1_ := Aside0.mk (Kd.R_below (by (with_reducible repeat (first | apply Kd.R_alloc | apply Kd.R_drewN | apply Kd.R_drew)); exact HO221.out) hb)
          have n2_ := Aside0.mk (blk_below (g := gb203) (o := .cells #[.int .i8 a0_0, .int .i8 a0_1, .slice A0_2 l0_2.length c0_2] 25 (0, 0)) (by (with_reducible repeat (first | refine blk_drewN ?_ _ | refine blk_drew ?_ | refine blk_alloc ?_ _)); exact BK203.out) hb)
          have n3_ := Aside0.mk (blk_below (g := gb204) (o := .cells #[.int .u16 a1_0, .bool a1_1] 39 (0, 0)) (by (with_reducible repeat (first | refine blk_drewN ?_ _ | refine blk_drew ?_ | refine blk_alloc ?_ _)); exact BK204.out) hb)
          have n4_ := Aside0.mk (blk_below (g := gb216) (o := .cells #[.int .u16 t213, .bool t214] 41 (0, 0)) (by (with_reducible repeat (first | refine blk_drewN ?_ _ | refine blk_drew ?_ | refine blk_alloc ?_ _)); exact BK216.out) hb)
          have n5_ := Aside0.mk (blk_below (g := gb222) (o := .cells #[.int .i8 t217, .int .i8 t218, .slice Ao40 t219.length co40] 28 (0, 0)) (by (with_reducible repeat (first | refine blk_drewN ?_ _ | refine blk_drew ?_ | refine blk_alloc ?_ _)); exact BK222.out) hb)
          have n6_ := Aside0.mk (below_step (by repeat (first | (with_reducible first | exact HB.out | apply below_alloc | apply pw_below_drewN | apply below_drew1 | refine below_set ?_ GE203.out | refine below_set ?_ GE204.out | refine below_set ?_ GE216.out | refine below_set ?_ GE222.out) | exact HB.out)) hb)
          clear HO210
          clear HO221
          clear BK203
          clear BK204
          clear BK216
          clear BK222
          clear HB
          have HO210 := n0_
          have HO221 := n1_
          have BK203 := n2_
          have BK204 := n3_
          have BK216 := n4_
          have BK222 := n5_
          have HB := n6_
          clear n0_ n1_ n2_ n3_ n4_ n5_ n6_
          (try clear hb)
          (try clear hb2)
          (try clear hk)
          (try clear hi)
          refine hK.out _ _ ⟨(blk_cell BK222.out 0).trans rfl, (blk_cell BK222.out 1).trans rfl, (blk_cell BK222.out 2).trans rfl, (blk_cell BK204.out 0).trans rfl, (blk_cell BK204.out 1).trans rfl⟩ (fun hHeld => ?_)
          clear hK K
          refine norm_ (a' := ?_) ?_ ?_
          rotate_left
          · show Act.put _ (some 34) _ = _
            simp only [Act.put, List.setIfInBounds_toArray, List.set_cons_zero, List.set_cons_succ, i64_w, i32_w]
            rfl
          refine pure_ (i := 5) (N := some 29) (v := ?_) (a' := ?_) #[true, true, true, true, true, true, false, false, false, false, false] rfl rfl (any_of HT_.out (by kernel_rfl)) (fun _ _ _ h => h) (Or.inl ⟨by rfl, ?_⟩) ?_ ?_
          rotate_left
          · intro w'
            go_simp
            with_reducible rfl
          rotate_left
          · simp only [Act.put, List.setIfInBounds_toArray, List.set_cons_zero, List.set_cons_succ, i64_w, i32_w]
            rfl
          refine pure_ (i := 6) (N := some 35) (v := ?_) (a' := ?_) #[true, true, true, true, true, true, true, false, false, false, false] rfl rfl (any_of HT_.out (by kernel_rfl)) (fun _ _ _ h => h) (Or.inl ⟨by rfl, ?_⟩) ?_ ?_
          rotate_left
          · intro w'
            go_simp
            with_reducible rfl
          rotate_left
          · simp only [Act.put, List.setIfInBounds_toArray, List.set_cons_zero, List.set_cons_succ, i64_w, i32_w]
            rfl
          refine pure_ (i := 7) (N := some 36) (v := ?_) (a' := ?_) #[true, true, true, true, true, true, true, true, false, false, false] rfl rfl (any_of HT_.out (by kernel_rfl)) (fun _ _ _ h => h) (Or.inl ⟨by rfl, ?_⟩) ?_ ?_
          rotate_left
          · intro w'
            go_simp
            with_reducible rfl
          rotate_left
          · simp only [Act.put, List.setIfInBounds_toArray, List.set_cons_zero, List.set_cons_succ, i64_w, i32_w]
            rfl
          refine one_ (i := 8) (N := some 11) #[true, true, true, true, true, true, true, true, true, false, false] rfl rfl (one_of HT_.out (by kernel_rfl)) (by decide) (fun K hK => ?_)
          refine box_step ?hg (N := 11) ?hd (cs := #[.int .u16 0, .bool false]) (t := 41) ?hr ?_; (case hd => rfl); (case hg => rfl); (case hr => first | (go_simp; done) | (go_simp; rfl))
          intro gb228 hg w45 hbox hb
          have n0_ := Aside0.mk (Kd.R_below (by (with_reducible repeat (first | apply Kd.R_alloc | apply Kd.R_drewN | apply Kd.R_drew)); exact HO210.out) hb)
          have n1_ := Aside0.mk (Kd.R_below (by (with_reducible repeat (first | apply Kd.R_alloc | apply Kd.R_drewN | apply Kd.R_drew)); exact HO221.out) hb)
          have n2_ := Aside0.mk (blk_below (g := gb203) (o := .cells #[.int .i8 a0_0, .int .i8 a0_1, .slice A0_2 l0_2.length c0_2] 25 (0, 0)) (by (with_reducible repeat (first | refine blk_drewN ?_ _ | refine blk_drew ?_ | refine blk_alloc ?_ _)); exact BK203.out) hb)
          have n3_ := Aside0.mk (blk_below (g := gb204) (o := .cells #[.int .u16 a1_0, .bool a1_1] 39 (0, 0)) (by (with_reducible repeat (first | refine blk_drewN ?_ _ | refine blk_drew ?_ | refine blk_alloc ?_ _)); exact BK204.out) hb)
          have n4_ := Aside0.mk (blk_below (g := gb216) (o := .cells #[.int .u16 t213, .bool t214] 41 (0, 0)) (by (with_reducible repeat (first | refine blk_drewN ?_ _ | refine blk_drew ?_ | refine blk_alloc ?_ _)); exact BK216.out) hb)
          have n5_ := Aside0.mk (blk_below (g := gb222) (o := .cells #[.int .i8 t217, .int .i8 t218, .slice Ao40 t219.length co40] 28 (0, 0)) (by (with_reducible repeat (first | refine blk_drewN ?_ _ | refine blk_drew ?_ | refine blk_alloc ?_ _)); exact BK222.out) hb)
          have n6_ := Aside0.mk (below_step (by repeat (first | (with_reducible first | exact HB.out | apply below_alloc | apply pw_below_drewN | apply below_drew1 | refine below_set ?_ GE203.out | refine below_set ?_ GE204.out | refine below_set ?_ GE216.out | refine below_set ?_ GE222.out) | exact HB.out)) hb)
          have n7_ := Aside0.mk (hbox)
          have n8_ := Aside0.mk ((by rw [hg]; exact (below_size (by repeat (first | (with_reducible first | exact HB.out | apply below_alloc | apply pw_below_drewN | apply below_drew1 | refine below_set ?_ GE203.out | refine below_set ?_ GE204.out | refine below_set ?_ GE216.out | refine below_set ?_ GE222.out) | exact HB.out))) : w.heap.size ≤ gb228))
          have n9_ := Aside0.mk ((by rw [hg]; exact (below_size (by repeat (first | (with_reducible first | exact HB.out | apply below_alloc | apply pw_below_drewN | apply below_drew1 | refine below_set ?_ GE203.out | refine below_set ?_ GE204.out | refine below_set ?_ GE216.out | refine below_set ?_ GE222.out) | exact HB.out))) : w.heap.size ≤ gb228))
          have n10_ := Aside0.mk ((by rw [hg]; exact Nat.ne_of_lt (blk_lt (g := gb203) (o := .cells #[.int .i8 a0_0, .int .i8 a0_1, .slice A0_2 l0_2.length c0_2] 25 (0, 0)) (by (with_reducible repeat (first | refine blk_drewN ?_ _ | refine blk_drew ?_ | refine blk_alloc ?_ _)); exact BK203.out)) : gb203 ≠ gb228))
          have n11_ := Aside0.mk ((by rw [hg]; exact Nat.ne_of_gt (blk_lt (g := gb203) (o := .cells #[.int .i8 a0_0, .int .i8 a0_1, .slice A0_2 l0_2.length c0_2] 25 (0, 0)) (by (with_reducible repeat (first | refine blk_drewN ?_ _ | refine blk_drew ?_ | refine blk_alloc ?_ _)); exact BK203.out)) : gb228 ≠ gb203))
          have n12_ := Aside0.mk ((by rw [hg]; exact Nat.ne_of_lt (blk_lt (g := gb204) (o := .cells #[.int .u16 a1_0, .bool a1_1] 39 (0, 0)) (by (with_reducible repeat (first | refine blk_drewN ?_ _ | refine blk_drew ?_ | refine blk_alloc ?_ _)); exact BK204.out)) : gb204 ≠ gb228))
          have n13_ := Aside0.mk ((by rw [hg]; exact Nat.ne_of_gt (blk_lt (g := gb204) (o := .cells #[.int .u16 a1_0, .bool a1_1] 39 (0, 0)) (by (with_reducible repeat (first | refine blk_drewN ?_ _ | refine blk_drew ?_ | refine blk_alloc ?_ _)); exact BK204.out)) : gb228 ≠ gb204))
          have n14_ := Aside0.mk ((by rw [hg]; exact Nat.ne_of_lt (blk_lt (g := gb216) (o := .cells #[.int .u16 t213, .bool t214] 41 (0, 0)) (by (with_reducible repeat (first | refine blk_drewN ?_ _ | refine blk_drew ?_ | refine blk_alloc ?_ _)); exact BK216.out)) : gb216 ≠ gb228))
          have n15_ := Aside0.mk ((by rw [hg]; exact Nat.ne_of_gt (blk_lt (g := gb216) (o := .cells #[.int .u16 t213, .bool t214] 41 (0, 0)) (by (with_reducible repeat (first | refine blk_drewN ?_ _ | refine blk_drew ?_ | refine blk_alloc ?_ _)); exact BK216.out)) : gb228 ≠ gb216))
          have n16_ := Aside0.mk ((by rw [hg]; exact Nat.ne_of_lt (blk_lt (g := gb222) (o := .cells #[.int .i8 t217, .int .i8 t218, .slice Ao40 t219.length co40] 28 (0, 0)) (by (with_reducible repeat (first | refine blk_drewN ?_ _ | refine blk_drew ?_ | refine blk_alloc ?_ _)); exact BK222.out)) : gb222 ≠ gb228))
          have n17_ := Aside0.mk ((by rw [hg]; exact Nat.ne_of_gt (blk_lt (g := gb222) (o := .cells #[.int .i8 t217, .int .i8 t218, .slice Ao40 t219.length co40] 28 (0, 0)) (by (with_reducible repeat (first | refine blk_drewN ?_ _ | refine blk_drew ?_ | refine blk_alloc ?_ _)); exact BK222.out)) : gb228 ≠ gb222))
          clear HO210
          clear HO221
          clear BK203
          clear BK204
          clear BK216
          clear BK222
          clear HB
          have HO210 := n0_
          have HO221 := n1_
          have BK203 := n2_
          have BK204 := n3_
          have BK216 := n4_
          have BK222 := n5_
          have HB := n6_
          have BK228 := n7_
          have GW228 := n8_
          have GE228 := n9_
          have NB203_228 := n10_
          have NB228_203 := n11_
          have NB204_228 := n12_
          have NB228_204 := n13_
          have NB216_228 := n14_
          have NB228_216 := n15_
          have NB222_228 := n16_
          have NB228_222 := n17_
          clear n0_ n1_ n2_ n3_ n4_ n5_ n6_ n7_ n8_ n9_ n10_ n11_ n12_ n13_ n14_ n15_ n16_ n17_
          clear hb hbox hg
          refine hK.out _ _ ⟨(blk_cell BK222.out 0).trans rfl, (blk_cell BK222.out 1).trans rfl, (blk_cell BK222.out 2).trans rfl, (blk_cell BK204.out 0).trans rfl, (blk_cell BK204.out 1).trans rfl⟩ (fun hHeld => ?_)
          clear hK K
          refine norm_ (a' := ?_) ?_ ?_
          rotate_left
          · show Act.put _ (some 11) _ = _
            simp only [Act.put, List.setIfInBounds_toArray, List.set_cons_zero, List.set_cons_succ, i64_w, i32_w]
            rfl
          exact norm_ (by simp only [putAll, Act.put, List.setIfInBounds_toArray, List.set_cons_zero, List.set_cons_succ]) (hCont (gb228) _ ⟨hHeld, (by (with_reducible repeat (first | apply Kd.R_alloc | apply Kd.R_drewN | apply Kd.R_drew)); exact HO210.out), (by (with_reducible repeat (first | apply Kd.R_alloc | apply Kd.R_drewN | apply Kd.R_drew)); exact HO221.out), (by (with_reducible repeat (first | refine blk_drewN ?_ _ | refine blk_drew ?_ | refine blk_alloc ?_ _)); exact BK203.out), (by (with_reducible repeat (first | refine blk_drewN ?_ _ | refine blk_drew ?_ | refine blk_alloc ?_ _)); exact BK204.out), (by (with_reducible repeat (first | refine blk_drewN ?_ _ | refine blk_drew ?_ | refine blk_alloc ?_ _)); exact BK216.out), (by (with_reducible repeat (first | refine blk_drewN ?_ _ | refine blk_drew ?_ | refine blk_alloc ?_ _)); exact BK222.out), (by (with_reducible repeat (first | refine blk_drewN ?_ _ | refine blk_drew ?_ | refine blk_alloc ?_ _)); exact BK228.out), GW228.out, GE228.out, NB203_228.out, NB228_203.out, NB204_228.out, NB228_204.out, NB216_228.out, NB228_216.out, NB222_228.out, NB228_222.out, (by repeat (first | (with_reducible first | exact HB.out | apply below_alloc | apply pw_below_drewN | apply below_drew1 | refine below_set ?_ GE203.out | refine below_set ?_ GE204.out | refine below_set ?_ GE216.out | refine below_set ?_ GE222.out | refine below_set ?_ GE228.out) | exact HB.out))⟩)
        · skip
          refine box_step ?hg (N := 11) ?hd (cs := #[.int .u16 0, .bool false]) (t := 41) ?hr ?_; (case hd => rfl); (case hg => rfl); (case hr => first | (go_simp; done) | (go_simp; rfl))
          intro gb228 hg w44 hbox hb
          have n0_ := Aside0.mk (Kd.R_below (by (with_reducible repeat (first | apply Kd.R_alloc | apply Kd.R_drewN | apply Kd.R_drew)); exact HO210.out) hb)
          have n1_ := Aside0.mk (Kd.R_below (by (with_reducible repeat (first | apply Kd.R_alloc | apply Kd.R_drewN | apply Kd.R_drew)); exact HO221.out) hb)
          have n2_ := Aside0.mk (blk_below (g := gb203) (o := .cells #[.int .i8 a0_0, .int .i8 a0_1, .slice A0_2 l0_2.length c0_2] 25 (0, 0)) (by (with_reducible repeat (first | refine blk_drewN ?_ _ | refine blk_drew ?_ | refine blk_alloc ?_ _)); exact BK203.out) hb)
          have n3_ := Aside0.mk (blk_below (g := gb204) (o := .cells #[.int .u16 a1_0, .bool a1_1] 39 (0, 0)) (by (with_reducible repeat (first | refine blk_drewN ?_ _ | refine blk_drew ?_ | refine blk_alloc ?_ _)); exact BK204.out) hb)
          have n4_ := Aside0.mk (blk_below (g := gb216) (o := .cells #[.int .u16 t213, .bool t214] 41 (0, 0)) (by (with_reducible repeat (first | refine blk_drewN ?_ _ | refine blk_drew ?_ | refine blk_alloc ?_ _)); exact BK216.out) hb)
          have n5_ := Aside0.mk (blk_below (g := gb222) (o := .cells #[.int .i8 t217, .int .i8 t218, .slice Ao40 t219.length co40] 28 (0, 0)) (by (with_reducible repeat (first | refine blk_drewN ?_ _ | refine blk_drew ?_ | refine blk_alloc ?_ _)); exact BK222.out) hb)
          have n6_ := Aside0.mk (below_step (by repeat (first | (with_reducible first | exact HB.out | apply below_alloc | apply pw_below_drewN | apply below_drew1 | refine below_set ?_ GE203.out | refine below_set ?_ GE204.out | refine below_set ?_ GE216.out | refine below_set ?_ GE222.out) | exact HB.out)) hb)
          have n7_ := Aside0.mk (hbox)
          have n8_ := Aside0.mk ((by rw [hg]; exact (below_size (by repeat (first | (with_reducible first | exact HB.out | apply below_alloc | apply pw_below_drewN | apply below_drew1 | refine below_set ?_ GE203.out | refine below_set ?_ GE204.out | refine below_set ?_ GE216.out | refine below_set ?_ GE222.out) | exact HB.out))) : w.heap.size ≤ gb228))
          have n9_ := Aside0.mk ((by rw [hg]; exact (below_size (by repeat (first | (with_reducible first | exact HB.out | apply below_alloc | apply pw_below_drewN | apply below_drew1 | refine below_set ?_ GE203.out | refine below_set ?_ GE204.out | refine below_set ?_ GE216.out | refine below_set ?_ GE222.out) | exact HB.out))) : w.heap.size ≤ gb228))
          have n10_ := Aside0.mk ((by rw [hg]; exact Nat.ne_of_lt (blk_lt (g := gb203) (o := .cells #[.int .i8 a0_0, .int .i8 a0_1, .slice A0_2 l0_2.length c0_2] 25 (0, 0)) (by (with_reducible repeat (first | refine blk_drewN ?_ _ | refine blk_drew ?_ | refine blk_alloc ?_ _)); exact BK203.out)) : gb203 ≠ gb228))
          have n11_ := Aside0.mk ((by rw [hg]; exact Nat.ne_of_gt (blk_lt (g := gb203) (o := .cells #[.int .i8 a0_0, .int .i8 a0_1, .slice A0_2 l0_2.length c0_2] 25 (0, 0)) (by (with_reducible repeat (first | refine blk_drewN ?_ _ | refine blk_drew ?_ | refine blk_alloc ?_ _)); exact BK203.out)) : gb228 ≠ gb203))
          have n12_ := Aside0.mk ((by rw [hg]; exact Nat.ne_of_lt (blk_lt (g := gb204) (o := .cells #[.int .u16 a1_0, .bool a1_1] 39 (0, 0)) (by (with_reducible repeat (first | refine blk_drewN ?_ _ | refine blk_drew ?_ | refine blk_alloc ?_ _)); exact BK204.out)) : gb204 ≠ gb228))
          have n13_ := Aside0.mk ((by rw [hg]; exact Nat.ne_of_gt (blk_lt (g := gb204) (o := .cells #[.int .u16 a1_0, .bool a1_1] 39 (0, 0)) (by (with_reducible repeat (first | refine blk_drewN ?_ _ | refine blk_drew ?_ | refine blk_alloc ?_ _)); exact BK204.out)) : gb228 ≠ gb204))
          have n14_ := Aside0.mk ((by rw [hg]; exact Nat.ne_of_lt (blk_lt (g := gb216) (o := .cells #[.int .u16 t213, .bool t214] 41 (0, 0)) (by (with_reducible repeat (first | refine blk_drewN ?_ _ | refine blk_drew ?_ | refine blk_alloc ?_ _)); exact BK216.out)) : gb216 ≠ gb228))
          have n15_ := Aside0.mk ((by rw [hg]; exact Nat.ne_of_gt (blk_lt (g := gb216) (o := .cells #[.int .u16 t213, .bool t214] 41 (0, 0)) (by (with_reducible repeat (first | refine blk_drewN ?_ _ | refine blk_drew ?_ | refine blk_alloc ?_ _)); exact BK216.out)) : gb228 ≠ gb216))
          have n16_ := Aside0.mk ((by rw [hg]; exact Nat.ne_of_lt (blk_lt (g := gb222) (o := .cells #[.int .i8 t217, .int .i8 t218, .slice Ao40 t219.length co40] 28 (0, 0)) (by (with_reducible repeat (first | refine blk_drewN ?_ _ | refine blk_drew ?_ | refine blk_alloc ?_ _)); exact BK222.out)) : gb222 ≠ gb228))
          have n17_ := Aside0.mk ((by rw [hg]; exact Nat.ne_of_gt (blk_lt (g := gb222) (o := .cells #[.int .i8 t217, .int .i8 t218, .slice Ao40 t219.length co40] 28 (0, 0)) (by (with_reducible repeat (first | refine blk_drewN ?_ _ | refine blk_drew ?_ | refine blk_alloc ?_ _)); exact BK222.out)) : gb228 ≠ gb222))
          clear HO210
          clear HO221
          clear BK203
          clear BK204
          clear BK216
          clear BK222
          clear HB
          have HO210 := n0_
          have HO221 := n1_
          have BK203 := n2_
          have BK204 := n3_
          have BK216 := n4_
          have BK222 := n5_
          have HB := n6_
          have BK228 := n7_
          have GW228 := n8_
          have GE228 := n9_
          have NB203_228 := n10_
          have NB228_203 := n11_
          have NB204_228 := n12_
          have NB228_204 := n13_
          have NB216_228 := n14_
          have NB228_216 := n15_
          have NB222_228 := n16_
          have NB228_222 := n17_
          clear n0_ n1_ n2_ n3_ n4_ n5_ n6_ n7_ n8_ n9_ n10_ n11_ n12_ n13_ n14_ n15_ n16_ n17_
          clear hb hbox hg
          refine hK.out _ _ ⟨(blk_cell BK222.out 0).trans rfl, (blk_cell BK222.out 1).trans rfl, (blk_cell BK222.out 2).trans rfl, (blk_cell BK204.out 0).trans rfl, (blk_cell BK204.out 1).trans rfl⟩ (fun hHeld => ?_)
          clear hK K
          refine norm_ (a' := ?_) ?_ ?_
          rotate_left
          · show Act.put _ (some 11) _ = _
            simp only [Act.put, List.setIfInBounds_toArray, List.set_cons_zero, List.set_cons_succ, i64_w, i32_w]
            rfl
          refine one_ (i := 4) (N := some 34) #[true, true, true, true, true, false, false, false, true, false, false] rfl rfl (one_of HT_.out (by kernel_rfl)) (by decide) (fun K hK => ?_)
          refine goes_ Try.func35 (by kernel_rfl) rfl #[.agg #[.int .i8 t217, .int .i8 t218, .slice Ao40 t219.length co40], .agg #[.int .u16 t223, .bool t224], .int .u16 a2] (by rfl) rfl rfl (by (try simp only [List.map_toArray, List.map_cons, List.map_nil]); first | done | rfl | (simp only [List.length_drop, List.length_take]; rfl)) ?_
          with_reducible refine (impl_CrossWith.calls k t217 t218 _ _ t219 t223 t224 a2 t225 t226 t227 _ ?side1 ?side2 A16.out).mono ?_
          (case side1 => repeat (first | exact (Kd.R_reads' HO221.out).2.2 | (with_reducible refine Kd.C_alloc ?_ _) | (with_reducible refine Kd.C_drewN ?_ _) | (with_reducible refine Kd.C_drew ?_)))
          (case side2 => exact (Kd.R_reads' HO221.out).2.1)
          rintro e w45 ⟨rfl, hb⟩
          refine ⟨_, rfl, ?_⟩
          have n0_ := Aside0.mk (Kd.R_below (by (with_reducible repeat (first | apply Kd.R_alloc | apply Kd.R_drewN | apply Kd.R_drew)); exact HO210.out) hb)
          have n1_ := Aside0.mk (Kd.R_below (by (with_reducible repeat (first | apply Kd.R_alloc | apply Kd.R_drewN | apply Kd.R_drew)); exact HO221.out) hb)
          have n2_ := Aside0.mk (blk_below (g := gb203) (o := .cells #[.int .i8 a0_0, .int .i8 a0_1, .slice A0_2 l0_2.length c0_2] 25 (0, 0)) (by (with_reducible repeat (first | refine blk_drewN ?_ _ | refine blk_drew ?_ | refine blk_alloc ?_ _)); exact BK203.out) hb)
          have n3_ := Aside0.mk (blk_below (g := gb204) (o := .cells #[.int .u16 a1_0, .bool a1_1] 39 (0, 0)) (by (with_reducible repeat (first | refine blk_drewN ?_ _ | refine blk_drew ?_ | refine blk_alloc ?_ _)); exact BK204.out) hb)
          have n4_ := Aside0.mk (blk_below (g := gb216) (o := .cells #[.int .u16 t213, .bool t214] 41 (0, 0)) (by (with_reducible repeat (first | refine blk_drewN ?_ _ | refine blk_drew ?_ | refine blk_alloc ?_ _)); exact BK216.out) hb)
          have n5_ := Aside0.mk (blk_below (g := gb222) (o := .cells #[.int .i8 t217, .int .i8 t218, .slice Ao40 t219.length co40] 28 (0, 0)) (by (with_reducible repeat (first | refine blk_drewN ?_ _ | refine blk_drew ?_ | refine blk_alloc ?_ _)); exact BK222.out) hb)
          have n6_ := Aside0.mk (blk_below (g := gb228) (o := .cells #[.int .u16 0, .bool false] 41 (0, 0)) (by (with_reducible repeat (first | refine blk_drewN ?_ _ | refine blk_drew ?_ | refine blk_alloc ?_ _)); exact BK228.out) hb)
          have n7_ := Aside0.mk (below_step (by repeat (first | (with_reducible first | exact HB.out | apply below_alloc | apply pw_below_drewN | apply below_drew1 | refine below_set ?_ GE203.out | refine below_set ?_ GE204.out | refine below_set ?_ GE216.out | refine below_set ?_ GE222.out | refine below_set ?_ GE228.out) | exact HB.out)) hb)
          clear HO210
          clear HO221
          clear BK203
          clear BK204
          clear BK216
          clear BK222
          clear BK228
          clear HB
          have HO210 := n0_
          have HO221 := n1_
          have BK203 := n2_
          have BK204 := n3_
          have BK216 := n4_
          have BK222 := n5_
          have BK228 := n6_
          have HB := n7_
          clear n0_ n1_ n2_ n3_ n4_ n5_ n6_ n7_
          (try clear hb)
          (try clear hb2)
          (try clear hk)
          (try clear hi)
          refine hK.out _ _ ⟨(blk_cell BK222.out 0).trans rfl, (blk_cell BK222.out 1).trans rfl, (blk_cell BK222.out 2).trans rfl, (blk_cell BK204.out 0).trans rfl, (blk_cell BK204.out 1).trans rfl⟩ (fun hHeld => ?_)
          clear hK K
          refine norm_ (a' := ?_) ?_ ?_
          rotate_left
          · show Act.put _ (some 34) _ = _
            simp only [Act.put, List.setIfInBounds_toArray, List.set_cons_zero, List.set_cons_succ, i64_w, i32_w]
            rfl
          refine pure_ (i := 5) (N := some 29) (v := ?_) (a' := ?_) #[true, true, true, true, true, true, false, false, true, false, false] rfl rfl (any_of HT_.out (by kernel_rfl)) (fun _ _ _ h => h) (Or.inl ⟨by rfl, ?_⟩) ?_ ?_
          rotate_left
          · intro w'
            go_simp
            with_reducible rfl
          rotate_left
          · simp only [Act.put, List.setIfInBounds_toArray, List.set_cons_zero, List.set_cons_succ, i64_w, i32_w]
            rfl
          refine pure_ (i := 6) (N := some 35) (v := ?_) (a' := ?_) #[true, true, true, true, true, true, true, false, true, false, false] rfl rfl (any_of HT_.out (by kernel_rfl)) (fun _ _ _ h => h) (Or.inl ⟨by rfl, ?_⟩) ?_ ?_
          rotate_left
          · intro w'
            go_simp
            with_reducible rfl
          rotate_left
          · simp only [Act.put, List.setIfInBounds_toArray, List.set_cons_zero, List.set_cons_succ, i64_w, i32_w]
            rfl
          refine pure_ (i := 7) (N := some 36) (v := ?_) (a' := ?_) #[true, true, true, true, true, true, true, true, true, false, false] rfl rfl (any_of HT_.out (by kernel_rfl)) (fun _ _ _ h => h) (Or.inl ⟨by rfl, ?_⟩) ?_ ?_
          rotate_left
          · intro w'
            go_simp
            with_reducible rfl
          rotate_left
          · simp only [Act.put, List.setIfInBounds_toArray, List.set_cons_zero, List.set_cons_succ, i64_w, i32_w]
            rfl
          exact norm_ (by simp only [putAll, Act.put, List.setIfInBounds_toArray, List.set_cons_zero, List.set_cons_succ]) (hCont (gb228) _ ⟨hHeld, (by (with_reducible repeat (first | apply Kd.R_alloc | apply Kd.R_drewN | apply Kd.R_drew)); exact HO210.out), (by (with_reducible repeat (first | apply Kd.R_alloc | apply Kd.R_drewN | apply Kd.R_drew)); exact HO221.out), (by (with_reducible repeat (first | refine blk_drewN ?_ _ | refine blk_drew ?_ | refine blk_alloc ?_ _)); exact BK203.out), (by (with_reducible repeat (first | refine blk_drewN ?_ _ | refine blk_drew ?_ | refine blk_alloc ?_ _)); exact BK204.out), (by (with_reducible repeat (first | refine blk_drewN ?_ _ | refine blk_drew ?_ | refine blk_alloc ?_ _)); exact BK216.out), (by (with_reducible repeat (first | refine blk_drewN ?_ _ | refine blk_drew ?_ | refine blk_alloc ?_ _)); exact BK222.out), (by (with_reducible repeat (first | refine blk_drewN ?_ _ | refine blk_drew ?_ | refine blk_alloc ?_ _)); exact BK228.out), GW228.out, GE228.out, NB203_228.out, NB228_203.out, NB204_228.out, NB228_204.out, NB216_228.out, NB228_216.out, NB222_228.out, NB228_222.out, (by repeat (first | (with_reducible first | exact HB.out | apply below_alloc | apply pw_below_drewN | apply below_drew1 | refine below_set ?_ GE203.out | refine below_set ?_ GE204.out | refine below_set ?_ GE216.out | refine below_set ?_ GE222.out | refine below_set ?_ GE228.out) | exact HB.out))⟩)
      · skip
        refine box_step ?hg (N := 11) ?hd (cs := #[.int .u16 0, .bool false]) (t := 41) ?hr ?_; (case hd => rfl); (case hg => rfl); (case hr => first | (go_simp; done) | (go_simp; rfl))
        intro gb228 hg w43 hbox hb
        have n0_ := Aside0.mk (Kd.R_below (by (with_reducible repeat (first | apply Kd.R_alloc | apply Kd.R_drewN | apply Kd.R_drew)); exact HO210.out) hb)
        have n1_ := Aside0.mk (Kd.R_below (by (with_reducible repeat (first | apply Kd.R_alloc | apply Kd.R_drewN | apply Kd.R_drew)); exact HO221.out) hb)
        have n2_ := Aside0.mk (blk_below (g := gb203) (o := .cells #[.int .i8 a0_0, .int .i8 a0_1, .slice A0_2 l0_2.length c0_2] 25 (0, 0)) (by (with_reducible repeat (first | refine blk_drewN ?_ _ | refine blk_drew ?_ | refine blk_alloc ?_ _)); exact BK203.out) hb)
        have n3_ := Aside0.mk (blk_below (g := gb204) (o := .cells #[.int .u16 a1_0, .bool a1_1] 39 (0, 0)) (by (with_reducible repeat (first | refine blk_drewN ?_ _ | refine blk_drew ?_ | refine blk_alloc ?_ _)); exact BK204.out) hb)
        have n4_ := Aside0.mk (blk_below (g := gb216) (o := .cells #[.int .u16 t213, .bool t214] 41 (0, 0)) (by (with_reducible repeat (first | refine blk_drewN ?_ _ | refine blk_drew ?_ | refine blk_alloc ?_ _)); exact BK216.out) hb)
        have n5_ := Aside0.mk (blk_below (g := gb222) (o := .cells #[.int .i8 t217, .int .i8 t218, .slice Ao40 t219.length co40] 28 (0, 0)) (by (with_reducible repeat (first | refine blk_drewN ?_ _ | refine blk_drew ?_ | refine blk_alloc ?_ _)); exact BK222.out) hb)
        have n6_ := Aside0.mk (below_step (by repeat (first | (with_reducible first | exact HB.out | apply below_alloc | apply pw_below_drewN | apply below_drew1 | refine below_set ?_ GE203.out | refine below_set ?_ GE204.out | refine below_set ?_ GE216.out | refine below_set ?_ GE222.out) | exact HB.out)) hb)
        have n7_ := Aside0.mk (hbox)
        have n8_ := Aside0.mk ((by rw [hg]; exact (below_size (by repeat (first | (with_reducible first | exact HB.out | apply below_alloc | apply pw_below_drewN | apply below_drew1 | refine below_set ?_ GE203.out | refine below_set ?_ GE204.out | refine below_set ?_ GE216.out | refine below_set ?_ GE222.out) | exact HB.out))) : w.heap.size ≤ gb228))
        have n9_ := Aside0.mk ((by rw [hg]; exact (below_size (by repeat (first | (with_reducible first | exact HB.out | apply below_alloc | apply pw_below_drewN | apply below_drew1 | refine below_set ?_ GE203.out | refine below_set ?_ GE204.out | refine below_set ?_ GE216.out | refine below_set ?_ GE222.out) | exact HB.out))) : w.heap.size ≤ gb228))
        have n10_ := Aside0.mk ((by rw [hg]; exact Nat.ne_of_lt (blk_lt (g := gb203) (o := .cells #[.int .i8 a0_0, .int .i8 a0_1, .slice A0_2 l0_2.length c0_2] 25 (0, 0)) (by (with_reducible repeat (first | refine blk_drewN ?_ _ | refine blk_drew ?_ | refine blk_alloc ?_ _)); exact BK203.out)) : gb203 ≠ gb228))
        have n11_ := Aside0.mk ((by rw [hg]; exact Nat.ne_of_gt (blk_lt (g := gb203) (o := .cells #[.int .i8 a0_0, .int .i8 a0_1, .slice A0_2 l0_2.length c0_2] 25 (0, 0)) (by (with_reducible repeat (first | refine blk_drewN ?_ _ | refine blk_drew ?_ | refine blk_alloc ?_ _)); exact BK203.out)) : gb228 ≠ gb203))
        have n12_ := Aside0.mk ((by rw [hg]; exact Nat.ne_of_lt (blk_lt (g := gb204) (o := .cells #[.int .u16 a1_0, .bool a1_1] 39 (0, 0)) (by (with_reducible repeat (first | refine blk_drewN ?_ _ | refine blk_drew ?_ | refine blk_alloc ?_ _)); exact BK204.out)) : gb204 ≠ gb228))
        have n13_ := Aside0.mk ((by rw [hg]; exact Nat.ne_of_gt (blk_lt (g := gb204) (o := .cells #[.int .u16 a1_0, .bool a1_1] 39 (0, 0)) (by (with_reducible repeat (first | refine blk_drewN ?_ _ | refine blk_drew ?_ | refine blk_alloc ?_ _)); exact BK204.out)) : gb228 ≠ gb204))
        have n14_ := Aside0.mk ((by rw [hg]; exact Nat.ne_of_lt (blk_lt (g := gb216) (o := .cells #[.int .u16 t213, .bool t214] 41 (0, 0)) (by (with_reducible repeat (first | refine blk_drewN ?_ _ | refine blk_drew ?_ | refine blk_alloc ?_ _)); exact BK216.out)) : gb216 ≠ gb228))
        have n15_ := Aside0.mk ((by rw [hg]; exact Nat.ne_of_gt (blk_lt (g := gb216) (o := .cells #[.int .u16 t213, .bool t214] 41 (0, 0)) (by (with_reducible repeat (first | refine blk_drewN ?_ _ | refine blk_drew ?_ | refine blk_alloc ?_ _)); exact BK216.out)) : gb228 ≠ gb216))
        have n16_ := Aside0.mk ((by rw [hg]; exact Nat.ne_of_lt (blk_lt (g := gb222) (o := .cells #[.int .i8 t217, .int .i8 t218, .slice Ao40 t219.length co40] 28 (0, 0)) (by (with_reducible repeat (first | refine blk_drewN ?_ _ | refine blk_drew ?_ | refine blk_alloc ?_ _)); exact BK222.out)) : gb222 ≠ gb228))
        have n17_ := Aside0.mk ((by rw [hg]; exact Nat.ne_of_gt (blk_lt (g := gb222) (o := .cells #[.int .i8 t217, .int .i8 t218, .slice Ao40 t219.length co40] 28 (0, 0)) (by (with_reducible repeat (first | refine blk_drewN ?_ _ | refine blk_drew ?_ | refine blk_alloc ?_ _)); exact BK222.out)) : gb228 ≠ gb222))
        clear HO210
        clear HO221
        clear BK203
        clear BK204
        clear BK216
        clear BK222
        clear HB
        have HO210 := n0_
        have HO221 := n1_
        have BK203 := n2_
        have BK204 := n3_
        have BK216 := n4_
        have BK222 := n5_
        have HB := n6_
        have BK228 := n7_
        have GW228 := n8_
        have GE228 := n9_
        have NB203_228 := n10_
        have NB228_203 := n11_
        have NB204_228 := n12_
        have NB228_204 := n13_
        have NB216_228 := n14_
        have NB228_216 := n15_
        have NB222_228 := n16_
        have NB228_222 := n17_
        clear n0_ n1_ n2_ n3_ n4_ n5_ n6_ n7_ n8_ n9_ n10_ n11_ n12_ n13_ n14_ n15_ n16_ n17_
        clear hb hbox hg
        refine hK.out _ _ ⟨(blk_cell BK222.out 0).trans rfl, (blk_cell BK222.out 1).trans rfl, (blk_cell BK222.out 2).trans rfl, (blk_cell BK204.out 0).trans rfl, (blk_cell BK204.out 1).trans rfl⟩ (fun hHeld => ?_)
        clear hK K
        refine norm_ (a' := ?_) ?_ ?_
        rotate_left
        · show Act.put _ (some 11) _ = _
          simp only [Act.put, List.setIfInBounds_toArray, List.set_cons_zero, List.set_cons_succ, i64_w, i32_w]
          rfl
        refine one_ (i := 2) (N := some 32) #[true, true, true, true, false, false, false, false, true, false, false] rfl rfl (one_of HT_.out (by kernel_rfl)) (by decide) (fun K hK => ?_)
        refine goes_ Try.func24 (by kernel_rfl) rfl #[.agg #[.int .u16 a1_0, .bool a1_1]] (by rfl) rfl rfl (by (try simp only [List.map_toArray, List.map_cons, List.map_nil]); first | done | rfl | (simp only [List.length_drop, List.length_take]; rfl)) ?_
        with_reducible refine (laws_toBank.calls a1_0 a1_1 t223 t224 _ A15.out).mono ?_
        rintro e w44 ⟨rfl, hb⟩
        refine ⟨_, rfl, ?_⟩
        have n0_ := Aside0.mk (Kd.R_below (by (with_reducible repeat (first | apply Kd.R_alloc | apply Kd.R_drewN | apply Kd.R_drew)); exact HO210.out) hb)
        have n1_ := Aside0.mk (Kd.R_below (by (with_reducible repeat (first | apply Kd.R_alloc | apply Kd.R_drewN | apply Kd.R_drew)); exact HO221.out) hb)
        have n2_ := Aside0.mk (blk_below (g := gb203) (o := .cells #[.int .i8 a0_0, .int .i8 a0_1, .slice A0_2 l0_2.length c0_2] 25 (0, 0)) (by (with_reducible repeat (first | refine blk_drewN ?_ _ | refine blk_drew ?_ | refine blk_alloc ?_ _)); exact BK203.out) hb)
        have n3_ := Aside0.mk (blk_below (g := gb204) (o := .cells #[.int .u16 a1_0, .bool a1_1] 39 (0, 0)) (by (with_reducible repeat (first | refine blk_drewN ?_ _ | refine blk_drew ?_ | refine blk_alloc ?_ _)); exact BK204.out) hb)
        have n4_ := Aside0.mk (blk_below (g := gb216) (o := .cells #[.int .u16 t213, .bool t214] 41 (0, 0)) (by (with_reducible repeat (first | refine blk_drewN ?_ _ | refine blk_drew ?_ | refine blk_alloc ?_ _)); exact BK216.out) hb)
        have n5_ := Aside0.mk (blk_below (g := gb222) (o := .cells #[.int .i8 t217, .int .i8 t218, .slice Ao40 t219.length co40] 28 (0, 0)) (by (with_reducible repeat (first | refine blk_drewN ?_ _ | refine blk_drew ?_ | refine blk_alloc ?_ _)); exact BK222.out) hb)
        have n6_ := Aside0.mk (blk_below (g := gb228) (o := .cells #[.int .u16 0, .bool false] 41 (0, 0)) (by (with_reducible repeat (first | refine blk_drewN ?_ _ | refine blk_drew ?_ | refine blk_alloc ?_ _)); exact BK228.out) hb)
        have n7_ := Aside0.mk (below_step (by repeat (first | (with_reducible first | exact HB.out | apply below_alloc | apply pw_below_drewN | apply below_drew1 | refine below_set ?_ GE203.out | refine below_set ?_ GE204.out | refine below_set ?_ GE216.out | refine below_set ?_ GE222.out | refine below_set ?_ GE228.out) | exact HB.out)) hb)
        clear HO210
        clear HO221
        clear BK203
        clear BK204
        clear BK216
        clear BK222
        clear BK228
        clear HB
        have HO210 := n0_
        have HO221 := n1_
        have BK203 := n2_
        have BK204 := n3_
        have BK216 := n4_
        have BK222 := n5_
        have BK228 := n6_
        have HB := n7_
        clear n0_ n1_ n2_ n3_ n4_ n5_ n6_ n7_
        (try clear hb)
        (try clear hb2)
        (try clear hk)
        (try clear hi)
        refine hK.out _ _ ⟨(blk_cell BK222.out 0).trans rfl, (blk_cell BK222.out 1).trans rfl, (blk_cell BK222.out 2).trans rfl, (blk_cell BK204.out 0).trans rfl, (blk_cell BK204.out 1).trans rfl⟩ (fun hHeld => ?_)
        clear hK K
        refine norm_ (a' := ?_) ?_ ?_
        rotate_left
        · show Act.put _ (some 32) _ = _
          simp only [Act.put, List.setIfInBounds_toArray, List.set_cons_zero, List.set_cons_succ, i64_w, i32_w]
          rfl
        refine one_ (i := 4) (N := some 34) #[true, true, true, true, true, false, false, false, true, false, false] rfl rfl (one_of HT_.out (by kernel_rfl)) (by decide) (fun K hK => ?_)
        refine goes_ Try.func35 (by kernel_rfl) rfl #[.agg #[.int .i8 t217, .int .i8 t218, .slice Ao40 t219.length co40], .agg #[.int .u16 t223, .bool t224], .int .u16 a2] (by rfl) rfl rfl (by (try simp only [List.map_toArray, List.map_cons, List.map_nil]); first | done | rfl | (simp only [List.length_drop, List.length_take]; rfl)) ?_
        with_reducible refine (impl_CrossWith.calls k t217 t218 _ _ t219 t223 t224 a2 t225 t226 t227 _ ?side1 ?side2 A16.out).mono ?_
        (case side1 => repeat (first | exact (Kd.R_reads' HO221.out).2.2 | (with_reducible refine Kd.C_alloc ?_ _) | (with_reducible refine Kd.C_drewN ?_ _) | (with_reducible refine Kd.C_drew ?_)))
        (case side2 => exact (Kd.R_reads' HO221.out).2.1)
        rintro e w45 ⟨rfl, hb⟩
        refine ⟨_, rfl, ?_⟩
        have n0_ := Aside0.mk (Kd.R_below (by (with_reducible repeat (first | apply Kd.R_alloc | apply Kd.R_drewN | apply Kd.R_drew)); exact HO210.out) hb)
        have n1_ := Aside0.mk (Kd.R_below (by (with_reducible repeat (first | apply Kd.R_alloc | apply Kd.R_drewN | apply Kd.R_drew)); exact HO221.out) hb)
        have n2_ := Aside0.mk (blk_below (g := gb203) (o := .cells #[.int .i8 a0_0, .int .i8 a0_1, .slice A0_2 l0_2.length c0_2] 25 (0, 0)) (by (with_reducible repeat (first | refine blk_drewN ?_ _ | refine blk_drew ?_ | refine blk_alloc ?_ _)); exact BK203.out) hb)
        have n3_ := Aside0.mk (blk_below (g := gb204) (o := .cells #[.int .u16 a1_0, .bool a1_1] 39 (0, 0)) (by (with_reducible repeat (first | refine blk_drewN ?_ _ | refine blk_drew ?_ | refine blk_alloc ?_ _)); exact BK204.out) hb)
        have n4_ := Aside0.mk (blk_below (g := gb216) (o := .cells #[.int .u16 t213, .bool t214] 41 (0, 0)) (by (with_reducible repeat (first | refine blk_drewN ?_ _ | refine blk_drew ?_ | refine blk_alloc ?_ _)); exact BK216.out) hb)
        have n5_ := Aside0.mk (blk_below (g := gb222) (o := .cells #[.int .i8 t217, .int .i8 t218, .slice Ao40 t219.length co40] 28 (0, 0)) (by (with_reducible repeat (first | refine blk_drewN ?_ _ | refine blk_drew ?_ | refine blk_alloc ?_ _)); exact BK222.out) hb)
        have n6_ := Aside0.mk (blk_below (g := gb228) (o := .cells #[.int .u16 0, .bool false] 41 (0, 0)) (by (with_reducible repeat (first | refine blk_drewN ?_ _ | refine blk_drew ?_ | refine blk_alloc ?_ _)); exact BK228.out) hb)
        have n7_ := Aside0.mk (below_step (by repeat (first | (with_reducible first | exact HB.out | apply below_alloc | apply pw_below_drewN | apply below_drew1 | refine below_set ?_ GE203.out | refine below_set ?_ GE204.out | refine below_set ?_ GE216.out | refine below_set ?_ GE222.out | refine below_set ?_ GE228.out) | exact HB.out)) hb)
        clear HO210
        clear HO221
        clear BK203
        clear BK204
        clear BK216
        clear BK222
        clear BK228
        clear HB
        have HO210 := n0_
        have HO221 := n1_
        have BK203 := n2_
        have BK204 := n3_
        have BK216 := n4_
        have BK222 := n5_
        have BK228 := n6_
        have HB := n7_
        clear n0_ n1_ n2_ n3_ n4_ n5_ n6_ n7_
        (try clear hb)
        (try clear hb2)
        (try clear hk)
        (try clear hi)
        refine hK.out _ _ ⟨(blk_cell BK222.out 0).trans rfl, (blk_cell BK222.out 1).trans rfl, (blk_cell BK222.out 2).trans rfl, (blk_cell BK204.out 0).trans rfl, (blk_cell BK204.out 1).trans rfl⟩ (fun hHeld => ?_)
        clear hK K
        refine norm_ (a' := ?_) ?_ ?_
        rotate_left
        · show Act.put _ (some 34) _ = _
          simp only [Act.put, List.setIfInBounds_toArray, List.set_cons_zero, List.set_cons_succ, i64_w, i32_w]
          rfl
        refine pure_ (i := 5) (N := some 29) (v := ?_) (a' := ?_) #[true, true, true, true, true, true, false, false, true, false, false] rfl rfl (any_of HT_.out (by kernel_rfl)) (fun _ _ _ h => h) (Or.inl ⟨by rfl, ?_⟩) ?_ ?_
        rotate_left
        · intro w'
          go_simp
          with_reducible rfl
        rotate_left
        · simp only [Act.put, List.setIfInBounds_toArray, List.set_cons_zero, List.set_cons_succ, i64_w, i32_w]
          rfl
        refine pure_ (i := 6) (N := some 35) (v := ?_) (a' := ?_) #[true, true, true, true, true, true, true, false, true, false, false] rfl rfl (any_of HT_.out (by kernel_rfl)) (fun _ _ _ h => h) (Or.inl ⟨by rfl, ?_⟩) ?_ ?_
        rotate_left
        · intro w'
          go_simp
          with_reducible rfl
        rotate_left
        · simp only [Act.put, List.setIfInBounds_toArray, List.set_cons_zero, List.set_cons_succ, i64_w, i32_w]
          rfl
        refine pure_ (i := 7) (N := some 36) (v := ?_) (a' := ?_) #[true, true, true, true, true, true, true, true, true, false, false] rfl rfl (any_of HT_.out (by kernel_rfl)) (fun _ _ _ h => h) (Or.inl ⟨by rfl, ?_⟩) ?_ ?_
        rotate_left
        · intro w'
          go_simp
          with_reducible rfl
        rotate_left
        · simp only [Act.put, List.setIfInBounds_toArray, List.set_cons_zero, List.set_cons_succ, i64_w, i32_w]
          rfl
        exact norm_ (by simp only [putAll, Act.put, List.setIfInBounds_toArray, List.set_cons_zero, List.set_cons_succ]) (hCont (gb228) _ ⟨hHeld, (by (with_reducible repeat (first | apply Kd.R_alloc | apply Kd.R_drewN | apply Kd.R_drew)); exact HO210.out), (by (with_reducible repeat (first | apply Kd.R_alloc | apply Kd.R_drewN | apply Kd.R_drew)); exact HO221.out), (by (with_reducible repeat (first | refine blk_drewN ?_ _ | refine blk_drew ?_ | refine blk_alloc ?_ _)); exact BK203.out), (by (with_reducible repeat (first | refine blk_drewN ?_ _ | refine blk_drew ?_ | refine blk_alloc ?_ _)); exact BK204.out), (by (with_reducible repeat (first | refine blk_drewN ?_ _ | refine blk_drew ?_ | refine blk_alloc ?_ _)); exact BK216.out), (by (with_reducible repeat (first | refine blk_drewN ?_ _ | refine blk_drew ?_ | refine blk_alloc ?_ _)); exact BK222.out), (by (with_reducible repeat (first | refine blk_drewN ?_ _ | refine blk_drew ?_ | refine blk_alloc ?_ _)); exact BK228.out), GW228.out, GE228.out, NB203_228.out, NB228_203.out, NB204_228.out, NB228_204.out, NB216_228.out, NB228_216.out, NB222_228.out, NB228_222.out, (by repeat (first | (with_reducible first | exact HB.out | apply below_alloc | apply pw_below_drewN | apply below_drew1 | refine below_set ?_ GE203.out | refine below_set ?_ GE204.out | refine below_set ?_ GE216.out | refine below_set ?_ GE222.out | refine below_set ?_ GE228.out) | exact HB.out))⟩)
    rintro gb228 w46 ⟨hS_, h0_, h1_, h2_, h3_, h4_, h5_, h6_, h7_, h8_, h9_, h10_, h11_, h12_, h13_, h14_, h15_, h16_, h17_⟩
    have n0_ : Aside0 (Kd.R (Kd.int .u16) 35 w46 w.heap.size (fun k_ => some k_ ≠ (.slice Ao40 t219.length co40 : Value).ownBlock) v209 t208) := ⟨h0_⟩
    have n1_ : Aside0 (Kd.R (Kd.int .u16) 35 w46 w.heap.size (fun k_ => some k_ ≠ (v209 : Value).ownBlock) (.slice Ao40 t219.length co40) t219) := ⟨h1_⟩
    have n2_ : Aside0 (w46.heap[gb203]? = some (.cells #[.int .i8 a0_0, .int .i8 a0_1, .slice A0_2 l0_2.length c0_2] 25 (0, 0))) := ⟨h2_⟩
    have n3_ : Aside0 (w46.heap[gb204]? = some (.cells #[.int .u16 a1_0, .bool a1_1] 39 (0, 0))) := ⟨h3_⟩
    have n4_ : Aside0 (w46.heap[gb216]? = some (.cells #[.int .u16 t213, .bool t214] 41 (0, 0))) := ⟨h4_⟩
    have n5_ : Aside0 (w46.heap[gb222]? = some (.cells #[.int .i8 t217, .int .i8 t218, .slice Ao40 t219.length co40] 28 (0, 0))) := ⟨h5_⟩
    have n6_ : Aside0 (w46.heap[gb228]? = some (.cells #[.int .u16 0, .bool false] 41 (0, 0))) := ⟨h6_⟩
    have n7_ : Aside0 (w.heap.size ≤ gb228) := ⟨h7_⟩
    have n8_ : Aside0 (w.heap.size ≤ gb228) := ⟨h8_⟩
    have n9_ : Aside0 (gb203 ≠ gb228) := ⟨h9_⟩
    have n10_ : Aside0 (gb228 ≠ gb203) := ⟨h10_⟩
    have n11_ : Aside0 (gb204 ≠ gb228) := ⟨h11_⟩
    have n12_ : Aside0 (gb228 ≠ gb204) := ⟨h12_⟩
    have n13_ : Aside0 (gb216 ≠ gb228) := ⟨h13_⟩
    have n14_ : Aside0 (gb228 ≠ gb216) := ⟨h14_⟩
    have n15_ : Aside0 (gb222 ≠ gb228) := ⟨h15_⟩
    have n16_ : Aside0 (gb228 ≠ gb222) := ⟨h16_⟩
    have n17_ : Aside0 (Below w.heap.size w w46) := ⟨h17_⟩
    clear HO210
    clear HO221
    clear BK203
    clear BK204
    clear BK216
    clear BK222
    clear HB
    clear h0_ h1_ h2_ h3_ h4_ h5_ h6_ h7_ h8_ h9_ h10_ h11_ h12_ h13_ h14_ h15_ h16_ h17_
    have HO210 := n0_
    have HO221 := n1_
    have BK203 := n2_
    have BK204 := n3_
    have BK216 := n4_
    have BK222 := n5_
    have BK228 := n6_
    have GW228 := n7_
    have GE228 := n8_
    have NB203_228 := n9_
    have NB228_203 := n10_
    have NB204_228 := n11_
    have NB228_204 := n12_
    have NB216_228 := n13_
    have NB228_216 := n14_
    have NB222_228 := n15_
    have NB228_222 := n16_
    have HB := n17_
    clear n0_ n1_ n2_ n3_ n4_ n5_ n6_ n7_ n8_ n9_ n10_ n11_ n12_ n13_ n14_ n15_ n16_ n17_
    have hHeld : w46.cell? ⟨gb222, 0, none⟩ = some (.int .i8 t217) ∧ w46.cell? ⟨gb222, 1, none⟩ = some (.int .i8 t218) ∧ w46.cell? ⟨gb222, 2, none⟩ = some (.slice Ao40 t219.length co40) ∧ w46.cell? ⟨gb204, 0, none⟩ = some (.int .u16 a1_0) ∧ w46.cell? ⟨gb204, 1, none⟩ = some (.bool a1_1) := hS_
    refine norm_ (a' := ?_) ?_ ?_
    rotate_left
    · simp only [putAll, Act.put, List.setIfInBounds_toArray, List.set_cons_zero, List.set_cons_succ]
      rfl
    refine one_ (i := 9) (N := none) #[true, true, true, true, true, true, true, true, true, true, false] rfl rfl (one_of HT_.out (by kernel_rfl)) (by decide) (fun K hK => ?_)
    have hs47 : w46.cell? ⟨gb228, 0, none⟩ = some (.int .u16 0) := (blk_cell BK228.out 0).trans rfl
    have hfs47 := blk_frozen BK228.out 0
    have hns47_0 := NB203_228.out
    have hns47_1 := NB204_228.out
    have hns47_2 := NB216_228.out
    have hns47_3 := NB222_228.out
    have hms47_0 := NB228_203.out
    have hms47_1 := NB228_204.out
    have hms47_2 := NB228_216.out
    have hms47_3 := NB228_222.out
    have hs48 : w46.cell? ⟨gb228, 1, none⟩ = some (.bool false) := (blk_cell BK228.out 1).trans rfl
    have hfs48 := blk_frozen BK228.out 1
    have hns48_0 := NB203_228.out
    have hns48_1 := NB204_228.out
    have hns48_2 := NB216_228.out
    have hns48_3 := NB222_228.out
    have hms48_0 := NB228_203.out
    have hms48_1 := NB228_204.out
    have hms48_2 := NB228_216.out
    have hms48_3 := NB228_222.out
    refine skip_ (w1 := ?_) (by rfl) rfl ?_ ?_
    rotate_left
    · go_simp
      rfl
    refine hK.out _ _ ⟨((cell_far (p := ⟨gb228, _, none⟩) NB222_228.out _).trans (((cell_far (p := ⟨gb228, _, none⟩) NB222_228.out _).trans (hHeld.1)))), ((cell_far (p := ⟨gb228, _, none⟩) NB222_228.out _).trans (((cell_far (p := ⟨gb228, _, none⟩) NB222_228.out _).trans (hHeld.2.1)))), ((cell_far (p := ⟨gb228, _, none⟩) NB222_228.out _).trans (((cell_far (p := ⟨gb228, _, none⟩) NB222_228.out _).trans (hHeld.2.2.1)))), ((cell_far (p := ⟨gb228, _, none⟩) NB204_228.out _).trans (((cell_far (p := ⟨gb228, _, none⟩) NB204_228.out _).trans (hHeld.2.2.2.1)))), ((cell_far (p := ⟨gb228, _, none⟩) NB204_228.out _).trans (((cell_far (p := ⟨gb228, _, none⟩) NB204_228.out _).trans (hHeld.2.2.2.2))))⟩ (fun hHeld => ?_)
    clear hK K
    refine pure_ (i := 10) (N := some 12) (v := ?_) (a' := ?_) #[true, true, true, true, true, true, true, true, true, true, true] rfl rfl (any_of HT_.out (by kernel_rfl)) (fun _ _ _ h => h) (Or.inl ⟨by rfl, ?_⟩) ?_ ?_
    rotate_left
    · intro w'
      go_simp
      with_reducible rfl
    rotate_left
    · simp only [Act.put, List.setIfInBounds_toArray, List.set_cons_zero, List.set_cons_succ, i64_w, i32_w]
      rfl
    refine done_ (done_of HT_.out (by kernel_rfl)) ?_
    go_upto_region 8 with (fail)
    go_cut [45] (fun v45 wc => ∃ (kq : Nat) (x45_16 : Bool), v45 = .bool x45_16 ∧ Aside0 (laws_FnExactCrossWith.j0 kq x45_16 a0_0 a0_1 l0_2 t217 t218 t219 = some r) ∧ Aside0 (kq ≤ k) ∧ Aside0 (Kd.R (Kd.int .u16) 35 wc w.heap.size (fun _ => True) (.slice Ao40 t219.length co40) t219) ∧ Aside0 (wc.heap[gb203]? = some (.cells #[.int .i8 a0_0, .int .i8 a0_1, (.slice A0_2 l0_2.length c0_2)] 25 (0, 0))) ∧ Aside0 (wc.heap[gb204]? = some (.cells #[.int .u16 a1_0, .bool a1_1] 39 (0, 0))) ∧ Aside0 (wc.heap[gb216]? = some (.cells #[.int .u16 t213, .bool t214] 41 (0, 0))) ∧ Aside0 (wc.heap[gb222]? = some (.cells #[.int .i8 t217, .int .i8 t218, (.slice Ao40 t219.length co40)] 28 (0, 0))) ∧ Aside0 (wc.heap[gb228]? = some (.cells #[.int .u16 t225, .bool t226] 41 (0, 0))) ∧ Aside0 (Below w.heap.size w wc))
    case first =>
      have H := HC17.out
      clear HC17
      replace H := Option.bind_eq_some_iff.mp H
      obtain ⟨t229, A490, H⟩ := H
      replace H : (if t229 = true then (laws_FnExactCrossWith.j0 k (t227 != t215) a0_0 a0_1 l0_2 t217 t218 t219) else (laws_FnExactCrossWith.j0 k true a0_0 a0_1 l0_2 t217 t218 t219)) = some r := H
      have A49 := Aside0.mk A490
      clear A490
      by_cases c50 : t229 = true
      · subst c50
        have H1 : (laws_FnExactCrossWith.j0 k (t227 != t215) a0_0 a0_1 l0_2 t217 t218 t219) = some r := by rw [if_pos rfl] at H; exact H
        clear H
        have H := H1
        clear H1
        have H' := Aside0.mk H
        clear H
        have hnb51 := NB228_203.out
        have hnc51 := NB203_228.out
        have hnb52 := NB228_204.out
        have hnc52 := NB204_228.out
        have hnb53 := NB228_216.out
        have hnc53 := NB216_228.out
        have hnb54 := NB228_222.out
        have hnc54 := NB222_228.out
        have hcz55_0 : w46.cell? ⟨gb228, 0, none⟩ = some (.int .u16 0) := (blk_cell BK228.out 0).trans rfl
        have hcz55_1 : w46.cell? ⟨gb228, 1, none⟩ = some (.bool false) := (blk_cell BK228.out 1).trans rfl
        have hfz55_0 := blk_frozen BK228.out 0
        have hfz55_1 := blk_frozen BK228.out 1
        have hnb56 := NB216_203.out
        have hnc56 := NB203_216.out
        have hnb57 := NB216_204.out
        have hnc57 := NB204_216.out
        have hnb58 := NB216_222.out
        have hnc58 := NB222_216.out
        have hcz59_0 : w46.cell? ⟨gb216, 0, none⟩ = some (.int .u16 t213) := (blk_cell BK216.out 0).trans rfl
        have hcz59_1 : w46.cell? ⟨gb216, 1, none⟩ = some (.bool t214) := (blk_cell BK216.out 1).trans rfl
        have hfz59_0 := blk_frozen BK216.out 0
        have hfz59_1 := blk_frozen BK216.out 1
        go_wp2_with (first | ((with_reducible refine gate_callee (f := 36) rfl ?_); refine goesL_ (some 39) rfl rfl Try.func36 (by kernel_rfl) rfl #[.agg #[.int .u16 t225, .bool t226], .agg #[.int .u16 t213, .bool t214]] rfl (by (try simp only [List.map_toArray, List.map_cons, List.map_nil]); first | done | rfl | (simp only [List.length_drop, List.length_take]; rfl)) ?_; (with_reducible refine (laws_eqBank.calls t225 t226 t213 t214 true _ A49.out).mono ?_); rintro e w60 ⟨rfl, hb⟩; refine ⟨_, rfl, ?_⟩; have n0_ := Aside0.mk (Kd.R_below (by (with_reducible repeat (first | apply Kd.R_alloc | apply Kd.R_drewN | apply Kd.R_drew)); exact (Kd.R_mono (Kd.R_far (p := ⟨gb228, 1, none⟩) (Kd.R_far (p := ⟨gb228, 0, none⟩) (Kd.R_types HO210.out BK228.out (by decide)) (fun _ hk => hk.2) (.int .u16 t225)) (fun _ hk => hk.2) (.bool t226)) (fun _ h_ => h_.1))) hb); have n1_ := Aside0.mk (Kd.R_below (by (with_reducible repeat (first | apply Kd.R_alloc | apply Kd.R_drewN | apply Kd.R_drew)); exact (Kd.R_mono (Kd.R_far (p := ⟨gb228, 1, none⟩) (Kd.R_far (p := ⟨gb228, 0, none⟩) (Kd.R_types HO221.out BK228.out (by decide)) (fun _ hk => hk.2) (.int .u16 t225)) (fun _ hk => hk.2) (.bool t226)) (fun _ h_ => h_.1))) hb); have n2_ := Aside0.mk (blk_below (g := gb203) (o := .cells #[.int .i8 a0_0, .int .i8 a0_1, .slice A0_2 l0_2.length c0_2] 25 (0, 0)) (by (with_reducible repeat (first | refine blk_drewN ?_ _ | refine blk_drew ?_ | refine blk_alloc ?_ _)); refine blk_far ?_ NB203_228.out _; (with_reducible repeat (first | refine blk_drewN ?_ _ | refine blk_drew ?_ | refine blk_alloc ?_ _)); refine blk_far ?_ NB203_228.out _; (with_reducible repeat (first | refine blk_drewN ?_ _ | refine blk_drew ?_ | refine blk_alloc ?_ _)); exact BK203.out) hb); have n3_ := Aside0.mk (blk_below (g := gb204) (o := .cells #[.int .u16 a1_0, .bool a1_1] 39 (0, 0)) (by (with_reducible repeat (first | refine blk_drewN ?_ _ | refine blk_drew ?_ | refine blk_alloc ?_ _)); refine blk_far ?_ NB204_228.out _; (with_reducible repeat (first | refine blk_drewN ?_ _ | refine blk_drew ?_ | refine blk_alloc ?_ _)); refine blk_far ?_ NB204_228.out _; (with_reducible repeat (first | refine blk_drewN ?_ _ | refine blk_drew ?_ | refine blk_alloc ?_ _)); exact BK204.out) hb); have n4_ := Aside0.mk (blk_below (g := gb216) (o := .cells #[.int .u16 t213, .bool t214] 41 (0, 0)) (by (with_reducible repeat (first | refine blk_drewN ?_ _ | refine blk_drew ?_ | refine blk_alloc ?_ _)); refine blk_far ?_ NB216_228.out _; (with_reducible repeat (first | refine blk_drewN ?_ _ | refine blk_drew ?_ | refine blk_alloc ?_ _)); refine blk_far ?_ NB216_228.out _; (with_reducible repeat (first | refine blk_drewN ?_ _ | refine blk_drew ?_ | refine blk_alloc ?_ _)); exact BK216.out) hb); have n5_ := Aside0.mk (blk_below (g := gb222) (o := .cells #[.int .i8 t217, .int .i8 t218, .slice Ao40 t219.length co40] 28 (0, 0)) (by (with_reducible repeat (first | refine blk_drewN ?_ _ | refine blk_drew ?_ | refine blk_alloc ?_ _)); refine blk_far ?_ NB222_228.out _; (with_reducible repeat (first | refine blk_drewN ?_ _ | refine blk_drew ?_ | refine blk_alloc ?_ _)); refine blk_far ?_ NB222_228.out _; (with_reducible repeat (first | refine blk_drewN ?_ _ | refine blk_drew ?_ | refine blk_alloc ?_ _)); exact BK222.out) hb); have n6_ := Aside0.mk (blk_below (g := gb228) (o := .cells #[.int .u16 t225, .bool t226] 41 (0, 0)) (by (with_reducible repeat (first | refine blk_drewN ?_ _ | refine blk_drew ?_ | refine blk_alloc ?_ _)); refine blk_put (cs := #[.int .u16 t225, .bool false]) ?_ 1 _ rfl; (with_reducible repeat (first | refine blk_drewN ?_ _ | refine blk_drew ?_ | refine blk_alloc ?_ _)); refine blk_put (cs := #[.int .u16 0, .bool false]) ?_ 0 _ rfl; (with_reducible repeat (first | refine blk_drewN ?_ _ | refine blk_drew ?_ | refine blk_alloc ?_ _)); exact BK228.out) hb); have n7_ := Aside0.mk (below_step (by repeat (first | (with_reducible first | exact HB.out | apply below_alloc | apply pw_below_drewN | apply below_drew1 | refine below_set ?_ GE203.out | refine below_set ?_ GE204.out | refine below_set ?_ GE216.out | refine below_set ?_ GE222.out | refine below_set ?_ GE228.out) | exact HB.out)) hb); clear HO210; clear HO221; clear BK203; clear BK204; clear BK216; clear BK222; clear BK228; clear HB; have HO210 := n0_; have HO221 := n1_; have BK203 := n2_; have BK204 := n3_; have BK216 := n4_; have BK222 := n5_; have BK228 := n6_; have HB := n7_; clear n0_ n1_ n2_ n3_ n4_ n5_ n6_ n7_; (try clear hb); (try clear hb2); (try clear hk); (try clear hi)))
        go_meet
        case rel => exact ⟨_, ((t227 != t215)), (by first | rfl | (simp; done) | (simp [*]; done)), H', ⟨by first | omega | exact Nat.le_refl _⟩, ⟨by (with_reducible repeat (first | apply Kd.R_alloc | apply Kd.R_drewN | apply Kd.R_drew)); exact Kd.R_mono HO221.out (fun _ hk => trivial)⟩, ⟨by (with_reducible repeat (first | refine blk_drewN ?_ _ | refine blk_drew ?_ | refine blk_alloc ?_ _)); exact BK203.out⟩, ⟨by (with_reducible repeat (first | refine blk_drewN ?_ _ | refine blk_drew ?_ | refine blk_alloc ?_ _)); exact BK204.out⟩, ⟨by (with_reducible repeat (first | refine blk_drewN ?_ _ | refine blk_drew ?_ | refine blk_alloc ?_ _)); exact BK216.out⟩, ⟨by (with_reducible repeat (first | refine blk_drewN ?_ _ | refine blk_drew ?_ | refine blk_alloc ?_ _)); exact BK222.out⟩, ⟨by (with_reducible repeat (first | refine blk_drewN ?_ _ | refine blk_drew ?_ | refine blk_alloc ?_ _)); exact BK228.out⟩, ⟨by repeat (first | (with_reducible first | exact HB.out | apply below_alloc | apply pw_below_drewN | apply below_drew1 | refine below_set ?_ GE203.out | refine below_set ?_ GE204.out | refine below_set ?_ GE216.out | refine below_set ?_ GE222.out | refine below_set ?_ GE228.out) | exact HB.out)⟩⟩
      · replace c50 := Bool.eq_false_iff.mpr c50
        subst c50
        have H1 : (laws_FnExactCrossWith.j0 k true a0_0 a0_1 l0_2 t217 t218 t219) = some r := by rw [if_neg (show ¬ (false = true) by decide)] at H; exact H
        clear H
        have H := H1
        clear H1
        have H' := Aside0.mk H
        clear H
        have hnb61 := NB228_203.out
        have hnc61 := NB203_228.out
        have hnb62 := NB228_204.out
        have hnc62 := NB204_228.out
        have hnb63 := NB228_216.out
        have hnc63 := NB216_228.out
        have hnb64 := NB228_222.out
        have hnc64 := NB222_228.out
        have hcz65_0 : w46.cell? ⟨gb228, 0, none⟩ = some (.int .u16 0) := (blk_cell BK228.out 0).trans rfl
        have hcz65_1 : w46.cell? ⟨gb228, 1, none⟩ = some (.bool false) := (blk_cell BK228.out 1).trans rfl
        have hfz65_0 := blk_frozen BK228.out 0
        have hfz65_1 := blk_frozen BK228.out 1
        have hnb66 := NB216_203.out
        have hnc66 := NB203_216.out
        have hnb67 := NB216_204.out
        have hnc67 := NB204_216.out
        have hnb68 := NB216_222.out
        have hnc68 := NB222_216.out
        have hcz69_0 : w46.cell? ⟨gb216, 0, none⟩ = some (.int .u16 t213) := (blk_cell BK216.out 0).trans rfl
        have hcz69_1 : w46.cell? ⟨gb216, 1, none⟩ = some (.bool t214) := (blk_cell BK216.out 1).trans rfl
        have hfz69_0 := blk_frozen BK216.out 0
        have hfz69_1 := blk_frozen BK216.out 1
        go_wp2_with (first | ((with_reducible refine gate_callee (f := 36) rfl ?_); refine goesL_ (some 39) rfl rfl Try.func36 (by kernel_rfl) rfl #[.agg #[.int .u16 t225, .bool t226], .agg #[.int .u16 t213, .bool t214]] rfl (by (try simp only [List.map_toArray, List.map_cons, List.map_nil]); first | done | rfl | (simp only [List.length_drop, List.length_take]; rfl)) ?_; (with_reducible refine (laws_eqBank.calls t225 t226 t213 t214 false _ A49.out).mono ?_); rintro e w70 ⟨rfl, hb⟩; refine ⟨_, rfl, ?_⟩; have n0_ := Aside0.mk (Kd.R_below (by (with_reducible repeat (first | apply Kd.R_alloc | apply Kd.R_drewN | apply Kd.R_drew)); exact (Kd.R_mono (Kd.R_far (p := ⟨gb228, 1, none⟩) (Kd.R_far (p := ⟨gb228, 0, none⟩) (Kd.R_types HO210.out BK228.out (by decide)) (fun _ hk => hk.2) (.int .u16 t225)) (fun _ hk => hk.2) (.bool t226)) (fun _ h_ => h_.1))) hb); have n1_ := Aside0.mk (Kd.R_below (by (with_reducible repeat (first | apply Kd.R_alloc | apply Kd.R_drewN | apply Kd.R_drew)); exact (Kd.R_mono (Kd.R_far (p := ⟨gb228, 1, none⟩) (Kd.R_far (p := ⟨gb228, 0, none⟩) (Kd.R_types HO221.out BK228.out (by decide)) (fun _ hk => hk.2) (.int .u16 t225)) (fun _ hk => hk.2) (.bool t226)) (fun _ h_ => h_.1))) hb); have n2_ := Aside0.mk (blk_below (g := gb203) (o := .cells #[.int .i8 a0_0, .int .i8 a0_1, .slice A0_2 l0_2.length c0_2] 25 (0, 0)) (by (with_reducible repeat (first | refine blk_drewN ?_ _ | refine blk_drew ?_ | refine blk_alloc ?_ _)); refine blk_far ?_ NB203_228.out _; (with_reducible repeat (first | refine blk_drewN ?_ _ | refine blk_drew ?_ | refine blk_alloc ?_ _)); refine blk_far ?_ NB203_228.out _; (with_reducible repeat (first | refine blk_drewN ?_ _ | refine blk_drew ?_ | refine blk_alloc ?_ _)); exact BK203.out) hb); have n3_ := Aside0.mk (blk_below (g := gb204) (o := .cells #[.int .u16 a1_0, .bool a1_1] 39 (0, 0)) (by (with_reducible repeat (first | refine blk_drewN ?_ _ | refine blk_drew ?_ | refine blk_alloc ?_ _)); refine blk_far ?_ NB204_228.out _; (with_reducible repeat (first | refine blk_drewN ?_ _ | refine blk_drew ?_ | refine blk_alloc ?_ _)); refine blk_far ?_ NB204_228.out _; (with_reducible repeat (first | refine blk_drewN ?_ _ | refine blk_drew ?_ | refine blk_alloc ?_ _)); exact BK204.out) hb); have n4_ := Aside0.mk (blk_below (g := gb216) (o := .cells #[.int .u16 t213, .bool t214] 41 (0, 0)) (by (with_reducible repeat (first | refine blk_drewN ?_ _ | refine blk_drew ?_ | refine blk_alloc ?_ _)); refine blk_far ?_ NB216_228.out _; (with_reducible repeat (first | refine blk_drewN ?_ _ | refine blk_drew ?_ | refine blk_alloc ?_ _)); refine blk_far ?_ NB216_228.out _; (with_reducible repeat (first | refine blk_drewN ?_ _ | refine blk_drew ?_ | refine blk_alloc ?_ _)); exact BK216.out) hb); have n5_ := Aside0.mk (blk_below (g := gb222) (o := .cells #[.int .i8 t217, .int .i8 t218, .slice Ao40 t219.length co40] 28 (0, 0)) (by (with_reducible repeat (first | refine blk_drewN ?_ _ | refine blk_drew ?_ | refine blk_alloc ?_ _)); refine blk_far ?_ NB222_228.out _; (with_reducible repeat (first | refine blk_drewN ?_ _ | refine blk_drew ?_ | refine blk_alloc ?_ _)); refine blk_far ?_ NB222_228.out _; (with_reducible repeat (first | refine blk_drewN ?_ _ | refine blk_drew ?_ | refine blk_alloc ?_ _)); exact BK222.out) hb); have n6_ := Aside0.mk (blk_below (g := gb228) (o := .cells #[.int .u16 t225, .bool t226] 41 (0, 0)) (by (with_reducible repeat (first | refine blk_drewN ?_ _ | refine blk_drew ?_ | refine blk_alloc ?_ _)); refine blk_put (cs := #[.int .u16 t225, .bool false]) ?_ 1 _ rfl; (with_reducible repeat (first | refine blk_drewN ?_ _ | refine blk_drew ?_ | refine blk_alloc ?_ _)); refine blk_put (cs := #[.int .u16 0, .bool false]) ?_ 0 _ rfl; (with_reducible repeat (first | refine blk_drewN ?_ _ | refine blk_drew ?_ | refine blk_alloc ?_ _)); exact BK228.out) hb); have n7_ := Aside0.mk (below_step (by repeat (first | (with_reducible first | exact HB.out | apply below_alloc | apply pw_below_drewN | apply below_drew1 | refine below_set ?_ GE203.out | refine below_set ?_ GE204.out | refine below_set ?_ GE216.out | refine below_set ?_ GE222.out | refine below_set ?_ GE228.out) | exact HB.out)) hb); clear HO210; clear HO221; clear BK203; clear BK204; clear BK216; clear BK222; clear BK228; clear HB; have HO210 := n0_; have HO221 := n1_; have BK203 := n2_; have BK204 := n3_; have BK216 := n4_; have BK222 := n5_; have BK228 := n6_; have HB := n7_; clear n0_ n1_ n2_ n3_ n4_ n5_ n6_ n7_; (try clear hb); (try clear hb2); (try clear hk); (try clear hi)))
        go_meet
        case rel => exact ⟨_, (true), (by first | rfl | (simp; done) | (simp [*]; done)), H', ⟨by first | omega | exact Nat.le_refl _⟩, ⟨by (with_reducible repeat (first | apply Kd.R_alloc | apply Kd.R_drewN | apply Kd.R_drew)); exact Kd.R_mono HO221.out (fun _ hk => trivial)⟩, ⟨by (with_reducible repeat (first | refine blk_drewN ?_ _ | refine blk_drew ?_ | refine blk_alloc ?_ _)); exact BK203.out⟩, ⟨by (with_reducible repeat (first | refine blk_drewN ?_ _ | refine blk_drew ?_ | refine blk_alloc ?_ _)); exact BK204.out⟩, ⟨by (with_reducible repeat (first | refine blk_drewN ?_ _ | refine blk_drew ?_ | refine blk_alloc ?_ _)); exact BK216.out⟩, ⟨by (with_reducible repeat (first | refine blk_drewN ?_ _ | refine blk_drew ?_ | refine blk_alloc ?_ _)); exact BK222.out⟩, ⟨by (with_reducible repeat (first | refine blk_drewN ?_ _ | refine blk_drew ?_ | refine blk_alloc ?_ _)); exact BK228.out⟩, ⟨by repeat (first | (with_reducible first | exact HB.out | apply below_alloc | apply pw_below_drewN | apply below_drew1 | refine below_set ?_ GE203.out | refine below_set ?_ GE204.out | refine below_set ?_ GE216.out | refine below_set ?_ GE222.out | refine below_set ?_ GE228.out) | exact HB.out)⟩⟩
    case rest =>
      clear HC17
      try clear c2
      try clear p2
      try clear c3
      try clear c5
      try clear c6
      try clear c24
      try clear c35
      try clear c36
      try clear c50
      try clear c51
      try clear c52
      try clear c53
      try clear c54
      try clear c56
      try clear c57
      try clear c58
      try clear c61
      try clear c62
      try clear c63
      try clear c64
      try clear c66
      try clear c67
      try clear c68
      try clear hcz55_0
      try clear hcz55_1
      try clear hcz59_0
      try clear hcz59_1
      try clear hcz65_0
      try clear hcz65_1
      try clear hcz69_0
      try clear hcz69_1
      try clear hfz55_0
      try clear hfz55_1
      try clear hfz59_0
      try clear hfz59_1
      try clear hfz65_0
      try clear hfz65_1
      try clear hfz69_0
      try clear hfz69_1
      obtain ⟨kq, x45_16, rfl, HA, HJ16, HO_223002, BK203, BK204, BK216, BK222, BK228, HB⟩ := hcut
      cases kq with
      | zero => exact absurd HA.out (by simp [laws_FnExactCrossWith.j0])
      | succ kj16 =>
        have H := HA.out
        clear HA
        simp only [laws_FnExactCrossWith.j0] at H
        by_cases c71 : x45_16 = true
        · subst c71
          have H1 : (some false) = some r := by rw [if_pos rfl] at H; exact H
          clear H
          have H := H1
          clear H1
          obtain rfl := Option.some.inj H
          go_wp2
          go_ret
          exact ⟨by first | rfl | (simp [errW_none, errW_some] <;> rfl) | (simp [*, errW_none, errW_some] <;> rfl), by repeat (first | (with_reducible first | exact HB.out | apply below_alloc | apply pw_below_drewN | apply below_drew1 | refine below_set ?_ GE203.out | refine below_set ?_ GE204.out | refine below_set ?_ GE216.out | refine below_set ?_ GE222.out | refine below_set ?_ GE228.out) | exact HB.out)⟩
        · replace c71 := Bool.eq_false_iff.mpr c71
          subst c71
          have H1 : ((laws_toFerry.f kj16 a0_0 a0_1 l0_2).bind fun bt230 => ((laws_eqFerry.f kj16 t217 t218 t219 bt230.1 bt230.2.1 bt230.2.2).bind fun t235 => (if t235 = true then (some true) else (some false)))) = some r := by rw [if_neg (show ¬ (false = true) by decide)] at H; exact H
          clear H
          have H := H1
          clear H1
          replace H := Option.bind_eq_some_iff.mp H
          obtain ⟨⟨t230, t231, t232⟩, A720, H⟩ := H
          replace H : ((laws_eqFerry.f kj16 t217 t218 t219 t230 t231 t232).bind fun t235 => (if t235 = true then (some true) else (some false))) = some r := H
          have A72 := Aside0.mk A720
          clear A720
          replace H := Option.bind_eq_some_iff.mp H
          obtain ⟨t235, A730, H⟩ := H
          replace H : (if t235 = true then (some true) else (some false)) = some r := H
          have A73 := Aside0.mk A730
          clear A730
          by_cases c74 : t235 = true
          · subst c74
            have H1 : (some true) = some r := by rw [if_pos rfl] at H; exact H
            clear H
            have H := H1
            clear H1
            obtain rfl := Option.some.inj H
            try go_wp2
            have n0_ := Aside0.mk (Kd.R_drew HO_223002.out)
            have n1_ := Aside0.mk (blk_drew BK203.out)
            have n2_ := Aside0.mk (blk_drew BK204.out)
            have n3_ := Aside0.mk (blk_drew BK216.out)
            have n4_ := Aside0.mk (blk_drew BK222.out)
            have n5_ := Aside0.mk (blk_drew BK228.out)
            have n6_ := Aside0.mk (below_drew1 HB.out)
            clear HO_223002
            clear BK203
            clear BK204
            clear BK216
            clear BK222
            clear BK228
            clear HB
            have HO_223002 := n0_
            have BK203 := n1_
            have BK204 := n2_
            have BK216 := n3_
            have BK222 := n4_
            have BK228 := n5_
            have HB := n6_
            clear n0_ n1_ n2_ n3_ n4_ n5_ n6_
            refine start_ (n := 5) (S := fun w' => w'.cell? ⟨gb222, 0, none⟩ = some (.int .i8 t217) ∧ w'.cell? ⟨gb222, 1, none⟩ = some (.int .i8 t218) ∧ w'.cell? ⟨gb222, 2, none⟩ = some (.slice Ao40 t219.length co40) ∧ w'.cell? ⟨gb203, 0, none⟩ = some (.int .i8 a0_0) ∧ w'.cell? ⟨gb203, 1, none⟩ = some (.int .i8 a0_1) ∧ w'.cell? ⟨gb203, 2, none⟩ = some (.slice A0_2 l0_2.length c0_2)) (ds := []) #[false, false, false, false, false] (by kernel_rfl) rfl rfl ⟨(blk_cell BK222.out 0).trans rfl, (blk_cell BK222.out 1).trans rfl, (blk_cell BK222.out 2).trans rfl, (blk_cell BK203.out 0).trans rfl, (blk_cell BK203.out 1).trans rfl, (blk_cell BK203.out 2).trans rfl⟩ (fun hHeld => ?_)
            generalize wc.drew = w75 at HO_223002 BK203 BK204 BK216 BK222 BK228 HB hHeld ⊢
            refine take_ (i := 0) (N := some 46) (v := ?_) (a' := ?_) #[true, false, false, false, false] rfl rfl (by kernel_rfl) (fun _ _ _ h => h) (Or.inl ⟨by rfl, ?_⟩) hHeld ?_ ?_
            rotate_left
            · rintro w' ⟨s0, s1, s2, s3, s4, s5⟩
              go_simp
              with_reducible rfl
            rotate_left
            · simp only [Act.put, List.setIfInBounds_toArray, List.set_cons_zero, List.set_cons_succ, i64_w, i32_w]
              rfl
            refine take_ (i := 1) (N := some 47) (v := ?_) (a' := ?_) #[true, true, false, false, false] rfl rfl (by kernel_rfl) (fun _ _ _ h => h) (Or.inl ⟨by rfl, ?_⟩) hHeld ?_ ?_
            rotate_left
            · rintro w' ⟨s0, s1, s2, s3, s4, s5⟩
              go_simp
              with_reducible rfl
            rotate_left
            · simp only [Act.put, List.setIfInBounds_toArray, List.set_cons_zero, List.set_cons_succ, i64_w, i32_w]
              rfl
            refine one_ (i := 2) (N := some 48) #[true, true, true, false, false] rfl rfl (by kernel_rfl) (by decide) (fun K hK => ?_)
            refine goes_ Try.func14 (by kernel_rfl) rfl #[.agg #[.int .i8 a0_0, .int .i8 a0_1, .slice A0_2 l0_2.length c0_2]] (by rfl) rfl rfl (by (try simp only [List.map_toArray, List.map_cons, List.map_nil]); first | done | rfl | (simp only [List.length_drop, List.length_take]; rfl)) ?_
            with_reducible refine (laws_toFerry.calls kj16 a0_0 a0_1 _ _ l0_2 t230 t231 t232 _ ?side1 ?side2 A72.out).mono ?_
            (case side1 => repeat (first | exact (Kd.C_below HR0_2.out HB.out) | (with_reducible refine Kd.C_alloc ?_ _) | (with_reducible refine Kd.C_drewN ?_ _) | (with_reducible refine Kd.C_drew ?_)))
            (case side2 => exact HC0_2.out)
            rintro e w76 ⟨v233, rfl, ho0, hb⟩
            refine ⟨_, rfl, ?_⟩
            have n0_ := Aside0.mk (Kd.R_elder' (by (with_reducible repeat (first | apply Kd.R_alloc | apply Kd.R_drewN | apply Kd.R_drew)); exact HO_223002.out) (Kd.R_base ho0) hb)
            have n1_ := Aside0.mk (Kd.R_lower (Kd.R_new' ho0 (Kd.R_lt (by (with_reducible repeat (first | apply Kd.R_alloc | apply Kd.R_drewN | apply Kd.R_drew)); exact HO_223002.out))) (below_size (by repeat (first | (with_reducible first | exact HB.out | apply below_alloc | apply pw_below_drewN | apply below_drew1 | refine below_set ?_ GE203.out | refine below_set ?_ GE204.out | refine below_set ?_ GE216.out | refine below_set ?_ GE222.out | refine below_set ?_ GE228.out) | exact HB.out))))
            have n2_ := Aside0.mk (blk_below (g := gb203) (o := .cells #[.int .i8 a0_0, .int .i8 a0_1, .slice A0_2 l0_2.length c0_2] 25 (0, 0)) (by (with_reducible repeat (first | refine blk_drewN ?_ _ | refine blk_drew ?_ | refine blk_alloc ?_ _)); exact BK203.out) hb)
            have n3_ := Aside0.mk (blk_below (g := gb204) (o := .cells #[.int .u16 a1_0, .bool a1_1] 39 (0, 0)) (by (with_reducible repeat (first | refine blk_drewN ?_ _ | refine blk_drew ?_ | refine blk_alloc ?_ _)); exact BK204.out) hb)
            have n4_ := Aside0.mk (blk_below (g := gb216) (o := .cells #[.int .u16 t213, .bool t214] 41 (0, 0)) (by (with_reducible repeat (first | refine blk_drewN ?_ _ | refine blk_drew ?_ | refine blk_alloc ?_ _)); exact BK216.out) hb)
            have n5_ := Aside0.mk (blk_below (g := gb222) (o := .cells #[.int .i8 t217, .int .i8 t218, .slice Ao40 t219.length co40] 28 (0, 0)) (by (with_reducible repeat (first | refine blk_drewN ?_ _ | refine blk_drew ?_ | refine blk_alloc ?_ _)); exact BK222.out) hb)
            have n6_ := Aside0.mk (blk_below (g := gb228) (o := .cells #[.int .u16 t225, .bool t226] 41 (0, 0)) (by (with_reducible repeat (first | refine blk_drewN ?_ _ | refine blk_drew ?_ | refine blk_alloc ?_ _)); exact BK228.out) hb)
            have n7_ := Aside0.mk (below_step (by repeat (first | (with_reducible first | exact HB.out | apply below_alloc | apply pw_below_drewN | apply below_drew1 | refine below_set ?_ GE203.out | refine below_set ?_ GE204.out | refine below_set ?_ GE216.out | refine below_set ?_ GE222.out | refine below_set ?_ GE228.out) | exact HB.out)) hb)
            clear HO_223002
            clear BK203
            clear BK204
            clear BK216
            clear BK222
            clear BK228
            clear HB
            have HO_223002 := n0_
            have HO234 := n1_
            have BK203 := n2_
            have BK204 := n3_
            have BK216 := n4_
            have BK222 := n5_
            have BK228 := n6_
            have HB := n7_
            clear n0_ n1_ n2_ n3_ n4_ n5_ n6_ n7_
            (try clear hb)
            (try clear hb2)
            (try clear hk)
            (try clear hi)
            (try clear ho0)
            obtain ⟨Ao77, co77, eo77⟩ := Kd.R_slice HO234.out
            (first | subst eo77 | (injection eo77 with f1_ f2_ f3_; have f4_ := f1_.symm; have f5_ := f3_.symm; clear f1_ f2_ f3_; subst f4_; subst f5_))
            refine hK.out _ _ ⟨(blk_cell BK222.out 0).trans rfl, (blk_cell BK222.out 1).trans rfl, (blk_cell BK222.out 2).trans rfl, (blk_cell BK203.out 0).trans rfl, (blk_cell BK203.out 1).trans rfl, (blk_cell BK203.out 2).trans rfl⟩ (fun hHeld => ?_)
            clear hK K
            refine norm_ (a' := ?_) ?_ ?_
            rotate_left
            · show Act.put _ (some 48) _ = _
              simp only [Act.put, List.setIfInBounds_toArray, List.set_cons_zero, List.set_cons_succ, i64_w, i32_w]
              rfl
            refine one_ (i := 3) (N := some 49) #[true, true, true, true, false] rfl rfl (by kernel_rfl) (by decide) (fun K hK => ?_)
            refine goes_ Try.func16 (by kernel_rfl) rfl #[.agg #[.int .i8 t217, .int .i8 t218, .slice Ao40 t219.length co40], .agg #[.int .i8 t230, .int .i8 t231, .slice Ao77 t232.length co77]] (by rfl) rfl rfl (by (try simp only [List.map_toArray, List.map_cons, List.map_nil]); first | done | rfl | (simp only [List.length_drop, List.length_take]; rfl)) ?_
            with_reducible refine (laws_eqFerry.calls kj16 t217 t218 _ _ t219 t230 t231 _ _ t232 true _ ?side1 ?side2 ?side3 ?side4 A73.out).mono ?_
            (case side1 => repeat (first | exact (Kd.R_reads' HO_223002.out).2.2 | (with_reducible refine Kd.C_alloc ?_ _) | (with_reducible refine Kd.C_drewN ?_ _) | (with_reducible refine Kd.C_drew ?_)))
            (case side2 => exact (Kd.R_reads' HO_223002.out).2.1)
            (case side3 => repeat (first | exact (Kd.R_reads' HO234.out).2.2 | (with_reducible refine Kd.C_alloc ?_ _) | (with_reducible refine Kd.C_drewN ?_ _) | (with_reducible refine Kd.C_drew ?_)))
            (case side4 => exact (Kd.R_reads' HO234.out).2.1)
            rintro e w78 ⟨rfl, hb⟩
            refine ⟨_, rfl, ?_⟩
            have n0_ := Aside0.mk (Kd.R_below (by (with_reducible repeat (first | apply Kd.R_alloc | apply Kd.R_drewN | apply Kd.R_drew)); exact HO_223002.out) hb)
            have n1_ := Aside0.mk (Kd.R_below (by (with_reducible repeat (first | apply Kd.R_alloc | apply Kd.R_drewN | apply Kd.R_drew)); exact HO234.out) hb)
            have n2_ := Aside0.mk (blk_below (g := gb203) (o := .cells #[.int .i8 a0_0, .int .i8 a0_1, .slice A0_2 l0_2.length c0_2] 25 (0, 0)) (by (with_reducible repeat (first | refine blk_drewN ?_ _ | refine blk_drew ?_ | refine blk_alloc ?_ _)); exact BK203.out) hb)
            have n3_ := Aside0.mk (blk_below (g := gb204) (o := .cells #[.int .u16 a1_0, .bool a1_1] 39 (0, 0)) (by (with_reducible repeat (first | refine blk_drewN ?_ _ | refine blk_drew ?_ | refine blk_alloc ?_ _)); exact BK204.out) hb)
            have n4_ := Aside0.mk (blk_below (g := gb216) (o := .cells #[.int .u16 t213, .bool t214] 41 (0, 0)) (by (with_reducible repeat (first | refine blk_drewN ?_ _ | refine blk_drew ?_ | refine blk_alloc ?_ _)); exact BK216.out) hb)
            have n5_ := Aside0.mk (blk_below (g := gb222) (o := .cells #[.int .i8 t217, .int .i8 t218, .slice Ao40 t219.length co40] 28 (0, 0)) (by (with_reducible repeat (first | refine blk_drewN ?_ _ | refine blk_drew ?_ | refine blk_alloc ?_ _)); exact BK222.out) hb)
            have n6_ := Aside0.mk (blk_below (g := gb228) (o := .cells #[.int .u16 t225, .bool t226] 41 (0, 0)) (by (with_reducible repeat (first | refine blk_drewN ?_ _ | refine blk_drew ?_ | refine blk_alloc ?_ _)); exact BK228.out) hb)
            have n7_ := Aside0.mk (below_step (by repeat (first | (with_reducible first | exact HB.out | apply below_alloc | apply pw_below_drewN | apply below_drew1 | refine below_set ?_ GE203.out | refine below_set ?_ GE204.out | refine below_set ?_ GE216.out | refine below_set ?_ GE222.out | refine below_set ?_ GE228.out) | exact HB.out)) hb)
            clear HO_223002
            clear HO234
            clear BK203
            clear BK204
            clear BK216
            clear BK222
            clear BK228
            clear HB
            have HO_223002 := n0_
            have HO234 := n1_
            have BK203 := n2_
            have BK204 := n3_
            have BK216 := n4_
            have BK222 := n5_
            have BK228 := n6_
            have HB := n7_
            clear n0_ n1_ n2_ n3_ n4_ n5_ n6_ n7_
            (try clear hb)
            (try clear hb2)
            (try clear hk)
            (try clear hi)
            refine hK.out _ _ ⟨(blk_cell BK222.out 0).trans rfl, (blk_cell BK222.out 1).trans rfl, (blk_cell BK222.out 2).trans rfl, (blk_cell BK203.out 0).trans rfl, (blk_cell BK203.out 1).trans rfl, (blk_cell BK203.out 2).trans rfl⟩ (fun hHeld => ?_)
            clear hK K
            refine norm_ (a' := ?_) ?_ ?_
            rotate_left
            · show Act.put _ (some 49) _ = _
              simp only [Act.put, List.setIfInBounds_toArray, List.set_cons_zero, List.set_cons_succ, i64_w, i32_w]
              rfl
            refine pure_ (i := 4) (N := some 50) (v := ?_) (a' := ?_) #[true, true, true, true, true] rfl rfl (by kernel_rfl) (fun _ _ _ h => h) (Or.inl ⟨by rfl, ?_⟩) ?_ ?_
            rotate_left
            · intro w'
              go_simp
              with_reducible rfl
            rotate_left
            · simp only [Act.put, List.setIfInBounds_toArray, List.set_cons_zero, List.set_cons_succ, i64_w, i32_w]
              rfl
            refine done_ (by kernel_rfl) ?_
            try go_wp2
            go_ret
            exact ⟨by first | rfl | (simp [errW_none, errW_some] <;> rfl) | (simp [*, errW_none, errW_some] <;> rfl), by repeat (first | (with_reducible first | exact HB.out | apply below_alloc | apply pw_below_drewN | apply below_drew1 | refine below_set ?_ GE203.out | refine below_set ?_ GE204.out | refine below_set ?_ GE216.out | refine below_set ?_ GE222.out | refine below_set ?_ GE228.out) | exact HB.out)⟩
          · replace c74 := Bool.eq_false_iff.mpr c74
            subst c74
            have H1 : (some false) = some r := by rw [if_neg (show ¬ (false = true) by decide)] at H; exact H
            clear H
            have H := H1
            clear H1
            obtain rfl := Option.some.inj H
            try go_wp2
            have n0_ := Aside0.mk (Kd.R_drew HO_223002.out)
            have n1_ := Aside0.mk (blk_drew BK203.out)
            have n2_ := Aside0.mk (blk_drew BK204.out)
            have n3_ := Aside0.mk (blk_drew BK216.out)
            have n4_ := Aside0.mk (blk_drew BK222.out)
            have n5_ := Aside0.mk (blk_drew BK228.out)
            have n6_ := Aside0.mk (below_drew1 HB.out)
            clear HO_223002
            clear BK203
            clear BK204
            clear BK216
            clear BK222
            clear BK228
            clear HB
            have HO_223002 := n0_
            have BK203 := n1_
            have BK204 := n2_
            have BK216 := n3_
            have BK222 := n4_
            have BK228 := n5_
            have HB := n6_
            clear n0_ n1_ n2_ n3_ n4_ n5_ n6_
            refine start_ (n := 5) (S := fun w' => w'.cell? ⟨gb222, 0, none⟩ = some (.int .i8 t217) ∧ w'.cell? ⟨gb222, 1, none⟩ = some (.int .i8 t218) ∧ w'.cell? ⟨gb222, 2, none⟩ = some (.slice Ao40 t219.length co40) ∧ w'.cell? ⟨gb203, 0, none⟩ = some (.int .i8 a0_0) ∧ w'.cell? ⟨gb203, 1, none⟩ = some (.int .i8 a0_1) ∧ w'.cell? ⟨gb203, 2, none⟩ = some (.slice A0_2 l0_2.length c0_2)) (ds := []) #[false, false, false, false, false] (by kernel_rfl) rfl rfl ⟨(blk_cell BK222.out 0).trans rfl, (blk_cell BK222.out 1).trans rfl, (blk_cell BK222.out 2).trans rfl, (blk_cell BK203.out 0).trans rfl, (blk_cell BK203.out 1).trans rfl, (blk_cell BK203.out 2).trans rfl⟩ (fun hHeld => ?_)
            generalize wc.drew = w79 at HO_223002 BK203 BK204 BK216 BK222 BK228 HB hHeld ⊢
            refine take_ (i := 0) (N := some 46) (v := ?_) (a' := ?_) #[true, false, false, false, false] rfl rfl (by kernel_rfl) (fun _ _ _ h => h) (Or.inl ⟨by rfl, ?_⟩) hHeld ?_ ?_
            rotate_left
            · rintro w' ⟨s0, s1, s2, s3, s4, s5⟩
              go_simp
              with_reducible rfl
            rotate_left
            · simp only [Act.put, List.setIfInBounds_toArray, List.set_cons_zero, List.set_cons_succ, i64_w, i32_w]
              rfl
            refine take_ (i := 1) (N := some 47) (v := ?_) (a' := ?_) #[true, true, false, false, false] rfl rfl (by kernel_rfl) (fun _ _ _ h => h) (Or.inl ⟨by rfl, ?_⟩) hHeld ?_ ?_
            rotate_left
            · rintro w' ⟨s0, s1, s2, s3, s4, s5⟩
              go_simp
              with_reducible rfl
            rotate_left
            · simp only [Act.put, List.setIfInBounds_toArray, List.set_cons_zero, List.set_cons_succ, i64_w, i32_w]
              rfl
            refine one_ (i := 2) (N := some 48) #[true, true, true, false, false] rfl rfl (by kernel_rfl) (by decide) (fun K hK => ?_)
            refine goes_ Try.func14 (by kernel_rfl) rfl #[.agg #[.int .i8 a0_0, .int .i8 a0_1, .slice A0_2 l0_2.length c0_2]] (by rfl) rfl rfl (by (try simp only [List.map_toArray, List.map_cons, List.map_nil]); first | done | rfl | (simp only [List.length_drop, List.length_take]; rfl)) ?_
            with_reducible refine (laws_toFerry.calls kj16 a0_0 a0_1 _ _ l0_2 t230 t231 t232 _ ?side1 ?side2 A72.out).mono ?_
            (case side1 => repeat (first | exact (Kd.C_below HR0_2.out HB.out) | (with_reducible refine Kd.C_alloc ?_ _) | (with_reducible refine Kd.C_drewN ?_ _) | (with_reducible refine Kd.C_drew ?_)))
            (case side2 => exact HC0_2.out)
            rintro e w80 ⟨v233, rfl, ho0, hb⟩
            refine ⟨_, rfl, ?_⟩
            have n0_ := Aside0.mk (Kd.R_elder' (by (with_reducible repeat (first | apply Kd.R_alloc | apply Kd.R_drewN | apply Kd.R_drew)); exact HO_223002.out) (Kd.R_base ho0) hb)
            have n1_ := Aside0.mk (Kd.R_lower (Kd.R_new' ho0 (Kd.R_lt (by (with_reducible repeat (first | apply Kd.R_alloc | apply Kd.R_drewN | apply Kd.R_drew)); exact HO_223002.out))) (below_size (by repeat (first | (with_reducible first | exact HB.out | apply below_alloc | apply pw_below_drewN | apply below_drew1 | refine below_set ?_ GE203.out | refine below_set ?_ GE204.out | refine below_set ?_ GE216.out | refine below_set ?_ GE222.out | refine below_set ?_ GE228.out) | exact HB.out))))
            have n2_ := Aside0.mk (blk_below (g := gb203) (o := .cells #[.int .i8 a0_0, .int .i8 a0_1, .slice A0_2 l0_2.length c0_2] 25 (0, 0)) (by (with_reducible repeat (first | refine blk_drewN ?_ _ | refine blk_drew ?_ | refine blk_alloc ?_ _)); exact BK203.out) hb)
            have n3_ := Aside0.mk (blk_below (g := gb204) (o := .cells #[.int .u16 a1_0, .bool a1_1] 39 (0, 0)) (by (with_reducible repeat (first | refine blk_drewN ?_ _ | refine blk_drew ?_ | refine blk_alloc ?_ _)); exact BK204.out) hb)
            have n4_ := Aside0.mk (blk_below (g := gb216) (o := .cells #[.int .u16 t213, .bool t214] 41 (0, 0)) (by (with_reducible repeat (first | refine blk_drewN ?_ _ | refine blk_drew ?_ | refine blk_alloc ?_ _)); exact BK216.out) hb)
            have n5_ := Aside0.mk (blk_below (g := gb222) (o := .cells #[.int .i8 t217, .int .i8 t218, .slice Ao40 t219.length co40] 28 (0, 0)) (by (with_reducible repeat (first | refine blk_drewN ?_ _ | refine blk_drew ?_ | refine blk_alloc ?_ _)); exact BK222.out) hb)
            have n6_ := Aside0.mk (blk_below (g := gb228) (o := .cells #[.int .u16 t225, .bool t226] 41 (0, 0)) (by (with_reducible repeat (first | refine blk_drewN ?_ _ | refine blk_drew ?_ | refine blk_alloc ?_ _)); exact BK228.out) hb)
            have n7_ := Aside0.mk (below_step (by repeat (first | (with_reducible first | exact HB.out | apply below_alloc | apply pw_below_drewN | apply below_drew1 | refine below_set ?_ GE203.out | refine below_set ?_ GE204.out | refine below_set ?_ GE216.out | refine below_set ?_ GE222.out | refine below_set ?_ GE228.out) | exact HB.out)) hb)
            clear HO_223002
            clear BK203
            clear BK204
            clear BK216
            clear BK222
            clear BK228
            clear HB
            have HO_223002 := n0_
            have HO234 := n1_
            have BK203 := n2_
            have BK204 := n3_
            have BK216 := n4_
            have BK222 := n5_
            have BK228 := n6_
            have HB := n7_
            clear n0_ n1_ n2_ n3_ n4_ n5_ n6_ n7_
            (try clear hb)
            (try clear hb2)
            (try clear hk)
            (try clear hi)
            (try clear ho0)
            obtain ⟨Ao81, co81, eo81⟩ := Kd.R_slice HO234.out
            (first | subst eo81 | (injection eo81 with f1_ f2_ f3_; have f4_ := f1_.symm; have f5_ := f3_.symm; clear f1_ f2_ f3_; subst f4_; subst f5_))
            refine hK.out _ _ ⟨(blk_cell BK222.out 0).trans rfl, (blk_cell BK222.out 1).trans rfl, (blk_cell BK222.out 2).trans rfl, (blk_cell BK203.out 0).trans rfl, (blk_cell BK203.out 1).trans rfl, (blk_cell BK203.out 2).trans rfl⟩ (fun hHeld => ?_)
            clear hK K
            refine norm_ (a' := ?_) ?_ ?_
            rotate_left
            · show Act.put _ (some 48) _ = _
              simp only [Act.put, List.setIfInBounds_toArray, List.set_cons_zero, List.set_cons_succ, i64_w, i32_w]
              rfl
            refine one_ (i := 3) (N := some 49) #[true, true, true, true, false] rfl rfl (by kernel_rfl) (by decide) (fun K hK => ?_)
            refine goes_ Try.func16 (by kernel_rfl) rfl #[.agg #[.int .i8 t217, .int .i8 t218, .slice Ao40 t219.length co40], .agg #[.int .i8 t230, .int .i8 t231, .slice Ao81 t232.length co81]] (by rfl) rfl rfl (by (try simp only [List.map_toArray, List.map_cons, List.map_nil]); first | done | rfl | (simp only [List.length_drop, List.length_take]; rfl)) ?_
            with_reducible refine (laws_eqFerry.calls kj16 t217 t218 _ _ t219 t230 t231 _ _ t232 false _ ?side1 ?side2 ?side3 ?side4 A73.out).mono ?_
            (case side1 => repeat (first | exact (Kd.R_reads' HO_223002.out).2.2 | (with_reducible refine Kd.C_alloc ?_ _) | (with_reducible refine Kd.C_drewN ?_ _) | (with_reducible refine Kd.C_drew ?_)))
            (case side2 => exact (Kd.R_reads' HO_223002.out).2.1)
            (case side3 => repeat (first | exact (Kd.R_reads' HO234.out).2.2 | (with_reducible refine Kd.C_alloc ?_ _) | (with_reducible refine Kd.C_drewN ?_ _) | (with_reducible refine Kd.C_drew ?_)))
            (case side4 => exact (Kd.R_reads' HO234.out).2.1)
            rintro e w82 ⟨rfl, hb⟩
            refine ⟨_, rfl, ?_⟩
            have n0_ := Aside0.mk (Kd.R_below (by (with_reducible repeat (first | apply Kd.R_alloc | apply Kd.R_drewN | apply Kd.R_drew)); exact HO_223002.out) hb)
            have n1_ := Aside0.mk (Kd.R_below (by (with_reducible repeat (first | apply Kd.R_alloc | apply Kd.R_drewN | apply Kd.R_drew)); exact HO234.out) hb)
            have n2_ := Aside0.mk (blk_below (g := gb203) (o := .cells #[.int .i8 a0_0, .int .i8 a0_1, .slice A0_2 l0_2.length c0_2] 25 (0, 0)) (by (with_reducible repeat (first | refine blk_drewN ?_ _ | refine blk_drew ?_ | refine blk_alloc ?_ _)); exact BK203.out) hb)
            have n3_ := Aside0.mk (blk_below (g := gb204) (o := .cells #[.int .u16 a1_0, .bool a1_1] 39 (0, 0)) (by (with_reducible repeat (first | refine blk_drewN ?_ _ | refine blk_drew ?_ | refine blk_alloc ?_ _)); exact BK204.out) hb)
            have n4_ := Aside0.mk (blk_below (g := gb216) (o := .cells #[.int .u16 t213, .bool t214] 41 (0, 0)) (by (with_reducible repeat (first | refine blk_drewN ?_ _ | refine blk_drew ?_ | refine blk_alloc ?_ _)); exact BK216.out) hb)
            have n5_ := Aside0.mk (blk_below (g := gb222) (o := .cells #[.int .i8 t217, .int .i8 t218, .slice Ao40 t219.length co40] 28 (0, 0)) (by (with_reducible repeat (first | refine blk_drewN ?_ _ | refine blk_drew ?_ | refine blk_alloc ?_ _)); exact BK222.out) hb)
            have n6_ := Aside0.mk (blk_below (g := gb228) (o := .cells #[.int .u16 t225, .bool t226] 41 (0, 0)) (by (with_reducible repeat (first | refine blk_drewN ?_ _ | refine blk_drew ?_ | refine blk_alloc ?_ _)); exact BK228.out) hb)
            have n7_ := Aside0.mk (below_step (by repeat (first | (with_reducible first | exact HB.out | apply below_alloc | apply pw_below_drewN | apply below_drew1 | refine below_set ?_ GE203.out | refine below_set ?_ GE204.out | refine below_set ?_ GE216.out | refine below_set ?_ GE222.out | refine below_set ?_ GE228.out) | exact HB.out)) hb)
            clear HO_223002
            clear HO234
            clear BK203
            clear BK204
            clear BK216
            clear BK222
            clear BK228
            clear HB
            have HO_223002 := n0_
            have HO234 := n1_
            have BK203 := n2_
            have BK204 := n3_
            have BK216 := n4_
            have BK222 := n5_
            have BK228 := n6_
            have HB := n7_
            clear n0_ n1_ n2_ n3_ n4_ n5_ n6_ n7_
            (try clear hb)
            (try clear hb2)
            (try clear hk)
            (try clear hi)
            refine hK.out _ _ ⟨(blk_cell BK222.out 0).trans rfl, (blk_cell BK222.out 1).trans rfl, (blk_cell BK222.out 2).trans rfl, (blk_cell BK203.out 0).trans rfl, (blk_cell BK203.out 1).trans rfl, (blk_cell BK203.out 2).trans rfl⟩ (fun hHeld => ?_)
            clear hK K
            refine norm_ (a' := ?_) ?_ ?_
            rotate_left
            · show Act.put _ (some 49) _ = _
              simp only [Act.put, List.setIfInBounds_toArray, List.set_cons_zero, List.set_cons_succ, i64_w, i32_w]
              rfl
            refine pure_ (i := 4) (N := some 50) (v := ?_) (a' := ?_) #[true, true, true, true, true] rfl rfl (by kernel_rfl) (fun _ _ _ h => h) (Or.inl ⟨by rfl, ?_⟩) ?_ ?_
            rotate_left
            · intro w'
              go_simp
              with_reducible rfl
            rotate_left
            · simp only [Act.put, List.setIfInBounds_toArray, List.set_cons_zero, List.set_cons_succ, i64_w, i32_w]
              rfl
            refine done_ (by kernel_rfl) ?_
            try go_wp2
            go_ret
            exact ⟨by first | rfl | (simp [errW_none, errW_some] <;> rfl) | (simp [*, errW_none, errW_some] <;> rfl), by repeat (first | (with_reducible first | exact HB.out | apply below_alloc | apply pw_below_drewN | apply below_drew1 | refine below_set ?_ GE203.out | refine below_set ?_ GE204.out | refine below_set ?_ GE216.out | refine below_set ?_ GE222.out | refine below_set ?_ GE228.out) | exact HB.out)⟩

end Go.Proofs.Ytikdnhhegknplaa.X
