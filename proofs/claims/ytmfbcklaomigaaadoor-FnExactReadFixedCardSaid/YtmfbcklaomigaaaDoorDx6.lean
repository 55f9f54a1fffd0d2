-- Written by wip/tools/myprint.py, a program of this session, by way of the kit's print.
import Derived.Test.YtmfbcklaomigaaaDoorDx0
import Derived.Test.YtmfbcklaomigaaaDoorDx2
import Derived.Test.YtmfbcklaomigaaaDoorDx5
namespace Go.Proofs.YtmfbcklaomigaaaDoor.D
open Go.RowKit Go.Proofs.YtmfbcklaomigaaaDoorW.PrintWords Go.Proofs.YtmfbcklaomigaaaDoorW.PrintLast Go.Proofs.YtmfbcklaomigaaaDoorW.PrintMore
attribute [local go_sem] max2_int min2_int max_two min_two max_three min_three max_four min_four   -- for this text's walks alone
set_option linter.unusedVariables false
set_option linter.unusedSimpArgs false

/-! ### impl_ReadFixed: function 7 -/
mutual
def impl_ReadFixed.l0 : Nat → List ByteArray → Int → Int → Int → Int → List (S35) → Option (Int × Int × (List (S35)) × Int)
 | 0, _, _, _, _, _, _ => none
 | k + 1, x21, x22, x23, x144000, x144001, x144002 => if x23 < x22 then (if 0 ≤ x23 then (if x23 < (x21.length : Int) then ((impl_fromSigns.f k (rdOf ByteArray.empty x21 x23)).bind fun bt149 => (if x23 = 0 then (impl_ReadFixed.j1 k bt149.1 bt149.2 x21 x22 x23 (decide ((bt149.1.length : Int) ≤ 4)) x144000 x144001 x144002) else (impl_ReadFixed.j1 k bt149.1 bt149.2 x21 x22 x23 false x144000 x144001 x144002))) else (none)) else (none)) else ((impl_ValidFixed.f k x144000 x144001 x144002).bind fun t147 => (if t147 = true then (some (x144000, x144001, x144002, 0)) else (some (0, 0, ([] : List (S35)), 5))))
def impl_ReadFixed.j1 : Nat → List Int → Bool → List ByteArray → Int → Int → Bool → Int → Int → List (S35) → Option (Int × Int × (List (S35)) × Int)
 | 0, _, _, _, _, _, _, _, _, _ => none
 | k + 1, x8, x9, x21, x22, x23, x39, x144000, x144001, x144002 => if x39 = true then (if x9 = true then (if (x8.length : Int) = (wrap64 (IntKind.i8.wrap ((x8.length : Int)))) then (if x144002.length < 35184372088832 then (impl_ReadFixed.l0 k x21 x22 (wrap64 (x23 + 1)) (IntKind.i8.wrap ((x8.length : Int))) x144001 (x144002 ++ [(padW x8)])) else (none)) else (some (0, 0, ([] : List (S35)), 5))) else (some (0, 0, ([] : List (S35)), 5))) else (if x9 = true then (if (x8.length : Int) = (wrap64 (x144000)) then (if x144002.length < 35184372088832 then (impl_ReadFixed.l0 k x21 x22 (wrap64 (x23 + 1)) x144000 x144001 (x144002 ++ [(padW x8)])) else (none)) else (some (0, 0, ([] : List (S35)), 5))) else (some (0, 0, ([] : List (S35)), 5)))
end
def impl_ReadFixed.f (k : Nat) (a0 : ByteArray) : Option (Int × Int × (List (S35)) × Int) := (strings_Split.f a0 (⟨#[32]⟩ : ByteArray)).bind fun t135 => ((impl_kindWords.f).bind fun t138 => (if 0 < (t135.length : Int) then ((slices_Index_string_string.f k t138 (rdOf ByteArray.empty t135 0)).bind fun t142 => ((rest1 t135).bind fun t144 => (impl_ReadFixed.l0 k t144 (t144.length : Int) 0 0 (IntKind.i8.wrap (t142)) ([] : List (S35))))) else (none)))
theorem impl_ReadFixed.mono_l : ∀ k, (∀ y0 y1 y2 y3 y4 y5, LeO (impl_ReadFixed.l0 k y0 y1 y2 y3 y4 y5) (impl_ReadFixed.l0 (k + 1) y0 y1 y2 y3 y4 y5)) ∧ (∀ y0 y1 y2 y3 y4 y5 y6 y7 y8, LeO (impl_ReadFixed.j1 k y0 y1 y2 y3 y4 y5 y6 y7 y8) (impl_ReadFixed.j1 (k + 1) y0 y1 y2 y3 y4 y5 y6 y7 y8))
 | 0 => ⟨fun _ _ _ _ _ _ r h => by simp [impl_ReadFixed.l0] at h, fun _ _ _ _ _ _ _ _ _ r h => by simp [impl_ReadFixed.j1] at h⟩
 | k + 1 => by
  obtain ⟨ih0, ih1⟩ := impl_ReadFixed.mono_l k
  refine ⟨?_, ?_⟩
  ·intro y0 y1 y2 y3 y4 y5
   unfold impl_ReadFixed.l0
   repeat' first
   | (with_reducible exact ih0 _ _ _ _ _ _)
   | (with_reducible exact ih1 _ _ _ _ _ _ _ _ _)
   | (with_reducible exact impl_ValidFixed.mono _ _ _ _)
   | (with_reducible exact impl_fromSigns.mono _ _)
   | (with_reducible exact slices_Index_string_string.mono _ _ _)
   | (with_reducible exact LeO.refl _)
   | (with_reducible exact LeO.none _)
   | (with_reducible refine LeO.ite ?_ ?_)
   | (with_reducible refine LeO.bind ?_ (fun _ => ?_))
   | exact ih0 _ _ _ _ _ _
   | exact ih1 _ _ _ _ _ _ _ _ _
   | exact impl_ValidFixed.mono _ _ _ _
   | exact impl_fromSigns.mono _ _
   | exact slices_Index_string_string.mono _ _ _
   | exact LeO.none _
   | refine LeO.ite ?_ ?_
   | refine LeO.bind ?_ (fun _ => ?_)
  ·intro y0 y1 y2 y3 y4 y5 y6 y7 y8
   unfold impl_ReadFixed.j1
   repeat' first
   | (with_reducible exact ih0 _ _ _ _ _ _)
   | (with_reducible exact ih1 _ _ _ _ _ _ _ _ _)
   | (with_reducible exact impl_ValidFixed.mono _ _ _ _)
   | (with_reducible exact impl_fromSigns.mono _ _)
   | (with_reducible exact slices_Index_string_string.mono _ _ _)
   | (with_reducible exact LeO.refl _)
   | (with_reducible exact LeO.none _)
   | (with_reducible refine LeO.ite ?_ ?_)
   | (with_reducible refine LeO.bind ?_ (fun _ => ?_))
   | exact ih0 _ _ _ _ _ _
   | exact ih1 _ _ _ _ _ _ _ _ _
   | exact impl_ValidFixed.mono _ _ _ _
   | exact impl_fromSigns.mono _ _
   | exact slices_Index_string_string.mono _ _ _
   | exact LeO.none _
   | refine LeO.ite ?_ ?_
   | refine LeO.bind ?_ (fun _ => ?_)
theorem impl_ReadFixed.mono : ∀ a0 k, LeO (impl_ReadFixed.f k a0) (impl_ReadFixed.f (k + 1) a0) := by
 intro a0 k
 obtain ⟨ih0, ih1⟩ := impl_ReadFixed.mono_l k
 unfold impl_ReadFixed.f
 repeat' first
   | (with_reducible exact ih0 _ _ _ _ _ _)
   | (with_reducible exact ih1 _ _ _ _ _ _ _ _ _)
   | (with_reducible exact impl_ValidFixed.mono _ _ _ _)
   | (with_reducible exact impl_fromSigns.mono _ _)
   | (with_reducible exact slices_Index_string_string.mono _ _ _)
   | (with_reducible exact LeO.refl _)
   | (with_reducible exact LeO.none _)
   | (with_reducible refine LeO.ite ?_ ?_)
   | (with_reducible refine LeO.bind ?_ (fun _ => ?_))
   | exact ih0 _ _ _ _ _ _
   | exact ih1 _ _ _ _ _ _ _ _ _
   | exact impl_ValidFixed.mono _ _ _ _
   | exact impl_fromSigns.mono _ _
   | exact slices_Index_string_string.mono _ _ _
   | exact LeO.none _
   | refine LeO.ite ?_ ?_
   | refine LeO.bind ?_ (fun _ => ?_)
def impl_ReadFixed.T2 : Bool × List (List Nat × List Nat) := (true, [([], []), ([], []), ([1], [1]), ([2], [2]), ([0, 3, 0], [0, 3]), ([4], [4]), ([5], [5]), ([], []), ([7, 6, 4, 0, 1, 2, 3, 4, 5, 6, 7], [6, 7])])
def impl_ReadFixed.B2 : List Nat := [0, 0, 2, 6, 15, 31, 63, 0, 255]
theorem impl_ReadFixed.tab2 : rtab .any (opsOf Tryd.f7 2) = impl_ReadFixed.T2 := by kernel_rfl
theorem impl_ReadFixed.bits2 : waitsOk impl_ReadFixed.T2.2 impl_ReadFixed.B2 = true := by kernel_rfl
set_option maxHeartbeats 8000000 in
set_option maxRecDepth 100000 in
theorem impl_ReadFixed.calls (k : Nat) (a0 : ByteArray) (r1 : Int) (r2 : Int) (r3 : List (S35)) (r4 : Int) (w : World) (hml : MaxL w) (h : impl_ReadFixed.f k a0 = some (r1, r2, r3, r4)) :
  Calls Tryd.prog 7 #[.string a0] w fun e w' => ∃ v2_ : Value, e = .returned (.tuple #[.agg #[.int .i8 r1, .int .i8 r2, v2_], .int .i64 r4]) ∧ Kd.R k35 35 w' w.heap.size (fun _ => True) v2_ r3 ∧ Below w.heap.size w w' := by
 have hu27 := Tryd.underlying27
 have hu35 := Tryd.underlying35
 have HML := Aside0.mk hml
 clear hml
 have HB := Aside0.mk (Below.refl w.heap.size w)
 have H : ((strings_Split.f a0 (⟨#[32]⟩ : ByteArray)).bind fun t135 => ((impl_kindWords.f).bind fun t138 => (if 0 < (t135.length : Int) then ((slices_Index_string_string.f k t138 (rdOf ByteArray.empty t135 0)).bind fun t142 => ((rest1 t135).bind fun t144 => (impl_ReadFixed.l0 k t144 (t144.length : Int) 0 0 (IntKind.i8.wrap (t142)) ([] : List (S35))))) else (none)))) = some (r1, r2, r3, r4) := h
 clear h
 replace H := Option.bind_eq_some_iff.mp H
 obtain ⟨t135, A20, H⟩ := H
 replace H : ((impl_kindWords.f).bind fun t138 => (if 0 < (t135.length : Int) then ((slices_Index_string_string.f k t138 (rdOf ByteArray.empty t135 0)).bind fun t142 => ((rest1 t135).bind fun t144 => (impl_ReadFixed.l0 k t144 (t144.length : Int) 0 0 (IntKind.i8.wrap (t142)) ([] : List (S35))))) else (none))) = some (r1, r2, r3, r4) := H
 have A2 := Aside0.mk A20
 clear A20
 replace H := Option.bind_eq_some_iff.mp H
 obtain ⟨t138, A30, H⟩ := H
 replace H : (if 0 < (t135.length : Int) then ((slices_Index_string_string.f k t138 (rdOf ByteArray.empty t135 0)).bind fun t142 => ((rest1 t135).bind fun t144 => (impl_ReadFixed.l0 k t144 (t144.length : Int) 0 0 (IntKind.i8.wrap (t142)) ([] : List (S35))))) else (none)) = some (r1, r2, r3, r4) := H
 have A3 := Aside0.mk A30
 clear A30
 by_cases c4 : 0 < (t135.length : Int)
 ·rw [if_pos c4] at H
  have c4b0 : decide (0 < (t135.length : Int)) = true := decide_eq_true c4
  have c4b1 : decide (0 < t135.length) = true := decide_eq_true (by omega)
  clear c4
  replace H := Option.bind_eq_some_iff.mp H
  obtain ⟨t142, A50, H⟩ := H
  replace H : ((rest1 t135).bind fun t144 => (impl_ReadFixed.l0 k t144 (t144.length : Int) 0 0 (IntKind.i8.wrap (t142)) ([] : List (S35)))) = some (r1, r2, r3, r4) := H
  have A5 := Aside0.mk A50
  clear A50
  replace H := Option.bind_eq_some_iff.mp H
  obtain ⟨t144, A60, H⟩ := H
  replace H : (impl_ReadFixed.l0 k t144 (t144.length : Int) 0 0 (IntKind.i8.wrap (t142)) ([] : List (S35))) = some (r1, r2, r3, r4) := H
  have A6 := Aside0.mk A60
  clear A60
  have H' := Aside0.mk H
  clear H
  go_enter Tryd.func7, Tryd.ntmps7
  try go_wp2_with (first | ((with_reducible refine gate_dst (N := 2) rfl ?_); (try (refine gate_guard (by rfl) ?_; dsimp only)); refine box_event ?hg (N := 2) ?hd (cs := #[.int .i8 0, .int .i8 0, .slice none 0 0]) (t := 27) ?hr ?_; (case hd => rfl); (case hg => rfl); (case hr => first | (go_simp; done) | (go_simp; rfl)); intro gb134 hg w7 hbox hb; have n0_ := Aside0.mk (below_step (by repeat (first | (with_reducible first | exact HB.out | apply below_alloc | apply pw_below_drewN | apply below_drew1) | exact HB.out)) hb); have n1_ := Aside0.mk (hbox); have n2_ := Aside0.mk ((by rw [hg]; exact (below_size (by repeat (first | (with_reducible first | exact HB.out | apply below_alloc | apply pw_below_drewN | apply below_drew1) | exact HB.out))) : w.heap.size ≤ gb134)); have n3_ := Aside0.mk ((by rw [hg]; exact (below_size (by repeat (first | (with_reducible first | exact HB.out | apply below_alloc | apply pw_below_drewN | apply below_drew1) | exact HB.out))) : w.heap.size ≤ gb134)); clear HB; have HB := n0_; have BK134 := n1_; have GW134 := n2_; have GE134 := n3_; clear n0_ n1_ n2_ n3_; clear hb hbox hg) | ((with_reducible refine gate_callee (f := 26) rfl ?_); refine goesL_ (some 12) rfl rfl Tryd.func26 (by kernel_rfl) rfl #[.string a0, .string (⟨#[32]⟩ : ByteArray)] rfl (by (try simp only [List.map_toArray, List.map_cons, List.map_nil]); first | done | rfl | (simp only [List.length_drop, List.length_take]; rfl)) ?_; (with_reducible refine (strings_Split.calls a0 (⟨#[32]⟩ : ByteArray) t135 _ (HML.out.below HB.out) A2.out).mono ?_); rintro e w8 ⟨v136, rfl, ho0, hb⟩; refine ⟨_, rfl, ?_⟩; have n0_ := Aside0.mk (Kd.R_lower ho0 (below_size (by repeat (first | (with_reducible first | exact HB.out | apply below_alloc | apply pw_below_drewN | apply below_drew1 | refine below_set ?_ GE134.out) | exact HB.out)))); have n1_ := Aside0.mk (blk_below (g := gb134) (o := .cells #[.int .i8 0, .int .i8 0, .slice none 0 0] 27 (0, 0)) (by (with_reducible repeat (first | refine blk_drewN ?_ _ | refine blk_drew ?_ | refine blk_alloc ?_ _)); exact BK134.out) hb); have n2_ := Aside0.mk (below_step (by repeat (first | (with_reducible first | exact HB.out | apply below_alloc | apply pw_below_drewN | apply below_drew1 | refine below_set ?_ GE134.out) | exact HB.out)) hb); clear BK134; clear HB; have HO137 := n0_; have BK134 := n1_; have HB := n2_; clear n0_ n1_ n2_; (try clear hb); (try clear hb2); (try clear hk); (try clear hi); (try clear ho0)))
  have n0_ := Aside0.mk (Kd.R_drew HO137.out)
  have n1_ := Aside0.mk (blk_drew BK134.out)
  have n2_ := Aside0.mk (below_drew1 HB.out)
  clear HO137
  clear BK134
  clear HB
  have HO137 := n0_
  have BK134 := n1_
  have HB := n2_
  clear n0_ n1_ n2_
  obtain ⟨Ao10, co10, eo10⟩ := Kd.R_slice HO137.out
  (first | subst eo10 | (injection eo10 with f1_ f2_ f3_; have f4_ := f1_.symm; have f5_ := f3_.symm; clear f1_ f2_ f3_; subst f4_; subst f5_))
  have p141 : 0 ≤ (0 : Int) := (by omega)
  have q141 : 0 < (t135.length : Int) := of_decide_eq_true (by first | (with_reducible assumption) | assumption)
  obtain ⟨ad141, e141, hx141_0⟩ := Kd.at_string (Kd.R_reads' HO137.out).2.2 0 p141 q141
  cases e141
  have qi141 : (0 < t135.length) = True := eq_true (by omega)
  (try rw [show ((0 : Int)).toNat = 0 from rfl] at hx141_0)
  (try rw [Addr.add_zero'] at hx141_0)
  replace p141 := eq_true p141
  replace q141 := eq_true q141
  refine start_ (n := 9) (S := fun w' => w'.cell? ad141 = some (.string (rdOf ByteArray.empty t135 0))) (ds := []) #[false, false, false, false, false, false, false, false, false] (by kernel_rfl) rfl rfl (hx141_0) (fun hHeld => ?_); refine with_tabW impl_ReadFixed.tab2 impl_ReadFixed.bits2 (fun HT_ HW_ => ?_)
  generalize w8.drew = w9 at HO137 BK134 HB hx141_0 hHeld ⊢
  refine pure_ (i := 1) (N := some 14) (v := ?_) (a' := ?_) #[false, true, false, false, false, false, false, false, false] rfl rfl (any_of HT_.out (by kernel_rfl)) (fun _ _ _ h => h) (Or.inl ⟨by rfl, ?_⟩) ?_ ?_
  rotate_left
  ·intro w'
   go_simp
   with_reducible rfl
  rotate_left
  ·simp only [Act.put, List.setIfInBounds_toArray, List.set_cons_zero, List.set_cons_succ, i64_w, i32_w]
   rfl
  refine pure_ (i := 2) (N := some 15) (v := ?_) (a' := ?_) #[false, true, true, false, false, false, false, false, false] rfl rfl (any_of HT_.out (by kernel_rfl)) (fun _ _ _ h => h) (Or.inl ⟨by rfl, ?_⟩) ?_ ?_
  rotate_left
  ·intro w'
   go_simp
   with_reducible rfl
  rotate_left
  ·simp only [Act.put, List.setIfInBounds_toArray, List.set_cons_zero, List.set_cons_succ, i64_w, i32_w]
   rfl
  refine take_ (i := 3) (N := some 16) (v := ?_) (a' := ?_) #[false, true, true, true, false, false, false, false, false] rfl rfl (take_ofW HT_.out HW_.out (by kernel_rfl)) (fun _ _ _ h => h) (Or.inl ⟨by rfl, ?_⟩) hHeld ?_ ?_
  rotate_left
  ·intro w' s0
   go_simp
   with_reducible rfl
  rotate_left
  ·simp only [Act.put, List.setIfInBounds_toArray, List.set_cons_zero, List.set_cons_succ, i64_w, i32_w]
   rfl
  refine join_ (σ := Value × Nat) 1 #[true, true, true, true, true, true, true, true, false] (fun s_ => [(13, s_.1), (17, .int .i64 t142), (5, .pointer (some ⟨s_.2, 0, none⟩)), (18, .int .i8 (IntKind.i8.wrap (t142))), (19, .agg #[.int .i8 0, .int .i8 (IntKind.i8.wrap (t142)), .slice none 0 0])]) (fun s_ w' => (w'.cell? ad141 = some (.string (rdOf ByteArray.empty t135 0))) ∧ (Kd.R Kd.string 9 w' w.heap.size (fun k_ => some k_ ≠ (s_.1 : Value).ownBlock) (.slice (some ad141) t135.length co10) t135) ∧ (Kd.R Kd.string 9 w' w.heap.size (fun k_ => some k_ ≠ (.slice (some ad141) t135.length co10 : Value).ownBlock) s_.1 t138) ∧ (w'.heap[gb134]? = some (.cells #[.int .i8 0, .int .i8 0, .slice none 0 0] 27 (0, 0))) ∧ (w'.heap[s_.2]? = some (.cells #[.int .i8 0, .int .i8 0, .slice none 0 0] 27 (0, 0))) ∧ (w.heap.size ≤ s_.2) ∧ (w.heap.size ≤ s_.2) ∧ (gb134 ≠ s_.2) ∧ (s_.2 ≠ gb134) ∧ (Below w.heap.size w w')) ?_ ?_
  rotate_left
  ·intro hCont
   refine two_ (i := 0) (j := 7) (Ni := some 13) (Nj := some 5) #[true, true, true, true, false, false, false, false, false] #[false, true, true, true, false, false, false, true, false] rfl rfl rfl rfl (two_of HT_.out (by kernel_rfl)) (by decide) (by decide) (fun K hK => ?_) (fun K hK => ?_)
   ·skip
    refine goes_ Tryd.func28 (by kernel_rfl) rfl #[] (by rfl) rfl rfl (by (try simp only [List.map_toArray, List.map_cons, List.map_nil]); first | done | rfl | (simp only [List.length_drop, List.length_take]; rfl)) ?_
    with_reducible refine (impl_kindWords.calls  t138 _ A3.out).mono ?_
    rintro e w11 ⟨v139, rfl, ho0, hb⟩
    have HS0_ := (hb.cell (World.block_lt_of_cell? _ _ (hHeld))).trans (hHeld)
    refine ⟨_, rfl, ?_⟩
    have n0_ := Aside0.mk (Kd.R_elder' (by (with_reducible repeat (first | apply Kd.R_alloc | apply Kd.R_drewN | apply Kd.R_drew)); exact HO137.out) (Kd.R_base ho0) hb)
    have n1_ := Aside0.mk (Kd.R_lower (Kd.R_new' ho0 (Kd.R_lt (by (with_reducible repeat (first | apply Kd.R_alloc | apply Kd.R_drewN | apply Kd.R_drew)); exact HO137.out))) (below_size (by repeat (first | (with_reducible first | exact HB.out | apply below_alloc | apply pw_below_drewN | apply below_drew1 | refine below_set ?_ GE134.out) | exact HB.out))))
    have n2_ := Aside0.mk (blk_below (g := gb134) (o := .cells #[.int .i8 0, .int .i8 0, .slice none 0 0] 27 (0, 0)) (by (with_reducible repeat (first | refine blk_drewN ?_ _ | refine blk_drew ?_ | refine blk_alloc ?_ _)); exact BK134.out) hb)
    have n3_ := Aside0.mk (below_step (by repeat (first | (with_reducible first | exact HB.out | apply below_alloc | apply pw_below_drewN | apply below_drew1 | refine below_set ?_ GE134.out) | exact HB.out)) hb)
    clear HO137
    clear BK134
    clear HB
    have HO137 := n0_
    have HO140 := n1_
    have BK134 := n2_
    have HB := n3_
    clear n0_ n1_ n2_ n3_
    (try clear hb)
    (try clear hb2)
    (try clear hk)
    (try clear hi)
    (try clear ho0)
    obtain ⟨Ao12, co12, eo12⟩ := Kd.R_slice HO140.out
    (first | subst eo12 | (injection eo12 with f1_ f2_ f3_; have f4_ := f1_.symm; have f5_ := f3_.symm; clear f1_ f2_ f3_; subst f4_; subst f5_))
    refine hK.out _ _ (HS0_) (fun hHeld => ?_)
    clear hK K
    refine norm_ (a' := ?_) ?_ ?_
    rotate_left
    ·show Act.put _ (some 13) _ = _
     simp only [Act.put, List.setIfInBounds_toArray, List.set_cons_zero, List.set_cons_succ, i64_w, i32_w]
     rfl
    refine two_ (i := 4) (j := 7) (Ni := some 17) (Nj := some 5) #[true, true, true, true, true, false, false, false, false] #[true, true, true, true, false, false, false, true, false] rfl rfl rfl rfl (two_of HT_.out (by kernel_rfl)) (by decide) (by decide) (fun K hK => ?_) (fun K hK => ?_)
    ·skip
     refine goes_ Tryd.func27 (by kernel_rfl) rfl #[.slice Ao12 t138.length co12, .string (rdOf ByteArray.empty t135 0)] (by rfl) rfl rfl (by (try simp only [List.map_toArray, List.map_cons, List.map_nil]); first | done | rfl | (simp only [List.length_drop, List.length_take]; rfl)) ?_
     with_reducible refine (slices_Index_string_string.calls k _ _ t138 (rdOf ByteArray.empty t135 0) t142 _ ?side1 ?side2 A5.out).mono ?_
     (case side1 => repeat (first | exact (Kd.R_reads' HO140.out).2.2 | (with_reducible refine Kd.C_alloc ?_ _) | (with_reducible refine Kd.C_drewN ?_ _) | (with_reducible refine Kd.C_drew ?_)))
     (case side2 => exact (Kd.R_reads' HO140.out).2.1)
     rintro e w' ⟨rfl, ⟨nd, rfl⟩⟩
     refine ⟨_, rfl, ?_⟩
     refine hK.out _ _ (hHeld) (fun hHeld => ?_)
     clear hK K
     refine norm_ (a' := ?_) ?_ ?_
     rotate_left
     ·show Act.put _ (some 17) _ = _
      simp only [Act.put, List.setIfInBounds_toArray, List.set_cons_zero, List.set_cons_succ, i64_w, i32_w]
      rfl
     refine pure_ (i := 5) (N := some 18) (v := ?_) (a' := ?_) #[true, true, true, true, true, true, false, false, false] rfl rfl (any_of HT_.out (by kernel_rfl)) (fun _ _ _ h => h) (Or.inl ⟨by rfl, ?_⟩) ?_ ?_
     rotate_left
     ·intro w'
      go_simp
      with_reducible rfl
     rotate_left
     ·simp only [Act.put, List.setIfInBounds_toArray, List.set_cons_zero, List.set_cons_succ, i64_w, i32_w]
      rfl
     refine pure_ (i := 6) (N := some 19) (v := ?_) (a' := ?_) #[true, true, true, true, true, true, true, false, false] rfl rfl (any_of HT_.out (by kernel_rfl)) (fun _ _ _ h => h) (Or.inl ⟨by rfl, ?_⟩) ?_ ?_
     rotate_left
     ·intro w'
      go_simp
      with_reducible rfl
     rotate_left
     ·simp only [Act.put, List.setIfInBounds_toArray, List.set_cons_zero, List.set_cons_succ, i64_w, i32_w]
      rfl
     refine one_ (i := 7) (N := some 5) #[true, true, true, true, true, true, true, true, false] rfl rfl (one_of HT_.out (by kernel_rfl)) (by decide) (fun K hK => ?_)
     refine box_step ?hg (N := 5) ?hd (cs := #[.int .i8 0, .int .i8 0, .slice none 0 0]) (t := 27) ?hr ?_; (case hd => rfl); (case hg => rfl); (case hr => first | (go_simp; done) | (go_simp; rfl))
     intro gb143 hg w13 hbox hb
     have HS0_ := (hb.cell (World.block_lt_of_cell? _ _ (hHeld))).trans (hHeld)
     have n0_ := Aside0.mk (Kd.R_below (by (with_reducible repeat (first | apply Kd.R_alloc | apply Kd.R_drewN | apply Kd.R_drew)); exact HO137.out) hb)
     have n1_ := Aside0.mk (Kd.R_below (by (with_reducible repeat (first | apply Kd.R_alloc | apply Kd.R_drewN | apply Kd.R_drew)); exact HO140.out) hb)
     have n2_ := Aside0.mk (blk_below (g := gb134) (o := .cells #[.int .i8 0, .int .i8 0, .slice none 0 0] 27 (0, 0)) (by (with_reducible repeat (first | refine blk_drewN ?_ _ | refine blk_drew ?_ | refine blk_alloc ?_ _)); exact BK134.out) hb)
     have n3_ := Aside0.mk (below_step (by repeat (first | (with_reducible first | exact HB.out | apply below_alloc | apply pw_below_drewN | apply below_drew1 | refine below_set ?_ GE134.out) | exact HB.out)) hb)
     have n4_ := Aside0.mk (hbox)
     have n5_ := Aside0.mk ((by rw [hg]; exact (below_size (by repeat (first | (with_reducible first | exact HB.out | apply below_alloc | apply pw_below_drewN | apply below_drew1 | refine below_set ?_ GE134.out) | exact HB.out))) : w.heap.size ≤ gb143))
     have n6_ := Aside0.mk ((by rw [hg]; exact (below_size (by repeat (first | (with_reducible first | exact HB.out | apply below_alloc | apply pw_below_drewN | apply below_drew1 | refine below_set ?_ GE134.out) | exact HB.out))) : w.heap.size ≤ gb143))
     have n7_ := Aside0.mk ((by rw [hg]; exact Nat.ne_of_lt (blk_lt (g := gb134) (o := .cells #[.int .i8 0, .int .i8 0, .slice none 0 0] 27 (0, 0)) (by (with_reducible repeat (first | refine blk_drewN ?_ _ | refine blk_drew ?_ | refine blk_alloc ?_ _)); exact BK134.out)) : gb134 ≠ gb143))
     have n8_ := Aside0.mk ((by rw [hg]; exact Nat.ne_of_gt (blk_lt (g := gb134) (o := .cells #[.int .i8 0, .int .i8 0, .slice none 0 0] 27 (0, 0)) (by (with_reducible repeat (first | refine blk_drewN ?_ _ | refine blk_drew ?_ | refine blk_alloc ?_ _)); exact BK134.out)) : gb143 ≠ gb134))
     clear HO137
     clear HO140
     clear BK134
     clear HB
     have HO137 := n0_
     have HO140 := n1_
     have BK134 := n2_
     have HB := n3_
     have BK143 := n4_
     have GW143 := n5_
     have GE143 := n6_
     have NB134_143 := n7_
     have NB143_134 := n8_
     clear n0_ n1_ n2_ n3_ n4_ n5_ n6_ n7_ n8_
     clear hb hbox hg
     refine hK.out _ _ (HS0_) (fun hHeld => ?_)
     clear hK K
     refine norm_ (a' := ?_) ?_ ?_
     rotate_left
     ·show Act.put _ (some 5) _ = _
      simp only [Act.put, List.setIfInBounds_toArray, List.set_cons_zero, List.set_cons_succ, i64_w, i32_w]
      rfl
     exact norm_ (by simp only [putAll, Act.put, List.setIfInBounds_toArray, List.set_cons_zero, List.set_cons_succ]) (hCont (.slice Ao12 t138.length co12, gb143) _ ⟨hHeld, (by (with_reducible repeat (first | apply Kd.R_alloc | apply Kd.R_drewN | apply Kd.R_drew)); exact Kd.R_mono HO137.out (fun _ hk => hk.2)), (by (with_reducible repeat (first | apply Kd.R_alloc | apply Kd.R_drewN | apply Kd.R_drew)); exact Kd.R_mono HO140.out (fun _ hk => hk.2)), (by (with_reducible repeat (first | refine blk_drewN ?_ _ | refine blk_drew ?_ | refine blk_alloc ?_ _)); exact BK134.out), (by (with_reducible repeat (first | refine blk_drewN ?_ _ | refine blk_drew ?_ | refine blk_alloc ?_ _)); exact BK143.out), GW143.out, GE143.out, NB134_143.out, NB143_134.out, (by repeat (first | (with_reducible first | exact HB.out | apply below_alloc | apply pw_below_drewN | apply below_drew1 | refine below_set ?_ GE134.out | refine below_set ?_ GE143.out) | exact HB.out))⟩)
    ·skip
     refine box_step ?hg (N := 5) ?hd (cs := #[.int .i8 0, .int .i8 0, .slice none 0 0]) (t := 27) ?hr ?_; (case hd => rfl); (case hg => rfl); (case hr => first | (go_simp; done) | (go_simp; rfl))
     intro gb143 hg w12 hbox hb
     have HS0_ := (hb.cell (World.block_lt_of_cell? _ _ (hHeld))).trans (hHeld)
     have n0_ := Aside0.mk (Kd.R_below (by (with_reducible repeat (first | apply Kd.R_alloc | apply Kd.R_drewN | apply Kd.R_drew)); exact HO137.out) hb)
     have n1_ := Aside0.mk (Kd.R_below (by (with_reducible repeat (first | apply Kd.R_alloc | apply Kd.R_drewN | apply Kd.R_drew)); exact HO140.out) hb)
     have n2_ := Aside0.mk (blk_below (g := gb134) (o := .cells #[.int .i8 0, .int .i8 0, .slice none 0 0] 27 (0, 0)) (by (with_reducible repeat (first | refine blk_drewN ?_ _ | refine blk_drew ?_ | refine blk_alloc ?_ _)); exact BK134.out) hb)
     have n3_ := Aside0.mk (below_step (by repeat (first | (with_reducible first | exact HB.out | apply below_alloc | apply pw_below_drewN | apply below_drew1 | refine below_set ?_ GE134.out) | exact HB.out)) hb)
     have n4_ := Aside0.mk (hbox)
     have n5_ := Aside0.mk ((by rw [hg]; exact (below_size (by repeat (first | (with_reducible first | exact HB.out | apply below_alloc | apply pw_below_drewN | apply below_drew1 | refine below_set ?_ GE134.out) | exact HB.out))) : w.heap.size ≤ gb143))
     have n6_ := Aside0.mk ((by rw [hg]; exact (below_size (by repeat (first | (with_reducible first | exact HB.out | apply below_alloc | apply pw_below_drewN | apply below_drew1 | refine below_set ?_ GE134.out) | exact HB.out))) : w.heap.size ≤ gb143))
     have n7_ := Aside0.mk ((by rw [hg]; exact Nat.ne_of_lt (blk_lt (g := gb134) (o := .cells #[.int .i8 0, .int .i8 0, .slice none 0 0] 27 (0, 0)) (by (with_reducible repeat (first | refine blk_drewN ?_ _ | refine blk_drew ?_ | refine blk_alloc ?_ _)); exact BK134.out)) : gb134 ≠ gb143))
     have n8_ := Aside0.mk ((by rw [hg]; exact Nat.ne_of_gt (blk_lt (g := gb134) (o := .cells #[.int .i8 0, .int .i8 0, .slice none 0 0] 27 (0, 0)) (by (with_reducible repeat (first | refine blk_drewN ?_ _ | refine blk_drew ?_ | refine blk_alloc ?_ _)); exact BK134.out)) : gb143 ≠ gb134))
     clear HO137
     clear HO140
     clear BK134
     clear HB
     have HO137 := n0_
     have HO140 := n1_
     have BK134 := n2_
     have HB := n3_
     have BK143 := n4_
     have GW143 := n5_
     have GE143 := n6_
     have NB134_143 := n7_
     have NB143_134 := n8_
     clear n0_ n1_ n2_ n3_ n4_ n5_ n6_ n7_ n8_
     clear hb hbox hg
     obtain ⟨Ao13, co13, eo13⟩ := Kd.R_slice HO140.out
     (first | subst eo13 | (injection eo13 with f1_ f2_ f3_; have f4_ := f1_.symm; have f5_ := f3_.symm; clear f1_ f2_ f3_; subst f4_; subst f5_))
     refine hK.out _ _ (HS0_) (fun hHeld => ?_)
     clear hK K
     refine norm_ (a' := ?_) ?_ ?_
     rotate_left
     ·show Act.put _ (some 5) _ = _
      simp only [Act.put, List.setIfInBounds_toArray, List.set_cons_zero, List.set_cons_succ, i64_w, i32_w]
      rfl
     refine one_ (i := 4) (N := some 17) #[true, true, true, true, true, false, false, true, false] rfl rfl (one_of HT_.out (by kernel_rfl)) (by decide) (fun K hK => ?_)
     refine goes_ Tryd.func27 (by kernel_rfl) rfl #[.slice Ao13 t138.length co13, .string (rdOf ByteArray.empty t135 0)] (by rfl) rfl rfl (by (try simp only [List.map_toArray, List.map_cons, List.map_nil]); first | done | rfl | (simp only [List.length_drop, List.length_take]; rfl)) ?_
     with_reducible refine (slices_Index_string_string.calls k _ _ t138 (rdOf ByteArray.empty t135 0) t142 _ ?side1 ?side2 A5.out).mono ?_
     (case side1 => repeat (first | exact (Kd.R_reads' HO140.out).2.2 | (with_reducible refine Kd.C_alloc ?_ _) | (with_reducible refine Kd.C_drewN ?_ _) | (with_reducible refine Kd.C_drew ?_)))
     (case side2 => exact (Kd.R_reads' HO140.out).2.1)
     rintro e w' ⟨rfl, ⟨nd, rfl⟩⟩
     refine ⟨_, rfl, ?_⟩
     refine hK.out _ _ (hHeld) (fun hHeld => ?_)
     clear hK K
     refine norm_ (a' := ?_) ?_ ?_
     rotate_left
     ·show Act.put _ (some 17) _ = _
      simp only [Act.put, List.setIfInBounds_toArray, List.set_cons_zero, List.set_cons_succ, i64_w, i32_w]
      rfl
     refine pure_ (i := 5) (N := some 18) (v := ?_) (a' := ?_) #[true, true, true, true, true, true, false, true, false] rfl rfl (any_of HT_.out (by kernel_rfl)) (fun _ _ _ h => h) (Or.inl ⟨by rfl, ?_⟩) ?_ ?_
     rotate_left
     ·intro w'
      go_simp
      with_reducible rfl
     rotate_left
     ·simp only [Act.put, List.setIfInBounds_toArray, List.set_cons_zero, List.set_cons_succ, i64_w, i32_w]
      rfl
     refine pure_ (i := 6) (N := some 19) (v := ?_) (a' := ?_) #[true, true, true, true, true, true, true, true, false] rfl rfl (any_of HT_.out (by kernel_rfl)) (fun _ _ _ h => h) (Or.inl ⟨by rfl, ?_⟩) ?_ ?_
     rotate_left
     ·intro w'
      go_simp
      with_reducible rfl
     rotate_left
     ·simp only [Act.put, List.setIfInBounds_toArray, List.set_cons_zero, List.set_cons_succ, i64_w, i32_w]
      rfl
     exact norm_ (by simp only [putAll, Act.put, List.setIfInBounds_toArray, List.set_cons_zero, List.set_cons_succ]) (hCont (.slice Ao13 t138.length co13, gb143) _ ⟨hHeld, (by (with_reducible repeat (first | apply Kd.R_alloc | apply Kd.R_drewN | apply Kd.R_drew)); exact Kd.R_mono HO137.out (fun _ hk => hk.2)), (by (with_reducible repeat (first | apply Kd.R_alloc | apply Kd.R_drewN | apply Kd.R_drew)); exact Kd.R_mono HO140.out (fun _ hk => hk.2)), (by (with_reducible repeat (first | refine blk_drewN ?_ _ | refine blk_drew ?_ | refine blk_alloc ?_ _)); exact BK134.out), (by (with_reducible repeat (first | refine blk_drewN ?_ _ | refine blk_drew ?_ | refine blk_alloc ?_ _)); exact BK143.out), GW143.out, GE143.out, NB134_143.out, NB143_134.out, (by repeat (first | (with_reducible first | exact HB.out | apply below_alloc | apply pw_below_drewN | apply below_drew1 | refine below_set ?_ GE134.out | refine below_set ?_ GE143.out) | exact HB.out))⟩)
   ·skip
    refine box_step ?hg (N := 5) ?hd (cs := #[.int .i8 0, .int .i8 0, .slice none 0 0]) (t := 27) ?hr ?_; (case hd => rfl); (case hg => rfl); (case hr => first | (go_simp; done) | (go_simp; rfl))
    intro gb143 hg w11 hbox hb
    have HS0_ := (hb.cell (World.block_lt_of_cell? _ _ (hHeld))).trans (hHeld)
    have n0_ := Aside0.mk (Kd.R_below (by (with_reducible repeat (first | apply Kd.R_alloc | apply Kd.R_drewN | apply Kd.R_drew)); exact HO137.out) hb)
    have n1_ := Aside0.mk (blk_below (g := gb134) (o := .cells #[.int .i8 0, .int .i8 0, .slice none 0 0] 27 (0, 0)) (by (with_reducible repeat (first | refine blk_drewN ?_ _ | refine blk_drew ?_ | refine blk_alloc ?_ _)); exact BK134.out) hb)
    have n2_ := Aside0.mk (below_step (by repeat (first | (with_reducible first | exact HB.out | apply below_alloc | apply pw_below_drewN | apply below_drew1 | refine below_set ?_ GE134.out) | exact HB.out)) hb)
    have n3_ := Aside0.mk (hbox)
    have n4_ := Aside0.mk ((by rw [hg]; exact (below_size (by repeat (first | (with_reducible first | exact HB.out | apply below_alloc | apply pw_below_drewN | apply below_drew1 | refine below_set ?_ GE134.out) | exact HB.out))) : w.heap.size ≤ gb143))
    have n5_ := Aside0.mk ((by rw [hg]; exact (below_size (by repeat (first | (with_reducible first | exact HB.out | apply below_alloc | apply pw_below_drewN | apply below_drew1 | refine below_set ?_ GE134.out) | exact HB.out))) : w.heap.size ≤ gb143))
    have n6_ := Aside0.mk ((by rw [hg]; exact Nat.ne_of_lt (blk_lt (g := gb134) (o := .cells #[.int .i8 0, .int .i8 0, .slice none 0 0] 27 (0, 0)) (by (with_reducible repeat (first | refine blk_drewN ?_ _ | refine blk_drew ?_ | refine blk_alloc ?_ _)); exact BK134.out)) : gb134 ≠ gb143))
    have n7_ := Aside0.mk ((by rw [hg]; exact Nat.ne_of_gt (blk_lt (g := gb134) (o := .cells #[.int .i8 0, .int .i8 0, .slice none 0 0] 27 (0, 0)) (by (with_reducible repeat (first | refine blk_drewN ?_ _ | refine blk_drew ?_ | refine blk_alloc ?_ _)); exact BK134.out)) : gb143 ≠ gb134))
    clear HO137
    clear BK134
    clear HB
    have HO137 := n0_
    have BK134 := n1_
    have HB := n2_
    have BK143 := n3_
    have GW143 := n4_
    have GE143 := n5_
    have NB134_143 := n6_
    have NB143_134 := n7_
    clear n0_ n1_ n2_ n3_ n4_ n5_ n6_ n7_
    clear hb hbox hg
    refine hK.out _ _ (HS0_) (fun hHeld => ?_)
    clear hK K
    refine norm_ (a' := ?_) ?_ ?_
    rotate_left
    ·show Act.put _ (some 5) _ = _
     simp only [Act.put, List.setIfInBounds_toArray, List.set_cons_zero, List.set_cons_succ, i64_w, i32_w]
     rfl
    refine one_ (i := 0) (N := some 13) #[true, true, true, true, false, false, false, true, false] rfl rfl (one_of HT_.out (by kernel_rfl)) (by decide) (fun K hK => ?_)
    refine goes_ Tryd.func28 (by kernel_rfl) rfl #[] (by rfl) rfl rfl (by (try simp only [List.map_toArray, List.map_cons, List.map_nil]); first | done | rfl | (simp only [List.length_drop, List.length_take]; rfl)) ?_
    with_reducible refine (impl_kindWords.calls  t138 _ A3.out).mono ?_
    rintro e w12 ⟨v139, rfl, ho0, hb⟩
    have HS0_ := (hb.cell (World.block_lt_of_cell? _ _ (hHeld))).trans (hHeld)
    refine ⟨_, rfl, ?_⟩
    have n0_ := Aside0.mk (Kd.R_elder' (by (with_reducible repeat (first | apply Kd.R_alloc | apply Kd.R_drewN | apply Kd.R_drew)); exact HO137.out) (Kd.R_base ho0) hb)
    have n1_ := Aside0.mk (Kd.R_lower (Kd.R_new' ho0 (Kd.R_lt (by (with_reducible repeat (first | apply Kd.R_alloc | apply Kd.R_drewN | apply Kd.R_drew)); exact HO137.out))) (below_size (by repeat (first | (with_reducible first | exact HB.out | apply below_alloc | apply pw_below_drewN | apply below_drew1 | refine below_set ?_ GE134.out | refine below_set ?_ GE143.out) | exact HB.out))))
    have n2_ := Aside0.mk (blk_below (g := gb134) (o := .cells #[.int .i8 0, .int .i8 0, .slice none 0 0] 27 (0, 0)) (by (with_reducible repeat (first | refine blk_drewN ?_ _ | refine blk_drew ?_ | refine blk_alloc ?_ _)); exact BK134.out) hb)
    have n3_ := Aside0.mk (blk_below (g := gb143) (o := .cells #[.int .i8 0, .int .i8 0, .slice none 0 0] 27 (0, 0)) (by (with_reducible repeat (first | refine blk_drewN ?_ _ | refine blk_drew ?_ | refine blk_alloc ?_ _)); exact BK143.out) hb)
    have n4_ := Aside0.mk (below_step (by repeat (first | (with_reducible first | exact HB.out | apply below_alloc | apply pw_below_drewN | apply below_drew1 | refine below_set ?_ GE134.out | refine below_set ?_ GE143.out) | exact HB.out)) hb)
    clear HO137
    clear BK134
    clear BK143
    clear HB
    have HO137 := n0_
    have HO140 := n1_
    have BK134 := n2_
    have BK143 := n3_
    have HB := n4_
    clear n0_ n1_ n2_ n3_ n4_
    (try clear hb)
    (try clear hb2)
    (try clear hk)
    (try clear hi)
    (try clear ho0)
    obtain ⟨Ao13, co13, eo13⟩ := Kd.R_slice HO140.out
    (first | subst eo13 | (injection eo13 with f1_ f2_ f3_; have f4_ := f1_.symm; have f5_ := f3_.symm; clear f1_ f2_ f3_; subst f4_; subst f5_))
    refine hK.out _ _ (HS0_) (fun hHeld => ?_)
    clear hK K
    refine norm_ (a' := ?_) ?_ ?_
    rotate_left
    ·show Act.put _ (some 13) _ = _
     simp only [Act.put, List.setIfInBounds_toArray, List.set_cons_zero, List.set_cons_succ, i64_w, i32_w]
     rfl
    refine one_ (i := 4) (N := some 17) #[true, true, true, true, true, false, false, true, false] rfl rfl (one_of HT_.out (by kernel_rfl)) (by decide) (fun K hK => ?_)
    refine goes_ Tryd.func27 (by kernel_rfl) rfl #[.slice Ao13 t138.length co13, .string (rdOf ByteArray.empty t135 0)] (by rfl) rfl rfl (by (try simp only [List.map_toArray, List.map_cons, List.map_nil]); first | done | rfl | (simp only [List.length_drop, List.length_take]; rfl)) ?_
    with_reducible refine (slices_Index_string_string.calls k _ _ t138 (rdOf ByteArray.empty t135 0) t142 _ ?side1 ?side2 A5.out).mono ?_
    (case side1 => repeat (first | exact (Kd.R_reads' HO140.out).2.2 | (with_reducible refine Kd.C_alloc ?_ _) | (with_reducible refine Kd.C_drewN ?_ _) | (with_reducible refine Kd.C_drew ?_)))
    (case side2 => exact (Kd.R_reads' HO140.out).2.1)
    rintro e w' ⟨rfl, ⟨nd, rfl⟩⟩
    refine ⟨_, rfl, ?_⟩
    refine hK.out _ _ (hHeld) (fun hHeld => ?_)
    clear hK K
    refine norm_ (a' := ?_) ?_ ?_
    rotate_left
    ·show Act.put _ (some 17) _ = _
     simp only [Act.put, List.setIfInBounds_toArray, List.set_cons_zero, List.set_cons_succ, i64_w, i32_w]
     rfl
    refine pure_ (i := 5) (N := some 18) (v := ?_) (a' := ?_) #[true, true, true, true, true, true, false, true, false] rfl rfl (any_of HT_.out (by kernel_rfl)) (fun _ _ _ h => h) (Or.inl ⟨by rfl, ?_⟩) ?_ ?_
    rotate_left
    ·intro w'
     go_simp
     with_reducible rfl
    rotate_left
    ·simp only [Act.put, List.setIfInBounds_toArray, List.set_cons_zero, List.set_cons_succ, i64_w, i32_w]
     rfl
    refine pure_ (i := 6) (N := some 19) (v := ?_) (a' := ?_) #[true, true, true, true, true, true, true, true, false] rfl rfl (any_of HT_.out (by kernel_rfl)) (fun _ _ _ h => h) (Or.inl ⟨by rfl, ?_⟩) ?_ ?_
    rotate_left
    ·intro w'
     go_simp
     with_reducible rfl
    rotate_left
    ·simp only [Act.put, List.setIfInBounds_toArray, List.set_cons_zero, List.set_cons_succ, i64_w, i32_w]
     rfl
    exact norm_ (by simp only [putAll, Act.put, List.setIfInBounds_toArray, List.set_cons_zero, List.set_cons_succ]) (hCont (.slice Ao13 t138.length co13, gb143) _ ⟨hHeld, (by (with_reducible repeat (first | apply Kd.R_alloc | apply Kd.R_drewN | apply Kd.R_drew)); exact Kd.R_mono HO137.out (fun _ hk => hk.2)), (by (with_reducible repeat (first | apply Kd.R_alloc | apply Kd.R_drewN | apply Kd.R_drew)); exact Kd.R_mono HO140.out (fun _ hk => hk.2)), (by (with_reducible repeat (first | refine blk_drewN ?_ _ | refine blk_drew ?_ | refine blk_alloc ?_ _)); exact BK134.out), (by (with_reducible repeat (first | refine blk_drewN ?_ _ | refine blk_drew ?_ | refine blk_alloc ?_ _)); exact BK143.out), GW143.out, GE143.out, NB134_143.out, NB143_134.out, (by repeat (first | (with_reducible first | exact HB.out | apply below_alloc | apply pw_below_drewN | apply below_drew1 | refine below_set ?_ GE134.out | refine below_set ?_ GE143.out) | exact HB.out))⟩)
  rintro ⟨v139, gb143⟩ w14 ⟨hS_, h0_, h1_, h2_, h3_, h4_, h5_, h6_, h7_, h8_⟩
  have n0_ : Aside0 (Kd.R Kd.string 9 w14 w.heap.size (fun k_ => some k_ ≠ (v139 : Value).ownBlock) (.slice (some ad141) t135.length co10) t135) := ⟨h0_⟩
  have n1_ : Aside0 (Kd.R Kd.string 9 w14 w.heap.size (fun k_ => some k_ ≠ (.slice (some ad141) t135.length co10 : Value).ownBlock) v139 t138) := ⟨h1_⟩
  have n2_ : Aside0 (w14.heap[gb134]? = some (.cells #[.int .i8 0, .int .i8 0, .slice none 0 0] 27 (0, 0))) := ⟨h2_⟩
  have n3_ : Aside0 (w14.heap[gb143]? = some (.cells #[.int .i8 0, .int .i8 0, .slice none 0 0] 27 (0, 0))) := ⟨h3_⟩
  have n4_ : Aside0 (w.heap.size ≤ gb143) := ⟨h4_⟩
  have n5_ : Aside0 (w.heap.size ≤ gb143) := ⟨h5_⟩
  have n6_ : Aside0 (gb134 ≠ gb143) := ⟨h6_⟩
  have n7_ : Aside0 (gb143 ≠ gb134) := ⟨h7_⟩
  have n8_ : Aside0 (Below w.heap.size w w14) := ⟨h8_⟩
  clear HO137
  clear BK134
  clear HB
  clear h0_ h1_ h2_ h3_ h4_ h5_ h6_ h7_ h8_
  have HO137 := n0_
  have HO140 := n1_
  have BK134 := n2_
  have BK143 := n3_
  have GW143 := n4_
  have GE143 := n5_
  have NB134_143 := n6_
  have NB143_134 := n7_
  have HB := n8_
  clear n0_ n1_ n2_ n3_ n4_ n5_ n6_ n7_ n8_
  have hHeld : w14.cell? ad141 = some (.string (rdOf ByteArray.empty t135 0)) := hS_
  refine norm_ (a' := ?_) ?_ ?_
  rotate_left
  ·simp only [putAll, Act.put, List.setIfInBounds_toArray, List.set_cons_zero, List.set_cons_succ]
   rfl
  refine one_ (i := 8) (N := none) #[true, true, true, true, true, true, true, true, true] rfl rfl (one_of HT_.out (by kernel_rfl)) (by decide) (fun K hK => ?_)
  have hs15 : w14.cell? ⟨gb143, 0, none⟩ = some (.int .i8 0) := (blk_cell BK143.out 0).trans rfl
  have hfs15 := blk_frozen BK143.out 0
  have hns15_0 := NB134_143.out
  have hms15_0 := NB143_134.out
  have hs16 : w14.cell? ⟨gb143, 1, none⟩ = some (.int .i8 0) := (blk_cell BK143.out 1).trans rfl
  have hfs16 := blk_frozen BK143.out 1
  have hns16_0 := NB134_143.out
  have hms16_0 := NB143_134.out
  have hs17 : w14.cell? ⟨gb143, 2, none⟩ = some (.slice none 0 0) := (blk_cell BK143.out 2).trans rfl
  have hfs17 := blk_frozen BK143.out 2
  have hns17_0 := NB134_143.out
  have hms17_0 := NB143_134.out
  refine skip_ (w1 := ?_) (by rfl) rfl ?_ ?_
  rotate_left
  ·go_simp
   rfl
  refine hK.out _ _ (((cell_far (p := ⟨gb143, _, none⟩) (by first | exact Kd.own_blk (Kd.R_ne HO137.out BK143.out (by decide)) | (rw [add_block]; exact Kd.own_blk (Kd.R_ne HO137.out BK143.out (by decide))) | (show (Addr.add _ _).block ≠ _; rw [add_block]; exact Kd.own_blk (Kd.R_ne HO137.out BK143.out (by decide))) | (dsimp only; exact Kd.own_blk (Kd.R_ne HO137.out BK143.out (by decide)))) _).trans (((cell_far (p := ⟨gb143, _, none⟩) (by first | exact Kd.own_blk (Kd.R_ne HO137.out BK143.out (by decide)) | (rw [add_block]; exact Kd.own_blk (Kd.R_ne HO137.out BK143.out (by decide))) | (show (Addr.add _ _).block ≠ _; rw [add_block]; exact Kd.own_blk (Kd.R_ne HO137.out BK143.out (by decide))) | (dsimp only; exact Kd.own_blk (Kd.R_ne HO137.out BK143.out (by decide)))) _).trans (((cell_far (p := ⟨gb143, _, none⟩) (by first | exact Kd.own_blk (Kd.R_ne HO137.out BK143.out (by decide)) | (rw [add_block]; exact Kd.own_blk (Kd.R_ne HO137.out BK143.out (by decide))) | (show (Addr.add _ _).block ≠ _; rw [add_block]; exact Kd.own_blk (Kd.R_ne HO137.out BK143.out (by decide))) | (dsimp only; exact Kd.own_blk (Kd.R_ne HO137.out BK143.out (by decide)))) _).trans (hHeld))))))) (fun hHeld => ?_)
  clear hK K
  refine done_ (done_of HT_.out (by kernel_rfl)) ?_
  have ht1 : t135.drop 1 = t144 := Option.some.inj A6.out
  rw [← ht1] at H'
  have hR0 : Kd.R Kd.string 9 (((w14.setCell ⟨gb143, 0, none⟩ (.int .i8 0)).setCell ⟨gb143, 1, none⟩ (.int .i8 (IntKind.i8.wrap (t142)))).setCell ⟨gb143, 2, none⟩ (.slice none 0 0)) w.heap.size (fun _ => True) (.slice (some ad141) t135.length co10) t135 := Kd.R_mono (by (with_reducible repeat (first | apply Kd.R_alloc | apply Kd.R_drewN | apply Kd.R_drew)); exact (Kd.R_mono (Kd.R_far (p := ⟨gb143, 2, none⟩) (Kd.R_far (p := ⟨gb143, 1, none⟩) (Kd.R_far (p := ⟨gb143, 0, none⟩) (Kd.R_types HO137.out BK143.out (by decide)) (fun _ hk => hk.2) (.int .i8 0)) (fun _ hk => hk.2) (.int .i8 (IntKind.i8.wrap (t142)))) (fun _ hk => hk.2) (.slice none 0 0)) (fun _ h_ => h_.1))) (fun _ _ => trivial)
  have q21 : (1 : Int) ≤ (t135.length : Int) := by have := of_decide_eq_true c4b0; omega
  have q21n : (1 : Int).toNat ≤ t135.length := by omega
  obtain ⟨i021, hi021, _, hsz21, _⟩ := info_parts info9
  have hcut21 := cut_from (P := Tryd.prog) 54 9 .i64 Tryd.underlying54 hi021 1 hsz21 (some ad141) t135.length co10 1 (by omega) q21
  have hr21 := Kd.Q_drop (k := (1 : Int).toNat) (Kd.Q_of_R hR0) q21n
  obtain ⟨Ao19, hA21⟩ : ∃ A1, A1 = (if co10 = (1 : Int).toNat then (some ad141) else (some ad141 : Option Addr).map (·.add ((1 : Int).toNat * 1))) := ⟨_, rfl⟩
  obtain ⟨co19, hc21⟩ : ∃ c1, c1 = co10 - (1 : Int).toNat := ⟨_, rfl⟩
  have hy21 : (t135.drop 1).length = t135.length - (1 : Int).toNat := by rw [List.length_drop]; rfl
  rw [← hy21, ← hA21, ← hc21] at hcut21
  replace hr21 : Kd.Q Kd.string 9 (((w14.setCell ⟨gb143, 0, none⟩ (.int .i8 0)).setCell ⟨gb143, 1, none⟩ (.int .i8 (IntKind.i8.wrap (t142)))).setCell ⟨gb143, 2, none⟩ (.slice none 0 0)) w.heap.size (fun _ => True) (.slice Ao19 (t135.drop 1).length co19) (t135.drop 1) := by rw [hA21, hc21, hy21]; exact hr21
  have n3_ := Aside0.mk (show (((w14.setCell ⟨gb143, 0, none⟩ (.int .i8 0)).setCell ⟨gb143, 1, none⟩ (.int .i8 (IntKind.i8.wrap (t142)))).setCell ⟨gb143, 2, none⟩ (.slice none 0 0)).heap[gb134]? = some (.cells #[.int .i8 0, .int .i8 0, .slice none 0 0] 27 (0, 0)) from by (with_reducible repeat (first | refine blk_drewN ?_ _ | refine blk_drew ?_ | refine blk_alloc ?_ _)); refine blk_far ?_ NB134_143.out _; (with_reducible repeat (first | refine blk_drewN ?_ _ | refine blk_drew ?_ | refine blk_alloc ?_ _)); refine blk_far ?_ NB134_143.out _; (with_reducible repeat (first | refine blk_drewN ?_ _ | refine blk_drew ?_ | refine blk_alloc ?_ _)); refine blk_far ?_ NB134_143.out _; (with_reducible repeat (first | refine blk_drewN ?_ _ | refine blk_drew ?_ | refine blk_alloc ?_ _)); exact BK134.out)
  have n4_ := Aside0.mk (show (((w14.setCell ⟨gb143, 0, none⟩ (.int .i8 0)).setCell ⟨gb143, 1, none⟩ (.int .i8 (IntKind.i8.wrap (t142)))).setCell ⟨gb143, 2, none⟩ (.slice none 0 0)).heap[gb143]? = some (.cells #[.int .i8 0, .int .i8 (IntKind.i8.wrap (t142)), .slice none 0 0] 27 (0, 0)) from by (with_reducible repeat (first | refine blk_drewN ?_ _ | refine blk_drew ?_ | refine blk_alloc ?_ _)); refine blk_put (cs := #[.int .i8 0, .int .i8 (IntKind.i8.wrap (t142)), .slice none 0 0]) ?_ 2 _ rfl; (with_reducible repeat (first | refine blk_drewN ?_ _ | refine blk_drew ?_ | refine blk_alloc ?_ _)); refine blk_put (cs := #[.int .i8 0, .int .i8 0, .slice none 0 0]) ?_ 1 _ rfl; (with_reducible repeat (first | refine blk_drewN ?_ _ | refine blk_drew ?_ | refine blk_alloc ?_ _)); refine blk_put (cs := #[.int .i8 0, .int .i8 0, .slice none 0 0]) ?_ 0 _ rfl; (with_reducible repeat (first | refine blk_drewN ?_ _ | refine blk_drew ?_ | refine blk_alloc ?_ _)); exact BK143.out)
  have n5_ := Aside0.mk (show Below w.heap.size w (((w14.setCell ⟨gb143, 0, none⟩ (.int .i8 0)).setCell ⟨gb143, 1, none⟩ (.int .i8 (IntKind.i8.wrap (t142)))).setCell ⟨gb143, 2, none⟩ (.slice none 0 0)) from (by repeat (first | (with_reducible first | exact HB.out | apply below_alloc | apply pw_below_drewN | apply below_drew1 | refine below_set ?_ GE134.out | refine below_set ?_ GE143.out) | exact HB.out)))
  clear hR0 hy21 hi021 hsz21 hA21 hc21 q21n HO137 HO140 BK134 BK143 HB
  have HO146 := Aside0.mk hr21
  have BK134 := n3_
  have BK143 := n4_
  have HB := n5_
  clear hr21 n3_ n4_ n5_
  obtain ⟨t144, ht144⟩ : ∃ y_, y_ = t135.drop 1 := ⟨_, rfl⟩
  rw [← ht144] at hcut21 HO146 H'
  clear ht144
  replace q21 := eq_true q21
  go_wp2
  go_loopg [23] k (fun kq v23 w' => ∃ (x23_1 : Int) (x135000_1 : Int) (x135001_1 : Int) (x144000_1 : Int) (x144002_1 : List (S35)) (u144002 : Value), v23 = .int .i64 x23_1 ∧ Aside0 (impl_ReadFixed.l0 kq t144 (t144.length : Int) x23_1 x144000_1 (IntKind.i8.wrap (t142)) x144002_1 = some (r1, r2, r3, r4)) ∧ Aside0 (kq ≤ k) ∧ Aside0 (Kd.Q Kd.string 9 w' w.heap.size (fun _ => True) (.slice Ao19 t144.length co19) t144) ∧ Aside0 (Kd.R k35 35 w' w.heap.size (fun _ => True) u144002 x144002_1) ∧ Aside0 (w'.heap[gb134]? = some (.cells #[.int .i8 x135000_1, .int .i8 x135001_1, (.slice none 0 0)] 27 (0, 0))) ∧ Aside0 (w'.heap[gb143]? = some (.cells #[.int .i8 x144000_1, .int .i8 (IntKind.i8.wrap (t142)), u144002] 27 (0, 0))) ∧ Aside0 (Below w.heap.size w w'))
  case atStart => exact ⟨(0), (0), (0), (0), (([] : List (S35))), (.slice none 0 0), (by first | rfl | (simp; done) | (simp [*]; done)), H', ⟨Nat.le_refl _⟩, ⟨by (with_reducible repeat (first | apply Kd.Q_alloc | apply Kd.Q_drewN | apply Kd.Q_drew)); exact Kd.Q_mono HO146.out (fun _ hk => trivial)⟩, ⟨by first | exact Kd.R_nil _ _ _ _ _ | exact Kd.N_nil _ _ _ _ _ | exact Kd.V_nil _ _ _ _ _ | exact Kd.Q_nil _ _ _ _ _ | exact Kd.S_nil _ _ _ _ _⟩, ⟨by (with_reducible repeat (first | refine blk_drewN ?_ _ | refine blk_drew ?_ | refine blk_alloc ?_ _)); exact BK134.out⟩, ⟨by (with_reducible repeat (first | refine blk_drewN ?_ _ | refine blk_drew ?_ | refine blk_alloc ?_ _)); exact BK143.out⟩, ⟨by repeat (first | (with_reducible first | exact HB.out | apply below_alloc | apply pw_below_drewN | apply below_drew1 | refine below_set ?_ GE134.out | refine below_set ?_ GE143.out) | exact HB.out)⟩⟩
  case round =>
   clear H'
   try clear p1
   try clear q1
   try clear hx1
   try clear qi1
   try clear c2
   try clear p2
   try clear c4
   try clear c4b0
   try clear c4b1
   try clear c7
   try clear p14
   try clear q14
   try clear hx14
   try clear qi14
   try clear hx141_0
   try clear p141
   try clear q141
   obtain ⟨x23_1, x135000_1, x135001_1, x144000_1, x144002_1, u144002, rfl, HA, HK1, HO_21, HO_144002, BK134, BK143, HB⟩ := hrel
   cases gk with
   | zero => exact absurd HA.out (by simp [impl_ReadFixed.l0])
   | succ k1 =>
    have H := HA.out
    clear HA
    simp only [impl_ReadFixed.l0] at H
    by_cases c20 : x23_1 < (t144.length : Int)
    ·rw [if_pos c20] at H
     have c20b0 : decide (x23_1 < (t144.length : Int)) = true := decide_eq_true c20
     clear c20
     by_cases c21 : 0 ≤ x23_1
     ·rw [if_pos c21] at H
      have c21b0 : decide (0 ≤ x23_1) = true := decide_eq_true c21
      clear c21
      by_cases c22 : x23_1 < (t144.length : Int)
      ·rw [if_pos c22] at H
       have c22b0 : decide (x23_1 < (t144.length : Int)) = true := decide_eq_true c22
       clear c22
       replace H := Option.bind_eq_some_iff.mp H
       obtain ⟨⟨t149, t150⟩, A230, H⟩ := H
       replace H : (if x23_1 = 0 then (impl_ReadFixed.j1 k1 t149 t150 t144 (t144.length : Int) x23_1 (decide ((t149.length : Int) ≤ 4)) x144000_1 (IntKind.i8.wrap (t142)) x144002_1) else (impl_ReadFixed.j1 k1 t149 t150 t144 (t144.length : Int) x23_1 false x144000_1 (IntKind.i8.wrap (t142)) x144002_1)) = some (r1, r2, r3, r4) := H
       have A23 := Aside0.mk A230
       clear A230
       have HC24 := Aside0.mk H
       clear H
       have p148 : 0 ≤ (x23_1 : Int) := of_decide_eq_true (by first | (with_reducible assumption) | assumption)
       have q148 : x23_1 < (t144.length : Int) := of_decide_eq_true (by first | (with_reducible assumption) | assumption)
       obtain ⟨ad148, e148, hx148_0⟩ := Kd.at_string (Kd.Q_reads' HO_21.out).2.2 x23_1 p148 q148
       cases e148
       replace p148 := eq_true p148
       replace q148 := eq_true q148
       go_upto_region 7 with (first | ((with_reducible refine gate_callee (f := 29) rfl ?_); refine goesL_ (some 30) rfl rfl Tryd.func29 (by kernel_rfl) rfl #[.string (rdOf ByteArray.empty t144 x23_1)] rfl (by (try simp only [List.map_toArray, List.map_cons, List.map_nil]); first | done | rfl | (simp only [List.length_drop, List.length_take]; rfl)) ?_; (with_reducible refine (impl_fromSigns.calls k1 (rdOf ByteArray.empty t144 x23_1) t149 t150 _ A23.out).mono ?_); rintro e w25 ⟨v151, rfl, ho0, hb⟩; refine ⟨_, rfl, ?_⟩; have n0_ := Aside0.mk (Kd.Q_below (by (with_reducible repeat (first | apply Kd.Q_alloc | apply Kd.Q_drewN | apply Kd.Q_drew)); exact HO_21.out) hb); have n1_ := Aside0.mk (Kd.R_below (by (with_reducible repeat (first | apply Kd.R_alloc | apply Kd.R_drewN | apply Kd.R_drew)); exact HO_144002.out) hb); have n2_ := Aside0.mk (Kd.R_lower ho0 (below_size (by repeat (first | (with_reducible first | exact HB.out | apply below_alloc | apply pw_below_drewN | apply below_drew1 | refine below_set ?_ GE134.out | refine below_set ?_ GE143.out) | exact HB.out)))); have n3_ := Aside0.mk (blk_below (g := gb134) (o := .cells #[.int .i8 x135000_1, .int .i8 x135001_1, .slice none 0 0] 27 (0, 0)) (by (with_reducible repeat (first | refine blk_drewN ?_ _ | refine blk_drew ?_ | refine blk_alloc ?_ _)); exact BK134.out) hb); have n4_ := Aside0.mk (blk_below (g := gb143) (o := .cells #[.int .i8 x144000_1, .int .i8 (IntKind.i8.wrap (t142)), u144002] 27 (0, 0)) (by (with_reducible repeat (first | refine blk_drewN ?_ _ | refine blk_drew ?_ | refine blk_alloc ?_ _)); exact BK143.out) hb); have n5_ := Aside0.mk (below_step (by repeat (first | (with_reducible first | exact HB.out | apply below_alloc | apply pw_below_drewN | apply below_drew1 | refine below_set ?_ GE134.out | refine below_set ?_ GE143.out) | exact HB.out)) hb); clear HO_21; clear HO_144002; clear BK134; clear BK143; clear HB; have HO_21 := n0_; have HO_144002 := n1_; have HO152 := n2_; have BK134 := n3_; have BK143 := n4_; have HB := n5_; clear n0_ n1_ n2_ n3_ n4_ n5_; (try clear hb); (try clear hb2); (try clear hk); (try clear hi); (try clear ho0)))
       (try simp only [Act.put, List.setIfInBounds_toArray, List.set_cons_zero, List.set_cons_succ])
       go_cut [39] (fun v39 wc => ∃ (kq : Nat) (x39_23 : Bool), v39 = .bool x39_23 ∧ Aside0 (impl_ReadFixed.j1 kq t149 t150 t144 (t144.length : Int) x23_1 x39_23 x144000_1 (IntKind.i8.wrap (t142)) x144002_1 = some (r1, r2, r3, r4)) ∧ Aside0 (kq ≤ k1) ∧ Aside0 (Kd.R (Kd.int .i8) 24 wc w.heap.size (fun _ => True) v151 t149) ∧ Aside0 (Kd.Q Kd.string 9 wc w.heap.size (fun _ => True) (.slice (some ad148) t144.length co19) t144) ∧ Aside0 (Kd.R k35 35 wc w.heap.size (fun _ => True) u144002 x144002_1) ∧ Aside0 (wc.heap[gb134]? = some (.cells #[.int .i8 x135000_1, .int .i8 x135001_1, (.slice none 0 0)] 27 (0, 0))) ∧ Aside0 (wc.heap[gb143]? = some (.cells #[.int .i8 x144000_1, .int .i8 (IntKind.i8.wrap (t142)), u144002] 27 (0, 0))) ∧ Aside0 (Below w.heap.size w wc))
       case first =>
        have H := HC24.out
        clear HC24
        by_cases c26 : x23_1 = 0
        ·rw [if_pos c26] at H
         have c26b0 : (x23_1 == 0) = true := beq_iff_eq.mpr c26
         have c26b1 : (x23_1 != 0) = false := bne_eq_false_iff_eq.mpr c26
         clear c26
         (first | rw [c26b0] | (simp only [i64_w, i32_w]; rw [c26b0]) | skip)
         have H' := Aside0.mk H
         clear H
         obtain ⟨Ao27, co27, eo27⟩ := Kd.R_slice HO152.out
         subst eo27
         go_wp2
         go_meet
         case rel => exact ⟨_, (decide ((t149.length : Int) ≤ 4)), (by first | rfl | (simp; done) | (simp [*]; done)), H', ⟨by have := HK1.out; first | omega | exact Nat.le_refl _⟩, ⟨by (with_reducible repeat (first | apply Kd.R_alloc | apply Kd.R_drewN | apply Kd.R_drew)); exact HO152.out⟩, ⟨by (with_reducible repeat (first | apply Kd.Q_alloc | apply Kd.Q_drewN | apply Kd.Q_drew)); exact HO_21.out⟩, ⟨by (with_reducible repeat (first | apply Kd.R_alloc | apply Kd.R_drewN | apply Kd.R_drew)); exact HO_144002.out⟩, ⟨by (with_reducible repeat (first | refine blk_drewN ?_ _ | refine blk_drew ?_ | refine blk_alloc ?_ _)); exact BK134.out⟩, ⟨by (with_reducible repeat (first | refine blk_drewN ?_ _ | refine blk_drew ?_ | refine blk_alloc ?_ _)); exact BK143.out⟩, ⟨by repeat (first | (with_reducible first | exact HB.out | apply below_alloc | apply pw_below_drewN | apply below_drew1 | refine below_set ?_ GE134.out | refine below_set ?_ GE143.out) | exact HB.out)⟩⟩
        ·rw [if_neg c26] at H
         have c26b0 : (x23_1 == 0) = false := beq_eq_false_iff_ne.mpr c26
         have c26b1 : (x23_1 != 0) = true := bne_iff_ne.mpr c26
         (first | rw [c26b0] | (simp only [i64_w, i32_w]; rw [c26b0]) | skip)
         have H' := Aside0.mk H
         clear H
         go_wp2
         go_meet
         case rel => exact ⟨_, (false), (by first | rfl | (simp; done) | (simp [*]; done)), H', ⟨by have := HK1.out; first | omega | exact Nat.le_refl _⟩, ⟨by (with_reducible repeat (first | apply Kd.R_alloc | apply Kd.R_drewN | apply Kd.R_drew)); exact HO152.out⟩, ⟨by (with_reducible repeat (first | apply Kd.Q_alloc | apply Kd.Q_drewN | apply Kd.Q_drew)); exact HO_21.out⟩, ⟨by (with_reducible repeat (first | apply Kd.R_alloc | apply Kd.R_drewN | apply Kd.R_drew)); exact HO_144002.out⟩, ⟨by (with_reducible repeat (first | refine blk_drewN ?_ _ | refine blk_drew ?_ | refine blk_alloc ?_ _)); exact BK134.out⟩, ⟨by (with_reducible repeat (first | refine blk_drewN ?_ _ | refine blk_drew ?_ | refine blk_alloc ?_ _)); exact BK143.out⟩, ⟨by repeat (first | (with_reducible first | exact HB.out | apply below_alloc | apply pw_below_drewN | apply below_drew1 | refine below_set ?_ GE134.out | refine below_set ?_ GE143.out) | exact HB.out)⟩⟩
       case rest =>
        clear HC24
        try clear p1
        try clear q1
        try clear hx1
        try clear qi1
        try clear c2
        try clear p2
        try clear c4
        try clear c4b0
        try clear c4b1
        try clear c7
        try clear p14
        try clear q14
        try clear hx14
        try clear qi14
        try clear c20
        try clear c20b0
        try clear c21
        try clear c21b0
        try clear c22
        try clear c22b0
        try clear c26
        try clear c26b0
        try clear c26b1
        try clear c27
        try clear hx141_0
        try clear hx148_0
        try clear p1
        try clear p14
        try clear p141
        try clear p148
        try clear p2
        try clear q1
        try clear q14
        try clear q141
        try clear q148
        obtain ⟨kq, x39_23, rfl, HA, HJ23, HO_8, HO_21, HO_144002, BK134, BK143, HB⟩ := hcut
        cases kq with
        | zero => exact absurd HA.out (by simp [impl_ReadFixed.j1])
        | succ kj23 =>
         have H := HA.out
         clear HA
         simp only [impl_ReadFixed.j1] at H
         by_cases c28 : x39_23 = true
         ·subst c28
          have H1 : (if t150 = true then (if (t149.length : Int) = (wrap64 (IntKind.i8.wrap ((t149.length : Int)))) then (if x144002_1.length < 35184372088832 then (impl_ReadFixed.l0 kj23 t144 (t144.length : Int) (wrap64 (x23_1 + 1)) (IntKind.i8.wrap ((t149.length : Int))) (IntKind.i8.wrap (t142)) (x144002_1 ++ [(padW t149)])) else (none)) else (some (0, 0, ([] : List (S35)), 5))) else (some (0, 0, ([] : List (S35)), 5))) = some (r1, r2, r3, r4) := by rw [if_pos rfl] at H; exact H
          clear H
          have H := H1
          clear H1
          by_cases c29 : t150 = true
          ·subst c29
           have H1 : (if (t149.length : Int) = (wrap64 (IntKind.i8.wrap ((t149.length : Int)))) then (if x144002_1.length < 35184372088832 then (impl_ReadFixed.l0 kj23 t144 (t144.length : Int) (wrap64 (x23_1 + 1)) (IntKind.i8.wrap ((t149.length : Int))) (IntKind.i8.wrap (t142)) (x144002_1 ++ [(padW t149)])) else (none)) else (some (0, 0, ([] : List (S35)), 5))) = some (r1, r2, r3, r4) := by rw [if_pos rfl] at H; exact H
           clear H
           have H := H1
           clear H1
           by_cases c30 : (t149.length : Int) = (wrap64 (IntKind.i8.wrap ((t149.length : Int))))
           ·rw [if_pos c30] at H
            have c30b0 : ((t149.length : Int) == (wrap64 (IntKind.i8.wrap ((t149.length : Int))))) = true := beq_iff_eq.mpr c30
            have c30b1 : ((t149.length : Int) != (wrap64 (IntKind.i8.wrap ((t149.length : Int))))) = false := bne_eq_false_iff_eq.mpr c30
            (try (have c30b2 : ((t149.length : Int) == (IntKind.i64.wrap (IntKind.i8.wrap ((t149.length : Int))))) = true := by have h_ : ((t149.length : Int) == (wrap64 (IntKind.i8.wrap ((t149.length : Int))))) = true := beq_iff_eq.mpr c30; simpa only [i64_w, i32_w] using h_))
            (try (have c30b3 : ((t149.length : Int) != (IntKind.i64.wrap (IntKind.i8.wrap ((t149.length : Int))))) = false := by have h_ : ((t149.length : Int) != (wrap64 (IntKind.i8.wrap ((t149.length : Int))))) = false := bne_eq_false_iff_eq.mpr c30; simpa only [i64_w, i32_w] using h_))
            clear c30
            by_cases c31 : x144002_1.length < 35184372088832
            ·rw [if_pos c31] at H
             have LMc31 := Aside0.mk c31
             clear c31
             obtain ⟨y154, hy154⟩ : ∃ y_ : List (S35), y_ = (x144002_1 ++ [(padW t149)]) := ⟨_, rfl⟩
             replace H : (impl_ReadFixed.l0 kj23 t144 (t144.length : Int) (wrap64 (x23_1 + 1)) (IntKind.i8.wrap ((t149.length : Int))) (IntKind.i8.wrap (t142)) y154) = some (r1, r2, r3, r4) := by first | (rw [hy154]; with_reducible exact H) | (have H2_ := (Option.bind_some _ _).symm.trans H; rw [hy154]; with_reducible exact H2_) | (have H2_ := (Option.bind_some _ _).symm.trans H; with_reducible exact H2_) | with_reducible exact H | (rw [hy154]; exact H) | exact H
             have Ny154 := Aside0.mk hy154
             clear hy154
             have H' := Aside0.mk H
             clear H
             obtain ⟨Ao32, co32, eo32⟩ := Kd.R_slice HO_8.out
             subst eo32
             have hnb33 := NB143_134.out
             have hnc33 := NB134_143.out
             have hcz34_0 : wc.cell? ⟨gb143, 0, none⟩ = some (.int .i8 x144000_1) := (blk_cell BK143.out 0).trans rfl
             have hcz34_1 : wc.cell? ⟨gb143, 1, none⟩ = some (.int .i8 (IntKind.i8.wrap (t142))) := (blk_cell BK143.out 1).trans rfl
             have hcz34_2 : wc.cell? ⟨gb143, 2, none⟩ = some (u144002) := (blk_cell BK143.out 2).trans rfl
             have hfz34_0 := blk_frozen BK143.out 0
             have hfz34_1 := blk_frozen BK143.out 1
             have hfz34_2 := blk_frozen BK143.out 2
             go_wp2_with (first | ((with_reducible refine gate_dst (N := 10) rfl ?_); (try (refine gate_guard (by rfl) ?_; dsimp only)); refine box_event ?hg (N := 10) ?hd (cs := #[.int .i8 0, .int .i8 0, .int .i8 0, .int .i8 0]) (t := 35) ?hr ?_; (case hd => rfl); (case hg => rfl); (case hr => first | (go_simp; done) | (go_simp; rfl)); intro gb153 hg w35 hbox hb; have n0_ := Aside0.mk (Kd.R_below (by (with_reducible repeat (first | apply Kd.R_alloc | apply Kd.R_drewN | apply Kd.R_drew)); exact (Kd.R_mono (Kd.R_far (p := ⟨gb143, 0, none⟩) (Kd.R_types HO_8.out BK143.out (by decide)) (fun _ hk => hk.2) (.int .i8 (IntKind.i8.wrap ((t149.length : Int))))) (fun _ h_ => h_.1))) hb); have n1_ := Aside0.mk (Kd.Q_below (by (with_reducible repeat (first | apply Kd.Q_alloc | apply Kd.Q_drewN | apply Kd.Q_drew)); exact (Kd.Q_mono (Kd.Q_far (p := ⟨gb143, 0, none⟩) (Kd.Q_types HO_21.out BK143.out (by decide)) (fun _ hk => hk.2) (.int .i8 (IntKind.i8.wrap ((t149.length : Int))))) (fun _ h_ => h_.1))) hb); have n2_ := Aside0.mk (Kd.R_below (Kd.R_elderB (by (with_reducible repeat (first | apply Kd.R_alloc | apply Kd.R_drewN | apply Kd.R_drew)); exact (Kd.R_mono (Kd.R_far (p := ⟨gb143, 0, none⟩) (Kd.R_types HO_144002.out BK143.out (by decide)) (fun _ hk => hk.2) (.int .i8 (IntKind.i8.wrap ((t149.length : Int))))) (fun _ h_ => h_.1))) gb153 (Nat.le_of_eq hg.symm)) hb); have n3_ := Aside0.mk (blk_below (g := gb134) (o := .cells #[.int .i8 x135000_1, .int .i8 x135001_1, .slice none 0 0] 27 (0, 0)) (by (with_reducible repeat (first | refine blk_drewN ?_ _ | refine blk_drew ?_ | refine blk_alloc ?_ _)); refine blk_far ?_ NB134_143.out _; (with_reducible repeat (first | refine blk_drewN ?_ _ | refine blk_drew ?_ | refine blk_alloc ?_ _)); exact BK134.out) hb); have n4_ := Aside0.mk (blk_below (g := gb143) (o := .cells #[.int .i8 (IntKind.i8.wrap ((t149.length : Int))), .int .i8 (IntKind.i8.wrap (t142)), u144002] 27 (0, 0)) (by (with_reducible repeat (first | refine blk_drewN ?_ _ | refine blk_drew ?_ | refine blk_alloc ?_ _)); refine blk_put (cs := #[.int .i8 x144000_1, .int .i8 (IntKind.i8.wrap (t142)), u144002]) ?_ 0 _ rfl; (with_reducible repeat (first | refine blk_drewN ?_ _ | refine blk_drew ?_ | refine blk_alloc ?_ _)); exact BK143.out) hb); have n5_ := Aside0.mk (below_step (by repeat (first | (with_reducible first | exact HB.out | apply below_alloc | apply pw_below_drewN | apply below_drew1 | refine below_set ?_ GE134.out | refine below_set ?_ GE143.out) | exact HB.out)) hb); have n6_ := Aside0.mk (hbox); have n7_ := Aside0.mk ((by rw [hg]; exact (below_size (by repeat (first | (with_reducible first | exact HB.out | apply below_alloc | apply pw_below_drewN | apply below_drew1 | refine below_set ?_ GE134.out | refine below_set ?_ GE143.out) | exact HB.out))) : w.heap.size ≤ gb153)); have n8_ := Aside0.mk ((by rw [hg]; exact (below_size (by repeat (first | (with_reducible first | exact HB.out | apply below_alloc | apply pw_below_drewN | apply below_drew1 | refine below_set ?_ GE134.out | refine below_set ?_ GE143.out) | exact HB.out))) : w.heap.size ≤ gb153)); have n9_ := Aside0.mk ((by rw [hg]; exact Nat.ne_of_lt (blk_lt (g := gb134) (o := .cells #[.int .i8 x135000_1, .int .i8 x135001_1, .slice none 0 0] 27 (0, 0)) (by (with_reducible repeat (first | refine blk_drewN ?_ _ | refine blk_drew ?_ | refine blk_alloc ?_ _)); refine blk_far ?_ NB134_143.out _; (with_reducible repeat (first | refine blk_drewN ?_ _ | refine blk_drew ?_ | refine blk_alloc ?_ _)); exact BK134.out)) : gb134 ≠ gb153)); have n10_ := Aside0.mk ((by rw [hg]; exact Nat.ne_of_gt (blk_lt (g := gb134) (o := .cells #[.int .i8 x135000_1, .int .i8 x135001_1, .slice none 0 0] 27 (0, 0)) (by (with_reducible repeat (first | refine blk_drewN ?_ _ | refine blk_drew ?_ | refine blk_alloc ?_ _)); refine blk_far ?_ NB134_143.out _; (with_reducible repeat (first | refine blk_drewN ?_ _ | refine blk_drew ?_ | refine blk_alloc ?_ _)); exact BK134.out)) : gb153 ≠ gb134)); have n11_ := Aside0.mk ((by rw [hg]; exact Nat.ne_of_lt (blk_lt (g := gb143) (o := .cells #[.int .i8 (IntKind.i8.wrap ((t149.length : Int))), .int .i8 (IntKind.i8.wrap (t142)), u144002] 27 (0, 0)) (by (with_reducible repeat (first | refine blk_drewN ?_ _ | refine blk_drew ?_ | refine blk_alloc ?_ _)); refine blk_put (cs := #[.int .i8 x144000_1, .int .i8 (IntKind.i8.wrap (t142)), u144002]) ?_ 0 _ rfl; (with_reducible repeat (first | refine blk_drewN ?_ _ | refine blk_drew ?_ | refine blk_alloc ?_ _)); exact BK143.out)) : gb143 ≠ gb153)); have n12_ := Aside0.mk ((by rw [hg]; exact Nat.ne_of_gt (blk_lt (g := gb143) (o := .cells #[.int .i8 (IntKind.i8.wrap ((t149.length : Int))), .int .i8 (IntKind.i8.wrap (t142)), u144002] 27 (0, 0)) (by (with_reducible repeat (first | refine blk_drewN ?_ _ | refine blk_drew ?_ | refine blk_alloc ?_ _)); refine blk_put (cs := #[.int .i8 x144000_1, .int .i8 (IntKind.i8.wrap (t142)), u144002]) ?_ 0 _ rfl; (with_reducible repeat (first | refine blk_drewN ?_ _ | refine blk_drew ?_ | refine blk_alloc ?_ _)); exact BK143.out)) : gb153 ≠ gb143)); clear HO_8; clear HO_21; clear HO_144002; clear BK134; clear BK143; clear HB; have HO_8 := n0_; have HO_21 := n1_; have HO_144002 := n2_; have BK134 := n3_; have BK143 := n4_; have HB := n5_; have BK153 := n6_; have GW153 := n7_; have GE153 := n8_; have NB134_153 := n9_; have NB153_134 := n10_; have NB143_153 := n11_; have NB153_143 := n12_; clear n0_ n1_ n2_ n3_ n4_ n5_ n6_ n7_ n8_ n9_ n10_ n11_ n12_; clear hb hbox hg; have hnb36 := NB153_134.out; have hnc36 := NB134_153.out; have hnb37 := NB153_143.out; have hnc37 := NB143_153.out; have hcz38_0 : w35.cell? ⟨gb153, 0, none⟩ = some (.int .i8 0) := (blk_cell BK153.out 0).trans rfl; have hcz38_1 : w35.cell? ⟨gb153, 1, none⟩ = some (.int .i8 0) := (blk_cell BK153.out 1).trans rfl; have hcz38_2 : w35.cell? ⟨gb153, 2, none⟩ = some (.int .i8 0) := (blk_cell BK153.out 2).trans rfl; have hcz38_3 : w35.cell? ⟨gb153, 3, none⟩ = some (.int .i8 0) := (blk_cell BK153.out 3).trans rfl; have hfz38_0 := blk_frozen BK153.out 0; have hfz38_1 := blk_frozen BK153.out 1; have hfz38_2 := blk_frozen BK153.out 2; have hfz38_3 := blk_frozen BK153.out 3; have hcz39_0 : w35.cell? ⟨gb143, 0, none⟩ = some (.int .i8 (IntKind.i8.wrap ((t149.length : Int)))) := (blk_cell BK143.out 0).trans rfl; have hcz39_1 : w35.cell? ⟨gb143, 1, none⟩ = some (.int .i8 (IntKind.i8.wrap (t142))) := (blk_cell BK143.out 1).trans rfl; have hcz39_2 : w35.cell? ⟨gb143, 2, none⟩ = some (u144002) := (blk_cell BK143.out 2).trans rfl; have hfz39_0 := blk_frozen BK143.out 0; have hfz39_1 := blk_frozen BK143.out 1; have hfz39_2 := blk_frozen BK143.out 2) | ((with_reducible refine gate_builtin (b := .copy) (xs := #[.tmp 56, .tmp 57]) rfl ?_); refine copy_box (w0 := w) w.heap.size rfl (.tmp 56) (.tmp 57) 58 58 24 rfl Tryd.underlying58 (by kernel_rfl) gb153 35 t149 Ao32 t149.length co32 rfl rfl ?cR ?cb ?cB GE153.out ?_; (case cR => exact (Kd.R_reads' (Kd.R_mono (Kd.R_far (p := ⟨gb153, 3, none⟩) (Kd.R_far (p := ⟨gb153, 2, none⟩) (Kd.R_far (p := ⟨gb153, 1, none⟩) (Kd.R_far (p := ⟨gb153, 0, none⟩) (Kd.R_types HO_8.out BK153.out (by decide)) (fun _ hk => hk.2) (.int .i8 0)) (fun _ hk => hk.2) (.int .i8 0)) (fun _ hk => hk.2) (.int .i8 0)) (fun _ hk => hk.2) (.int .i8 0)) (fun _ h_ => h_.1))).2.2); (case cb => exact (by (with_reducible repeat (first | refine blk_drewN ?_ _ | refine blk_drew ?_ | refine blk_alloc ?_ _)); refine blk_put (cs := #[.int .i8 0, .int .i8 0, .int .i8 0, .int .i8 0]) ?_ 3 _ rfl; (with_reducible repeat (first | refine blk_drewN ?_ _ | refine blk_drew ?_ | refine blk_alloc ?_ _)); refine blk_put (cs := #[.int .i8 0, .int .i8 0, .int .i8 0, .int .i8 0]) ?_ 2 _ rfl; (with_reducible repeat (first | refine blk_drewN ?_ _ | refine blk_drew ?_ | refine blk_alloc ?_ _)); refine blk_put (cs := #[.int .i8 0, .int .i8 0, .int .i8 0, .int .i8 0]) ?_ 1 _ rfl; (with_reducible repeat (first | refine blk_drewN ?_ _ | refine blk_drew ?_ | refine blk_alloc ?_ _)); refine blk_put (cs := #[.int .i8 0, .int .i8 0, .int .i8 0, .int .i8 0]) ?_ 0 _ rfl; (with_reducible repeat (first | refine blk_drewN ?_ _ | refine blk_drew ?_ | refine blk_alloc ?_ _)); exact BK153.out)); (case cB => exact (by repeat (first | (with_reducible first | exact HB.out | apply below_alloc | apply pw_below_drewN | apply below_drew1 | refine below_set ?_ GE134.out | refine below_set ?_ GE143.out | refine below_set ?_ GE153.out) | exact HB.out))); intro wk153 ho hb hg; have n0_ := Aside0.mk (Kd.R_mono (Kd.R_grown (Kd.R_far (p := ⟨gb153, 3, none⟩) (Kd.R_far (p := ⟨gb153, 2, none⟩) (Kd.R_far (p := ⟨gb153, 1, none⟩) (Kd.R_far (p := ⟨gb153, 0, none⟩) (Kd.R_types HO_8.out BK153.out (by decide)) (fun _ hk => hk.2) (.int .i8 0)) (fun _ hk => hk.2) (.int .i8 0)) (fun _ hk => hk.2) (.int .i8 0)) (fun _ hk => hk.2) (.int .i8 0)) hg (fun k hk_ e_ => hk_.2 (by injection e_))) (fun _ h_ => h_.1)); have n1_ := Aside0.mk (Kd.Q_mono (Kd.Q_grown (Kd.Q_far (p := ⟨gb153, 3, none⟩) (Kd.Q_far (p := ⟨gb153, 2, none⟩) (Kd.Q_far (p := ⟨gb153, 1, none⟩) (Kd.Q_far (p := ⟨gb153, 0, none⟩) (Kd.Q_types HO_21.out BK153.out (by decide)) (fun _ hk => hk.2) (.int .i8 0)) (fun _ hk => hk.2) (.int .i8 0)) (fun _ hk => hk.2) (.int .i8 0)) (fun _ hk => hk.2) (.int .i8 0)) hg (fun k hk_ e_ => hk_.2 (by injection e_))) (fun _ h_ => h_.1)); have n2_ := Aside0.mk (Kd.R_mono (Kd.R_grown (Kd.R_far (p := ⟨gb153, 3, none⟩) (Kd.R_far (p := ⟨gb153, 2, none⟩) (Kd.R_far (p := ⟨gb153, 1, none⟩) (Kd.R_far (p := ⟨gb153, 0, none⟩) (Kd.R_mono HO_144002.out (fun k_ hk => (⟨hk, hk.2⟩ : _ ∧ k_ ≠ gb153))) (fun _ hk => hk.2) (.int .i8 0)) (fun _ hk => hk.2) (.int .i8 0)) (fun _ hk => hk.2) (.int .i8 0)) (fun _ hk => hk.2) (.int .i8 0)) hg (fun k hk_ e_ => hk_.2 (by injection e_))) (fun _ h_ => h_.1)); have n3_ := Aside0.mk (blk_grown (g := gb134) (o := .cells #[.int .i8 x135000_1, .int .i8 x135001_1, .slice none 0 0] 27 (0, 0)) (by (with_reducible repeat (first | refine blk_drewN ?_ _ | refine blk_drew ?_ | refine blk_alloc ?_ _)); refine blk_far ?_ NB134_153.out _; (with_reducible repeat (first | refine blk_drewN ?_ _ | refine blk_drew ?_ | refine blk_alloc ?_ _)); refine blk_far ?_ NB134_153.out _; (with_reducible repeat (first | refine blk_drewN ?_ _ | refine blk_drew ?_ | refine blk_alloc ?_ _)); refine blk_far ?_ NB134_153.out _; (with_reducible repeat (first | refine blk_drewN ?_ _ | refine blk_drew ?_ | refine blk_alloc ?_ _)); refine blk_far ?_ NB134_153.out _; (with_reducible repeat (first | refine blk_drewN ?_ _ | refine blk_drew ?_ | refine blk_alloc ?_ _)); exact BK134.out) hg (fun e_ => NB134_153.out (by injection e_))); have n4_ := Aside0.mk (blk_grown (g := gb143) (o := .cells #[.int .i8 (IntKind.i8.wrap ((t149.length : Int))), .int .i8 (IntKind.i8.wrap (t142)), u144002] 27 (0, 0)) (by (with_reducible repeat (first | refine blk_drewN ?_ _ | refine blk_drew ?_ | refine blk_alloc ?_ _)); refine blk_far ?_ NB143_153.out _; (with_reducible repeat (first | refine blk_drewN ?_ _ | refine blk_drew ?_ | refine blk_alloc ?_ _)); refine blk_far ?_ NB143_153.out _; (with_reducible repeat (first | refine blk_drewN ?_ _ | refine blk_drew ?_ | refine blk_alloc ?_ _)); refine blk_far ?_ NB143_153.out _; (with_reducible repeat (first | refine blk_drewN ?_ _ | refine blk_drew ?_ | refine blk_alloc ?_ _)); refine blk_far ?_ NB143_153.out _; (with_reducible repeat (first | refine blk_drewN ?_ _ | refine blk_drew ?_ | refine blk_alloc ?_ _)); exact BK143.out) hg (fun e_ => NB143_153.out (by injection e_))); have n5_ := Aside0.mk (ho); have n6_ := Aside0.mk (hb); clear HO_8; clear HO_21; clear HO_144002; clear BK134; clear BK143; clear BK153; clear HB; have HO_8 := n0_; have HO_21 := n1_; have HO_144002 := n2_; have BK134 := n3_; have BK143 := n4_; have BK153 := n5_; have HB := n6_; clear n0_ n1_ n2_ n3_ n4_ n5_ n6_; clear ho hb hg; have hczk_0 : wk153.cell? ⟨gb153, 0, none⟩ = some (.int .i8 (pad t149 0)) := (blk_cell BK153.out 0).trans rfl; have hczk_1 : wk153.cell? ⟨gb153, 1, none⟩ = some (.int .i8 (pad t149 1)) := (blk_cell BK153.out 1).trans rfl; have hczk_2 : wk153.cell? ⟨gb153, 2, none⟩ = some (.int .i8 (pad t149 2)) := (blk_cell BK153.out 2).trans rfl; have hczk_3 : wk153.cell? ⟨gb153, 3, none⟩ = some (.int .i8 (pad t149 3)) := (blk_cell BK153.out 3).trans rfl; have hczl_0 : wk153.cell? ⟨gb143, 0, none⟩ = some (.int .i8 (IntKind.i8.wrap ((t149.length : Int)))) := (blk_cell BK143.out 0).trans rfl; have hczl_1 : wk153.cell? ⟨gb143, 1, none⟩ = some (.int .i8 (IntKind.i8.wrap (t142))) := (blk_cell BK143.out 1).trans rfl; have hczl_2 : wk153.cell? ⟨gb143, 2, none⟩ = some (u144002) := (blk_cell BK143.out 2).trans rfl; have hfzk_0 := blk_frozen BK153.out 0; have hfzk_1 := blk_frozen BK153.out 1; have hfzk_2 := blk_frozen BK153.out 2; have hfzk_3 := blk_frozen BK153.out 3; have hfzl_0 := blk_frozen BK143.out 0; have hfzl_1 := blk_frozen BK143.out 1; have hfzl_2 := blk_frozen BK143.out 2) | ((with_reducible refine gate_builtin (b := .append) (xs := #[.tmp 60, .tmp 62]) rfl ?_); (try (refine gate_guard (by rfl) ?_; dsimp only)); at_builtin; refine Kd.R_append k35 (w0 := w) w.heap.size rfl (.tmp 60) (.tmp 62) 25 35 (.agg #[(.int .i8 0), (.int .i8 0), (.int .i8 0), (.int .i8 0)]) 4 rfl Tryd.underlying25 info35 rfl (by decide) (by omega) u144002 x144002_1 (padW t149) [.int .i8 (pad t149 0), .int .i8 (pad t149 1), .int .i8 (pad t149 2), .int .i8 (pad t149 3)] (fun k_ => k_ ≠ gb153) (fun _ => False) rfl (by first | (go_simp; done) | (go_simp; rfl)) ?aP (fun _ hk => hk.elim) ?aF ?aO ?aB ?aS ?aL ?_; (case aP => exact k35_mkM _ _ _ (padW t149)); (case aB => exact (by repeat (first | (with_reducible first | exact HB.out | apply below_alloc | apply pw_below_drewN | apply below_drew1 | refine below_set ?_ GE134.out | refine below_set ?_ GE143.out | refine below_set ?_ GE153.out) | exact HB.out))); (case aF => exact (fun k_ hk => Kd.freshB (g := gb153) (o := .cells #[.int .i8 (pad t149 0), .int .i8 (pad t149 1), .int .i8 (pad t149 2), .int .i8 (pad t149 3)] 35 (0, 0)) (by (with_reducible repeat (first | refine blk_drewN ?_ _ | refine blk_drew ?_ | refine blk_alloc ?_ _)); exact BK153.out) k_ hk)); (case aO => exact (by (with_reducible repeat (first | apply Kd.R_alloc | apply Kd.R_drewN | apply Kd.R_drew)); exact (Kd.R_mono HO_144002.out (fun _ hk => hk.2)))); (case aS => exact (below_size (by repeat (first | (with_reducible first | exact HB.out | apply below_alloc | apply pw_below_drewN | apply below_drew1 | refine below_set ?_ GE134.out | refine below_set ?_ GE143.out | refine below_set ?_ GE153.out) | exact HB.out)))); (case aL => have := LMc31.out; omega); intro v155 w40 ho hb hg hat; rw [← Ny154.out] at ho; have n0_ := Aside0.mk (Kd.R_over' (by (with_reducible repeat (first | apply Kd.R_alloc | apply Kd.R_drewN | apply Kd.R_drew)); exact HO_8.out) (Kd.R_typed (by (with_reducible repeat (first | apply Kd.R_alloc | apply Kd.R_drewN | apply Kd.R_drew)); exact HO_144002.out)) (by decide) hg); have n1_ := Aside0.mk (Kd.Q_over' (by (with_reducible repeat (first | apply Kd.Q_alloc | apply Kd.Q_drewN | apply Kd.Q_drew)); exact HO_21.out) (Kd.R_typed (by (with_reducible repeat (first | apply Kd.R_alloc | apply Kd.R_drewN | apply Kd.R_drew)); exact HO_144002.out)) (by decide) hg); have n2_ := Aside0.mk (blk_grown (g := gb134) (o := .cells #[.int .i8 x135000_1, .int .i8 x135001_1, .slice none 0 0] 27 (0, 0)) (by (with_reducible repeat (first | refine blk_drewN ?_ _ | refine blk_drew ?_ | refine blk_alloc ?_ _)); exact BK134.out) hg (Kd.R_ne HO_144002.out BK134.out (by decide))); have n3_ := Aside0.mk (blk_grown (g := gb143) (o := .cells #[.int .i8 (IntKind.i8.wrap ((t149.length : Int))), .int .i8 (IntKind.i8.wrap (t142)), u144002] 27 (0, 0)) (by (with_reducible repeat (first | refine blk_drewN ?_ _ | refine blk_drew ?_ | refine blk_alloc ?_ _)); exact BK143.out) hg (Kd.R_ne HO_144002.out BK143.out (by decide))); have n4_ := Aside0.mk (blk_grown (g := gb153) (o := .cells #[.int .i8 (pad t149 0), .int .i8 (pad t149 1), .int .i8 (pad t149 2), .int .i8 (pad t149 3)] 35 (0, 0)) (by (with_reducible repeat (first | refine blk_drewN ?_ _ | refine blk_drew ?_ | refine blk_alloc ?_ _)); exact BK153.out) hg (Kd.R_away HO_144002.out (fun _ hk => hk.2))); have n5_ := Aside0.mk (hb); have n6_ := Aside0.mk (ho); clear HO_8; clear HO_21; clear BK134; clear BK143; clear BK153; clear HB; clear HO_144002; have HO_8 := n0_; have HO_21 := n1_; have BK134 := n2_; have BK143 := n3_; have BK153 := n4_; have HB := n5_; have HO156 := n6_; clear n0_ n1_ n2_ n3_ n4_ n5_ n6_; clear ho hb hg hat; obtain ⟨Ao41, co41, eo41⟩ := Kd.R_slice HO156.out; subst eo41; have hcz42_0 : w40.cell? ⟨gb143, 0, none⟩ = some (.int .i8 (IntKind.i8.wrap ((t149.length : Int)))) := (blk_cell BK143.out 0).trans rfl; have hcz42_1 : w40.cell? ⟨gb143, 1, none⟩ = some (.int .i8 (IntKind.i8.wrap (t142))) := (blk_cell BK143.out 1).trans rfl; have hcz42_2 : w40.cell? ⟨gb143, 2, none⟩ = some (u144002) := (blk_cell BK143.out 2).trans rfl; have hfz42_0 := blk_frozen BK143.out 0; have hfz42_1 := blk_frozen BK143.out 1; have hfz42_2 := blk_frozen BK143.out 2))
             go_roundg kj23
             case measure => have := HK1.out; have := HJ23.out; omega
             case rel => exact ⟨(wrap64 (x23_1 + 1)), (x135000_1), (x135001_1), (IntKind.i8.wrap ((t149.length : Int))), (y154), (.slice Ao41 y154.length co41), (by first | rfl | (simp; done) | (simp [*]; done)), H', ⟨by have := HK1.out; have := HJ23.out; omega⟩, ⟨by (with_reducible repeat (first | apply Kd.Q_alloc | apply Kd.Q_drewN | apply Kd.Q_drew)); exact Kd.Q_mono (Kd.Q_far (p := ⟨gb143, 2, none⟩) (Kd.Q_types HO_21.out BK143.out (by decide)) (fun _ hk => hk.2) (.slice Ao41 y154.length co41)) (fun _ hk => trivial)⟩, ⟨by (with_reducible repeat (first | apply Kd.R_alloc | apply Kd.R_drewN | apply Kd.R_drew)); exact Kd.R_mono (Kd.R_far (p := ⟨gb143, 2, none⟩) (Kd.R_types HO156.out BK143.out (by decide)) (fun _ hk => hk.2) (.slice Ao41 y154.length co41)) (fun _ hk => trivial)⟩, ⟨by (with_reducible repeat (first | refine blk_drewN ?_ _ | refine blk_drew ?_ | refine blk_alloc ?_ _)); refine blk_far ?_ NB134_143.out _; (with_reducible repeat (first | refine blk_drewN ?_ _ | refine blk_drew ?_ | refine blk_alloc ?_ _)); exact BK134.out⟩, ⟨by (with_reducible repeat (first | refine blk_drewN ?_ _ | refine blk_drew ?_ | refine blk_alloc ?_ _)); refine blk_put (cs := #[.int .i8 (IntKind.i8.wrap ((t149.length : Int))), .int .i8 (IntKind.i8.wrap (t142)), u144002]) ?_ 2 _ rfl; (with_reducible repeat (first | refine blk_drewN ?_ _ | refine blk_drew ?_ | refine blk_alloc ?_ _)); exact BK143.out⟩, ⟨by repeat (first | (with_reducible first | exact HB.out | apply below_alloc | apply pw_below_drewN | apply below_drew1 | refine below_set ?_ GE134.out | refine below_set ?_ GE143.out | refine below_set ?_ GE153.out) | exact HB.out)⟩⟩
            ·rw [if_neg c31] at H
             exact absurd H (by simp)
           ·rw [if_neg c30] at H
            have c30b0 : ((t149.length : Int) == (wrap64 (IntKind.i8.wrap ((t149.length : Int))))) = false := beq_eq_false_iff_ne.mpr c30
            have c30b1 : ((t149.length : Int) != (wrap64 (IntKind.i8.wrap ((t149.length : Int))))) = true := bne_iff_ne.mpr c30
            (try (have c30b2 : ((t149.length : Int) == (IntKind.i64.wrap (IntKind.i8.wrap ((t149.length : Int))))) = false := by have h_ : ((t149.length : Int) == (wrap64 (IntKind.i8.wrap ((t149.length : Int))))) = false := beq_eq_false_iff_ne.mpr c30; simpa only [i64_w, i32_w] using h_))
            (try (have c30b3 : ((t149.length : Int) != (IntKind.i64.wrap (IntKind.i8.wrap ((t149.length : Int))))) = true := by have h_ : ((t149.length : Int) != (wrap64 (IntKind.i8.wrap ((t149.length : Int))))) = true := bne_iff_ne.mpr c30; simpa only [i64_w, i32_w] using h_))
            simp only [Option.some.injEq, Prod.mk.injEq] at H
            obtain ⟨rfl, rfl, rfl, rfl⟩ := H
            obtain ⟨Ao43, co43, eo43⟩ := Kd.R_slice HO_8.out
            subst eo43
            have hnb44 := NB143_134.out
            have hnc44 := NB134_143.out
            have hcz45_0 : wc.cell? ⟨gb143, 0, none⟩ = some (.int .i8 x144000_1) := (blk_cell BK143.out 0).trans rfl
            have hcz45_1 : wc.cell? ⟨gb143, 1, none⟩ = some (.int .i8 (IntKind.i8.wrap (t142))) := (blk_cell BK143.out 1).trans rfl
            have hcz45_2 : wc.cell? ⟨gb143, 2, none⟩ = some (u144002) := (blk_cell BK143.out 2).trans rfl
            have hfz45_0 := blk_frozen BK143.out 0
            have hfz45_1 := blk_frozen BK143.out 1
            have hfz45_2 := blk_frozen BK143.out 2
            have hcz46_0 : wc.cell? ⟨gb134, 0, none⟩ = some (.int .i8 x135000_1) := (blk_cell BK134.out 0).trans rfl
            have hcz46_1 : wc.cell? ⟨gb134, 1, none⟩ = some (.int .i8 x135001_1) := (blk_cell BK134.out 1).trans rfl
            have hcz46_2 : wc.cell? ⟨gb134, 2, none⟩ = some (.slice none 0 0) := (blk_cell BK134.out 2).trans rfl
            have hfz46_0 := blk_frozen BK134.out 0
            have hfz46_1 := blk_frozen BK134.out 1
            have hfz46_2 := blk_frozen BK134.out 2
            go_wp2
            refine bodyPost_ret (results_ct rfl _ _ gb134 27 #[.int .i8 0, .int .i8 0, .slice none 0 0] (0, 0) _ rfl (by (with_reducible repeat (first | refine blk_drewN ?_ _ | refine blk_drew ?_ | refine blk_alloc ?_ _)); refine blk_put (cs := #[.int .i8 0, .int .i8 0, .slice none 0 0]) ?_ 2 _ rfl; (with_reducible repeat (first | refine blk_drewN ?_ _ | refine blk_drew ?_ | refine blk_alloc ?_ _)); refine blk_put (cs := #[.int .i8 0, .int .i8 x135001_1, .slice none 0 0]) ?_ 1 _ rfl; (with_reducible repeat (first | refine blk_drewN ?_ _ | refine blk_drew ?_ | refine blk_alloc ?_ _)); refine blk_put (cs := #[.int .i8 x135000_1, .int .i8 x135001_1, .slice none 0 0]) ?_ 0 _ rfl; (with_reducible repeat (first | refine blk_drewN ?_ _ | refine blk_drew ?_ | refine blk_alloc ?_ _)); refine blk_far ?_ NB134_143.out _; (with_reducible repeat (first | refine blk_drewN ?_ _ | refine blk_drew ?_ | refine blk_alloc ?_ _)); exact BK134.out) Tryd.underlying27 rfl (by kernel_rfl)) rfl ?_
            exact ⟨_, by first | rfl | (simp [errW_none, errW_some] <;> rfl) | (simp [*, errW_none, errW_some] <;> rfl), by first | exact Kd.R_nil _ _ _ _ _ | exact Kd.N_nil _ _ _ _ _ | exact Kd.V_nil _ _ _ _ _ | exact Kd.Q_nil _ _ _ _ _ | exact Kd.S_nil _ _ _ _ _, by repeat (first | (with_reducible first | exact HB.out | apply below_alloc | apply pw_below_drewN | apply below_drew1 | refine below_set ?_ GE134.out | refine below_set ?_ GE143.out) | exact HB.out)⟩
          ·replace c29 := Bool.eq_false_iff.mpr c29
           subst c29
           have H1 : (some (0, 0, ([] : List (S35)), 5)) = some (r1, r2, r3, r4) := by rw [if_neg (show ¬ (false = true) by decide)] at H; exact H
           clear H
           have H := H1
           clear H1
           simp only [Option.some.injEq, Prod.mk.injEq] at H
           obtain ⟨rfl, rfl, rfl, rfl⟩ := H
           obtain ⟨Ao47, co47, eo47⟩ := Kd.R_slice HO_8.out
           subst eo47
           have hnb48 := NB143_134.out
           have hnc48 := NB134_143.out
           have hcz49_0 : wc.cell? ⟨gb143, 0, none⟩ = some (.int .i8 x144000_1) := (blk_cell BK143.out 0).trans rfl
           have hcz49_1 : wc.cell? ⟨gb143, 1, none⟩ = some (.int .i8 (IntKind.i8.wrap (t142))) := (blk_cell BK143.out 1).trans rfl
           have hcz49_2 : wc.cell? ⟨gb143, 2, none⟩ = some (u144002) := (blk_cell BK143.out 2).trans rfl
           have hfz49_0 := blk_frozen BK143.out 0
           have hfz49_1 := blk_frozen BK143.out 1
           have hfz49_2 := blk_frozen BK143.out 2
           have hcz50_0 : wc.cell? ⟨gb134, 0, none⟩ = some (.int .i8 x135000_1) := (blk_cell BK134.out 0).trans rfl
           have hcz50_1 : wc.cell? ⟨gb134, 1, none⟩ = some (.int .i8 x135001_1) := (blk_cell BK134.out 1).trans rfl
           have hcz50_2 : wc.cell? ⟨gb134, 2, none⟩ = some (.slice none 0 0) := (blk_cell BK134.out 2).trans rfl
           have hfz50_0 := blk_frozen BK134.out 0
           have hfz50_1 := blk_frozen BK134.out 1
           have hfz50_2 := blk_frozen BK134.out 2
           go_wp2
           refine bodyPost_ret (results_ct rfl _ _ gb134 27 #[.int .i8 0, .int .i8 0, .slice none 0 0] (0, 0) _ rfl (by (with_reducible repeat (first | refine blk_drewN ?_ _ | refine blk_drew ?_ | refine blk_alloc ?_ _)); refine blk_put (cs := #[.int .i8 0, .int .i8 0, .slice none 0 0]) ?_ 2 _ rfl; (with_reducible repeat (first | refine blk_drewN ?_ _ | refine blk_drew ?_ | refine blk_alloc ?_ _)); refine blk_put (cs := #[.int .i8 0, .int .i8 x135001_1, .slice none 0 0]) ?_ 1 _ rfl; (with_reducible repeat (first | refine blk_drewN ?_ _ | refine blk_drew ?_ | refine blk_alloc ?_ _)); refine blk_put (cs := #[.int .i8 x135000_1, .int .i8 x135001_1, .slice none 0 0]) ?_ 0 _ rfl; (with_reducible repeat (first | refine blk_drewN ?_ _ | refine blk_drew ?_ | refine blk_alloc ?_ _)); refine blk_far ?_ NB134_143.out _; (with_reducible repeat (first | refine blk_drewN ?_ _ | refine blk_drew ?_ | refine blk_alloc ?_ _)); exact BK134.out) Tryd.underlying27 rfl (by kernel_rfl)) rfl ?_
           exact ⟨_, by first | rfl | (simp [errW_none, errW_some] <;> rfl) | (simp [*, errW_none, errW_some] <;> rfl), by first | exact Kd.R_nil _ _ _ _ _ | exact Kd.N_nil _ _ _ _ _ | exact Kd.V_nil _ _ _ _ _ | exact Kd.Q_nil _ _ _ _ _ | exact Kd.S_nil _ _ _ _ _, by repeat (first | (with_reducible first | exact HB.out | apply below_alloc | apply pw_below_drewN | apply below_drew1 | refine below_set ?_ GE134.out | refine below_set ?_ GE143.out) | exact HB.out)⟩
         ·replace c28 := Bool.eq_false_iff.mpr c28
          subst c28
          have H1 : (if t150 = true then (if (t149.length : Int) = (wrap64 (x144000_1)) then (if x144002_1.length < 35184372088832 then (impl_ReadFixed.l0 kj23 t144 (t144.length : Int) (wrap64 (x23_1 + 1)) x144000_1 (IntKind.i8.wrap (t142)) (x144002_1 ++ [(padW t149)])) else (none)) else (some (0, 0, ([] : List (S35)), 5))) else (some (0, 0, ([] : List (S35)), 5))) = some (r1, r2, r3, r4) := by rw [if_neg (show ¬ (false = true) by decide)] at H; exact H
          clear H
          have H := H1
          clear H1
          by_cases c51 : t150 = true
          ·subst c51
           have H1 : (if (t149.length : Int) = (wrap64 (x144000_1)) then (if x144002_1.length < 35184372088832 then (impl_ReadFixed.l0 kj23 t144 (t144.length : Int) (wrap64 (x23_1 + 1)) x144000_1 (IntKind.i8.wrap (t142)) (x144002_1 ++ [(padW t149)])) else (none)) else (some (0, 0, ([] : List (S35)), 5))) = some (r1, r2, r3, r4) := by rw [if_pos rfl] at H; exact H
           clear H
           have H := H1
           clear H1
           by_cases c52 : (t149.length : Int) = (wrap64 (x144000_1))
           ·rw [if_pos c52] at H
            have c52b0 : ((t149.length : Int) == (wrap64 (x144000_1))) = true := beq_iff_eq.mpr c52
            have c52b1 : ((t149.length : Int) != (wrap64 (x144000_1))) = false := bne_eq_false_iff_eq.mpr c52
            (try (have c52b2 : ((t149.length : Int) == (IntKind.i64.wrap (x144000_1))) = true := by have h_ : ((t149.length : Int) == (wrap64 (x144000_1))) = true := beq_iff_eq.mpr c52; simpa only [i64_w, i32_w] using h_))
            (try (have c52b3 : ((t149.length : Int) != (IntKind.i64.wrap (x144000_1))) = false := by have h_ : ((t149.length : Int) != (wrap64 (x144000_1))) = false := bne_eq_false_iff_eq.mpr c52; simpa only [i64_w, i32_w] using h_))
            clear c52
            by_cases c53 : x144002_1.length < 35184372088832
            ·rw [if_pos c53] at H
             have LMc53 := Aside0.mk c53
             clear c53
             obtain ⟨y158, hy158⟩ : ∃ y_ : List (S35), y_ = (x144002_1 ++ [(padW t149)]) := ⟨_, rfl⟩
             replace H : (impl_ReadFixed.l0 kj23 t144 (t144.length : Int) (wrap64 (x23_1 + 1)) x144000_1 (IntKind.i8.wrap (t142)) y158) = some (r1, r2, r3, r4) := by first | (rw [hy158]; with_reducible exact H) | (have H2_ := (Option.bind_some _ _).symm.trans H; rw [hy158]; with_reducible exact H2_) | (have H2_ := (Option.bind_some _ _).symm.trans H; with_reducible exact H2_) | with_reducible exact H | (rw [hy158]; exact H) | exact H
             have Ny158 := Aside0.mk hy158
             clear hy158
             have H' := Aside0.mk H
             clear H
             obtain ⟨Ao54, co54, eo54⟩ := Kd.R_slice HO_8.out
             subst eo54
             have hnb55 := NB143_134.out
             have hnc55 := NB134_143.out
             have hcz56_0 : wc.cell? ⟨gb143, 0, none⟩ = some (.int .i8 x144000_1) := (blk_cell BK143.out 0).trans rfl
             have hcz56_1 : wc.cell? ⟨gb143, 1, none⟩ = some (.int .i8 (IntKind.i8.wrap (t142))) := (blk_cell BK143.out 1).trans rfl
             have hcz56_2 : wc.cell? ⟨gb143, 2, none⟩ = some (u144002) := (blk_cell BK143.out 2).trans rfl
             have hfz56_0 := blk_frozen BK143.out 0
             have hfz56_1 := blk_frozen BK143.out 1
             have hfz56_2 := blk_frozen BK143.out 2
             go_wp2_with (first | ((with_reducible refine gate_dst (N := 10) rfl ?_); (try (refine gate_guard (by rfl) ?_; dsimp only)); refine box_event ?hg (N := 10) ?hd (cs := #[.int .i8 0, .int .i8 0, .int .i8 0, .int .i8 0]) (t := 35) ?hr ?_; (case hd => rfl); (case hg => rfl); (case hr => first | (go_simp; done) | (go_simp; rfl)); intro gb157 hg w57 hbox hb; have n0_ := Aside0.mk (Kd.R_below (by (with_reducible repeat (first | apply Kd.R_alloc | apply Kd.R_drewN | apply Kd.R_drew)); exact HO_8.out) hb); have n1_ := Aside0.mk (Kd.Q_below (by (with_reducible repeat (first | apply Kd.Q_alloc | apply Kd.Q_drewN | apply Kd.Q_drew)); exact HO_21.out) hb); have n2_ := Aside0.mk (Kd.R_below (Kd.R_elderB (by (with_reducible repeat (first | apply Kd.R_alloc | apply Kd.R_drewN | apply Kd.R_drew)); exact HO_144002.out) gb157 (Nat.le_of_eq hg.symm)) hb); have n3_ := Aside0.mk (blk_below (g := gb134) (o := .cells #[.int .i8 x135000_1, .int .i8 x135001_1, .slice none 0 0] 27 (0, 0)) (by (with_reducible repeat (first | refine blk_drewN ?_ _ | refine blk_drew ?_ | refine blk_alloc ?_ _)); exact BK134.out) hb); have n4_ := Aside0.mk (blk_below (g := gb143) (o := .cells #[.int .i8 x144000_1, .int .i8 (IntKind.i8.wrap (t142)), u144002] 27 (0, 0)) (by (with_reducible repeat (first | refine blk_drewN ?_ _ | refine blk_drew ?_ | refine blk_alloc ?_ _)); exact BK143.out) hb); have n5_ := Aside0.mk (below_step (by repeat (first | (with_reducible first | exact HB.out | apply below_alloc | apply pw_below_drewN | apply below_drew1 | refine below_set ?_ GE134.out | refine below_set ?_ GE143.out) | exact HB.out)) hb); have n6_ := Aside0.mk (hbox); have n7_ := Aside0.mk ((by rw [hg]; exact (below_size (by repeat (first | (with_reducible first | exact HB.out | apply below_alloc | apply pw_below_drewN | apply below_drew1 | refine below_set ?_ GE134.out | refine below_set ?_ GE143.out) | exact HB.out))) : w.heap.size ≤ gb157)); have n8_ := Aside0.mk ((by rw [hg]; exact (below_size (by repeat (first | (with_reducible first | exact HB.out | apply below_alloc | apply pw_below_drewN | apply below_drew1 | refine below_set ?_ GE134.out | refine below_set ?_ GE143.out) | exact HB.out))) : w.heap.size ≤ gb157)); have n9_ := Aside0.mk ((by rw [hg]; exact Nat.ne_of_lt (blk_lt (g := gb134) (o := .cells #[.int .i8 x135000_1, .int .i8 x135001_1, .slice none 0 0] 27 (0, 0)) (by (with_reducible repeat (first | refine blk_drewN ?_ _ | refine blk_drew ?_ | refine blk_alloc ?_ _)); exact BK134.out)) : gb134 ≠ gb157)); have n10_ := Aside0.mk ((by rw [hg]; exact Nat.ne_of_gt (blk_lt (g := gb134) (o := .cells #[.int .i8 x135000_1, .int .i8 x135001_1, .slice none 0 0] 27 (0, 0)) (by (with_reducible repeat (first | refine blk_drewN ?_ _ | refine blk_drew ?_ | refine blk_alloc ?_ _)); exact BK134.out)) : gb157 ≠ gb134)); have n11_ := Aside0.mk ((by rw [hg]; exact Nat.ne_of_lt (blk_lt (g := gb143) (o := .cells #[.int .i8 x144000_1, .int .i8 (IntKind.i8.wrap (t142)), u144002] 27 (0, 0)) (by (with_reducible repeat (first | refine blk_drewN ?_ _ | refine blk_drew ?_ | refine blk_alloc ?_ _)); exact BK143.out)) : gb143 ≠ gb157)); have n12_ := Aside0.mk ((by rw [hg]; exact Nat.ne_of_gt (blk_lt (g := gb143) (o := .cells #[.int .i8 x144000_1, .int .i8 (IntKind.i8.wrap (t142)), u144002] 27 (0, 0)) (by (with_reducible repeat (first | refine blk_drewN ?_ _ | refine blk_drew ?_ | refine blk_alloc ?_ _)); exact BK143.out)) : gb157 ≠ gb143)); clear HO_8; clear HO_21; clear HO_144002; clear BK134; clear BK143; clear HB; have HO_8 := n0_; have HO_21 := n1_; have HO_144002 := n2_; have BK134 := n3_; have BK143 := n4_; have HB := n5_; have BK157 := n6_; have GW157 := n7_; have GE157 := n8_; have NB134_157 := n9_; have NB157_134 := n10_; have NB143_157 := n11_; have NB157_143 := n12_; clear n0_ n1_ n2_ n3_ n4_ n5_ n6_ n7_ n8_ n9_ n10_ n11_ n12_; clear hb hbox hg; have hnb58 := NB157_134.out; have hnc58 := NB134_157.out; have hnb59 := NB157_143.out; have hnc59 := NB143_157.out; have hcz60_0 : w57.cell? ⟨gb157, 0, none⟩ = some (.int .i8 0) := (blk_cell BK157.out 0).trans rfl; have hcz60_1 : w57.cell? ⟨gb157, 1, none⟩ = some (.int .i8 0) := (blk_cell BK157.out 1).trans rfl; have hcz60_2 : w57.cell? ⟨gb157, 2, none⟩ = some (.int .i8 0) := (blk_cell BK157.out 2).trans rfl; have hcz60_3 : w57.cell? ⟨gb157, 3, none⟩ = some (.int .i8 0) := (blk_cell BK157.out 3).trans rfl; have hfz60_0 := blk_frozen BK157.out 0; have hfz60_1 := blk_frozen BK157.out 1; have hfz60_2 := blk_frozen BK157.out 2; have hfz60_3 := blk_frozen BK157.out 3; have hcz61_0 : w57.cell? ⟨gb143, 0, none⟩ = some (.int .i8 x144000_1) := (blk_cell BK143.out 0).trans rfl; have hcz61_1 : w57.cell? ⟨gb143, 1, none⟩ = some (.int .i8 (IntKind.i8.wrap (t142))) := (blk_cell BK143.out 1).trans rfl; have hcz61_2 : w57.cell? ⟨gb143, 2, none⟩ = some (u144002) := (blk_cell BK143.out 2).trans rfl; have hfz61_0 := blk_frozen BK143.out 0; have hfz61_1 := blk_frozen BK143.out 1; have hfz61_2 := blk_frozen BK143.out 2) | ((with_reducible refine gate_builtin (b := .copy) (xs := #[.tmp 56, .tmp 57]) rfl ?_); refine copy_box (w0 := w) w.heap.size rfl (.tmp 56) (.tmp 57) 58 58 24 rfl Tryd.underlying58 (by kernel_rfl) gb157 35 t149 Ao54 t149.length co54 rfl rfl ?cR ?cb ?cB GE157.out ?_; (case cR => exact (Kd.R_reads' (Kd.R_mono (Kd.R_far (p := ⟨gb157, 3, none⟩) (Kd.R_far (p := ⟨gb157, 2, none⟩) (Kd.R_far (p := ⟨gb157, 1, none⟩) (Kd.R_far (p := ⟨gb157, 0, none⟩) (Kd.R_types HO_8.out BK157.out (by decide)) (fun _ hk => hk.2) (.int .i8 0)) (fun _ hk => hk.2) (.int .i8 0)) (fun _ hk => hk.2) (.int .i8 0)) (fun _ hk => hk.2) (.int .i8 0)) (fun _ h_ => h_.1))).2.2); (case cb => exact (by (with_reducible repeat (first | refine blk_drewN ?_ _ | refine blk_drew ?_ | refine blk_alloc ?_ _)); refine blk_put (cs := #[.int .i8 0, .int .i8 0, .int .i8 0, .int .i8 0]) ?_ 3 _ rfl; (with_reducible repeat (first | refine blk_drewN ?_ _ | refine blk_drew ?_ | refine blk_alloc ?_ _)); refine blk_put (cs := #[.int .i8 0, .int .i8 0, .int .i8 0, .int .i8 0]) ?_ 2 _ rfl; (with_reducible repeat (first | refine blk_drewN ?_ _ | refine blk_drew ?_ | refine blk_alloc ?_ _)); refine blk_put (cs := #[.int .i8 0, .int .i8 0, .int .i8 0, .int .i8 0]) ?_ 1 _ rfl; (with_reducible repeat (first | refine blk_drewN ?_ _ | refine blk_drew ?_ | refine blk_alloc ?_ _)); refine blk_put (cs := #[.int .i8 0, .int .i8 0, .int .i8 0, .int .i8 0]) ?_ 0 _ rfl; (with_reducible repeat (first | refine blk_drewN ?_ _ | refine blk_drew ?_ | refine blk_alloc ?_ _)); exact BK157.out)); (case cB => exact (by repeat (first | (with_reducible first | exact HB.out | apply below_alloc | apply pw_below_drewN | apply below_drew1 | refine below_set ?_ GE134.out | refine below_set ?_ GE143.out | refine below_set ?_ GE157.out) | exact HB.out))); intro wk157 ho hb hg; have n0_ := Aside0.mk (Kd.R_mono (Kd.R_grown (Kd.R_far (p := ⟨gb157, 3, none⟩) (Kd.R_far (p := ⟨gb157, 2, none⟩) (Kd.R_far (p := ⟨gb157, 1, none⟩) (Kd.R_far (p := ⟨gb157, 0, none⟩) (Kd.R_types HO_8.out BK157.out (by decide)) (fun _ hk => hk.2) (.int .i8 0)) (fun _ hk => hk.2) (.int .i8 0)) (fun _ hk => hk.2) (.int .i8 0)) (fun _ hk => hk.2) (.int .i8 0)) hg (fun k hk_ e_ => hk_.2 (by injection e_))) (fun _ h_ => h_.1)); have n1_ := Aside0.mk (Kd.Q_mono (Kd.Q_grown (Kd.Q_far (p := ⟨gb157, 3, none⟩) (Kd.Q_far (p := ⟨gb157, 2, none⟩) (Kd.Q_far (p := ⟨gb157, 1, none⟩) (Kd.Q_far (p := ⟨gb157, 0, none⟩) (Kd.Q_types HO_21.out BK157.out (by decide)) (fun _ hk => hk.2) (.int .i8 0)) (fun _ hk => hk.2) (.int .i8 0)) (fun _ hk => hk.2) (.int .i8 0)) (fun _ hk => hk.2) (.int .i8 0)) hg (fun k hk_ e_ => hk_.2 (by injection e_))) (fun _ h_ => h_.1)); have n2_ := Aside0.mk (Kd.R_mono (Kd.R_grown (Kd.R_far (p := ⟨gb157, 3, none⟩) (Kd.R_far (p := ⟨gb157, 2, none⟩) (Kd.R_far (p := ⟨gb157, 1, none⟩) (Kd.R_far (p := ⟨gb157, 0, none⟩) (Kd.R_mono HO_144002.out (fun k_ hk => (⟨hk, hk.2⟩ : _ ∧ k_ ≠ gb157))) (fun _ hk => hk.2) (.int .i8 0)) (fun _ hk => hk.2) (.int .i8 0)) (fun _ hk => hk.2) (.int .i8 0)) (fun _ hk => hk.2) (.int .i8 0)) hg (fun k hk_ e_ => hk_.2 (by injection e_))) (fun _ h_ => h_.1)); have n3_ := Aside0.mk (blk_grown (g := gb134) (o := .cells #[.int .i8 x135000_1, .int .i8 x135001_1, .slice none 0 0] 27 (0, 0)) (by (with_reducible repeat (first | refine blk_drewN ?_ _ | refine blk_drew ?_ | refine blk_alloc ?_ _)); refine blk_far ?_ NB134_157.out _; (with_reducible repeat (first | refine blk_drewN ?_ _ | refine blk_drew ?_ | refine blk_alloc ?_ _)); refine blk_far ?_ NB134_157.out _; (with_reducible repeat (first | refine blk_drewN ?_ _ | refine blk_drew ?_ | refine blk_alloc ?_ _)); refine blk_far ?_ NB134_157.out _; (with_reducible repeat (first | refine blk_drewN ?_ _ | refine blk_drew ?_ | refine blk_alloc ?_ _)); refine blk_far ?_ NB134_157.out _; (with_reducible repeat (first | refine blk_drewN ?_ _ | refine blk_drew ?_ | refine blk_alloc ?_ _)); exact BK134.out) hg (fun e_ => NB134_157.out (by injection e_))); have n4_ := Aside0.mk (blk_grown (g := gb143) (o := .cells #[.int .i8 x144000_1, .int .i8 (IntKind.i8.wrap (t142)), u144002] 27 (0, 0)) (by (with_reducible repeat (first | refine blk_drewN ?_ _ | refine blk_drew ?_ | refine blk_alloc ?_ _)); refine blk_far ?_ NB143_157.out _; (with_reducible repeat (first | refine blk_drewN ?_ _ | refine blk_drew ?_ | refine blk_alloc ?_ _)); refine blk_far ?_ NB143_157.out _; (with_reducible repeat (first | refine blk_drewN ?_ _ | refine blk_drew ?_ | refine blk_alloc ?_ _)); refine blk_far ?_ NB143_157.out _; (with_reducible repeat (first | refine blk_drewN ?_ _ | refine blk_drew ?_ | refine blk_alloc ?_ _)); refine blk_far ?_ NB143_157.out _; (with_reducible repeat (first | refine blk_drewN ?_ _ | refine blk_drew ?_ | refine blk_alloc ?_ _)); exact BK143.out) hg (fun e_ => NB143_157.out (by injection e_))); have n5_ := Aside0.mk (ho); have n6_ := Aside0.mk (hb); clear HO_8; clear HO_21; clear HO_144002; clear BK134; clear BK143; clear BK157; clear HB; have HO_8 := n0_; have HO_21 := n1_; have HO_144002 := n2_; have BK134 := n3_; have BK143 := n4_; have BK157 := n5_; have HB := n6_; clear n0_ n1_ n2_ n3_ n4_ n5_ n6_; clear ho hb hg; have hczk_0 : wk157.cell? ⟨gb157, 0, none⟩ = some (.int .i8 (pad t149 0)) := (blk_cell BK157.out 0).trans rfl; have hczk_1 : wk157.cell? ⟨gb157, 1, none⟩ = some (.int .i8 (pad t149 1)) := (blk_cell BK157.out 1).trans rfl; have hczk_2 : wk157.cell? ⟨gb157, 2, none⟩ = some (.int .i8 (pad t149 2)) := (blk_cell BK157.out 2).trans rfl; have hczk_3 : wk157.cell? ⟨gb157, 3, none⟩ = some (.int .i8 (pad t149 3)) := (blk_cell BK157.out 3).trans rfl; have hczl_0 : wk157.cell? ⟨gb143, 0, none⟩ = some (.int .i8 x144000_1) := (blk_cell BK143.out 0).trans rfl; have hczl_1 : wk157.cell? ⟨gb143, 1, none⟩ = some (.int .i8 (IntKind.i8.wrap (t142))) := (blk_cell BK143.out 1).trans rfl; have hczl_2 : wk157.cell? ⟨gb143, 2, none⟩ = some (u144002) := (blk_cell BK143.out 2).trans rfl; have hfzk_0 := blk_frozen BK157.out 0; have hfzk_1 := blk_frozen BK157.out 1; have hfzk_2 := blk_frozen BK157.out 2; have hfzk_3 := blk_frozen BK157.out 3; have hfzl_0 := blk_frozen BK143.out 0; have hfzl_1 := blk_frozen BK143.out 1; have hfzl_2 := blk_frozen BK143.out 2) | ((with_reducible refine gate_builtin (b := .append) (xs := #[.tmp 60, .tmp 62]) rfl ?_); (try (refine gate_guard (by rfl) ?_; dsimp only)); at_builtin; refine Kd.R_append k35 (w0 := w) w.heap.size rfl (.tmp 60) (.tmp 62) 25 35 (.agg #[(.int .i8 0), (.int .i8 0), (.int .i8 0), (.int .i8 0)]) 4 rfl Tryd.underlying25 info35 rfl (by decide) (by omega) u144002 x144002_1 (padW t149) [.int .i8 (pad t149 0), .int .i8 (pad t149 1), .int .i8 (pad t149 2), .int .i8 (pad t149 3)] (fun k_ => k_ ≠ gb157) (fun _ => False) rfl (by first | (go_simp; done) | (go_simp; rfl)) ?aP (fun _ hk => hk.elim) ?aF ?aO ?aB ?aS ?aL ?_; (case aP => exact k35_mkM _ _ _ (padW t149)); (case aB => exact (by repeat (first | (with_reducible first | exact HB.out | apply below_alloc | apply pw_below_drewN | apply below_drew1 | refine below_set ?_ GE134.out | refine below_set ?_ GE143.out | refine below_set ?_ GE157.out) | exact HB.out))); (case aF => exact (fun k_ hk => Kd.freshB (g := gb157) (o := .cells #[.int .i8 (pad t149 0), .int .i8 (pad t149 1), .int .i8 (pad t149 2), .int .i8 (pad t149 3)] 35 (0, 0)) (by (with_reducible repeat (first | refine blk_drewN ?_ _ | refine blk_drew ?_ | refine blk_alloc ?_ _)); exact BK157.out) k_ hk)); (case aO => exact (by (with_reducible repeat (first | apply Kd.R_alloc | apply Kd.R_drewN | apply Kd.R_drew)); exact (Kd.R_mono HO_144002.out (fun _ hk => hk.2)))); (case aS => exact (below_size (by repeat (first | (with_reducible first | exact HB.out | apply below_alloc | apply pw_below_drewN | apply below_drew1 | refine below_set ?_ GE134.out | refine below_set ?_ GE143.out | refine below_set ?_ GE157.out) | exact HB.out)))); (case aL => have := LMc53.out; omega); intro v159 w62 ho hb hg hat; rw [← Ny158.out] at ho; have n0_ := Aside0.mk (Kd.R_over' (by (with_reducible repeat (first | apply Kd.R_alloc | apply Kd.R_drewN | apply Kd.R_drew)); exact HO_8.out) (Kd.R_typed (by (with_reducible repeat (first | apply Kd.R_alloc | apply Kd.R_drewN | apply Kd.R_drew)); exact HO_144002.out)) (by decide) hg); have n1_ := Aside0.mk (Kd.Q_over' (by (with_reducible repeat (first | apply Kd.Q_alloc | apply Kd.Q_drewN | apply Kd.Q_drew)); exact HO_21.out) (Kd.R_typed (by (with_reducible repeat (first | apply Kd.R_alloc | apply Kd.R_drewN | apply Kd.R_drew)); exact HO_144002.out)) (by decide) hg); have n2_ := Aside0.mk (blk_grown (g := gb134) (o := .cells #[.int .i8 x135000_1, .int .i8 x135001_1, .slice none 0 0] 27 (0, 0)) (by (with_reducible repeat (first | refine blk_drewN ?_ _ | refine blk_drew ?_ | refine blk_alloc ?_ _)); exact BK134.out) hg (Kd.R_ne HO_144002.out BK134.out (by decide))); have n3_ := Aside0.mk (blk_grown (g := gb143) (o := .cells #[.int .i8 x144000_1, .int .i8 (IntKind.i8.wrap (t142)), u144002] 27 (0, 0)) (by (with_reducible repeat (first | refine blk_drewN ?_ _ | refine blk_drew ?_ | refine blk_alloc ?_ _)); exact BK143.out) hg (Kd.R_ne HO_144002.out BK143.out (by decide))); have n4_ := Aside0.mk (blk_grown (g := gb157) (o := .cells #[.int .i8 (pad t149 0), .int .i8 (pad t149 1), .int .i8 (pad t149 2), .int .i8 (pad t149 3)] 35 (0, 0)) (by (with_reducible repeat (first | refine blk_drewN ?_ _ | refine blk_drew ?_ | refine blk_alloc ?_ _)); exact BK157.out) hg (Kd.R_away HO_144002.out (fun _ hk => hk.2))); have n5_ := Aside0.mk (hb); have n6_ := Aside0.mk (ho); clear HO_8; clear HO_21; clear BK134; clear BK143; clear BK157; clear HB; clear HO_144002; have HO_8 := n0_; have HO_21 := n1_; have BK134 := n2_; have BK143 := n3_; have BK157 := n4_; have HB := n5_; have HO160 := n6_; clear n0_ n1_ n2_ n3_ n4_ n5_ n6_; clear ho hb hg hat; obtain ⟨Ao63, co63, eo63⟩ := Kd.R_slice HO160.out; subst eo63; have hcz64_0 : w62.cell? ⟨gb143, 0, none⟩ = some (.int .i8 x144000_1) := (blk_cell BK143.out 0).trans rfl; have hcz64_1 : w62.cell? ⟨gb143, 1, none⟩ = some (.int .i8 (IntKind.i8.wrap (t142))) := (blk_cell BK143.out 1).trans rfl; have hcz64_2 : w62.cell? ⟨gb143, 2, none⟩ = some (u144002) := (blk_cell BK143.out 2).trans rfl; have hfz64_0 := blk_frozen BK143.out 0; have hfz64_1 := blk_frozen BK143.out 1; have hfz64_2 := blk_frozen BK143.out 2))
             go_roundg kj23
             case measure => have := HK1.out; have := HJ23.out; omega
             case rel => exact ⟨(wrap64 (x23_1 + 1)), (x135000_1), (x135001_1), (x144000_1), (y158), (.slice Ao63 y158.length co63), (by first | rfl | (simp; done) | (simp [*]; done)), H', ⟨by have := HK1.out; have := HJ23.out; omega⟩, ⟨by (with_reducible repeat (first | apply Kd.Q_alloc | apply Kd.Q_drewN | apply Kd.Q_drew)); exact Kd.Q_mono (Kd.Q_far (p := ⟨gb143, 2, none⟩) (Kd.Q_types HO_21.out BK143.out (by decide)) (fun _ hk => hk.2) (.slice Ao63 y158.length co63)) (fun _ hk => trivial)⟩, ⟨by (with_reducible repeat (first | apply Kd.R_alloc | apply Kd.R_drewN | apply Kd.R_drew)); exact Kd.R_mono (Kd.R_far (p := ⟨gb143, 2, none⟩) (Kd.R_types HO160.out BK143.out (by decide)) (fun _ hk => hk.2) (.slice Ao63 y158.length co63)) (fun _ hk => trivial)⟩, ⟨by (with_reducible repeat (first | refine blk_drewN ?_ _ | refine blk_drew ?_ | refine blk_alloc ?_ _)); refine blk_far ?_ NB134_143.out _; (with_reducible repeat (first | refine blk_drewN ?_ _ | refine blk_drew ?_ | refine blk_alloc ?_ _)); exact BK134.out⟩, ⟨by (with_reducible repeat (first | refine blk_drewN ?_ _ | refine blk_drew ?_ | refine blk_alloc ?_ _)); refine blk_put (cs := #[.int .i8 x144000_1, .int .i8 (IntKind.i8.wrap (t142)), u144002]) ?_ 2 _ rfl; (with_reducible repeat (first | refine blk_drewN ?_ _ | refine blk_drew ?_ | refine blk_alloc ?_ _)); exact BK143.out⟩, ⟨by repeat (first | (with_reducible first | exact HB.out | apply below_alloc | apply pw_below_drewN | apply below_drew1 | refine below_set ?_ GE134.out | refine below_set ?_ GE143.out | refine below_set ?_ GE157.out) | exact HB.out)⟩⟩
            ·rw [if_neg c53] at H
             exact absurd H (by simp)
           ·rw [if_neg c52] at H
            have c52b0 : ((t149.length : Int) == (wrap64 (x144000_1))) = false := beq_eq_false_iff_ne.mpr c52
            have c52b1 : ((t149.length : Int) != (wrap64 (x144000_1))) = true := bne_iff_ne.mpr c52
            (try (have c52b2 : ((t149.length : Int) == (IntKind.i64.wrap (x144000_1))) = false := by have h_ : ((t149.length : Int) == (wrap64 (x144000_1))) = false := beq_eq_false_iff_ne.mpr c52; simpa only [i64_w, i32_w] using h_))
            (try (have c52b3 : ((t149.length : Int) != (IntKind.i64.wrap (x144000_1))) = true := by have h_ : ((t149.length : Int) != (wrap64 (x144000_1))) = true := bne_iff_ne.mpr c52; simpa only [i64_w, i32_w] using h_))
            simp only [Option.some.injEq, Prod.mk.injEq] at H
            obtain ⟨rfl, rfl, rfl, rfl⟩ := H
            obtain ⟨Ao65, co65, eo65⟩ := Kd.R_slice HO_8.out
            subst eo65
            have hnb66 := NB143_134.out
            have hnc66 := NB134_143.out
            have hcz67_0 : wc.cell? ⟨gb143, 0, none⟩ = some (.int .i8 x144000_1) := (blk_cell BK143.out 0).trans rfl
            have hcz67_1 : wc.cell? ⟨gb143, 1, none⟩ = some (.int .i8 (IntKind.i8.wrap (t142))) := (blk_cell BK143.out 1).trans rfl
            have hcz67_2 : wc.cell? ⟨gb143, 2, none⟩ = some (u144002) := (blk_cell BK143.out 2).trans rfl
            have hfz67_0 := blk_frozen BK143.out 0
            have hfz67_1 := blk_frozen BK143.out 1
            have hfz67_2 := blk_frozen BK143.out 2
            have hcz68_0 : wc.cell? ⟨gb134, 0, none⟩ = some (.int .i8 x135000_1) := (blk_cell BK134.out 0).trans rfl
            have hcz68_1 : wc.cell? ⟨gb134, 1, none⟩ = some (.int .i8 x135001_1) := (blk_cell BK134.out 1).trans rfl
            have hcz68_2 : wc.cell? ⟨gb134, 2, none⟩ = some (.slice none 0 0) := (blk_cell BK134.out 2).trans rfl
            have hfz68_0 := blk_frozen BK134.out 0
            have hfz68_1 := blk_frozen BK134.out 1
            have hfz68_2 := blk_frozen BK134.out 2
            go_wp2
            refine bodyPost_ret (results_ct rfl _ _ gb134 27 #[.int .i8 0, .int .i8 0, .slice none 0 0] (0, 0) _ rfl (by (with_reducible repeat (first | refine blk_drewN ?_ _ | refine blk_drew ?_ | refine blk_alloc ?_ _)); refine blk_put (cs := #[.int .i8 0, .int .i8 0, .slice none 0 0]) ?_ 2 _ rfl; (with_reducible repeat (first | refine blk_drewN ?_ _ | refine blk_drew ?_ | refine blk_alloc ?_ _)); refine blk_put (cs := #[.int .i8 0, .int .i8 x135001_1, .slice none 0 0]) ?_ 1 _ rfl; (with_reducible repeat (first | refine blk_drewN ?_ _ | refine blk_drew ?_ | refine blk_alloc ?_ _)); refine blk_put (cs := #[.int .i8 x135000_1, .int .i8 x135001_1, .slice none 0 0]) ?_ 0 _ rfl; (with_reducible repeat (first | refine blk_drewN ?_ _ | refine blk_drew ?_ | refine blk_alloc ?_ _)); exact BK134.out) Tryd.underlying27 rfl (by kernel_rfl)) rfl ?_
            exact ⟨_, by first | rfl | (simp [errW_none, errW_some] <;> rfl) | (simp [*, errW_none, errW_some] <;> rfl), by first | exact Kd.R_nil _ _ _ _ _ | exact Kd.N_nil _ _ _ _ _ | exact Kd.V_nil _ _ _ _ _ | exact Kd.Q_nil _ _ _ _ _ | exact Kd.S_nil _ _ _ _ _, by repeat (first | (with_reducible first | exact HB.out | apply below_alloc | apply pw_below_drewN | apply below_drew1 | refine below_set ?_ GE134.out | refine below_set ?_ GE143.out) | exact HB.out)⟩
          ·replace c51 := Bool.eq_false_iff.mpr c51
           subst c51
           have H1 : (some (0, 0, ([] : List (S35)), 5)) = some (r1, r2, r3, r4) := by rw [if_neg (show ¬ (false = true) by decide)] at H; exact H
           clear H
           have H := H1
           clear H1
           simp only [Option.some.injEq, Prod.mk.injEq] at H
           obtain ⟨rfl, rfl, rfl, rfl⟩ := H
           have hnb69 := NB134_143.out
           have hnc69 := NB143_134.out
           have hcz70_0 : wc.cell? ⟨gb134, 0, none⟩ = some (.int .i8 x135000_1) := (blk_cell BK134.out 0).trans rfl
           have hcz70_1 : wc.cell? ⟨gb134, 1, none⟩ = some (.int .i8 x135001_1) := (blk_cell BK134.out 1).trans rfl
           have hcz70_2 : wc.cell? ⟨gb134, 2, none⟩ = some (.slice none 0 0) := (blk_cell BK134.out 2).trans rfl
           have hfz70_0 := blk_frozen BK134.out 0
           have hfz70_1 := blk_frozen BK134.out 1
           have hfz70_2 := blk_frozen BK134.out 2
           go_wp2
           refine bodyPost_ret (results_ct rfl _ _ gb134 27 #[.int .i8 0, .int .i8 0, .slice none 0 0] (0, 0) _ rfl (by (with_reducible repeat (first | refine blk_drewN ?_ _ | refine blk_drew ?_ | refine blk_alloc ?_ _)); refine blk_put (cs := #[.int .i8 0, .int .i8 0, .slice none 0 0]) ?_ 2 _ rfl; (with_reducible repeat (first | refine blk_drewN ?_ _ | refine blk_drew ?_ | refine blk_alloc ?_ _)); refine blk_put (cs := #[.int .i8 0, .int .i8 x135001_1, .slice none 0 0]) ?_ 1 _ rfl; (with_reducible repeat (first | refine blk_drewN ?_ _ | refine blk_drew ?_ | refine blk_alloc ?_ _)); refine blk_put (cs := #[.int .i8 x135000_1, .int .i8 x135001_1, .slice none 0 0]) ?_ 0 _ rfl; (with_reducible repeat (first | refine blk_drewN ?_ _ | refine blk_drew ?_ | refine blk_alloc ?_ _)); exact BK134.out) Tryd.underlying27 rfl (by kernel_rfl)) rfl ?_
           exact ⟨_, by first | rfl | (simp [errW_none, errW_some] <;> rfl) | (simp [*, errW_none, errW_some] <;> rfl), by first | exact Kd.R_nil _ _ _ _ _ | exact Kd.N_nil _ _ _ _ _ | exact Kd.V_nil _ _ _ _ _ | exact Kd.Q_nil _ _ _ _ _ | exact Kd.S_nil _ _ _ _ _, by repeat (first | (with_reducible first | exact HB.out | apply below_alloc | apply pw_below_drewN | apply below_drew1 | refine below_set ?_ GE134.out | refine below_set ?_ GE143.out) | exact HB.out)⟩
      ·rw [if_neg c22] at H
       exact absurd H (by simp)
     ·rw [if_neg c21] at H
      exact absurd H (by simp)
    ·rw [if_neg c20] at H
     have c20b0 : decide (x23_1 < (t144.length : Int)) = false := decide_eq_false c20
     clear c20
     replace H := Option.bind_eq_some_iff.mp H
     obtain ⟨t147, A710, H⟩ := H
     replace H : (if t147 = true then (some (x144000_1, (IntKind.i8.wrap (t142)), x144002_1, 0)) else (some (0, 0, ([] : List (S35)), 5))) = some (r1, r2, r3, r4) := H
     have A71 := Aside0.mk A710
     clear A710
     by_cases c72 : t147 = true
     ·subst c72
      have H1 : (some (x144000_1, (IntKind.i8.wrap (t142)), x144002_1, 0)) = some (r1, r2, r3, r4) := by rw [if_pos rfl] at H; exact H
      clear H
      have H := H1
      clear H1
      simp only [Option.some.injEq, Prod.mk.injEq] at H
      obtain ⟨rfl, rfl, rfl, rfl⟩ := H
      have hnb73 := NB143_134.out
      have hnc73 := NB134_143.out
      have hcz74_0 : wr.cell? ⟨gb143, 0, none⟩ = some (.int .i8 x144000_1) := (blk_cell BK143.out 0).trans rfl
      have hcz74_1 : wr.cell? ⟨gb143, 1, none⟩ = some (.int .i8 (IntKind.i8.wrap (t142))) := (blk_cell BK143.out 1).trans rfl
      have hcz74_2 : wr.cell? ⟨gb143, 2, none⟩ = some (u144002) := (blk_cell BK143.out 2).trans rfl
      have hfz74_0 := blk_frozen BK143.out 0
      have hfz74_1 := blk_frozen BK143.out 1
      have hfz74_2 := blk_frozen BK143.out 2
      obtain ⟨Ao75, co75, eo75⟩ := Kd.R_slice HO_144002.out
      subst eo75
      go_wp2_with (first | ((with_reducible refine gate_callee (f := 11) rfl ?_); refine goesL_ (some 67) rfl rfl Tryd.func11 (by kernel_rfl) rfl #[.agg #[.int .i8 x144000_1, .int .i8 (IntKind.i8.wrap (t142)), .slice Ao75 x144002_1.length co75]] rfl (by (try simp only [List.map_toArray, List.map_cons, List.map_nil]); first | done | rfl | (simp only [List.length_drop, List.length_take]; rfl)) ?_; (with_reducible refine (impl_ValidFixed.calls k1 x144000_1 (IntKind.i8.wrap (t142)) _ _ x144002_1 true _ ?side1 ?side2 A71.out).mono ?_); (case side1 => repeat (first | exact (Kd.R_reads' HO_144002.out).2.2 | (with_reducible refine Kd.C_alloc ?_ _) | (with_reducible refine Kd.C_drewN ?_ _) | (with_reducible refine Kd.C_drew ?_))); (case side2 => exact (Kd.R_reads' HO_144002.out).2.1); rintro e w76 ⟨rfl, hb⟩; refine ⟨_, rfl, ?_⟩; have n0_ := Aside0.mk (Kd.Q_below (by (with_reducible repeat (first | apply Kd.Q_alloc | apply Kd.Q_drewN | apply Kd.Q_drew)); exact HO_21.out) hb); have n1_ := Aside0.mk (Kd.R_below (by (with_reducible repeat (first | apply Kd.R_alloc | apply Kd.R_drewN | apply Kd.R_drew)); exact HO_144002.out) hb); have n2_ := Aside0.mk (blk_below (g := gb134) (o := .cells #[.int .i8 x135000_1, .int .i8 x135001_1, .slice none 0 0] 27 (0, 0)) (by (with_reducible repeat (first | refine blk_drewN ?_ _ | refine blk_drew ?_ | refine blk_alloc ?_ _)); exact BK134.out) hb); have n3_ := Aside0.mk (blk_below (g := gb143) (o := .cells #[.int .i8 x144000_1, .int .i8 (IntKind.i8.wrap (t142)), .slice Ao75 x144002_1.length co75] 27 (0, 0)) (by (with_reducible repeat (first | refine blk_drewN ?_ _ | refine blk_drew ?_ | refine blk_alloc ?_ _)); exact BK143.out) hb); have n4_ := Aside0.mk (below_step (by repeat (first | (with_reducible first | exact HB.out | apply below_alloc | apply pw_below_drewN | apply below_drew1 | refine below_set ?_ GE134.out | refine below_set ?_ GE143.out) | exact HB.out)) hb); clear HO_21; clear HO_144002; clear BK134; clear BK143; clear HB; have HO_21 := n0_; have HO_144002 := n1_; have BK134 := n2_; have BK143 := n3_; have HB := n4_; clear n0_ n1_ n2_ n3_ n4_; (try clear hb); (try clear hb2); (try clear hk); (try clear hi); have hcz77_0 : w76.cell? ⟨gb143, 0, none⟩ = some (.int .i8 x144000_1) := (blk_cell BK143.out 0).trans rfl; have hcz77_1 : w76.cell? ⟨gb143, 1, none⟩ = some (.int .i8 (IntKind.i8.wrap (t142))) := (blk_cell BK143.out 1).trans rfl; have hcz77_2 : w76.cell? ⟨gb143, 2, none⟩ = some (.slice Ao75 x144002_1.length co75) := (blk_cell BK143.out 2).trans rfl; have hfz77_0 := blk_frozen BK143.out 0; have hfz77_1 := blk_frozen BK143.out 1; have hfz77_2 := blk_frozen BK143.out 2; have hcz78_0 : w76.cell? ⟨gb134, 0, none⟩ = some (.int .i8 x135000_1) := (blk_cell BK134.out 0).trans rfl; have hcz78_1 : w76.cell? ⟨gb134, 1, none⟩ = some (.int .i8 x135001_1) := (blk_cell BK134.out 1).trans rfl; have hcz78_2 : w76.cell? ⟨gb134, 2, none⟩ = some (.slice none 0 0) := (blk_cell BK134.out 2).trans rfl; have hfz78_0 := blk_frozen BK134.out 0; have hfz78_1 := blk_frozen BK134.out 1; have hfz78_2 := blk_frozen BK134.out 2))
      refine bodyPost_ret (results_ct rfl _ _ gb134 27 #[.int .i8 x144000_1, .int .i8 (IntKind.i8.wrap (t142)), .slice Ao75 x144002_1.length co75] (0, 0) _ rfl (by (with_reducible repeat (first | refine blk_drewN ?_ _ | refine blk_drew ?_ | refine blk_alloc ?_ _)); refine blk_put (cs := #[.int .i8 x144000_1, .int .i8 (IntKind.i8.wrap (t142)), .slice none 0 0]) ?_ 2 _ rfl; (with_reducible repeat (first | refine blk_drewN ?_ _ | refine blk_drew ?_ | refine blk_alloc ?_ _)); refine blk_put (cs := #[.int .i8 x144000_1, .int .i8 x135001_1, .slice none 0 0]) ?_ 1 _ rfl; (with_reducible repeat (first | refine blk_drewN ?_ _ | refine blk_drew ?_ | refine blk_alloc ?_ _)); refine blk_put (cs := #[.int .i8 x135000_1, .int .i8 x135001_1, .slice none 0 0]) ?_ 0 _ rfl; (with_reducible repeat (first | refine blk_drewN ?_ _ | refine blk_drew ?_ | refine blk_alloc ?_ _)); exact BK134.out) Tryd.underlying27 rfl (by kernel_rfl)) rfl ?_
      exact ⟨_, by first | rfl | (simp [errW_none, errW_some] <;> rfl) | (simp [*, errW_none, errW_some] <;> rfl), by (with_reducible repeat (first | apply Kd.R_alloc | apply Kd.R_drewN | apply Kd.R_drew)); exact Kd.R_mono (Kd.R_far (p := ⟨gb134, 2, none⟩) (Kd.R_far (p := ⟨gb134, 1, none⟩) (Kd.R_far (p := ⟨gb134, 0, none⟩) (Kd.R_types HO_144002.out BK134.out (by decide)) (fun _ hk => hk.2) (.int .i8 x144000_1)) (fun _ hk => hk.2) (.int .i8 (IntKind.i8.wrap (t142)))) (fun _ hk => hk.2) (.slice Ao75 x144002_1.length co75)) (fun _ hk => trivial), by repeat (first | (with_reducible first | exact HB.out | apply below_alloc | apply pw_below_drewN | apply below_drew1 | refine below_set ?_ GE134.out | refine below_set ?_ GE143.out) | exact HB.out)⟩
     ·replace c72 := Bool.eq_false_iff.mpr c72
      subst c72
      have H1 : (some (0, 0, ([] : List (S35)), 5)) = some (r1, r2, r3, r4) := by rw [if_neg (show ¬ (false = true) by decide)] at H; exact H
      clear H
      have H := H1
      clear H1
      simp only [Option.some.injEq, Prod.mk.injEq] at H
      obtain ⟨rfl, rfl, rfl, rfl⟩ := H
      have hnb79 := NB143_134.out
      have hnc79 := NB134_143.out
      have hcz80_0 : wr.cell? ⟨gb143, 0, none⟩ = some (.int .i8 x144000_1) := (blk_cell BK143.out 0).trans rfl
      have hcz80_1 : wr.cell? ⟨gb143, 1, none⟩ = some (.int .i8 (IntKind.i8.wrap (t142))) := (blk_cell BK143.out 1).trans rfl
      have hcz80_2 : wr.cell? ⟨gb143, 2, none⟩ = some (u144002) := (blk_cell BK143.out 2).trans rfl
      have hfz80_0 := blk_frozen BK143.out 0
      have hfz80_1 := blk_frozen BK143.out 1
      have hfz80_2 := blk_frozen BK143.out 2
      obtain ⟨Ao81, co81, eo81⟩ := Kd.R_slice HO_144002.out
      subst eo81
      go_wp2_with (first | ((with_reducible refine gate_callee (f := 11) rfl ?_); refine goesL_ (some 67) rfl rfl Tryd.func11 (by kernel_rfl) rfl #[.agg #[.int .i8 x144000_1, .int .i8 (IntKind.i8.wrap (t142)), .slice Ao81 x144002_1.length co81]] rfl (by (try simp only [List.map_toArray, List.map_cons, List.map_nil]); first | done | rfl | (simp only [List.length_drop, List.length_take]; rfl)) ?_; (with_reducible refine (impl_ValidFixed.calls k1 x144000_1 (IntKind.i8.wrap (t142)) _ _ x144002_1 false _ ?side1 ?side2 A71.out).mono ?_); (case side1 => repeat (first | exact (Kd.R_reads' HO_144002.out).2.2 | (with_reducible refine Kd.C_alloc ?_ _) | (with_reducible refine Kd.C_drewN ?_ _) | (with_reducible refine Kd.C_drew ?_))); (case side2 => exact (Kd.R_reads' HO_144002.out).2.1); rintro e w82 ⟨rfl, hb⟩; refine ⟨_, rfl, ?_⟩; have n0_ := Aside0.mk (Kd.Q_below (by (with_reducible repeat (first | apply Kd.Q_alloc | apply Kd.Q_drewN | apply Kd.Q_drew)); exact HO_21.out) hb); have n1_ := Aside0.mk (Kd.R_below (by (with_reducible repeat (first | apply Kd.R_alloc | apply Kd.R_drewN | apply Kd.R_drew)); exact HO_144002.out) hb); have n2_ := Aside0.mk (blk_below (g := gb134) (o := .cells #[.int .i8 x135000_1, .int .i8 x135001_1, .slice none 0 0] 27 (0, 0)) (by (with_reducible repeat (first | refine blk_drewN ?_ _ | refine blk_drew ?_ | refine blk_alloc ?_ _)); exact BK134.out) hb); have n3_ := Aside0.mk (blk_below (g := gb143) (o := .cells #[.int .i8 x144000_1, .int .i8 (IntKind.i8.wrap (t142)), .slice Ao81 x144002_1.length co81] 27 (0, 0)) (by (with_reducible repeat (first | refine blk_drewN ?_ _ | refine blk_drew ?_ | refine blk_alloc ?_ _)); exact BK143.out) hb); have n4_ := Aside0.mk (below_step (by repeat (first | (with_reducible first | exact HB.out | apply below_alloc | apply pw_below_drewN | apply below_drew1 | refine below_set ?_ GE134.out | refine below_set ?_ GE143.out) | exact HB.out)) hb); clear HO_21; clear HO_144002; clear BK134; clear BK143; clear HB; have HO_21 := n0_; have HO_144002 := n1_; have BK134 := n2_; have BK143 := n3_; have HB := n4_; clear n0_ n1_ n2_ n3_ n4_; (try clear hb); (try clear hb2); (try clear hk); (try clear hi); have hcz83_0 : w82.cell? ⟨gb134, 0, none⟩ = some (.int .i8 x135000_1) := (blk_cell BK134.out 0).trans rfl; have hcz83_1 : w82.cell? ⟨gb134, 1, none⟩ = some (.int .i8 x135001_1) := (blk_cell BK134.out 1).trans rfl; have hcz83_2 : w82.cell? ⟨gb134, 2, none⟩ = some (.slice none 0 0) := (blk_cell BK134.out 2).trans rfl; have hfz83_0 := blk_frozen BK134.out 0; have hfz83_1 := blk_frozen BK134.out 1; have hfz83_2 := blk_frozen BK134.out 2))
      refine bodyPost_ret (results_ct rfl _ _ gb134 27 #[.int .i8 0, .int .i8 0, .slice none 0 0] (0, 0) _ rfl (by (with_reducible repeat (first | refine blk_drewN ?_ _ | refine blk_drew ?_ | refine blk_alloc ?_ _)); refine blk_put (cs := #[.int .i8 0, .int .i8 0, .slice none 0 0]) ?_ 2 _ rfl; (with_reducible repeat (first | refine blk_drewN ?_ _ | refine blk_drew ?_ | refine blk_alloc ?_ _)); refine blk_put (cs := #[.int .i8 0, .int .i8 x135001_1, .slice none 0 0]) ?_ 1 _ rfl; (with_reducible repeat (first | refine blk_drewN ?_ _ | refine blk_drew ?_ | refine blk_alloc ?_ _)); refine blk_put (cs := #[.int .i8 x135000_1, .int .i8 x135001_1, .slice none 0 0]) ?_ 0 _ rfl; (with_reducible repeat (first | refine blk_drewN ?_ _ | refine blk_drew ?_ | refine blk_alloc ?_ _)); exact BK134.out) Tryd.underlying27 rfl (by kernel_rfl)) rfl ?_
      exact ⟨_, by first | rfl | (simp [errW_none, errW_some] <;> rfl) | (simp [*, errW_none, errW_some] <;> rfl), by first | exact Kd.R_nil _ _ _ _ _ | exact Kd.N_nil _ _ _ _ _ | exact Kd.V_nil _ _ _ _ _ | exact Kd.Q_nil _ _ _ _ _ | exact Kd.S_nil _ _ _ _ _, by repeat (first | (with_reducible first | exact HB.out | apply below_alloc | apply pw_below_drewN | apply below_drew1 | refine below_set ?_ GE134.out | refine below_set ?_ GE143.out) | exact HB.out)⟩
 ·rw [if_neg c4] at H
  exact absurd H (by simp)

end Go.Proofs.YtmfbcklaomigaaaDoor.D
