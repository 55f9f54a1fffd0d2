-- Written by wip/tools/myprint.py, a program of this session, by way of the kit's print.
import Derived.Test.YtikdnhhegknplaaMx0
import Derived.Test.YtikdnhhegknplaaMx9
import Derived.Test.YtikdnhhegknplaaMx10
import Derived.Test.YtikdnhhegknplaaMx17
namespace Go.Proofs.Ytikdnhhegknplaa.M
open Go.RowKit Go.Proofs.YtikdnhhegknplaaW.PrintWords Go.Proofs.YtikdnhhegknplaaW.PrintLast Go.Proofs.YtikdnhhegknplaaW.PrintMore
attribute [local go_sem] max2_int min2_int max_two min_two max_three min_three max_four min_four   -- for this text's walks alone
set_option linter.unusedVariables false
set_option linter.unusedSimpArgs false

/-! ### impl_LeastCover: function 22 -/
def impl_LeastCover.l0 : Nat → Int → Int → Int → Int → Int → List Int → Option (Int × Int)
  | 0, _, _, _, _, _, _ => none
  | k + 1, x4, x12, x13, x264000, x264001, x264002 => if x13 < x12 then ((impl_Ferry_isCover.f k x264000 x264001 x264002 x13).bind fun t267 => (if t267 = true then ((bits_OnesCount16.f x13).bind fun t268 => ((bits_OnesCount16.f x4).bind fun t269 => (if t268 < t269 then (impl_LeastCover.l0 k x13 x12 (IntKind.u16.wrap (x13 + 1)) x264000 x264001 x264002) else (if t268 = t269 then (if x13 < x4 then (impl_LeastCover.l0 k x13 x12 (IntKind.u16.wrap (x13 + 1)) x264000 x264001 x264002) else (impl_LeastCover.l0 k x4 x12 (IntKind.u16.wrap (x13 + 1)) x264000 x264001 x264002)) else (impl_LeastCover.l0 k x4 x12 (IntKind.u16.wrap (x13 + 1)) x264000 x264001 x264002))))) else (impl_LeastCover.l0 k x4 x12 (IntKind.u16.wrap (x13 + 1)) x264000 x264001 x264002))) else (some (x4, 0))
def impl_LeastCover.f (k : Nat) (a0_0 : Int) (a0_1 : Int) (l0_2 : List Int) : Option (Int × Int) := (impl_ValidFerry.f k a0_0 a0_1 l0_2).bind fun t264 => (if t264 = true then ((impl_Ferry_all.f a0_0 a0_1 l0_2).bind fun t265 => ((impl_Ferry_all.f a0_0 a0_1 l0_2).bind fun t266 => (impl_LeastCover.l0 k t265 t266 0 a0_0 a0_1 l0_2))) else (some (0, 1)))
theorem impl_LeastCover.mono_l : ∀ k, (∀ y0 y1 y2 y3 y4 y5, LeO (impl_LeastCover.l0 k y0 y1 y2 y3 y4 y5) (impl_LeastCover.l0 (k + 1) y0 y1 y2 y3 y4 y5))
  | 0 => fun _ _ _ _ _ _ r h => by simp [impl_LeastCover.l0] at h
  | k + 1 => by
    have ih0 := impl_LeastCover.mono_l k
    · intro y0 y1 y2 y3 y4 y5
      unfold impl_LeastCover.l0
      repeat' first
      | (with_reducible exact ih0 _ _ _ _ _ _)
      | (with_reducible exact impl_Ferry_isCover.mono _ _ _ _ _)
      | (with_reducible exact impl_ValidFerry.mono _ _ _ _)
      | (with_reducible exact LeO.refl _)
      | (with_reducible exact LeO.none _)
      | (with_reducible refine LeO.ite ?_ ?_)
      | (with_reducible refine LeO.bind ?_ (fun _ => ?_))
      | exact ih0 _ _ _ _ _ _
      | exact impl_Ferry_isCover.mono _ _ _ _ _
      | exact impl_ValidFerry.mono _ _ _ _
      | exact LeO.none _
      | refine LeO.ite ?_ ?_
      | refine LeO.bind ?_ (fun _ => ?_)
theorem impl_LeastCover.mono : ∀ a0 a1 a2 k, LeO (impl_LeastCover.f k a0 a1 a2) (impl_LeastCover.f (k + 1) a0 a1 a2) := by
  intro a0 a1 a2 k
  have ih0 := impl_LeastCover.mono_l k
  unfold impl_LeastCover.f
  repeat' first
      | (with_reducible exact ih0 _ _ _ _ _ _)
      | (with_reducible exact impl_Ferry_isCover.mono _ _ _ _ _)
      | (with_reducible exact impl_ValidFerry.mono _ _ _ _)
      | (with_reducible exact LeO.refl _)
      | (with_reducible exact LeO.none _)
      | (with_reducible refine LeO.ite ?_ ?_)
      | (with_reducible refine LeO.bind ?_ (fun _ => ?_))
      | exact ih0 _ _ _ _ _ _
      | exact impl_Ferry_isCover.mono _ _ _ _ _
      | exact impl_ValidFerry.mono _ _ _ _
      | exact LeO.none _
      | refine LeO.ite ?_ ?_
      | refine LeO.bind ?_ (fun _ => ?_)
set_option maxHeartbeats 8000000 in
set_option maxRecDepth 100000 in
theorem impl_LeastCover.calls (k : Nat) (a0_0 : Int) (a0_1 : Int) (A0_2 : Option Addr) (c0_2 : Nat) (l0_2 : List Int) (r1 : Int) (r2 : Int) (w : World) (hr0_2 : Kd.C (Kd.int .u16) w A0_2 l0_2.length l0_2) (hc0_2 : l0_2.length ≤ c0_2) (h : impl_LeastCover.f k a0_0 a0_1 l0_2 = some (r1, r2)) :
    Calls Try.prog 22 #[.agg #[.int .i8 a0_0, .int .i8 a0_1, .slice A0_2 l0_2.length c0_2]] w fun e w' => e = .returned (.tuple #[.int .u16 r1, .int .i64 r2]) ∧ Below w.heap.size w w' := by
  have hu28 := Try.underlying28
  have HR0_2 := Aside0.mk hr0_2
  have HC0_2 := Aside0.mk hc0_2
  clear hr0_2 hc0_2
  have HB := Aside0.mk (Below.refl w.heap.size w)
  have H : ((impl_ValidFerry.f k a0_0 a0_1 l0_2).bind fun t264 => (if t264 = true then ((impl_Ferry_all.f a0_0 a0_1 l0_2).bind fun t265 => ((impl_Ferry_all.f a0_0 a0_1 l0_2).bind fun t266 => (impl_LeastCover.l0 k t265 t266 0 a0_0 a0_1 l0_2))) else (some (0, 1)))) = some (r1, r2) := h
  clear h
  replace H := Option.bind_eq_some_iff.mp H
  obtain ⟨t264, A20, H⟩ := H
  replace H : (if t264 = true then ((impl_Ferry_all.f a0_0 a0_1 l0_2).bind fun t265 => ((impl_Ferry_all.f a0_0 a0_1 l0_2).bind fun t266 => (impl_LeastCover.l0 k t265 t266 0 a0_0 a0_1 l0_2))) else (some (0, 1))) = some (r1, r2) := H
  have A2 := Aside0.mk A20
  clear A20
  by_cases c3 : t264 = true
  · subst c3
    have H1 : ((impl_Ferry_all.f a0_0 a0_1 l0_2).bind fun t265 => ((impl_Ferry_all.f a0_0 a0_1 l0_2).bind fun t266 => (impl_LeastCover.l0 k t265 t266 0 a0_0 a0_1 l0_2))) = some (r1, r2) := by rw [if_pos rfl] at H; exact H
    clear H
    have H := H1
    clear H1
    replace H := Option.bind_eq_some_iff.mp H
    obtain ⟨t265, A40, H⟩ := H
    replace H : ((impl_Ferry_all.f a0_0 a0_1 l0_2).bind fun t266 => (impl_LeastCover.l0 k t265 t266 0 a0_0 a0_1 l0_2)) = some (r1, r2) := H
    have A4 := Aside0.mk A40
    clear A40
    replace H := Option.bind_eq_some_iff.mp H
    obtain ⟨t266, A50, H⟩ := H
    replace H : (impl_LeastCover.l0 k t265 t266 0 a0_0 a0_1 l0_2) = some (r1, r2) := H
    have A5 := Aside0.mk A50
    clear A50
    have H' := Aside0.mk H
    clear H
    go_enter Try.func22, Try.ntmps22
    go_wp2_with (first | ((with_reducible refine gate_dst (N := 1) rfl ?_); refine box_event ?hg (N := 1) ?hd (cs := #[.int .i8 a0_0, .int .i8 a0_1, .slice A0_2 l0_2.length c0_2]) (t := 28) ?hr ?_; (case hd => rfl); (case hg => rfl); (case hr => first | (go_simp; done) | (go_simp; rfl)); intro gb263 hg w6 hbox hb; have n0_ := Aside0.mk (below_step (by repeat (first | (with_reducible first | exact HB.out | apply below_alloc | apply pw_below_drewN | apply below_drew1) | exact HB.out)) hb); have n1_ := Aside0.mk (hbox); have n2_ := Aside0.mk ((by rw [hg]; exact (below_size (by repeat (first | (with_reducible first | exact HB.out | apply below_alloc | apply pw_below_drewN | apply below_drew1) | exact HB.out))) : w.heap.size ≤ gb263)); have n3_ := Aside0.mk ((by rw [hg]; exact (below_size (by repeat (first | (with_reducible first | exact HB.out | apply below_alloc | apply pw_below_drewN | apply below_drew1) | exact HB.out))) : w.heap.size ≤ gb263)); clear HB; have HB := n0_; have BK263 := n1_; have GW263 := n2_; have GE263 := n3_; clear n0_ n1_ n2_ n3_; clear hb hbox hg; have hcz7_0 : w6.cell? ⟨gb263, 0, none⟩ = some (.int .i8 a0_0) := (blk_cell BK263.out 0).trans rfl; have hcz7_1 : w6.cell? ⟨gb263, 1, none⟩ = some (.int .i8 a0_1) := (blk_cell BK263.out 1).trans rfl; have hcz7_2 : w6.cell? ⟨gb263, 2, none⟩ = some (.slice A0_2 l0_2.length c0_2) := (blk_cell BK263.out 2).trans rfl; have hfz7_0 := blk_frozen BK263.out 0; have hfz7_1 := blk_frozen BK263.out 1; have hfz7_2 := blk_frozen BK263.out 2) | ((with_reducible refine gate_callee (f := 18) rfl ?_); refine goesL_ (some 7) rfl rfl Try.func18 (by kernel_rfl) rfl #[.agg #[.int .i8 a0_0, .int .i8 a0_1, .slice A0_2 l0_2.length c0_2]] rfl (by (try simp only [List.map_toArray, List.map_cons, List.map_nil]); first | done | rfl | (simp only [List.length_drop, List.length_take]; rfl)) ?_; (with_reducible refine (impl_ValidFerry.calls k a0_0 a0_1 _ _ l0_2 true _ ?side1 ?side2 A2.out).mono ?_); (case side1 => repeat (first | exact (Kd.C_below HR0_2.out HB.out) | (with_reducible refine Kd.C_alloc ?_ _) | (with_reducible refine Kd.C_drewN ?_ _) | (with_reducible refine Kd.C_drew ?_))); (case side2 => exact HC0_2.out); rintro e w8 ⟨rfl, hb⟩; refine ⟨_, rfl, ?_⟩; have n0_ := Aside0.mk (blk_below (g := gb263) (o := .cells #[.int .i8 a0_0, .int .i8 a0_1, .slice A0_2 l0_2.length c0_2] 28 (0, 0)) (by (with_reducible repeat (first | refine blk_drewN ?_ _ | refine blk_drew ?_ | refine blk_alloc ?_ _)); exact BK263.out) hb); have n1_ := Aside0.mk (below_step (by repeat (first | (with_reducible first | exact HB.out | apply below_alloc | apply pw_below_drewN | apply below_drew1 | refine below_set ?_ GE263.out) | exact HB.out)) hb); clear BK263; clear HB; have BK263 := n0_; have HB := n1_; clear n0_ n1_; (try clear hb); (try clear hb2); (try clear hk); (try clear hi); have hcz9_0 : w8.cell? ⟨gb263, 0, none⟩ = some (.int .i8 a0_0) := (blk_cell BK263.out 0).trans rfl; have hcz9_1 : w8.cell? ⟨gb263, 1, none⟩ = some (.int .i8 a0_1) := (blk_cell BK263.out 1).trans rfl; have hcz9_2 : w8.cell? ⟨gb263, 2, none⟩ = some (.slice A0_2 l0_2.length c0_2) := (blk_cell BK263.out 2).trans rfl; have hfz9_0 := blk_frozen BK263.out 0; have hfz9_1 := blk_frozen BK263.out 1; have hfz9_2 := blk_frozen BK263.out 2) | ((with_reducible refine gate_callee (f := 47) rfl ?_); refine goesL_ (some 10) rfl rfl Try.func47 (by kernel_rfl) rfl #[.agg #[.int .i8 a0_0, .int .i8 a0_1, .slice A0_2 l0_2.length c0_2]] rfl (by (try simp only [List.map_toArray, List.map_cons, List.map_nil]); first | done | rfl | (simp only [List.length_drop, List.length_take]; rfl)) ?_; (with_reducible refine (impl_Ferry_all.calls a0_0 a0_1 _ _ l0_2 t265 _ ?side1 ?side2 A4.out).mono ?_); (case side1 => repeat (first | exact (Kd.C_below HR0_2.out HB.out) | (with_reducible refine Kd.C_alloc ?_ _) | (with_reducible refine Kd.C_drewN ?_ _) | (with_reducible refine Kd.C_drew ?_))); (case side2 => exact HC0_2.out); rintro e w10 ⟨rfl, hb⟩; refine ⟨_, rfl, ?_⟩; have n0_ := Aside0.mk (blk_below (g := gb263) (o := .cells #[.int .i8 a0_0, .int .i8 a0_1, .slice A0_2 l0_2.length c0_2] 28 (0, 0)) (by (with_reducible repeat (first | refine blk_drewN ?_ _ | refine blk_drew ?_ | refine blk_alloc ?_ _)); exact BK263.out) hb); have n1_ := Aside0.mk (below_step (by repeat (first | (with_reducible first | exact HB.out | apply below_alloc | apply pw_below_drewN | apply below_drew1 | refine below_set ?_ GE263.out) | exact HB.out)) hb); clear BK263; clear HB; have BK263 := n0_; have HB := n1_; clear n0_ n1_; (try clear hb); (try clear hb2); (try clear hk); (try clear hi); have hcz11_0 : w10.cell? ⟨gb263, 0, none⟩ = some (.int .i8 a0_0) := (blk_cell BK263.out 0).trans rfl; have hcz11_1 : w10.cell? ⟨gb263, 1, none⟩ = some (.int .i8 a0_1) := (blk_cell BK263.out 1).trans rfl; have hcz11_2 : w10.cell? ⟨gb263, 2, none⟩ = some (.slice A0_2 l0_2.length c0_2) := (blk_cell BK263.out 2).trans rfl; have hfz11_0 := blk_frozen BK263.out 0; have hfz11_1 := blk_frozen BK263.out 1; have hfz11_2 := blk_frozen BK263.out 2) | ((with_reducible refine gate_callee (f := 47) rfl ?_); refine goesL_ (some 12) rfl rfl Try.func47 (by kernel_rfl) rfl #[.agg #[.int .i8 a0_0, .int .i8 a0_1, .slice A0_2 l0_2.length c0_2]] rfl (by (try simp only [List.map_toArray, List.map_cons, List.map_nil]); first | done | rfl | (simp only [List.length_drop, List.length_take]; rfl)) ?_; (with_reducible refine (impl_Ferry_all.calls a0_0 a0_1 _ _ l0_2 t266 _ ?side1 ?side2 A5.out).mono ?_); (case side1 => repeat (first | exact (Kd.C_below HR0_2.out HB.out) | (with_reducible refine Kd.C_alloc ?_ _) | (with_reducible refine Kd.C_drewN ?_ _) | (with_reducible refine Kd.C_drew ?_))); (case side2 => exact HC0_2.out); rintro e w12 ⟨rfl, hb⟩; refine ⟨_, rfl, ?_⟩; have n0_ := Aside0.mk (blk_below (g := gb263) (o := .cells #[.int .i8 a0_0, .int .i8 a0_1, .slice A0_2 l0_2.length c0_2] 28 (0, 0)) (by (with_reducible repeat (first | refine blk_drewN ?_ _ | refine blk_drew ?_ | refine blk_alloc ?_ _)); exact BK263.out) hb); have n1_ := Aside0.mk (below_step (by repeat (first | (with_reducible first | exact HB.out | apply below_alloc | apply pw_below_drewN | apply below_drew1 | refine below_set ?_ GE263.out) | exact HB.out)) hb); clear BK263; clear HB; have BK263 := n0_; have HB := n1_; clear n0_ n1_; (try clear hb); (try clear hb2); (try clear hk); (try clear hi)))
    go_loopg [4, 13] k (fun kq v4 v13 w' => ∃ (x4_1 : Int) (x13_1 : Int), v4 = .int .u16 x4_1 ∧ v13 = .int .u16 x13_1 ∧ Aside0 (impl_LeastCover.l0 kq x4_1 t266 x13_1 a0_0 a0_1 l0_2 = some (r1, r2)) ∧ Aside0 (kq ≤ k) ∧ Aside0 (w'.heap[gb263]? = some (.cells #[.int .i8 a0_0, .int .i8 a0_1, (.slice A0_2 l0_2.length c0_2)] 28 (0, 0))) ∧ Aside0 (Below w.heap.size w w'))
    case atStart => exact ⟨(t265), (0), (by first | rfl | (simp; done) | (simp [*]; done)), (by first | rfl | (simp; done) | (simp [*]; done)), H', ⟨Nat.le_refl _⟩, ⟨by (with_reducible repeat (first | refine blk_drewN ?_ _ | refine blk_drew ?_ | refine blk_alloc ?_ _)); exact BK263.out⟩, ⟨by repeat (first | (with_reducible first | exact HB.out | apply below_alloc | apply pw_below_drewN | apply below_drew1 | refine below_set ?_ GE263.out) | exact HB.out)⟩⟩
    case round =>
      clear H'
      try clear c1
      try clear c2
      try clear p2
      try clear c3
      try clear c4
      try clear hcz11_0
      try clear hcz11_1
      try clear hcz11_2
      try clear hcz7_0
      try clear hcz7_1
      try clear hcz7_2
      try clear hcz9_0
      try clear hcz9_1
      try clear hcz9_2
      try clear hfz11_0
      try clear hfz11_1
      try clear hfz11_2
      try clear hfz7_0
      try clear hfz7_1
      try clear hfz7_2
      try clear hfz9_0
      try clear hfz9_1
      try clear hfz9_2
      obtain ⟨x4_1, x13_1, rfl, rfl, HA, HK1, BK263, HB⟩ := hrel
      cases gk with
      | zero => exact absurd HA.out (by simp [impl_LeastCover.l0])
      | succ k1 =>
        have H := HA.out
        clear HA
        simp only [impl_LeastCover.l0] at H
        by_cases c13 : x13_1 < t266
        · rw [if_pos c13] at H
          have c13b0 : decide (x13_1 < t266) = true := decide_eq_true c13
          clear c13
          replace H := Option.bind_eq_some_iff.mp H
          obtain ⟨t267, A140, H⟩ := H
          replace H : (if t267 = true then ((bits_OnesCount16.f x13_1).bind fun t268 => ((bits_OnesCount16.f x4_1).bind fun t269 => (if t268 < t269 then (impl_LeastCover.l0 k1 x13_1 t266 (IntKind.u16.wrap (x13_1 + 1)) a0_0 a0_1 l0_2) else (if t268 = t269 then (if x13_1 < x4_1 then (impl_LeastCover.l0 k1 x13_1 t266 (IntKind.u16.wrap (x13_1 + 1)) a0_0 a0_1 l0_2) else (impl_LeastCover.l0 k1 x4_1 t266 (IntKind.u16.wrap (x13_1 + 1)) a0_0 a0_1 l0_2)) else (impl_LeastCover.l0 k1 x4_1 t266 (IntKind.u16.wrap (x13_1 + 1)) a0_0 a0_1 l0_2))))) else (impl_LeastCover.l0 k1 x4_1 t266 (IntKind.u16.wrap (x13_1 + 1)) a0_0 a0_1 l0_2)) = some (r1, r2) := H
          have A14 := Aside0.mk A140
          clear A140
          by_cases c15 : t267 = true
          · subst c15
            have H1 : ((bits_OnesCount16.f x13_1).bind fun t268 => ((bits_OnesCount16.f x4_1).bind fun t269 => (if t268 < t269 then (impl_LeastCover.l0 k1 x13_1 t266 (IntKind.u16.wrap (x13_1 + 1)) a0_0 a0_1 l0_2) else (if t268 = t269 then (if x13_1 < x4_1 then (impl_LeastCover.l0 k1 x13_1 t266 (IntKind.u16.wrap (x13_1 + 1)) a0_0 a0_1 l0_2) else (impl_LeastCover.l0 k1 x4_1 t266 (IntKind.u16.wrap (x13_1 + 1)) a0_0 a0_1 l0_2)) else (impl_LeastCover.l0 k1 x4_1 t266 (IntKind.u16.wrap (x13_1 + 1)) a0_0 a0_1 l0_2))))) = some (r1, r2) := by rw [if_pos rfl] at H; exact H
            clear H
            have H := H1
            clear H1
            replace H := Option.bind_eq_some_iff.mp H
            obtain ⟨t268, A160, H⟩ := H
            replace H : ((bits_OnesCount16.f x4_1).bind fun t269 => (if t268 < t269 then (impl_LeastCover.l0 k1 x13_1 t266 (IntKind.u16.wrap (x13_1 + 1)) a0_0 a0_1 l0_2) else (if t268 = t269 then (if x13_1 < x4_1 then (impl_LeastCover.l0 k1 x13_1 t266 (IntKind.u16.wrap (x13_1 + 1)) a0_0 a0_1 l0_2) else (impl_LeastCover.l0 k1 x4_1 t266 (IntKind.u16.wrap (x13_1 + 1)) a0_0 a0_1 l0_2)) else (impl_LeastCover.l0 k1 x4_1 t266 (IntKind.u16.wrap (x13_1 + 1)) a0_0 a0_1 l0_2)))) = some (r1, r2) := H
            have A16 := Aside0.mk A160
            clear A160
            replace H := Option.bind_eq_some_iff.mp H
            obtain ⟨t269, A170, H⟩ := H
            replace H : (if t268 < t269 then (impl_LeastCover.l0 k1 x13_1 t266 (IntKind.u16.wrap (x13_1 + 1)) a0_0 a0_1 l0_2) else (if t268 = t269 then (if x13_1 < x4_1 then (impl_LeastCover.l0 k1 x13_1 t266 (IntKind.u16.wrap (x13_1 + 1)) a0_0 a0_1 l0_2) else (impl_LeastCover.l0 k1 x4_1 t266 (IntKind.u16.wrap (x13_1 + 1)) a0_0 a0_1 l0_2)) else (impl_LeastCover.l0 k1 x4_1 t266 (IntKind.u16.wrap (x13_1 + 1)) a0_0 a0_1 l0_2))) = some (r1, r2) := H
            have A17 := Aside0.mk A170
            clear A170
            by_cases c18 : t268 < t269
            · rw [if_pos c18] at H
              have c18b0 : decide (t268 < t269) = true := decide_eq_true c18
              clear c18
              have H' := Aside0.mk H
              clear H
              have hcz19_0 : wr.cell? ⟨gb263, 0, none⟩ = some (.int .i8 a0_0) := (blk_cell BK263.out 0).trans rfl
              have hcz19_1 : wr.cell? ⟨gb263, 1, none⟩ = some (.int .i8 a0_1) := (blk_cell BK263.out 1).trans rfl
              have hcz19_2 : wr.cell? ⟨gb263, 2, none⟩ = some (.slice A0_2 l0_2.length c0_2) := (blk_cell BK263.out 2).trans rfl
              have hfz19_0 := blk_frozen BK263.out 0
              have hfz19_1 := blk_frozen BK263.out 1
              have hfz19_2 := blk_frozen BK263.out 2
              go_wp2_with (first | ((with_reducible refine gate_callee (f := 54) rfl ?_); refine goesL_ (some 18) rfl rfl Try.func54 (by kernel_rfl) rfl #[.agg #[.int .i8 a0_0, .int .i8 a0_1, .slice A0_2 l0_2.length c0_2], .int .u16 x13_1] rfl (by (try simp only [List.map_toArray, List.map_cons, List.map_nil]); first | done | rfl | (simp only [List.length_drop, List.length_take]; rfl)) ?_; (with_reducible refine (impl_Ferry_isCover.calls k1 a0_0 a0_1 _ _ l0_2 x13_1 true _ ?side1 ?side2 A14.out).mono ?_); (case side1 => repeat (first | exact (Kd.C_below HR0_2.out HB.out) | (with_reducible refine Kd.C_alloc ?_ _) | (with_reducible refine Kd.C_drewN ?_ _) | (with_reducible refine Kd.C_drew ?_))); (case side2 => exact HC0_2.out); rintro e w20 ⟨rfl, hb⟩; refine ⟨_, rfl, ?_⟩; have n0_ := Aside0.mk (blk_below (g := gb263) (o := .cells #[.int .i8 a0_0, .int .i8 a0_1, .slice A0_2 l0_2.length c0_2] 28 (0, 0)) (by (with_reducible repeat (first | refine blk_drewN ?_ _ | refine blk_drew ?_ | refine blk_alloc ?_ _)); exact BK263.out) hb); have n1_ := Aside0.mk (below_step (by repeat (first | (with_reducible first | exact HB.out | apply below_alloc | apply pw_below_drewN | apply below_drew1 | refine below_set ?_ GE263.out) | exact HB.out)) hb); clear BK263; clear HB; have BK263 := n0_; have HB := n1_; clear n0_ n1_; (try clear hb); (try clear hb2); (try clear hk); (try clear hi)) | (go_at_call 48; (with_reducible refine (bits_OnesCount16.calls x13_1 t268 _ A16.out).mono ?_); rintro e w' ⟨rfl, ⟨nd, rfl⟩⟩) | (go_at_call 48; (with_reducible refine (bits_OnesCount16.calls x4_1 t269 _ A17.out).mono ?_); rintro e w' ⟨rfl, ⟨nd, rfl⟩⟩))
              go_roundg k1
              case measure => have := HK1.out; omega
              case rel => exact ⟨(x13_1), (IntKind.u16.wrap (x13_1 + 1)), (by first | rfl | (simp; done) | (simp [*]; done)), (by first | rfl | (simp; done) | (simp [*]; done)), H', ⟨by have := HK1.out; omega⟩, ⟨by (with_reducible repeat (first | refine blk_drewN ?_ _ | refine blk_drew ?_ | refine blk_alloc ?_ _)); exact BK263.out⟩, ⟨by repeat (first | (with_reducible first | exact HB.out | apply below_alloc | apply pw_below_drewN | apply below_drew1 | refine below_set ?_ GE263.out) | exact HB.out)⟩⟩
            · rw [if_neg c18] at H
              have c18b0 : decide (t268 < t269) = false := decide_eq_false c18
              clear c18
              by_cases c21 : t268 = t269
              · rw [if_pos c21] at H
                have c21b0 : (t268 == t269) = true := beq_iff_eq.mpr c21
                have c21b1 : (t268 != t269) = false := bne_eq_false_iff_eq.mpr c21
                clear c21
                by_cases c22 : x13_1 < x4_1
                · rw [if_pos c22] at H
                  have c22b0 : decide (x13_1 < x4_1) = true := decide_eq_true c22
                  clear c22
                  have H' := Aside0.mk H
                  clear H
                  have hcz23_0 : wr.cell? ⟨gb263, 0, none⟩ = some (.int .i8 a0_0) := (blk_cell BK263.out 0).trans rfl
                  have hcz23_1 : wr.cell? ⟨gb263, 1, none⟩ = some (.int .i8 a0_1) := (blk_cell BK263.out 1).trans rfl
                  have hcz23_2 : wr.cell? ⟨gb263, 2, none⟩ = some (.slice A0_2 l0_2.length c0_2) := (blk_cell BK263.out 2).trans rfl
                  have hfz23_0 := blk_frozen BK263.out 0
                  have hfz23_1 := blk_frozen BK263.out 1
                  have hfz23_2 := blk_frozen BK263.out 2
                  go_wp2_with (first | ((with_reducible refine gate_callee (f := 54) rfl ?_); refine goesL_ (some 18) rfl rfl Try.func54 (by kernel_rfl) rfl #[.agg #[.int .i8 a0_0, .int .i8 a0_1, .slice A0_2 l0_2.length c0_2], .int .u16 x13_1] rfl (by (try simp only [List.map_toArray, List.map_cons, List.map_nil]); first | done | rfl | (simp only [List.length_drop, List.length_take]; rfl)) ?_; (with_reducible refine (impl_Ferry_isCover.calls k1 a0_0 a0_1 _ _ l0_2 x13_1 true _ ?side1 ?side2 A14.out).mono ?_); (case side1 => repeat (first | exact (Kd.C_below HR0_2.out HB.out) | (with_reducible refine Kd.C_alloc ?_ _) | (with_reducible refine Kd.C_drewN ?_ _) | (with_reducible refine Kd.C_drew ?_))); (case side2 => exact HC0_2.out); rintro e w24 ⟨rfl, hb⟩; refine ⟨_, rfl, ?_⟩; have n0_ := Aside0.mk (blk_below (g := gb263) (o := .cells #[.int .i8 a0_0, .int .i8 a0_1, .slice A0_2 l0_2.length c0_2] 28 (0, 0)) (by (with_reducible repeat (first | refine blk_drewN ?_ _ | refine blk_drew ?_ | refine blk_alloc ?_ _)); exact BK263.out) hb); have n1_ := Aside0.mk (below_step (by repeat (first | (with_reducible first | exact HB.out | apply below_alloc | apply pw_below_drewN | apply below_drew1 | refine below_set ?_ GE263.out) | exact HB.out)) hb); clear BK263; clear HB; have BK263 := n0_; have HB := n1_; clear n0_ n1_; (try clear hb); (try clear hb2); (try clear hk); (try clear hi)) | (go_at_call 48; (with_reducible refine (bits_OnesCount16.calls x13_1 t268 _ A16.out).mono ?_); rintro e w' ⟨rfl, ⟨nd, rfl⟩⟩) | (go_at_call 48; (with_reducible refine (bits_OnesCount16.calls x4_1 t269 _ A17.out).mono ?_); rintro e w' ⟨rfl, ⟨nd, rfl⟩⟩))
                  go_roundg k1
                  case measure => have := HK1.out; omega
                  case rel => exact ⟨(x13_1), (IntKind.u16.wrap (x13_1 + 1)), (by first | rfl | (simp; done) | (simp [*]; done)), (by first | rfl | (simp; done) | (simp [*]; done)), H', ⟨by have := HK1.out; omega⟩, ⟨by (with_reducible repeat (first | refine blk_drewN ?_ _ | refine blk_drew ?_ | refine blk_alloc ?_ _)); exact BK263.out⟩, ⟨by repeat (first | (with_reducible first | exact HB.out | apply below_alloc | apply pw_below_drewN | apply below_drew1 | refine below_set ?_ GE263.out) | exact HB.out)⟩⟩
                · rw [if_neg c22] at H
                  have c22b0 : decide (x13_1 < x4_1) = false := decide_eq_false c22
                  clear c22
                  have H' := Aside0.mk H
                  clear H
                  have hcz25_0 : wr.cell? ⟨gb263, 0, none⟩ = some (.int .i8 a0_0) := (blk_cell BK263.out 0).trans rfl
                  have hcz25_1 : wr.cell? ⟨gb263, 1, none⟩ = some (.int .i8 a0_1) := (blk_cell BK263.out 1).trans rfl
                  have hcz25_2 : wr.cell? ⟨gb263, 2, none⟩ = some (.slice A0_2 l0_2.length c0_2) := (blk_cell BK263.out 2).trans rfl
                  have hfz25_0 := blk_frozen BK263.out 0
                  have hfz25_1 := blk_frozen BK263.out 1
                  have hfz25_2 := blk_frozen BK263.out 2
                  go_wp2_with (first | ((with_reducible refine gate_callee (f := 54) rfl ?_); refine goesL_ (some 18) rfl rfl Try.func54 (by kernel_rfl) rfl #[.agg #[.int .i8 a0_0, .int .i8 a0_1, .slice A0_2 l0_2.length c0_2], .int .u16 x13_1] rfl (by (try simp only [List.map_toArray, List.map_cons, List.map_nil]); first | done | rfl | (simp only [List.length_drop, List.length_take]; rfl)) ?_; (with_reducible refine (impl_Ferry_isCover.calls k1 a0_0 a0_1 _ _ l0_2 x13_1 true _ ?side1 ?side2 A14.out).mono ?_); (case side1 => repeat (first | exact (Kd.C_below HR0_2.out HB.out) | (with_reducible refine Kd.C_alloc ?_ _) | (with_reducible refine Kd.C_drewN ?_ _) | (with_reducible refine Kd.C_drew ?_))); (case side2 => exact HC0_2.out); rintro e w26 ⟨rfl, hb⟩; refine ⟨_, rfl, ?_⟩; have n0_ := Aside0.mk (blk_below (g := gb263) (o := .cells #[.int .i8 a0_0, .int .i8 a0_1, .slice A0_2 l0_2.length c0_2] 28 (0, 0)) (by (with_reducible repeat (first | refine blk_drewN ?_ _ | refine blk_drew ?_ | refine blk_alloc ?_ _)); exact BK263.out) hb); have n1_ := Aside0.mk (below_step (by repeat (first | (with_reducible first | exact HB.out | apply below_alloc | apply pw_below_drewN | apply below_drew1 | refine below_set ?_ GE263.out) | exact HB.out)) hb); clear BK263; clear HB; have BK263 := n0_; have HB := n1_; clear n0_ n1_; (try clear hb); (try clear hb2); (try clear hk); (try clear hi)) | (go_at_call 48; (with_reducible refine (bits_OnesCount16.calls x13_1 t268 _ A16.out).mono ?_); rintro e w' ⟨rfl, ⟨nd, rfl⟩⟩) | (go_at_call 48; (with_reducible refine (bits_OnesCount16.calls x4_1 t269 _ A17.out).mono ?_); rintro e w' ⟨rfl, ⟨nd, rfl⟩⟩))
                  go_roundg k1
                  case measure => have := HK1.out; omega
                  case rel => exact ⟨(x4_1), (IntKind.u16.wrap (x13_1 + 1)), (by first | rfl | (simp; done) | (simp [*]; done)), (by first | rfl | (simp; done) | (simp [*]; done)), H', ⟨by have := HK1.out; omega⟩, ⟨by (with_reducible repeat (first | refine blk_drewN ?_ _ | refine blk_drew ?_ | refine blk_alloc ?_ _)); exact BK263.out⟩, ⟨by repeat (first | (with_reducible first | exact HB.out | apply below_alloc | apply pw_below_drewN | apply below_drew1 | refine below_set ?_ GE263.out) | exact HB.out)⟩⟩
              · rw [if_neg c21] at H
                have c21b0 : (t268 == t269) = false := beq_eq_false_iff_ne.mpr c21
                have c21b1 : (t268 != t269) = true := bne_iff_ne.mpr c21
                have H' := Aside0.mk H
                clear H
                have hcz27_0 : wr.cell? ⟨gb263, 0, none⟩ = some (.int .i8 a0_0) := (blk_cell BK263.out 0).trans rfl
                have hcz27_1 : wr.cell? ⟨gb263, 1, none⟩ = some (.int .i8 a0_1) := (blk_cell BK263.out 1).trans rfl
                have hcz27_2 : wr.cell? ⟨gb263, 2, none⟩ = some (.slice A0_2 l0_2.length c0_2) := (blk_cell BK263.out 2).trans rfl
                have hfz27_0 := blk_frozen BK263.out 0
                have hfz27_1 := blk_frozen BK263.out 1
                have hfz27_2 := blk_frozen BK263.out 2
                go_wp2_with (first | ((with_reducible refine gate_callee (f := 54) rfl ?_); refine goesL_ (some 18) rfl rfl Try.func54 (by kernel_rfl) rfl #[.agg #[.int .i8 a0_0, .int .i8 a0_1, .slice A0_2 l0_2.length c0_2], .int .u16 x13_1] rfl (by (try simp only [List.map_toArray, List.map_cons, List.map_nil]); first | done | rfl | (simp only [List.length_drop, List.length_take]; rfl)) ?_; (with_reducible refine (impl_Ferry_isCover.calls k1 a0_0 a0_1 _ _ l0_2 x13_1 true _ ?side1 ?side2 A14.out).mono ?_); (case side1 => repeat (first | exact (Kd.C_below HR0_2.out HB.out) | (with_reducible refine Kd.C_alloc ?_ _) | (with_reducible refine Kd.C_drewN ?_ _) | (with_reducible refine Kd.C_drew ?_))); (case side2 => exact HC0_2.out); rintro e w28 ⟨rfl, hb⟩; refine ⟨_, rfl, ?_⟩; have n0_ := Aside0.mk (blk_below (g := gb263) (o := .cells #[.int .i8 a0_0, .int .i8 a0_1, .slice A0_2 l0_2.length c0_2] 28 (0, 0)) (by (with_reducible repeat (first | refine blk_drewN ?_ _ | refine blk_drew ?_ | refine blk_alloc ?_ _)); exact BK263.out) hb); have n1_ := Aside0.mk (below_step (by repeat (first | (with_reducible first | exact HB.out | apply below_alloc | apply pw_below_drewN | apply below_drew1 | refine below_set ?_ GE263.out) | exact HB.out)) hb); clear BK263; clear HB; have BK263 := n0_; have HB := n1_; clear n0_ n1_; (try clear hb); (try clear hb2); (try clear hk); (try clear hi)) | (go_at_call 48; (with_reducible refine (bits_OnesCount16.calls x13_1 t268 _ A16.out).mono ?_); rintro e w' ⟨rfl, ⟨nd, rfl⟩⟩) | (go_at_call 48; (with_reducible refine (bits_OnesCount16.calls x4_1 t269 _ A17.out).mono ?_); rintro e w' ⟨rfl, ⟨nd, rfl⟩⟩))
                go_roundg k1
                case measure => have := HK1.out; omega
                case rel => exact ⟨(x4_1), (IntKind.u16.wrap (x13_1 + 1)), (by first | rfl | (simp; done) | (simp [*]; done)), (by first | rfl | (simp; done) | (simp [*]; done)), H', ⟨by have := HK1.out; omega⟩, ⟨by (with_reducible repeat (first | refine blk_drewN ?_ _ | refine blk_drew ?_ | refine blk_alloc ?_ _)); exact BK263.out⟩, ⟨by repeat (first | (with_reducible first | exact HB.out | apply below_alloc | apply pw_below_drewN | apply below_drew1 | refine below_set ?_ GE263.out) | exact HB.out)⟩⟩
          · replace c15 := Bool.eq_false_iff.mpr c15
            subst c15
            have H1 : (impl_LeastCover.l0 k1 x4_1 t266 (IntKind.u16.wrap (x13_1 + 1)) a0_0 a0_1 l0_2) = some (r1, r2) := by rw [if_neg (show ¬ (false = true) by decide)] at H; exact H
            clear H
            have H := H1
            clear H1
            have H' := Aside0.mk H
            clear H
            have hcz29_0 : wr.cell? ⟨gb263, 0, none⟩ = some (.int .i8 a0_0) := (blk_cell BK263.out 0).trans rfl
            have hcz29_1 : wr.cell? ⟨gb263, 1, none⟩ = some (.int .i8 a0_1) := (blk_cell BK263.out 1).trans rfl
            have hcz29_2 : wr.cell? ⟨gb263, 2, none⟩ = some (.slice A0_2 l0_2.length c0_2) := (blk_cell BK263.out 2).trans rfl
            have hfz29_0 := blk_frozen BK263.out 0
            have hfz29_1 := blk_frozen BK263.out 1
            have hfz29_2 := blk_frozen BK263.out 2
            go_wp2_with (first | ((with_reducible refine gate_callee (f := 54) rfl ?_); refine goesL_ (some 18) rfl rfl Try.func54 (by kernel_rfl) rfl #[.agg #[.int .i8 a0_0, .int .i8 a0_1, .slice A0_2 l0_2.length c0_2], .int .u16 x13_1] rfl (by (try simp only [List.map_toArray, List.map_cons, List.map_nil]); first | done | rfl | (simp only [List.length_drop, List.length_take]; rfl)) ?_; (with_reducible refine (impl_Ferry_isCover.calls k1 a0_0 a0_1 _ _ l0_2 x13_1 false _ ?side1 ?side2 A14.out).mono ?_); (case side1 => repeat (first | exact (Kd.C_below HR0_2.out HB.out) | (with_reducible refine Kd.C_alloc ?_ _) | (with_reducible refine Kd.C_drewN ?_ _) | (with_reducible refine Kd.C_drew ?_))); (case side2 => exact HC0_2.out); rintro e w30 ⟨rfl, hb⟩; refine ⟨_, rfl, ?_⟩; have n0_ := Aside0.mk (blk_below (g := gb263) (o := .cells #[.int .i8 a0_0, .int .i8 a0_1, .slice A0_2 l0_2.length c0_2] 28 (0, 0)) (by (with_reducible repeat (first | refine blk_drewN ?_ _ | refine blk_drew ?_ | refine blk_alloc ?_ _)); exact BK263.out) hb); have n1_ := Aside0.mk (below_step (by repeat (first | (with_reducible first | exact HB.out | apply below_alloc | apply pw_below_drewN | apply below_drew1 | refine below_set ?_ GE263.out) | exact HB.out)) hb); clear BK263; clear HB; have BK263 := n0_; have HB := n1_; clear n0_ n1_; (try clear hb); (try clear hb2); (try clear hk); (try clear hi)))
            go_roundg k1
            case measure => have := HK1.out; omega
            case rel => exact ⟨(x4_1), (IntKind.u16.wrap (x13_1 + 1)), (by first | rfl | (simp; done) | (simp [*]; done)), (by first | rfl | (simp; done) | (simp [*]; done)), H', ⟨by have := HK1.out; omega⟩, ⟨by (with_reducible repeat (first | refine blk_drewN ?_ _ | refine blk_drew ?_ | refine blk_alloc ?_ _)); exact BK263.out⟩, ⟨by repeat (first | (with_reducible first | exact HB.out | apply below_alloc | apply pw_below_drewN | apply below_drew1 | refine below_set ?_ GE263.out) | exact HB.out)⟩⟩
        · rw [if_neg c13] at H
          have c13b0 : decide (x13_1 < t266) = false := decide_eq_false c13
          clear c13
          simp only [Option.some.injEq, Prod.mk.injEq] at H
          obtain ⟨rfl, rfl⟩ := H
          go_wp2
          go_ret2
          exact ⟨by first | rfl | (simp [errW_none, errW_some] <;> rfl) | (simp [*, errW_none, errW_some] <;> rfl), by repeat (first | (with_reducible first | exact HB.out | apply below_alloc | apply pw_below_drewN | apply below_drew1 | refine below_set ?_ GE263.out) | exact HB.out)⟩
  · replace c3 := Bool.eq_false_iff.mpr c3
    subst c3
    have H1 : (some (0, 1)) = some (r1, r2) := by rw [if_neg (show ¬ (false = true) by decide)] at H; exact H
    clear H
    have H := H1
    clear H1
    simp only [Option.some.injEq, Prod.mk.injEq] at H
    obtain ⟨rfl, rfl⟩ := H
    go_enter Try.func22, Try.ntmps22
    go_wp2_with (first | ((with_reducible refine gate_dst (N := 1) rfl ?_); refine box_event ?hg (N := 1) ?hd (cs := #[.int .i8 a0_0, .int .i8 a0_1, .slice A0_2 l0_2.length c0_2]) (t := 28) ?hr ?_; (case hd => rfl); (case hg => rfl); (case hr => first | (go_simp; done) | (go_simp; rfl)); intro gb263 hg w31 hbox hb; have n0_ := Aside0.mk (below_step (by repeat (first | (with_reducible first | exact HB.out | apply below_alloc | apply pw_below_drewN | apply below_drew1) | exact HB.out)) hb); have n1_ := Aside0.mk (hbox); have n2_ := Aside0.mk ((by rw [hg]; exact (below_size (by repeat (first | (with_reducible first | exact HB.out | apply below_alloc | apply pw_below_drewN | apply below_drew1) | exact HB.out))) : w.heap.size ≤ gb263)); have n3_ := Aside0.mk ((by rw [hg]; exact (below_size (by repeat (first | (with_reducible first | exact HB.out | apply below_alloc | apply pw_below_drewN | apply below_drew1) | exact HB.out))) : w.heap.size ≤ gb263)); clear HB; have HB := n0_; have BK263 := n1_; have GW263 := n2_; have GE263 := n3_; clear n0_ n1_ n2_ n3_; clear hb hbox hg; have hcz32_0 : w31.cell? ⟨gb263, 0, none⟩ = some (.int .i8 a0_0) := (blk_cell BK263.out 0).trans rfl; have hcz32_1 : w31.cell? ⟨gb263, 1, none⟩ = some (.int .i8 a0_1) := (blk_cell BK263.out 1).trans rfl; have hcz32_2 : w31.cell? ⟨gb263, 2, none⟩ = some (.slice A0_2 l0_2.length c0_2) := (blk_cell BK263.out 2).trans rfl; have hfz32_0 := blk_frozen BK263.out 0; have hfz32_1 := blk_frozen BK263.out 1; have hfz32_2 := blk_frozen BK263.out 2) | ((with_reducible refine gate_callee (f := 18) rfl ?_); refine goesL_ (some 7) rfl rfl Try.func18 (by kernel_rfl) rfl #[.agg #[.int .i8 a0_0, .int .i8 a0_1, .slice A0_2 l0_2.length c0_2]] rfl (by (try simp only [List.map_toArray, List.map_cons, List.map_nil]); first | done | rfl | (simp only [List.length_drop, List.length_take]; rfl)) ?_; (with_reducible refine (impl_ValidFerry.calls k a0_0 a0_1 _ _ l0_2 false _ ?side1 ?side2 A2.out).mono ?_); (case side1 => repeat (first | exact (Kd.C_below HR0_2.out HB.out) | (with_reducible refine Kd.C_alloc ?_ _) | (with_reducible refine Kd.C_drewN ?_ _) | (with_reducible refine Kd.C_drew ?_))); (case side2 => exact HC0_2.out); rintro e w33 ⟨rfl, hb⟩; refine ⟨_, rfl, ?_⟩; have n0_ := Aside0.mk (blk_below (g := gb263) (o := .cells #[.int .i8 a0_0, .int .i8 a0_1, .slice A0_2 l0_2.length c0_2] 28 (0, 0)) (by (with_reducible repeat (first | refine blk_drewN ?_ _ | refine blk_drew ?_ | refine blk_alloc ?_ _)); exact BK263.out) hb); have n1_ := Aside0.mk (below_step (by repeat (first | (with_reducible first | exact HB.out | apply below_alloc | apply pw_below_drewN | apply below_drew1 | refine below_set ?_ GE263.out) | exact HB.out)) hb); clear BK263; clear HB; have BK263 := n0_; have HB := n1_; clear n0_ n1_; (try clear hb); (try clear hb2); (try clear hk); (try clear hi)))
    go_ret2
    exact ⟨by first | rfl | (simp [errW_none, errW_some] <;> rfl) | (simp [*, errW_none, errW_some] <;> rfl), by repeat (first | (with_reducible first | exact HB.out | apply below_alloc | apply pw_below_drewN | apply below_drew1 | refine below_set ?_ GE263.out) | exact HB.out)⟩

end Go.Proofs.Ytikdnhhegknplaa.M
