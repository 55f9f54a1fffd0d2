-- Written by wip/tools/myprint.py, a program of this session, by way of the kit's print.
import Derived.Test.YtoicmgphccgdbaaXx0
import Derived.Test.YtoicmgphccgdbaaXx3
import Derived.Test.YtoicmgphccgdbaaXx4
import Derived.Test.YtoicmgphccgdbaaXx5
import Derived.Test.YtoicmgphccgdbaaXx8
import Derived.Test.YtoicmgphccgdbaaXx11
namespace Go.Proofs.Ytoicmgphccgdbaa.X
open Go.RowKit Go.Proofs.YtoicmgphccgdbaaW.PrintWords Go.Proofs.YtoicmgphccgdbaaW.PrintLast Go.Proofs.YtoicmgphccgdbaaW.PrintMore
attribute [local go_sem] max2_int min2_int max_two min_two max_three min_three max_four min_four   -- for this text's walks alone
set_option linter.unusedVariables false
set_option linter.unusedSimpArgs false

/-! ### laws_FnExactAddAsk: function 13 -/
mutual
def laws_FnExactAddAsk.j0 : Nat → Int → Bool → Int → Int → Bool → Int → Int → List (S97) → Int → Int → List (S75) → Int → Int → List (S75) → Int → Int → List (S75) → Option (Bool)
  | 0, _, _, _, _, _, _, _, _, _, _, _, _, _, _, _, _, _ => none
  | k + 1, x1, x2, x9, x12, x48, x201000, x201001, x201002, x214000, x214001, x214002, x220000, x220001, x220002, x227000, x227001, x227002 => if x48 = true then (some false) else ((laws_toGame.f k x201000 x201001 x201002).bind fun bt228 => ((laws_eqGame.f k x220000 x220001 x220002 bt228.1 bt228.2.1 bt228.2.2).bind fun t233 => (if t233 = true then ((laws_markGame.f k x220000 x220001 x220002 1).bind fun bt234 => (if bt234.1 < 0 then (laws_FnExactAddAsk.j1 k x1 x2 x9 true x201000 x201001 x201002 x214000 x214001 x214002 x227000 x227001 x227002) else ((laws_eqGame.f k x227000 x227001 x227002 x214000 x214001 x214002).bind fun t236 => (if t236 = true then (laws_FnExactAddAsk.j1 k x1 x2 x9 (x12 != x9) x201000 x201001 x201002 x214000 x214001 x214002 x227000 x227001 x227002) else (laws_FnExactAddAsk.j1 k x1 x2 x9 true x201000 x201001 x201002 x214000 x214001 x214002 x227000 x227001 x227002))))) else (some false))))
def laws_FnExactAddAsk.j1 : Nat → Int → Bool → Int → Bool → Int → Int → List (S97) → Int → Int → List (S75) → Int → Int → List (S75) → Option (Bool)
  | 0, _, _, _, _, _, _, _, _, _, _, _, _, _ => none
  | k + 1, x1, x2, x9, x69, x201000, x201001, x201002, x214000, x214001, x214002, x227000, x227001, x227002 => if x69 = true then (some false) else ((laws_markGame.f k x227000 x227001 x227002 1).bind fun bt237 => ((laws_heldGame.f k x227000 x227001 bt237.2 1).bind fun t239 => (if t239 < 0 then (some false) else (if t239 = bt237.1 then ((laws_toGame.f k x201000 x201001 x201002).bind fun bt240 => ((impl_AddAsk.f k bt240.1 bt240.2.1 bt240.2.2 x1 x2).bind fun bt245 => ((laws_eqGame.f k bt245.1 bt245.2.1 bt245.2.2.1 x214000 x214001 x214002).bind fun t252 => (if t252 = true then (laws_FnExactAddAsk.j2 k bt237.1 (bt245.2.2.2 != x9) x227000 x227001 bt237.2) else (laws_FnExactAddAsk.j2 k bt237.1 true x227000 x227001 bt237.2))))) else (some false)))))
def laws_FnExactAddAsk.j2 : Nat → Int → Bool → Int → Int → List (S75) → Option (Bool)
  | 0, _, _, _, _, _ => none
  | k + 1, x14, x97, x227000, x227001, x227002 => if x97 = true then (some false) else ((laws_heldGame.f k x227000 x227001 x227002 1).bind fun t253 => (if t253 < 0 then (some false) else (if t253 = x14 then (some true) else (some false))))
end
def laws_FnExactAddAsk.f (k : Nat) (a0_0 : Int) (a0_1 : Int) (l0_2 : List (S97)) (a1 : Int) (a2 : Bool) : Option (Bool) := (laws_szGame.f a0_0 a0_1 l0_2 1048576).bind fun t201 => (if t201 < 0 then (some true) else ((laws_toGame.f k a0_0 a0_1 l0_2).bind fun bt202 => ((spec_AddAsk.f k bt202.1 bt202.2.1 bt202.2.2 a1 a2).bind fun bt207 => ((laws_toGame.f k a0_0 a0_1 l0_2).bind fun bt214 => ((impl_AddAsk.f k bt214.1 bt214.2.1 bt214.2.2 a1 a2).bind fun bt220 => ((laws_eqGame.f k bt220.1 bt220.2.1 bt220.2.2.1 bt207.1 bt207.2.1 bt207.2.2.1).bind fun t227 => (if t227 = true then (laws_FnExactAddAsk.j0 k a1 a2 bt207.2.2.2 bt220.2.2.2 (bt220.2.2.2 != bt207.2.2.2) a0_0 a0_1 l0_2 bt207.1 bt207.2.1 bt207.2.2.1 bt214.1 bt214.2.1 bt214.2.2 bt220.1 bt220.2.1 bt220.2.2.1) else (laws_FnExactAddAsk.j0 k a1 a2 bt207.2.2.2 bt220.2.2.2 true a0_0 a0_1 l0_2 bt207.1 bt207.2.1 bt207.2.2.1 bt214.1 bt214.2.1 bt214.2.2 bt220.1 bt220.2.1 bt220.2.2.1))))))))
theorem laws_FnExactAddAsk.mono_l : ∀ k, (∀ y0 y1 y2 y3 y4 y5 y6 y7 y8 y9 y10 y11 y12 y13 y14 y15 y16, LeO (laws_FnExactAddAsk.j0 k y0 y1 y2 y3 y4 y5 y6 y7 y8 y9 y10 y11 y12 y13 y14 y15 y16) (laws_FnExactAddAsk.j0 (k + 1) y0 y1 y2 y3 y4 y5 y6 y7 y8 y9 y10 y11 y12 y13 y14 y15 y16)) ∧ (∀ y0 y1 y2 y3 y4 y5 y6 y7 y8 y9 y10 y11 y12, LeO (laws_FnExactAddAsk.j1 k y0 y1 y2 y3 y4 y5 y6 y7 y8 y9 y10 y11 y12) (laws_FnExactAddAsk.j1 (k + 1) y0 y1 y2 y3 y4 y5 y6 y7 y8 y9 y10 y11 y12)) ∧ (∀ y0 y1 y2 y3 y4, LeO (laws_FnExactAddAsk.j2 k y0 y1 y2 y3 y4) (laws_FnExactAddAsk.j2 (k + 1) y0 y1 y2 y3 y4))
  | 0 => ⟨fun _ _ _ _ _ _ _ _ _ _ _ _ _ _ _ _ _ r h => by simp [laws_FnExactAddAsk.j0] at h, fun _ _ _ _ _ _ _ _ _ _ _ _ _ r h => by simp [laws_FnExactAddAsk.j1] at h, fun _ _ _ _ _ r h => by simp [laws_FnExactAddAsk.j2] at h⟩
  | k + 1 => by
    obtain ⟨ih0, ih1, ih2⟩ := laws_FnExactAddAsk.mono_l k
    refine ⟨?_, ?_, ?_⟩
    · intro y0 y1 y2 y3 y4 y5 y6 y7 y8 y9 y10 y11 y12 y13 y14 y15 y16
      unfold laws_FnExactAddAsk.j0
      repeat' first
      | (with_reducible exact ih0 _ _ _ _ _ _ _ _ _ _ _ _ _ _ _ _ _)
      | (with_reducible exact ih1 _ _ _ _ _ _ _ _ _ _ _ _ _)
      | (with_reducible exact ih2 _ _ _ _ _)
      | (with_reducible exact impl_AddAsk.mono _ _ _ _ _ _)
      | (with_reducible exact laws_eqGame.mono _ _ _ _ _ _ _)
      | (with_reducible exact laws_heldGame.mono _ _ _ _ _)
      | (with_reducible exact laws_markGame.mono _ _ _ _ _)
      | (with_reducible exact laws_toGame.mono _ _ _ _)
      | (with_reducible exact spec_AddAsk.mono _ _ _ _ _ _)
      | (with_reducible exact LeO.refl _)
      | (with_reducible exact LeO.none _)
      | (with_reducible refine LeO.ite ?_ ?_)
      | (with_reducible refine LeO.bind ?_ (fun _ => ?_))
      | exact ih0 _ _ _ _ _ _ _ _ _ _ _ _ _ _ _ _ _
      | exact ih1 _ _ _ _ _ _ _ _ _ _ _ _ _
      | exact ih2 _ _ _ _ _
      | exact impl_AddAsk.mono _ _ _ _ _ _
      | exact laws_eqGame.mono _ _ _ _ _ _ _
      | exact laws_heldGame.mono _ _ _ _ _
      | exact laws_markGame.mono _ _ _ _ _
      | exact laws_toGame.mono _ _ _ _
      | exact spec_AddAsk.mono _ _ _ _ _ _
      | exact LeO.none _
      | refine LeO.ite ?_ ?_
      | refine LeO.bind ?_ (fun _ => ?_)
    · intro y0 y1 y2 y3 y4 y5 y6 y7 y8 y9 y10 y11 y12
      unfold laws_FnExactAddAsk.j1
      repeat' first
      | (with_reducible exact ih0 _ _ _ _ _ _ _ _ _ _ _ _ _ _ _ _ _)
      | (with_reducible exact ih1 _ _ _ _ _ _ _ _ _ _ _ _ _)
      | (with_reducible exact ih2 _ _ _ _ _)
      | (with_reducible exact impl_AddAsk.mono _ _ _ _ _ _)
      | (with_reducible exact laws_eqGame.mono _ _ _ _ _ _ _)
      | (with_reducible exact laws_heldGame.mono _ _ _ _ _)
      | (with_reducible exact laws_markGame.mono _ _ _ _ _)
      | (with_reducible exact laws_toGame.mono _ _ _ _)
      | (with_reducible exact spec_AddAsk.mono _ _ _ _ _ _)
      | (with_reducible exact LeO.refl _)
      | (with_reducible exact LeO.none _)
      | (with_reducible refine LeO.ite ?_ ?_)
      | (with_reducible refine LeO.bind ?_ (fun _ => ?_))
      | exact ih0 _ _ _ _ _ _ _ _ _ _ _ _ _ _ _ _ _
      | exact ih1 _ _ _ _ _ _ _ _ _ _ _ _ _
      | exact ih2 _ _ _ _ _
      | exact impl_AddAsk.mono _ _ _ _ _ _
      | exact laws_eqGame.mono _ _ _ _ _ _ _
      | exact laws_heldGame.mono _ _ _ _ _
      | exact laws_markGame.mono _ _ _ _ _
      | exact laws_toGame.mono _ _ _ _
      | exact spec_AddAsk.mono _ _ _ _ _ _
      | exact LeO.none _
      | refine LeO.ite ?_ ?_
      | refine LeO.bind ?_ (fun _ => ?_)
    · intro y0 y1 y2 y3 y4
      unfold laws_FnExactAddAsk.j2
      repeat' first
      | (with_reducible exact ih0 _ _ _ _ _ _ _ _ _ _ _ _ _ _ _ _ _)
      | (with_reducible exact ih1 _ _ _ _ _ _ _ _ _ _ _ _ _)
      | (with_reducible exact ih2 _ _ _ _ _)
      | (with_reducible exact impl_AddAsk.mono _ _ _ _ _ _)
      | (with_reducible exact laws_eqGame.mono _ _ _ _ _ _ _)
      | (with_reducible exact laws_heldGame.mono _ _ _ _ _)
      | (with_reducible exact laws_markGame.mono _ _ _ _ _)
      | (with_reducible exact laws_toGame.mono _ _ _ _)
      | (with_reducible exact spec_AddAsk.mono _ _ _ _ _ _)
      | (with_reducible exact LeO.refl _)
      | (with_reducible exact LeO.none _)
      | (with_reducible refine LeO.ite ?_ ?_)
      | (with_reducible refine LeO.bind ?_ (fun _ => ?_))
      | exact ih0 _ _ _ _ _ _ _ _ _ _ _ _ _ _ _ _ _
      | exact ih1 _ _ _ _ _ _ _ _ _ _ _ _ _
      | exact ih2 _ _ _ _ _
      | exact impl_AddAsk.mono _ _ _ _ _ _
      | exact laws_eqGame.mono _ _ _ _ _ _ _
      | exact laws_heldGame.mono _ _ _ _ _
      | exact laws_markGame.mono _ _ _ _ _
      | exact laws_toGame.mono _ _ _ _
      | exact spec_AddAsk.mono _ _ _ _ _ _
      | exact LeO.none _
      | refine LeO.ite ?_ ?_
      | refine LeO.bind ?_ (fun _ => ?_)
theorem laws_FnExactAddAsk.mono : ∀ a0 a1 a2 a3 a4 k, LeO (laws_FnExactAddAsk.f k a0 a1 a2 a3 a4) (laws_FnExactAddAsk.f (k + 1) a0 a1 a2 a3 a4) := by
  intro a0 a1 a2 a3 a4 k
  obtain ⟨ih0, ih1, ih2⟩ := laws_FnExactAddAsk.mono_l k
  unfold laws_FnExactAddAsk.f
  repeat' first
      | (with_reducible exact ih0 _ _ _ _ _ _ _ _ _ _ _ _ _ _ _ _ _)
      | (with_reducible exact ih1 _ _ _ _ _ _ _ _ _ _ _ _ _)
      | (with_reducible exact ih2 _ _ _ _ _)
      | (with_reducible exact impl_AddAsk.mono _ _ _ _ _ _)
      | (with_reducible exact laws_eqGame.mono _ _ _ _ _ _ _)
      | (with_reducible exact laws_heldGame.mono _ _ _ _ _)
      | (with_reducible exact laws_markGame.mono _ _ _ _ _)
      | (with_reducible exact laws_toGame.mono _ _ _ _)
      | (with_reducible exact spec_AddAsk.mono _ _ _ _ _ _)
      | (with_reducible exact LeO.refl _)
      | (with_reducible exact LeO.none _)
      | (with_reducible refine LeO.ite ?_ ?_)
      | (with_reducible refine LeO.bind ?_ (fun _ => ?_))
      | exact ih0 _ _ _ _ _ _ _ _ _ _ _ _ _ _ _ _ _
      | exact ih1 _ _ _ _ _ _ _ _ _ _ _ _ _
      | exact ih2 _ _ _ _ _
      | exact impl_AddAsk.mono _ _ _ _ _ _
      | exact laws_eqGame.mono _ _ _ _ _ _ _
      | exact laws_heldGame.mono _ _ _ _ _
      | exact laws_markGame.mono _ _ _ _ _
      | exact laws_toGame.mono _ _ _ _
      | exact spec_AddAsk.mono _ _ _ _ _ _
      | exact LeO.none _
      | refine LeO.ite ?_ ?_
      | refine LeO.bind ?_ (fun _ => ?_)
set_option maxHeartbeats 8000000 in
set_option maxRecDepth 100000 in
theorem laws_FnExactAddAsk.calls (k : Nat) (a0_0 : Int) (a0_1 : Int) (A0_2 : Option Addr) (c0_2 : Nat) (l0_2 : List (S97)) (a1 : Int) (a2 : Bool) (r : Bool) (w : World) (hr0_2 : Kd.C k97 w A0_2 l0_2.length l0_2) (hc0_2 : l0_2.length ≤ c0_2) (h : laws_FnExactAddAsk.f k a0_0 a0_1 l0_2 a1 a2 = some r) :
    Calls Try.prog 13 #[.agg #[.int .i8 a0_0, .int .i8 a0_1, .slice A0_2 l0_2.length c0_2], .int .u64 a1, .bool a2] w fun e w' => e = .returned (.bool r) ∧ Below w.heap.size w w' := by
  have hu45 := Try.underlying45
  have hu37 := Try.underlying37
  have HR0_2 := Aside0.mk hr0_2
  have HC0_2 := Aside0.mk hc0_2
  clear hr0_2 hc0_2
  have HB := Aside0.mk (Below.refl w.heap.size w)
  have H : ((laws_szGame.f a0_0 a0_1 l0_2 1048576).bind fun t201 => (if t201 < 0 then (some true) else ((laws_toGame.f k a0_0 a0_1 l0_2).bind fun bt202 => ((spec_AddAsk.f k bt202.1 bt202.2.1 bt202.2.2 a1 a2).bind fun bt207 => ((laws_toGame.f k a0_0 a0_1 l0_2).bind fun bt214 => ((impl_AddAsk.f k bt214.1 bt214.2.1 bt214.2.2 a1 a2).bind fun bt220 => ((laws_eqGame.f k bt220.1 bt220.2.1 bt220.2.2.1 bt207.1 bt207.2.1 bt207.2.2.1).bind fun t227 => (if t227 = true then (laws_FnExactAddAsk.j0 k a1 a2 bt207.2.2.2 bt220.2.2.2 (bt220.2.2.2 != bt207.2.2.2) a0_0 a0_1 l0_2 bt207.1 bt207.2.1 bt207.2.2.1 bt214.1 bt214.2.1 bt214.2.2 bt220.1 bt220.2.1 bt220.2.2.1) else (laws_FnExactAddAsk.j0 k a1 a2 bt207.2.2.2 bt220.2.2.2 true a0_0 a0_1 l0_2 bt207.1 bt207.2.1 bt207.2.2.1 bt214.1 bt214.2.1 bt214.2.2 bt220.1 bt220.2.1 bt220.2.2.1))))))))) = some r := h
  clear h
  replace H := Option.bind_eq_some_iff.mp H
  obtain ⟨t201, A40, H⟩ := H
  replace H : (if t201 < 0 then (some true) else ((laws_toGame.f k a0_0 a0_1 l0_2).bind fun bt202 => ((spec_AddAsk.f k bt202.1 bt202.2.1 bt202.2.2 a1 a2).bind fun bt207 => ((laws_toGame.f k a0_0 a0_1 l0_2).bind fun bt214 => ((impl_AddAsk.f k bt214.1 bt214.2.1 bt214.2.2 a1 a2).bind fun bt220 => ((laws_eqGame.f k bt220.1 bt220.2.1 bt220.2.2.1 bt207.1 bt207.2.1 bt207.2.2.1).bind fun t227 => (if t227 = true then (laws_FnExactAddAsk.j0 k a1 a2 bt207.2.2.2 bt220.2.2.2 (bt220.2.2.2 != bt207.2.2.2) a0_0 a0_1 l0_2 bt207.1 bt207.2.1 bt207.2.2.1 bt214.1 bt214.2.1 bt214.2.2 bt220.1 bt220.2.1 bt220.2.2.1) else (laws_FnExactAddAsk.j0 k a1 a2 bt207.2.2.2 bt220.2.2.2 true a0_0 a0_1 l0_2 bt207.1 bt207.2.1 bt207.2.2.1 bt214.1 bt214.2.1 bt214.2.2 bt220.1 bt220.2.1 bt220.2.2.1)))))))) = some r := H
  have A4 := Aside0.mk A40
  clear A40
  by_cases c5 : t201 < 0
  · rw [if_pos c5] at H
    have c5b0 : decide (t201 < 0) = true := decide_eq_true c5
    clear c5
    obtain rfl := Option.some.inj H
    go_enter Try.func13, Try.ntmps13
    go_wp2_with (first | ((with_reducible refine gate_dst (N := 3) rfl ?_); refine box_event ?hg (N := 3) ?hd (cs := #[.int .i8 a0_0, .int .i8 a0_1, .slice A0_2 l0_2.length c0_2]) (t := 45) ?hr ?_; (case hd => rfl); (case hg => rfl); (case hr => first | (go_simp; done) | (go_simp; rfl)); intro gb200 hg w6 hbox hb; have n0_ := Aside0.mk (below_step (by repeat (first | (with_reducible first | exact HB.out | apply below_alloc | apply pw_below_drewN | apply below_drew1) | exact HB.out)) hb); have n1_ := Aside0.mk (hbox); have n2_ := Aside0.mk ((by rw [hg]; exact (below_size (by repeat (first | (with_reducible first | exact HB.out | apply below_alloc | apply pw_below_drewN | apply below_drew1) | exact HB.out))) : w.heap.size ≤ gb200)); have n3_ := Aside0.mk ((by rw [hg]; exact (below_size (by repeat (first | (with_reducible first | exact HB.out | apply below_alloc | apply pw_below_drewN | apply below_drew1) | exact HB.out))) : w.heap.size ≤ gb200)); clear HB; have HB := n0_; have BK200 := n1_; have GW200 := n2_; have GE200 := n3_; clear n0_ n1_ n2_ n3_; clear hb hbox hg; have hcz7_0 : w6.cell? ⟨gb200, 0, none⟩ = some (.int .i8 a0_0) := (blk_cell BK200.out 0).trans rfl; have hcz7_1 : w6.cell? ⟨gb200, 1, none⟩ = some (.int .i8 a0_1) := (blk_cell BK200.out 1).trans rfl; have hcz7_2 : w6.cell? ⟨gb200, 2, none⟩ = some (.slice A0_2 l0_2.length c0_2) := (blk_cell BK200.out 2).trans rfl; have hfz7_0 := blk_frozen BK200.out 0; have hfz7_1 := blk_frozen BK200.out 1; have hfz7_2 := blk_frozen BK200.out 2) | ((with_reducible refine gate_callee (f := 30) rfl ?_); refine goesL_ (some 20) rfl rfl Try.func30 (by kernel_rfl) rfl #[.agg #[.int .i8 a0_0, .int .i8 a0_1, .slice A0_2 l0_2.length c0_2], .int .i64 1048576] rfl (by (try simp only [List.map_toArray, List.map_cons, List.map_nil]); first | done | rfl | (simp only [List.length_drop, List.length_take]; rfl)) ?_; (with_reducible refine (laws_szGame.calls a0_0 a0_1 _ _ l0_2 1048576 t201 _ ?side1 ?side2 A4.out).mono ?_); (case side1 => repeat (first | exact (Kd.C_below HR0_2.out HB.out) | (with_reducible refine Kd.C_alloc ?_ _) | (with_reducible refine Kd.C_drewN ?_ _) | (with_reducible refine Kd.C_drew ?_))); (case side2 => exact HC0_2.out); rintro e w8 ⟨rfl, hb⟩; refine ⟨_, rfl, ?_⟩; have n0_ := Aside0.mk (blk_below (g := gb200) (o := .cells #[.int .i8 a0_0, .int .i8 a0_1, .slice A0_2 l0_2.length c0_2] 45 (0, 0)) (by (with_reducible repeat (first | refine blk_drewN ?_ _ | refine blk_drew ?_ | refine blk_alloc ?_ _)); exact BK200.out) hb); have n1_ := Aside0.mk (below_step (by repeat (first | (with_reducible first | exact HB.out | apply below_alloc | apply pw_below_drewN | apply below_drew1 | refine below_set ?_ GE200.out) | exact HB.out)) hb); clear BK200; clear HB; have BK200 := n0_; have HB := n1_; clear n0_ n1_; (try clear hb); (try clear hb2); (try clear hk); (try clear hi)))
    go_ret
    exact ⟨by first | rfl | (simp [errW_none, errW_some] <;> rfl) | (simp [*, errW_none, errW_some] <;> rfl), by repeat (first | (with_reducible first | exact HB.out | apply below_alloc | apply pw_below_drewN | apply below_drew1 | refine below_set ?_ GE200.out) | exact HB.out)⟩
  · rw [if_neg c5] at H
    have c5b0 : decide (t201 < 0) = false := decide_eq_false c5
    clear c5
    replace H := Option.bind_eq_some_iff.mp H
    obtain ⟨⟨t202, t203, t204⟩, A90, H⟩ := H
    replace H : ((spec_AddAsk.f k t202 t203 t204 a1 a2).bind fun bt207 => ((laws_toGame.f k a0_0 a0_1 l0_2).bind fun bt214 => ((impl_AddAsk.f k bt214.1 bt214.2.1 bt214.2.2 a1 a2).bind fun bt220 => ((laws_eqGame.f k bt220.1 bt220.2.1 bt220.2.2.1 bt207.1 bt207.2.1 bt207.2.2.1).bind fun t227 => (if t227 = true then (laws_FnExactAddAsk.j0 k a1 a2 bt207.2.2.2 bt220.2.2.2 (bt220.2.2.2 != bt207.2.2.2) a0_0 a0_1 l0_2 bt207.1 bt207.2.1 bt207.2.2.1 bt214.1 bt214.2.1 bt214.2.2 bt220.1 bt220.2.1 bt220.2.2.1) else (laws_FnExactAddAsk.j0 k a1 a2 bt207.2.2.2 bt220.2.2.2 true a0_0 a0_1 l0_2 bt207.1 bt207.2.1 bt207.2.2.1 bt214.1 bt214.2.1 bt214.2.2 bt220.1 bt220.2.1 bt220.2.2.1)))))) = some r := H
    have A9 := Aside0.mk A90
    clear A90
    replace H := Option.bind_eq_some_iff.mp H
    obtain ⟨⟨t207, t208, t209, t212⟩, A100, H⟩ := H
    replace H : ((laws_toGame.f k a0_0 a0_1 l0_2).bind fun bt214 => ((impl_AddAsk.f k bt214.1 bt214.2.1 bt214.2.2 a1 a2).bind fun bt220 => ((laws_eqGame.f k bt220.1 bt220.2.1 bt220.2.2.1 t207 t208 t209).bind fun t227 => (if t227 = true then (laws_FnExactAddAsk.j0 k a1 a2 t212 bt220.2.2.2 (bt220.2.2.2 != t212) a0_0 a0_1 l0_2 t207 t208 t209 bt214.1 bt214.2.1 bt214.2.2 bt220.1 bt220.2.1 bt220.2.2.1) else (laws_FnExactAddAsk.j0 k a1 a2 t212 bt220.2.2.2 true a0_0 a0_1 l0_2 t207 t208 t209 bt214.1 bt214.2.1 bt214.2.2 bt220.1 bt220.2.1 bt220.2.2.1))))) = some r := H
    have A10 := Aside0.mk A100
    clear A100
    replace H := Option.bind_eq_some_iff.mp H
    obtain ⟨⟨t214, t215, t216⟩, A110, H⟩ := H
    replace H : ((impl_AddAsk.f k t214 t215 t216 a1 a2).bind fun bt220 => ((laws_eqGame.f k bt220.1 bt220.2.1 bt220.2.2.1 t207 t208 t209).bind fun t227 => (if t227 = true then (laws_FnExactAddAsk.j0 k a1 a2 t212 bt220.2.2.2 (bt220.2.2.2 != t212) a0_0 a0_1 l0_2 t207 t208 t209 t214 t215 t216 bt220.1 bt220.2.1 bt220.2.2.1) else (laws_FnExactAddAsk.j0 k a1 a2 t212 bt220.2.2.2 true a0_0 a0_1 l0_2 t207 t208 t209 t214 t215 t216 bt220.1 bt220.2.1 bt220.2.2.1)))) = some r := H
    have A11 := Aside0.mk A110
    clear A110
    replace H := Option.bind_eq_some_iff.mp H
    obtain ⟨⟨t220, t221, t222, t225⟩, A120, H⟩ := H
    replace H : ((laws_eqGame.f k t220 t221 t222 t207 t208 t209).bind fun t227 => (if t227 = true then (laws_FnExactAddAsk.j0 k a1 a2 t212 t225 (t225 != t212) a0_0 a0_1 l0_2 t207 t208 t209 t214 t215 t216 t220 t221 t222) else (laws_FnExactAddAsk.j0 k a1 a2 t212 t225 true a0_0 a0_1 l0_2 t207 t208 t209 t214 t215 t216 t220 t221 t222))) = some r := H
    have A12 := Aside0.mk A120
    clear A120
    have HC13 := Aside0.mk H
    clear H
    go_enter Try.func13, Try.ntmps13
    go_upto_region 8 with (first | ((with_reducible refine gate_dst (N := 3) rfl ?_); refine box_event ?hg (N := 3) ?hd (cs := #[.int .i8 a0_0, .int .i8 a0_1, .slice A0_2 l0_2.length c0_2]) (t := 45) ?hr ?_; (case hd => rfl); (case hg => rfl); (case hr => first | (go_simp; done) | (go_simp; rfl)); intro gb200 hg w14 hbox hb; have n0_ := Aside0.mk (below_step (by repeat (first | (with_reducible first | exact HB.out | apply below_alloc | apply pw_below_drewN | apply below_drew1) | exact HB.out)) hb); have n1_ := Aside0.mk (hbox); have n2_ := Aside0.mk ((by rw [hg]; exact (below_size (by repeat (first | (with_reducible first | exact HB.out | apply below_alloc | apply pw_below_drewN | apply below_drew1) | exact HB.out))) : w.heap.size ≤ gb200)); have n3_ := Aside0.mk ((by rw [hg]; exact (below_size (by repeat (first | (with_reducible first | exact HB.out | apply below_alloc | apply pw_below_drewN | apply below_drew1) | exact HB.out))) : w.heap.size ≤ gb200)); clear HB; have HB := n0_; have BK200 := n1_; have GW200 := n2_; have GE200 := n3_; clear n0_ n1_ n2_ n3_; clear hb hbox hg; have hcz15_0 : w14.cell? ⟨gb200, 0, none⟩ = some (.int .i8 a0_0) := (blk_cell BK200.out 0).trans rfl; have hcz15_1 : w14.cell? ⟨gb200, 1, none⟩ = some (.int .i8 a0_1) := (blk_cell BK200.out 1).trans rfl; have hcz15_2 : w14.cell? ⟨gb200, 2, none⟩ = some (.slice A0_2 l0_2.length c0_2) := (blk_cell BK200.out 2).trans rfl; have hfz15_0 := blk_frozen BK200.out 0; have hfz15_1 := blk_frozen BK200.out 1; have hfz15_2 := blk_frozen BK200.out 2) | ((with_reducible refine gate_callee (f := 30) rfl ?_); refine goesL_ (some 20) rfl rfl Try.func30 (by kernel_rfl) rfl #[.agg #[.int .i8 a0_0, .int .i8 a0_1, .slice A0_2 l0_2.length c0_2], .int .i64 1048576] rfl (by (try simp only [List.map_toArray, List.map_cons, List.map_nil]); first | done | rfl | (simp only [List.length_drop, List.length_take]; rfl)) ?_; (with_reducible refine (laws_szGame.calls a0_0 a0_1 _ _ l0_2 1048576 t201 _ ?side1 ?side2 A4.out).mono ?_); (case side1 => repeat (first | exact (Kd.C_below HR0_2.out HB.out) | (with_reducible refine Kd.C_alloc ?_ _) | (with_reducible refine Kd.C_drewN ?_ _) | (with_reducible refine Kd.C_drew ?_))); (case side2 => exact HC0_2.out); rintro e w16 ⟨rfl, hb⟩; refine ⟨_, rfl, ?_⟩; have n0_ := Aside0.mk (blk_below (g := gb200) (o := .cells #[.int .i8 a0_0, .int .i8 a0_1, .slice A0_2 l0_2.length c0_2] 45 (0, 0)) (by (with_reducible repeat (first | refine blk_drewN ?_ _ | refine blk_drew ?_ | refine blk_alloc ?_ _)); exact BK200.out) hb); have n1_ := Aside0.mk (below_step (by repeat (first | (with_reducible first | exact HB.out | apply below_alloc | apply pw_below_drewN | apply below_drew1 | refine below_set ?_ GE200.out) | exact HB.out)) hb); clear BK200; clear HB; have BK200 := n0_; have HB := n1_; clear n0_ n1_; (try clear hb); (try clear hb2); (try clear hk); (try clear hi); have hcz17_0 : w16.cell? ⟨gb200, 0, none⟩ = some (.int .i8 a0_0) := (blk_cell BK200.out 0).trans rfl; have hcz17_1 : w16.cell? ⟨gb200, 1, none⟩ = some (.int .i8 a0_1) := (blk_cell BK200.out 1).trans rfl; have hcz17_2 : w16.cell? ⟨gb200, 2, none⟩ = some (.slice A0_2 l0_2.length c0_2) := (blk_cell BK200.out 2).trans rfl; have hfz17_0 := blk_frozen BK200.out 0; have hfz17_1 := blk_frozen BK200.out 1; have hfz17_2 := blk_frozen BK200.out 2) | ((with_reducible refine gate_callee (f := 32) rfl ?_); refine goesL_ (some 25) rfl rfl Try.func32 (by kernel_rfl) rfl #[.agg #[.int .i8 a0_0, .int .i8 a0_1, .slice A0_2 l0_2.length c0_2]] rfl (by (try simp only [List.map_toArray, List.map_cons, List.map_nil]); first | done | rfl | (simp only [List.length_drop, List.length_take]; rfl)) ?_; (with_reducible refine (laws_toGame.calls k a0_0 a0_1 _ _ l0_2 t202 t203 t204 _ ?side1 ?side2 A9.out).mono ?_); (case side1 => repeat (first | exact (Kd.C_below HR0_2.out HB.out) | (with_reducible refine Kd.C_alloc ?_ _) | (with_reducible refine Kd.C_drewN ?_ _) | (with_reducible refine Kd.C_drew ?_))); (case side2 => exact HC0_2.out); rintro e w18 ⟨v205, rfl, ho0, hb⟩; refine ⟨_, rfl, ?_⟩; have n0_ := Aside0.mk (Kd.R_lower ho0 (below_size (by repeat (first | (with_reducible first | exact HB.out | apply below_alloc | apply pw_below_drewN | apply below_drew1 | refine below_set ?_ GE200.out) | exact HB.out)))); have n1_ := Aside0.mk (blk_below (g := gb200) (o := .cells #[.int .i8 a0_0, .int .i8 a0_1, .slice A0_2 l0_2.length c0_2] 45 (0, 0)) (by (with_reducible repeat (first | refine blk_drewN ?_ _ | refine blk_drew ?_ | refine blk_alloc ?_ _)); exact BK200.out) hb); have n2_ := Aside0.mk (below_step (by repeat (first | (with_reducible first | exact HB.out | apply below_alloc | apply pw_below_drewN | apply below_drew1 | refine below_set ?_ GE200.out) | exact HB.out)) hb); clear BK200; clear HB; have HO206 := n0_; have BK200 := n1_; have HB := n2_; clear n0_ n1_ n2_; (try clear hb); (try clear hb2); (try clear hk); (try clear hi); (try clear ho0); obtain ⟨Ao19, co19, eo19⟩ := Kd.R_slice HO206.out; subst eo19) | ((with_reducible refine gate_callee (f := 42) rfl ?_); refine goesL_ (some 28) rfl rfl Try.func42 (by kernel_rfl) rfl #[.agg #[.int .i8 t202, .int .i8 t203, .slice Ao19 t204.length co19], .int .u64 a1, .bool a2] rfl (by (try simp only [List.map_toArray, List.map_cons, List.map_nil]); first | done | rfl | (simp only [List.length_drop, List.length_take]; rfl)) ?_; (with_reducible refine (spec_AddAsk.calls k t202 t203 _ _ t204 a1 a2 t207 t208 t209 t212 _ ?side1 ?side2 A10.out).mono ?_); (case side1 => repeat (first | exact (Kd.R_reads' HO206.out).2.2 | (with_reducible refine Kd.C_alloc ?_ _) | (with_reducible refine Kd.C_drewN ?_ _) | (with_reducible refine Kd.C_drew ?_))); (case side2 => exact (Kd.R_reads' HO206.out).2.1); rintro e w20 ⟨v210, rfl, ho0, hb⟩; refine ⟨_, rfl, ?_⟩; have n0_ := Aside0.mk (Kd.R_elder' (by (with_reducible repeat (first | apply Kd.R_alloc | apply Kd.R_drewN | apply Kd.R_drew)); exact HO206.out) (Kd.R_base ho0) hb); have n1_ := Aside0.mk (Kd.R_lower (Kd.R_new' ho0 (Kd.R_lt (by (with_reducible repeat (first | apply Kd.R_alloc | apply Kd.R_drewN | apply Kd.R_drew)); exact HO206.out))) (below_size (by repeat (first | (with_reducible first | exact HB.out | apply below_alloc | apply pw_below_drewN | apply below_drew1 | refine below_set ?_ GE200.out) | exact HB.out)))); have n2_ := Aside0.mk (blk_below (g := gb200) (o := .cells #[.int .i8 a0_0, .int .i8 a0_1, .slice A0_2 l0_2.length c0_2] 45 (0, 0)) (by (with_reducible repeat (first | refine blk_drewN ?_ _ | refine blk_drew ?_ | refine blk_alloc ?_ _)); exact BK200.out) hb); have n3_ := Aside0.mk (below_step (by repeat (first | (with_reducible first | exact HB.out | apply below_alloc | apply pw_below_drewN | apply below_drew1 | refine below_set ?_ GE200.out) | exact HB.out)) hb); clear HO206; clear BK200; clear HB; have HO206 := n0_; have HO211 := n1_; have BK200 := n2_; have HB := n3_; clear n0_ n1_ n2_ n3_; (try clear hb); (try clear hb2); (try clear hk); (try clear hi); (try clear ho0)) | ((with_reducible refine gate_dst (N := 8) rfl ?_); refine box_event ?hg (N := 8) ?hd (cs := #[.int .i8 0, .int .i8 0, .slice none 0 0]) (t := 37) ?hr ?_; (case hd => rfl); (case hg => rfl); (case hr => first | (go_simp; done) | (go_simp; rfl)); intro gb213 hg w21 hbox hb; have n0_ := Aside0.mk (Kd.R_below (by (with_reducible repeat (first | apply Kd.R_alloc | apply Kd.R_drewN | apply Kd.R_drew)); exact HO206.out) hb); have n1_ := Aside0.mk (Kd.R_below (by (with_reducible repeat (first | apply Kd.R_alloc | apply Kd.R_drewN | apply Kd.R_drew)); exact HO211.out) hb); have n2_ := Aside0.mk (blk_below (g := gb200) (o := .cells #[.int .i8 a0_0, .int .i8 a0_1, .slice A0_2 l0_2.length c0_2] 45 (0, 0)) (by (with_reducible repeat (first | refine blk_drewN ?_ _ | refine blk_drew ?_ | refine blk_alloc ?_ _)); exact BK200.out) hb); have n3_ := Aside0.mk (below_step (by repeat (first | (with_reducible first | exact HB.out | apply below_alloc | apply pw_below_drewN | apply below_drew1 | refine below_set ?_ GE200.out) | exact HB.out)) hb); have n4_ := Aside0.mk (hbox); have n5_ := Aside0.mk ((by rw [hg]; exact (below_size (by repeat (first | (with_reducible first | exact HB.out | apply below_alloc | apply pw_below_drewN | apply below_drew1 | refine below_set ?_ GE200.out) | exact HB.out))) : w.heap.size ≤ gb213)); have n6_ := Aside0.mk ((by rw [hg]; exact (below_size (by repeat (first | (with_reducible first | exact HB.out | apply below_alloc | apply pw_below_drewN | apply below_drew1 | refine below_set ?_ GE200.out) | exact HB.out))) : w.heap.size ≤ gb213)); have n7_ := Aside0.mk ((by rw [hg]; exact Nat.ne_of_lt (blk_lt (g := gb200) (o := .cells #[.int .i8 a0_0, .int .i8 a0_1, .slice A0_2 l0_2.length c0_2] 45 (0, 0)) (by (with_reducible repeat (first | refine blk_drewN ?_ _ | refine blk_drew ?_ | refine blk_alloc ?_ _)); exact BK200.out)) : gb200 ≠ gb213)); have n8_ := Aside0.mk ((by rw [hg]; exact Nat.ne_of_gt (blk_lt (g := gb200) (o := .cells #[.int .i8 a0_0, .int .i8 a0_1, .slice A0_2 l0_2.length c0_2] 45 (0, 0)) (by (with_reducible repeat (first | refine blk_drewN ?_ _ | refine blk_drew ?_ | refine blk_alloc ?_ _)); exact BK200.out)) : gb213 ≠ gb200)); clear HO206; clear HO211; clear BK200; clear HB; have HO206 := n0_; have HO211 := n1_; have BK200 := n2_; have HB := n3_; have BK213 := n4_; have GW213 := n5_; have GE213 := n6_; have NB200_213 := n7_; have NB213_200 := n8_; clear n0_ n1_ n2_ n3_ n4_ n5_ n6_ n7_ n8_; clear hb hbox hg; have hnb22 := NB213_200.out; have hnc22 := NB200_213.out; have hcz23_0 : w21.cell? ⟨gb213, 0, none⟩ = some (.int .i8 0) := (blk_cell BK213.out 0).trans rfl; have hcz23_1 : w21.cell? ⟨gb213, 1, none⟩ = some (.int .i8 0) := (blk_cell BK213.out 1).trans rfl; have hcz23_2 : w21.cell? ⟨gb213, 2, none⟩ = some (.slice none 0 0) := (blk_cell BK213.out 2).trans rfl; have hfz23_0 := blk_frozen BK213.out 0; have hfz23_1 := blk_frozen BK213.out 1; have hfz23_2 := blk_frozen BK213.out 2; obtain ⟨Ao24, co24, eo24⟩ := Kd.R_slice HO211.out; subst eo24; have hcz25_0 : w21.cell? ⟨gb200, 0, none⟩ = some (.int .i8 a0_0) := (blk_cell BK200.out 0).trans rfl; have hcz25_1 : w21.cell? ⟨gb200, 1, none⟩ = some (.int .i8 a0_1) := (blk_cell BK200.out 1).trans rfl; have hcz25_2 : w21.cell? ⟨gb200, 2, none⟩ = some (.slice A0_2 l0_2.length c0_2) := (blk_cell BK200.out 2).trans rfl; have hfz25_0 := blk_frozen BK200.out 0; have hfz25_1 := blk_frozen BK200.out 1; have hfz25_2 := blk_frozen BK200.out 2) | ((with_reducible refine gate_callee (f := 32) rfl ?_); refine goesL_ (some 32) rfl rfl Try.func32 (by kernel_rfl) rfl #[.agg #[.int .i8 a0_0, .int .i8 a0_1, .slice A0_2 l0_2.length c0_2]] rfl (by (try simp only [List.map_toArray, List.map_cons, List.map_nil]); first | done | rfl | (simp only [List.length_drop, List.length_take]; rfl)) ?_; (with_reducible refine (laws_toGame.calls k a0_0 a0_1 _ _ l0_2 t214 t215 t216 _ ?side1 ?side2 A11.out).mono ?_); (case side1 => exact Kd.C_below HR0_2.out (by repeat (first | (with_reducible first | exact HB.out | apply below_alloc | apply pw_below_drewN | apply below_drew1 | refine below_set ?_ GE200.out | refine below_set ?_ GE213.out) | exact HB.out))); (case side2 => exact HC0_2.out); rintro e w26 ⟨v217, rfl, ho0, hb⟩; refine ⟨_, rfl, ?_⟩; have n0_ := Aside0.mk (Kd.R_elder' (by (with_reducible repeat (first | apply Kd.R_alloc | apply Kd.R_drewN | apply Kd.R_drew)); exact (Kd.R_mono (Kd.R_far (p := ⟨gb213, 2, none⟩) (Kd.R_far (p := ⟨gb213, 1, none⟩) (Kd.R_far (p := ⟨gb213, 0, none⟩) (Kd.R_types HO206.out BK213.out (by decide)) (fun _ hk => hk.2) (.int .i8 t207)) (fun _ hk => hk.2) (.int .i8 t208)) (fun _ hk => hk.2) (.slice Ao24 t209.length co24)) (fun _ h_ => h_.1))) (Kd.R_base ho0) hb); have n1_ := Aside0.mk (Kd.R_elder' (by (with_reducible repeat (first | apply Kd.R_alloc | apply Kd.R_drewN | apply Kd.R_drew)); exact (Kd.R_mono (Kd.R_far (p := ⟨gb213, 2, none⟩) (Kd.R_far (p := ⟨gb213, 1, none⟩) (Kd.R_far (p := ⟨gb213, 0, none⟩) (Kd.R_types HO211.out BK213.out (by decide)) (fun _ hk => hk.2) (.int .i8 t207)) (fun _ hk => hk.2) (.int .i8 t208)) (fun _ hk => hk.2) (.slice Ao24 t209.length co24)) (fun _ h_ => h_.1))) (Kd.R_base ho0) hb); have n2_ := Aside0.mk (Kd.R_lower (Kd.R_new' (Kd.R_new' ho0 (Kd.R_lt (by (with_reducible repeat (first | apply Kd.R_alloc | apply Kd.R_drewN | apply Kd.R_drew)); exact (Kd.R_mono (Kd.R_far (p := ⟨gb213, 2, none⟩) (Kd.R_far (p := ⟨gb213, 1, none⟩) (Kd.R_far (p := ⟨gb213, 0, none⟩) (Kd.R_types HO206.out BK213.out (by decide)) (fun _ hk => hk.2) (.int .i8 t207)) (fun _ hk => hk.2) (.int .i8 t208)) (fun _ hk => hk.2) (.slice Ao24 t209.length co24)) (fun _ h_ => h_.1))))) (Kd.R_lt (by (with_reducible repeat (first | apply Kd.R_alloc | apply Kd.R_drewN | apply Kd.R_drew)); exact (Kd.R_mono (Kd.R_far (p := ⟨gb213, 2, none⟩) (Kd.R_far (p := ⟨gb213, 1, none⟩) (Kd.R_far (p := ⟨gb213, 0, none⟩) (Kd.R_types HO211.out BK213.out (by decide)) (fun _ hk => hk.2) (.int .i8 t207)) (fun _ hk => hk.2) (.int .i8 t208)) (fun _ hk => hk.2) (.slice Ao24 t209.length co24)) (fun _ h_ => h_.1))))) (below_size (by repeat (first | (with_reducible first | exact HB.out | apply below_alloc | apply pw_below_drewN | apply below_drew1 | refine below_set ?_ GE200.out | refine below_set ?_ GE213.out) | exact HB.out)))); have n3_ := Aside0.mk (blk_below (g := gb200) (o := .cells #[.int .i8 a0_0, .int .i8 a0_1, .slice A0_2 l0_2.length c0_2] 45 (0, 0)) (by (with_reducible repeat (first | refine blk_drewN ?_ _ | refine blk_drew ?_ | refine blk_alloc ?_ _)); refine blk_far ?_ NB200_213.out _; (with_reducible repeat (first | refine blk_drewN ?_ _ | refine blk_drew ?_ | refine blk_alloc ?_ _)); refine blk_far ?_ NB200_213.out _; (with_reducible repeat (first | refine blk_drewN ?_ _ | refine blk_drew ?_ | refine blk_alloc ?_ _)); refine blk_far ?_ NB200_213.out _; (with_reducible repeat (first | refine blk_drewN ?_ _ | refine blk_drew ?_ | refine blk_alloc ?_ _)); exact BK200.out) hb); have n4_ := Aside0.mk (blk_below (g := gb213) (o := .cells #[.int .i8 t207, .int .i8 t208, .slice Ao24 t209.length co24] 37 (0, 0)) (by (with_reducible repeat (first | refine blk_drewN ?_ _ | refine blk_drew ?_ | refine blk_alloc ?_ _)); refine blk_put (cs := #[.int .i8 t207, .int .i8 t208, .slice none 0 0]) ?_ 2 _ rfl; (with_reducible repeat (first | refine blk_drewN ?_ _ | refine blk_drew ?_ | refine blk_alloc ?_ _)); refine blk_put (cs := #[.int .i8 t207, .int .i8 0, .slice none 0 0]) ?_ 1 _ rfl; (with_reducible repeat (first | refine blk_drewN ?_ _ | refine blk_drew ?_ | refine blk_alloc ?_ _)); refine blk_put (cs := #[.int .i8 0, .int .i8 0, .slice none 0 0]) ?_ 0 _ rfl; (with_reducible repeat (first | refine blk_drewN ?_ _ | refine blk_drew ?_ | refine blk_alloc ?_ _)); exact BK213.out) hb); have n5_ := Aside0.mk (below_step (by repeat (first | (with_reducible first | exact HB.out | apply below_alloc | apply pw_below_drewN | apply below_drew1 | refine below_set ?_ GE200.out | refine below_set ?_ GE213.out) | exact HB.out)) hb); clear HO206; clear HO211; clear BK200; clear BK213; clear HB; have HO206 := n0_; have HO211 := n1_; have HO218 := n2_; have BK200 := n3_; have BK213 := n4_; have HB := n5_; clear n0_ n1_ n2_ n3_ n4_ n5_; (try clear hb); (try clear hb2); (try clear hk); (try clear hi); (try clear ho0)) | ((with_reducible refine gate_dst (N := 10) rfl ?_); refine box_event ?hg (N := 10) ?hd (cs := #[.int .i8 0, .int .i8 0, .slice none 0 0]) (t := 37) ?hr ?_; (case hd => rfl); (case hg => rfl); (case hr => first | (go_simp; done) | (go_simp; rfl)); intro gb219 hg w27 hbox hb; have n0_ := Aside0.mk (Kd.R_below (by (with_reducible repeat (first | apply Kd.R_alloc | apply Kd.R_drewN | apply Kd.R_drew)); exact HO206.out) hb); have n1_ := Aside0.mk (Kd.R_below (by (with_reducible repeat (first | apply Kd.R_alloc | apply Kd.R_drewN | apply Kd.R_drew)); exact HO211.out) hb); have n2_ := Aside0.mk (Kd.R_below (by (with_reducible repeat (first | apply Kd.R_alloc | apply Kd.R_drewN | apply Kd.R_drew)); exact HO218.out) hb); have n3_ := Aside0.mk (blk_below (g := gb200) (o := .cells #[.int .i8 a0_0, .int .i8 a0_1, .slice A0_2 l0_2.length c0_2] 45 (0, 0)) (by (with_reducible repeat (first | refine blk_drewN ?_ _ | refine blk_drew ?_ | refine blk_alloc ?_ _)); exact BK200.out) hb); have n4_ := Aside0.mk (blk_below (g := gb213) (o := .cells #[.int .i8 t207, .int .i8 t208, .slice Ao24 t209.length co24] 37 (0, 0)) (by (with_reducible repeat (first | refine blk_drewN ?_ _ | refine blk_drew ?_ | refine blk_alloc ?_ _)); exact BK213.out) hb); have n5_ := Aside0.mk (below_step (by repeat (first | (with_reducible first | exact HB.out | apply below_alloc | apply pw_below_drewN | apply below_drew1 | refine below_set ?_ GE200.out | refine below_set ?_ GE213.out) | exact HB.out)) hb); have n6_ := Aside0.mk (hbox); have n7_ := Aside0.mk ((by rw [hg]; exact (below_size (by repeat (first | (with_reducible first | exact HB.out | apply below_alloc | apply pw_below_drewN | apply below_drew1 | refine below_set ?_ GE200.out | refine below_set ?_ GE213.out) | exact HB.out))) : w.heap.size ≤ gb219)); have n8_ := Aside0.mk ((by rw [hg]; exact (below_size (by repeat (first | (with_reducible first | exact HB.out | apply below_alloc | apply pw_below_drewN | apply below_drew1 | refine below_set ?_ GE200.out | refine below_set ?_ GE213.out) | exact HB.out))) : w.heap.size ≤ gb219)); have n9_ := Aside0.mk ((by rw [hg]; exact Nat.ne_of_lt (blk_lt (g := gb200) (o := .cells #[.int .i8 a0_0, .int .i8 a0_1, .slice A0_2 l0_2.length c0_2] 45 (0, 0)) (by (with_reducible repeat (first | refine blk_drewN ?_ _ | refine blk_drew ?_ | refine blk_alloc ?_ _)); exact BK200.out)) : gb200 ≠ gb219)); have n10_ := Aside0.mk ((by rw [hg]; exact Nat.ne_of_gt (blk_lt (g := gb200) (o := .cells #[.int .i8 a0_0, .int .i8 a0_1, .slice A0_2 l0_2.length c0_2] 45 (0, 0)) (by (with_reducible repeat (first | refine blk_drewN ?_ _ | refine blk_drew ?_ | refine blk_alloc ?_ _)); exact BK200.out)) : gb219 ≠ gb200)); have n11_ := Aside0.mk ((by rw [hg]; exact Nat.ne_of_lt (blk_lt (g := gb213) (o := .cells #[.int .i8 t207, .int .i8 t208, .slice Ao24 t209.length co24] 37 (0, 0)) (by (with_reducible repeat (first | refine blk_drewN ?_ _ | refine blk_drew ?_ | refine blk_alloc ?_ _)); exact BK213.out)) : gb213 ≠ gb219)); have n12_ := Aside0.mk ((by rw [hg]; exact Nat.ne_of_gt (blk_lt (g := gb213) (o := .cells #[.int .i8 t207, .int .i8 t208, .slice Ao24 t209.length co24] 37 (0, 0)) (by (with_reducible repeat (first | refine blk_drewN ?_ _ | refine blk_drew ?_ | refine blk_alloc ?_ _)); exact BK213.out)) : gb219 ≠ gb213)); clear HO206; clear HO211; clear HO218; clear BK200; clear BK213; clear HB; have HO206 := n0_; have HO211 := n1_; have HO218 := n2_; have BK200 := n3_; have BK213 := n4_; have HB := n5_; have BK219 := n6_; have GW219 := n7_; have GE219 := n8_; have NB200_219 := n9_; have NB219_200 := n10_; have NB213_219 := n11_; have NB219_213 := n12_; clear n0_ n1_ n2_ n3_ n4_ n5_ n6_ n7_ n8_ n9_ n10_ n11_ n12_; clear hb hbox hg; have hnb28 := NB219_200.out; have hnc28 := NB200_219.out; have hnb29 := NB219_213.out; have hnc29 := NB213_219.out; have hcz30_0 : w27.cell? ⟨gb219, 0, none⟩ = some (.int .i8 0) := (blk_cell BK219.out 0).trans rfl; have hcz30_1 : w27.cell? ⟨gb219, 1, none⟩ = some (.int .i8 0) := (blk_cell BK219.out 1).trans rfl; have hcz30_2 : w27.cell? ⟨gb219, 2, none⟩ = some (.slice none 0 0) := (blk_cell BK219.out 2).trans rfl; have hfz30_0 := blk_frozen BK219.out 0; have hfz30_1 := blk_frozen BK219.out 1; have hfz30_2 := blk_frozen BK219.out 2; obtain ⟨Ao31, co31, eo31⟩ := Kd.R_slice HO218.out; subst eo31) | ((with_reducible refine gate_callee (f := 43) rfl ?_); refine goesL_ (some 37) rfl rfl Try.func43 (by kernel_rfl) rfl #[.agg #[.int .i8 t214, .int .i8 t215, .slice Ao31 t216.length co31], .int .u64 a1, .bool a2] rfl (by (try simp only [List.map_toArray, List.map_cons, List.map_nil]); first | done | rfl | (simp only [List.length_drop, List.length_take]; rfl)) ?_; (with_reducible refine (impl_AddAsk.calls k t214 t215 _ _ t216 a1 a2 t220 t221 t222 t225 _ ?side1 ?side2 A12.out).mono ?_); (case side1 => refine (Kd.R_reads' (e := 75) (base := w.heap.size) (ok := fun k_ => ((True ∧ some k_ ≠ (.slice Ao19 t204.length co19 : Value).ownBlock) ∧ some k_ ≠ (.slice Ao24 t209.length co24 : Value).ownBlock)) (n := t216.length) (c := co31) ?_).2.2; exact (by (with_reducible repeat (first | apply Kd.R_alloc | apply Kd.R_drewN | apply Kd.R_drew)); exact (Kd.R_mono (Kd.R_far (p := ⟨gb219, 2, none⟩) (Kd.R_far (p := ⟨gb219, 1, none⟩) (Kd.R_far (p := ⟨gb219, 0, none⟩) (Kd.R_types HO218.out BK219.out (by decide)) (fun _ hk => hk.2) (.int .i8 t214)) (fun _ hk => hk.2) (.int .i8 t215)) (fun _ hk => hk.2) (.slice Ao31 t216.length co31)) (fun _ h_ => h_.1)))); (case side2 => exact (Kd.R_reads' HO218.out).2.1); rintro e w32 ⟨v223, rfl, ho0, hb⟩; refine ⟨_, rfl, ?_⟩; have n0_ := Aside0.mk (Kd.R_elder' (by (with_reducible repeat (first | apply Kd.R_alloc | apply Kd.R_drewN | apply Kd.R_drew)); exact (Kd.R_mono (Kd.R_far (p := ⟨gb219, 2, none⟩) (Kd.R_far (p := ⟨gb219, 1, none⟩) (Kd.R_far (p := ⟨gb219, 0, none⟩) (Kd.R_types HO206.out BK219.out (by decide)) (fun _ hk => hk.2) (.int .i8 t214)) (fun _ hk => hk.2) (.int .i8 t215)) (fun _ hk => hk.2) (.slice Ao31 t216.length co31)) (fun _ h_ => h_.1))) (Kd.R_base ho0) hb); have n1_ := Aside0.mk (Kd.R_elder' (by (with_reducible repeat (first | apply Kd.R_alloc | apply Kd.R_drewN | apply Kd.R_drew)); exact (Kd.R_mono (Kd.R_far (p := ⟨gb219, 2, none⟩) (Kd.R_far (p := ⟨gb219, 1, none⟩) (Kd.R_far (p := ⟨gb219, 0, none⟩) (Kd.R_types HO211.out BK219.out (by decide)) (fun _ hk => hk.2) (.int .i8 t214)) (fun _ hk => hk.2) (.int .i8 t215)) (fun _ hk => hk.2) (.slice Ao31 t216.length co31)) (fun _ h_ => h_.1))) (Kd.R_base ho0) hb); have n2_ := Aside0.mk (Kd.R_elder' (by (with_reducible repeat (first | apply Kd.R_alloc | apply Kd.R_drewN | apply Kd.R_drew)); exact (Kd.R_mono (Kd.R_far (p := ⟨gb219, 2, none⟩) (Kd.R_far (p := ⟨gb219, 1, none⟩) (Kd.R_far (p := ⟨gb219, 0, none⟩) (Kd.R_types HO218.out BK219.out (by decide)) (fun _ hk => hk.2) (.int .i8 t214)) (fun _ hk => hk.2) (.int .i8 t215)) (fun _ hk => hk.2) (.slice Ao31 t216.length co31)) (fun _ h_ => h_.1))) (Kd.R_base ho0) hb); have n3_ := Aside0.mk (Kd.R_lower (Kd.R_new' (Kd.R_new' (Kd.R_new' ho0 (Kd.R_lt (by (with_reducible repeat (first | apply Kd.R_alloc | apply Kd.R_drewN | apply Kd.R_drew)); exact (Kd.R_mono (Kd.R_far (p := ⟨gb219, 2, none⟩) (Kd.R_far (p := ⟨gb219, 1, none⟩) (Kd.R_far (p := ⟨gb219, 0, none⟩) (Kd.R_types HO206.out BK219.out (by decide)) (fun _ hk => hk.2) (.int .i8 t214)) (fun _ hk => hk.2) (.int .i8 t215)) (fun _ hk => hk.2) (.slice Ao31 t216.length co31)) (fun _ h_ => h_.1))))) (Kd.R_lt (by (with_reducible repeat (first | apply Kd.R_alloc | apply Kd.R_drewN | apply Kd.R_drew)); exact (Kd.R_mono (Kd.R_far (p := ⟨gb219, 2, none⟩) (Kd.R_far (p := ⟨gb219, 1, none⟩) (Kd.R_far (p := ⟨gb219, 0, none⟩) (Kd.R_types HO211.out BK219.out (by decide)) (fun _ hk => hk.2) (.int .i8 t214)) (fun _ hk => hk.2) (.int .i8 t215)) (fun _ hk => hk.2) (.slice Ao31 t216.length co31)) (fun _ h_ => h_.1))))) (Kd.R_lt (by (with_reducible repeat (first | apply Kd.R_alloc | apply Kd.R_drewN | apply Kd.R_drew)); exact (Kd.R_mono (Kd.R_far (p := ⟨gb219, 2, none⟩) (Kd.R_far (p := ⟨gb219, 1, none⟩) (Kd.R_far (p := ⟨gb219, 0, none⟩) (Kd.R_types HO218.out BK219.out (by decide)) (fun _ hk => hk.2) (.int .i8 t214)) (fun _ hk => hk.2) (.int .i8 t215)) (fun _ hk => hk.2) (.slice Ao31 t216.length co31)) (fun _ h_ => h_.1))))) (below_size (by repeat (first | (with_reducible first | exact HB.out | apply below_alloc | apply pw_below_drewN | apply below_drew1 | refine below_set ?_ GE200.out | refine below_set ?_ GE213.out | refine below_set ?_ GE219.out) | exact HB.out)))); have n4_ := Aside0.mk (blk_below (g := gb200) (o := .cells #[.int .i8 a0_0, .int .i8 a0_1, .slice A0_2 l0_2.length c0_2] 45 (0, 0)) (by (with_reducible repeat (first | refine blk_drewN ?_ _ | refine blk_drew ?_ | refine blk_alloc ?_ _)); refine blk_far ?_ NB200_219.out _; (with_reducible repeat (first | refine blk_drewN ?_ _ | refine blk_drew ?_ | refine blk_alloc ?_ _)); refine blk_far ?_ NB200_219.out _; (with_reducible repeat (first | refine blk_drewN ?_ _ | refine blk_drew ?_ | refine blk_alloc ?_ _)); refine blk_far ?_ NB200_219.out _; (with_reducible repeat (first | refine blk_drewN ?_ _ | refine blk_drew ?_ | refine blk_alloc ?_ _)); exact BK200.out) hb); have n5_ := Aside0.mk (blk_below (g := gb213) (o := .cells #[.int .i8 t207, .int .i8 t208, .slice Ao24 t209.length co24] 37 (0, 0)) (by (with_reducible repeat (first | refine blk_drewN ?_ _ | refine blk_drew ?_ | refine blk_alloc ?_ _)); refine blk_far ?_ NB213_219.out _; (with_reducible repeat (first | refine blk_drewN ?_ _ | refine blk_drew ?_ | refine blk_alloc ?_ _)); refine blk_far ?_ NB213_219.out _; (with_reducible repeat (first | refine blk_drewN ?_ _ | refine blk_drew ?_ | refine blk_alloc ?_ _)); refine blk_far ?_ NB213_219.out _; (with_reducible repeat (first | refine blk_drewN ?_ _ | refine blk_drew ?_ | refine blk_alloc ?_ _)); exact BK213.out) hb); have n6_ := Aside0.mk (blk_below (g := gb219) (o := .cells #[.int .i8 t214, .int .i8 t215, .slice Ao31 t216.length co31] 37 (0, 0)) (by (with_reducible repeat (first | refine blk_drewN ?_ _ | refine blk_drew ?_ | refine blk_alloc ?_ _)); refine blk_put (cs := #[.int .i8 t214, .int .i8 t215, .slice none 0 0]) ?_ 2 _ rfl; (with_reducible repeat (first | refine blk_drewN ?_ _ | refine blk_drew ?_ | refine blk_alloc ?_ _)); refine blk_put (cs := #[.int .i8 t214, .int .i8 0, .slice none 0 0]) ?_ 1 _ rfl; (with_reducible repeat (first | refine blk_drewN ?_ _ | refine blk_drew ?_ | refine blk_alloc ?_ _)); refine blk_put (cs := #[.int .i8 0, .int .i8 0, .slice none 0 0]) ?_ 0 _ rfl; (with_reducible repeat (first | refine blk_drewN ?_ _ | refine blk_drew ?_ | refine blk_alloc ?_ _)); exact BK219.out) hb); have n7_ := Aside0.mk (below_step (by repeat (first | (with_reducible first | exact HB.out | apply below_alloc | apply pw_below_drewN | apply below_drew1 | refine below_set ?_ GE200.out | refine below_set ?_ GE213.out | refine below_set ?_ GE219.out) | exact HB.out)) hb); clear HO206; clear HO211; clear HO218; clear BK200; clear BK213; clear BK219; clear HB; have HO206 := n0_; have HO211 := n1_; have HO218 := n2_; have HO224 := n3_; have BK200 := n4_; have BK213 := n5_; have BK219 := n6_; have HB := n7_; clear n0_ n1_ n2_ n3_ n4_ n5_ n6_ n7_; (try clear hb); (try clear hb2); (try clear hk); (try clear hi); (try clear ho0)) | ((with_reducible refine gate_dst (N := 11) rfl ?_); refine box_event ?hg (N := 11) ?hd (cs := #[.int .i8 0, .int .i8 0, .slice none 0 0]) (t := 37) ?hr ?_; (case hd => rfl); (case hg => rfl); (case hr => first | (go_simp; done) | (go_simp; rfl)); intro gb226 hg w33 hbox hb; have n0_ := Aside0.mk (Kd.R_below (by (with_reducible repeat (first | apply Kd.R_alloc | apply Kd.R_drewN | apply Kd.R_drew)); exact HO206.out) hb); have n1_ := Aside0.mk (Kd.R_below (by (with_reducible repeat (first | apply Kd.R_alloc | apply Kd.R_drewN | apply Kd.R_drew)); exact HO211.out) hb); have n2_ := Aside0.mk (Kd.R_below (by (with_reducible repeat (first | apply Kd.R_alloc | apply Kd.R_drewN | apply Kd.R_drew)); exact HO218.out) hb); have n3_ := Aside0.mk (Kd.R_below (by (with_reducible repeat (first | apply Kd.R_alloc | apply Kd.R_drewN | apply Kd.R_drew)); exact HO224.out) hb); have n4_ := Aside0.mk (blk_below (g := gb200) (o := .cells #[.int .i8 a0_0, .int .i8 a0_1, .slice A0_2 l0_2.length c0_2] 45 (0, 0)) (by (with_reducible repeat (first | refine blk_drewN ?_ _ | refine blk_drew ?_ | refine blk_alloc ?_ _)); exact BK200.out) hb); have n5_ := Aside0.mk (blk_below (g := gb213) (o := .cells #[.int .i8 t207, .int .i8 t208, .slice Ao24 t209.length co24] 37 (0, 0)) (by (with_reducible repeat (first | refine blk_drewN ?_ _ | refine blk_drew ?_ | refine blk_alloc ?_ _)); exact BK213.out) hb); have n6_ := Aside0.mk (blk_below (g := gb219) (o := .cells #[.int .i8 t214, .int .i8 t215, .slice Ao31 t216.length co31] 37 (0, 0)) (by (with_reducible repeat (first | refine blk_drewN ?_ _ | refine blk_drew ?_ | refine blk_alloc ?_ _)); exact BK219.out) hb); have n7_ := Aside0.mk (below_step (by repeat (first | (with_reducible first | exact HB.out | apply below_alloc | apply pw_below_drewN | apply below_drew1 | refine below_set ?_ GE200.out | refine below_set ?_ GE213.out | refine below_set ?_ GE219.out) | exact HB.out)) hb); have n8_ := Aside0.mk (hbox); have n9_ := Aside0.mk ((by rw [hg]; exact (below_size (by repeat (first | (with_reducible first | exact HB.out | apply below_alloc | apply pw_below_drewN | apply below_drew1 | refine below_set ?_ GE200.out | refine below_set ?_ GE213.out | refine below_set ?_ GE219.out) | exact HB.out))) : w.heap.size ≤ gb226)); have n10_ := Aside0.mk ((by rw [hg]; exact (below_size (by repeat (first | (with_reducible first | exact HB.out | apply below_alloc | apply pw_below_drewN | apply below_drew1 | refine below_set ?_ GE200.out | refine below_set ?_ GE213.out | refine below_set ?_ GE219.out) | exact HB.out))) : w.heap.size ≤ gb226)); have n11_ := Aside0.mk ((by rw [hg]; exact Nat.ne_of_lt (blk_lt (g := gb200) (o := .cells #[.int .i8 a0_0, .int .i8 a0_1, .slice A0_2 l0_2.length c0_2] 45 (0, 0)) (by (with_reducible repeat (first | refine blk_drewN ?_ _ | refine blk_drew ?_ | refine blk_alloc ?_ _)); exact BK200.out)) : gb200 ≠ gb226)); have n12_ := Aside0.mk ((by rw [hg]; exact Nat.ne_of_gt (blk_lt (g := gb200) (o := .cells #[.int .i8 a0_0, .int .i8 a0_1, .slice A0_2 l0_2.length c0_2] 45 (0, 0)) (by (with_reducible repeat (first | refine blk_drewN ?_ _ | refine blk_drew ?_ | refine blk_alloc ?_ _)); exact BK200.out)) : gb226 ≠ gb200)); have n13_ := Aside0.mk ((by rw [hg]; exact Nat.ne_of_lt (blk_lt (g := gb213) (o := .cells #[.int .i8 t207, .int .i8 t208, .slice Ao24 t209.length co24] 37 (0, 0)) (by (with_reducible repeat (first | refine blk_drewN ?_ _ | refine blk_drew ?_ | refine blk_alloc ?_ _)); exact BK213.out)) : gb213 ≠ gb226)); have n14_ := Aside0.mk ((by rw [hg]; exact Nat.ne_of_gt (blk_lt (g := gb213) (o := .cells #[.int .i8 t207, .int .i8 t208, .slice Ao24 t209.length co24] 37 (0, 0)) (by (with_reducible repeat (first | refine blk_drewN ?_ _ | refine blk_drew ?_ | refine blk_alloc ?_ _)); exact BK213.out)) : gb226 ≠ gb213)); have n15_ := Aside0.mk ((by rw [hg]; exact Nat.ne_of_lt (blk_lt (g := gb219) (o := .cells #[.int .i8 t214, .int .i8 t215, .slice Ao31 t216.length co31] 37 (0, 0)) (by (with_reducible repeat (first | refine blk_drewN ?_ _ | refine blk_drew ?_ | refine blk_alloc ?_ _)); exact BK219.out)) : gb219 ≠ gb226)); have n16_ := Aside0.mk ((by rw [hg]; exact Nat.ne_of_gt (blk_lt (g := gb219) (o := .cells #[.int .i8 t214, .int .i8 t215, .slice Ao31 t216.length co31] 37 (0, 0)) (by (with_reducible repeat (first | refine blk_drewN ?_ _ | refine blk_drew ?_ | refine blk_alloc ?_ _)); exact BK219.out)) : gb226 ≠ gb219)); clear HO206; clear HO211; clear HO218; clear HO224; clear BK200; clear BK213; clear BK219; clear HB; have HO206 := n0_; have HO211 := n1_; have HO218 := n2_; have HO224 := n3_; have BK200 := n4_; have BK213 := n5_; have BK219 := n6_; have HB := n7_; have BK226 := n8_; have GW226 := n9_; have GE226 := n10_; have NB200_226 := n11_; have NB226_200 := n12_; have NB213_226 := n13_; have NB226_213 := n14_; have NB219_226 := n15_; have NB226_219 := n16_; clear n0_ n1_ n2_ n3_ n4_ n5_ n6_ n7_ n8_ n9_ n10_ n11_ n12_ n13_ n14_ n15_ n16_; clear hb hbox hg; have hnb34 := NB226_200.out; have hnc34 := NB200_226.out; have hnb35 := NB226_213.out; have hnc35 := NB213_226.out; have hnb36 := NB226_219.out; have hnc36 := NB219_226.out; have hcz37_0 : w33.cell? ⟨gb226, 0, none⟩ = some (.int .i8 0) := (blk_cell BK226.out 0).trans rfl; have hcz37_1 : w33.cell? ⟨gb226, 1, none⟩ = some (.int .i8 0) := (blk_cell BK226.out 1).trans rfl; have hcz37_2 : w33.cell? ⟨gb226, 2, none⟩ = some (.slice none 0 0) := (blk_cell BK226.out 2).trans rfl; have hfz37_0 := blk_frozen BK226.out 0; have hfz37_1 := blk_frozen BK226.out 1; have hfz37_2 := blk_frozen BK226.out 2; obtain ⟨Ao38, co38, eo38⟩ := Kd.R_slice HO224.out; subst eo38))
    (try simp only [Act.put, List.setIfInBounds_toArray, List.set_cons_zero, List.set_cons_succ])
    go_cut [48] (fun v48 wc => ∃ (kq : Nat) (x48_12 : Bool), v48 = .bool x48_12 ∧ Aside0 (laws_FnExactAddAsk.j0 kq a1 a2 t212 t225 x48_12 a0_0 a0_1 l0_2 t207 t208 t209 t214 t215 t216 t220 t221 t222 = some r) ∧ Aside0 (kq ≤ k) ∧ Aside0 (Kd.R k75 75 wc w.heap.size (fun k_ => some k_ ≠ ((.slice Ao31 t216.length co31) : Value).ownBlock ∧ some k_ ≠ ((.slice Ao38 t222.length co38) : Value).ownBlock) (.slice Ao24 t209.length co24) t209) ∧ Aside0 (Kd.R k75 75 wc w.heap.size (fun k_ => some k_ ≠ ((.slice Ao24 t209.length co24) : Value).ownBlock ∧ some k_ ≠ ((.slice Ao38 t222.length co38) : Value).ownBlock) (.slice Ao31 t216.length co31) t216) ∧ Aside0 (Kd.R k75 75 wc w.heap.size (fun k_ => some k_ ≠ ((.slice Ao24 t209.length co24) : Value).ownBlock ∧ some k_ ≠ ((.slice Ao31 t216.length co31) : Value).ownBlock) (.slice Ao38 t222.length co38) t222) ∧ Aside0 (wc.heap[gb200]? = some (.cells #[.int .i8 a0_0, .int .i8 a0_1, (.slice A0_2 l0_2.length c0_2)] 45 (0, 0))) ∧ Aside0 (wc.heap[gb213]? = some (.cells #[.int .i8 t207, .int .i8 t208, (.slice Ao24 t209.length co24)] 37 (0, 0))) ∧ Aside0 (wc.heap[gb219]? = some (.cells #[.int .i8 t214, .int .i8 t215, (.slice Ao31 t216.length co31)] 37 (0, 0))) ∧ Aside0 (wc.heap[gb226]? = some (.cells #[.int .i8 t220, .int .i8 t221, (.slice Ao38 t222.length co38)] 37 (0, 0))) ∧ Aside0 (Below w.heap.size w wc))
    case first =>
      have H := HC13.out
      clear HC13
      replace H := Option.bind_eq_some_iff.mp H
      obtain ⟨t227, A390, H⟩ := H
      replace H : (if t227 = true then (laws_FnExactAddAsk.j0 k a1 a2 t212 t225 (t225 != t212) a0_0 a0_1 l0_2 t207 t208 t209 t214 t215 t216 t220 t221 t222) else (laws_FnExactAddAsk.j0 k a1 a2 t212 t225 true a0_0 a0_1 l0_2 t207 t208 t209 t214 t215 t216 t220 t221 t222)) = some r := H
      have A39 := Aside0.mk A390
      clear A390
      by_cases c40 : t227 = true
      · subst c40
        have H1 : (laws_FnExactAddAsk.j0 k a1 a2 t212 t225 (t225 != t212) a0_0 a0_1 l0_2 t207 t208 t209 t214 t215 t216 t220 t221 t222) = some r := by rw [if_pos rfl] at H; exact H
        clear H
        have H := H1
        clear H1
        have H' := Aside0.mk H
        clear H
        have hnb41 := NB226_200.out
        have hnc41 := NB200_226.out
        have hnb42 := NB226_213.out
        have hnc42 := NB213_226.out
        have hnb43 := NB226_219.out
        have hnc43 := NB219_226.out
        have hcz44_0 : w33.cell? ⟨gb226, 0, none⟩ = some (.int .i8 0) := (blk_cell BK226.out 0).trans rfl
        have hcz44_1 : w33.cell? ⟨gb226, 1, none⟩ = some (.int .i8 0) := (blk_cell BK226.out 1).trans rfl
        have hcz44_2 : w33.cell? ⟨gb226, 2, none⟩ = some (.slice none 0 0) := (blk_cell BK226.out 2).trans rfl
        have hfz44_0 := blk_frozen BK226.out 0
        have hfz44_1 := blk_frozen BK226.out 1
        have hfz44_2 := blk_frozen BK226.out 2
        have hnb45 := NB213_200.out
        have hnc45 := NB200_213.out
        have hnb46 := NB213_219.out
        have hnc46 := NB219_213.out
        have hcz47_0 : w33.cell? ⟨gb213, 0, none⟩ = some (.int .i8 t207) := (blk_cell BK213.out 0).trans rfl
        have hcz47_1 : w33.cell? ⟨gb213, 1, none⟩ = some (.int .i8 t208) := (blk_cell BK213.out 1).trans rfl
        have hcz47_2 : w33.cell? ⟨gb213, 2, none⟩ = some (.slice Ao24 t209.length co24) := (blk_cell BK213.out 2).trans rfl
        have hfz47_0 := blk_frozen BK213.out 0
        have hfz47_1 := blk_frozen BK213.out 1
        have hfz47_2 := blk_frozen BK213.out 2
        go_wp2_with (first | ((with_reducible refine gate_callee (f := 27) rfl ?_); refine goesL_ (some 42) rfl rfl Try.func27 (by kernel_rfl) rfl #[.agg #[.int .i8 t220, .int .i8 t221, .slice Ao38 t222.length co38], .agg #[.int .i8 t207, .int .i8 t208, .slice Ao24 t209.length co24]] rfl (by (try simp only [List.map_toArray, List.map_cons, List.map_nil]); first | done | rfl | (simp only [List.length_drop, List.length_take]; rfl)) ?_; (with_reducible refine (laws_eqGame.calls k t220 t221 _ _ t222 t207 t208 _ _ t209 true _ ?side1 ?side2 ?side3 ?side4 A39.out).mono ?_); (case side1 => refine (Kd.R_reads' (e := 75) (base := w.heap.size) (ok := fun k_ => (((True ∧ some k_ ≠ (.slice Ao19 t204.length co19 : Value).ownBlock) ∧ some k_ ≠ (.slice Ao24 t209.length co24 : Value).ownBlock) ∧ some k_ ≠ (.slice Ao31 t216.length co31 : Value).ownBlock)) (n := t222.length) (c := co38) ?_).2.2; exact (by (with_reducible repeat (first | apply Kd.R_alloc | apply Kd.R_drewN | apply Kd.R_drew)); exact (Kd.R_mono (Kd.R_far (p := ⟨gb226, 2, none⟩) (Kd.R_far (p := ⟨gb226, 1, none⟩) (Kd.R_far (p := ⟨gb226, 0, none⟩) (Kd.R_types HO224.out BK226.out (by decide)) (fun _ hk => hk.2) (.int .i8 t220)) (fun _ hk => hk.2) (.int .i8 t221)) (fun _ hk => hk.2) (.slice Ao38 t222.length co38)) (fun _ h_ => h_.1)))); (case side2 => exact (Kd.R_reads' HO224.out).2.1); (case side3 => refine (Kd.R_reads' (e := 75) (base := w.heap.size) (ok := fun k_ => (((True ∧ some k_ ≠ (.slice Ao19 t204.length co19 : Value).ownBlock) ∧ some k_ ≠ (.slice Ao31 t216.length co31 : Value).ownBlock) ∧ some k_ ≠ (.slice Ao38 t222.length co38 : Value).ownBlock)) (n := t209.length) (c := co24) ?_).2.2; exact (by (with_reducible repeat (first | apply Kd.R_alloc | apply Kd.R_drewN | apply Kd.R_drew)); exact (Kd.R_mono (Kd.R_far (p := ⟨gb226, 2, none⟩) (Kd.R_far (p := ⟨gb226, 1, none⟩) (Kd.R_far (p := ⟨gb226, 0, none⟩) (Kd.R_types HO211.out BK226.out (by decide)) (fun _ hk => hk.2) (.int .i8 t220)) (fun _ hk => hk.2) (.int .i8 t221)) (fun _ hk => hk.2) (.slice Ao38 t222.length co38)) (fun _ h_ => h_.1)))); (case side4 => exact (Kd.R_reads' HO211.out).2.1); rintro e w48 ⟨rfl, hb⟩; refine ⟨_, rfl, ?_⟩; have n0_ := Aside0.mk (Kd.R_below (by (with_reducible repeat (first | apply Kd.R_alloc | apply Kd.R_drewN | apply Kd.R_drew)); exact (Kd.R_mono (Kd.R_far (p := ⟨gb226, 2, none⟩) (Kd.R_far (p := ⟨gb226, 1, none⟩) (Kd.R_far (p := ⟨gb226, 0, none⟩) (Kd.R_types HO206.out BK226.out (by decide)) (fun _ hk => hk.2) (.int .i8 t220)) (fun _ hk => hk.2) (.int .i8 t221)) (fun _ hk => hk.2) (.slice Ao38 t222.length co38)) (fun _ h_ => h_.1))) hb); have n1_ := Aside0.mk (Kd.R_below (by (with_reducible repeat (first | apply Kd.R_alloc | apply Kd.R_drewN | apply Kd.R_drew)); exact (Kd.R_mono (Kd.R_far (p := ⟨gb226, 2, none⟩) (Kd.R_far (p := ⟨gb226, 1, none⟩) (Kd.R_far (p := ⟨gb226, 0, none⟩) (Kd.R_types HO211.out BK226.out (by decide)) (fun _ hk => hk.2) (.int .i8 t220)) (fun _ hk => hk.2) (.int .i8 t221)) (fun _ hk => hk.2) (.slice Ao38 t222.length co38)) (fun _ h_ => h_.1))) hb); have n2_ := Aside0.mk (Kd.R_below (by (with_reducible repeat (first | apply Kd.R_alloc | apply Kd.R_drewN | apply Kd.R_drew)); exact (Kd.R_mono (Kd.R_far (p := ⟨gb226, 2, none⟩) (Kd.R_far (p := ⟨gb226, 1, none⟩) (Kd.R_far (p := ⟨gb226, 0, none⟩) (Kd.R_types HO218.out BK226.out (by decide)) (fun _ hk => hk.2) (.int .i8 t220)) (fun _ hk => hk.2) (.int .i8 t221)) (fun _ hk => hk.2) (.slice Ao38 t222.length co38)) (fun _ h_ => h_.1))) hb); have n3_ := Aside0.mk (Kd.R_below (by (with_reducible repeat (first | apply Kd.R_alloc | apply Kd.R_drewN | apply Kd.R_drew)); exact (Kd.R_mono (Kd.R_far (p := ⟨gb226, 2, none⟩) (Kd.R_far (p := ⟨gb226, 1, none⟩) (Kd.R_far (p := ⟨gb226, 0, none⟩) (Kd.R_types HO224.out BK226.out (by decide)) (fun _ hk => hk.2) (.int .i8 t220)) (fun _ hk => hk.2) (.int .i8 t221)) (fun _ hk => hk.2) (.slice Ao38 t222.length co38)) (fun _ h_ => h_.1))) hb); have n4_ := Aside0.mk (blk_below (g := gb200) (o := .cells #[.int .i8 a0_0, .int .i8 a0_1, .slice A0_2 l0_2.length c0_2] 45 (0, 0)) (by (with_reducible repeat (first | refine blk_drewN ?_ _ | refine blk_drew ?_ | refine blk_alloc ?_ _)); refine blk_far ?_ NB200_226.out _; (with_reducible repeat (first | refine blk_drewN ?_ _ | refine blk_drew ?_ | refine blk_alloc ?_ _)); refine blk_far ?_ NB200_226.out _; (with_reducible repeat (first | refine blk_drewN ?_ _ | refine blk_drew ?_ | refine blk_alloc ?_ _)); refine blk_far ?_ NB200_226.out _; (with_reducible repeat (first | refine blk_drewN ?_ _ | refine blk_drew ?_ | refine blk_alloc ?_ _)); exact BK200.out) hb); have n5_ := Aside0.mk (blk_below (g := gb213) (o := .cells #[.int .i8 t207, .int .i8 t208, .slice Ao24 t209.length co24] 37 (0, 0)) (by (with_reducible repeat (first | refine blk_drewN ?_ _ | refine blk_drew ?_ | refine blk_alloc ?_ _)); refine blk_far ?_ NB213_226.out _; (with_reducible repeat (first | refine blk_drewN ?_ _ | refine blk_drew ?_ | refine blk_alloc ?_ _)); refine blk_far ?_ NB213_226.out _; (with_reducible repeat (first | refine blk_drewN ?_ _ | refine blk_drew ?_ | refine blk_alloc ?_ _)); refine blk_far ?_ NB213_226.out _; (with_reducible repeat (first | refine blk_drewN ?_ _ | refine blk_drew ?_ | refine blk_alloc ?_ _)); exact BK213.out) hb); have n6_ := Aside0.mk (blk_below (g := gb219) (o := .cells #[.int .i8 t214, .int .i8 t215, .slice Ao31 t216.length co31] 37 (0, 0)) (by (with_reducible repeat (first | refine blk_drewN ?_ _ | refine blk_drew ?_ | refine blk_alloc ?_ _)); refine blk_far ?_ NB219_226.out _; (with_reducible repeat (first | refine blk_drewN ?_ _ | refine blk_drew ?_ | refine blk_alloc ?_ _)); refine blk_far ?_ NB219_226.out _; (with_reducible repeat (first | refine blk_drewN ?_ _ | refine blk_drew ?_ | refine blk_alloc ?_ _)); refine blk_far ?_ NB219_226.out _; (with_reducible repeat (first | refine blk_drewN ?_ _ | refine blk_drew ?_ | refine blk_alloc ?_ _)); exact BK219.out) hb); have n7_ := Aside0.mk (blk_below (g := gb226) (o := .cells #[.int .i8 t220, .int .i8 t221, .slice Ao38 t222.length co38] 37 (0, 0)) (by (with_reducible repeat (first | refine blk_drewN ?_ _ | refine blk_drew ?_ | refine blk_alloc ?_ _)); refine blk_put (cs := #[.int .i8 t220, .int .i8 t221, .slice none 0 0]) ?_ 2 _ rfl; (with_reducible repeat (first | refine blk_drewN ?_ _ | refine blk_drew ?_ | refine blk_alloc ?_ _)); refine blk_put (cs := #[.int .i8 t220, .int .i8 0, .slice none 0 0]) ?_ 1 _ rfl; (with_reducible repeat (first | refine blk_drewN ?_ _ | refine blk_drew ?_ | refine blk_alloc ?_ _)); refine blk_put (cs := #[.int .i8 0, .int .i8 0, .slice none 0 0]) ?_ 0 _ rfl; (with_reducible repeat (first | refine blk_drewN ?_ _ | refine blk_drew ?_ | refine blk_alloc ?_ _)); exact BK226.out) hb); have n8_ := Aside0.mk (below_step (by repeat (first | (with_reducible first | exact HB.out | apply below_alloc | apply pw_below_drewN | apply below_drew1 | refine below_set ?_ GE200.out | refine below_set ?_ GE213.out | refine below_set ?_ GE219.out | refine below_set ?_ GE226.out) | exact HB.out)) hb); clear HO206; clear HO211; clear HO218; clear HO224; clear BK200; clear BK213; clear BK219; clear BK226; clear HB; have HO206 := n0_; have HO211 := n1_; have HO218 := n2_; have HO224 := n3_; have BK200 := n4_; have BK213 := n5_; have BK219 := n6_; have BK226 := n7_; have HB := n8_; clear n0_ n1_ n2_ n3_ n4_ n5_ n6_ n7_ n8_; (try clear hb); (try clear hb2); (try clear hk); (try clear hi)))
        go_meet
        case rel => exact ⟨_, ((t225 != t212)), (by first | rfl | (simp; done) | (simp [*]; done)), H', ⟨by first | omega | exact Nat.le_refl _⟩, ⟨by (with_reducible repeat (first | apply Kd.R_alloc | apply Kd.R_drewN | apply Kd.R_drew)); exact Kd.R_mono HO211.out (fun _ hk => ⟨hk.1.2, hk.2⟩)⟩, ⟨by (with_reducible repeat (first | apply Kd.R_alloc | apply Kd.R_drewN | apply Kd.R_drew)); exact Kd.R_mono HO218.out (fun _ hk => ⟨hk.1.2, hk.2⟩)⟩, ⟨by (with_reducible repeat (first | apply Kd.R_alloc | apply Kd.R_drewN | apply Kd.R_drew)); exact Kd.R_mono HO224.out (fun _ hk => ⟨hk.1.2, hk.2⟩)⟩, ⟨by (with_reducible repeat (first | refine blk_drewN ?_ _ | refine blk_drew ?_ | refine blk_alloc ?_ _)); exact BK200.out⟩, ⟨by (with_reducible repeat (first | refine blk_drewN ?_ _ | refine blk_drew ?_ | refine blk_alloc ?_ _)); exact BK213.out⟩, ⟨by (with_reducible repeat (first | refine blk_drewN ?_ _ | refine blk_drew ?_ | refine blk_alloc ?_ _)); exact BK219.out⟩, ⟨by (with_reducible repeat (first | refine blk_drewN ?_ _ | refine blk_drew ?_ | refine blk_alloc ?_ _)); exact BK226.out⟩, ⟨by repeat (first | (with_reducible first | exact HB.out | apply below_alloc | apply pw_below_drewN | apply below_drew1 | refine below_set ?_ GE200.out | refine below_set ?_ GE213.out | refine below_set ?_ GE219.out | refine below_set ?_ GE226.out) | exact HB.out)⟩⟩
      · replace c40 := Bool.eq_false_iff.mpr c40
        subst c40
        have H1 : (laws_FnExactAddAsk.j0 k a1 a2 t212 t225 true a0_0 a0_1 l0_2 t207 t208 t209 t214 t215 t216 t220 t221 t222) = some r := by rw [if_neg (show ¬ (false = true) by decide)] at H; exact H
        clear H
        have H := H1
        clear H1
        have H' := Aside0.mk H
        clear H
        have hnb49 := NB226_200.out
        have hnc49 := NB200_226.out
        have hnb50 := NB226_213.out
        have hnc50 := NB213_226.out
        have hnb51 := NB226_219.out
        have hnc51 := NB219_226.out
        have hcz52_0 : w33.cell? ⟨gb226, 0, none⟩ = some (.int .i8 0) := (blk_cell BK226.out 0).trans rfl
        have hcz52_1 : w33.cell? ⟨gb226, 1, none⟩ = some (.int .i8 0) := (blk_cell BK226.out 1).trans rfl
        have hcz52_2 : w33.cell? ⟨gb226, 2, none⟩ = some (.slice none 0 0) := (blk_cell BK226.out 2).trans rfl
        have hfz52_0 := blk_frozen BK226.out 0
        have hfz52_1 := blk_frozen BK226.out 1
        have hfz52_2 := blk_frozen BK226.out 2
        have hnb53 := NB213_200.out
        have hnc53 := NB200_213.out
        have hnb54 := NB213_219.out
        have hnc54 := NB219_213.out
        have hcz55_0 : w33.cell? ⟨gb213, 0, none⟩ = some (.int .i8 t207) := (blk_cell BK213.out 0).trans rfl
        have hcz55_1 : w33.cell? ⟨gb213, 1, none⟩ = some (.int .i8 t208) := (blk_cell BK213.out 1).trans rfl
        have hcz55_2 : w33.cell? ⟨gb213, 2, none⟩ = some (.slice Ao24 t209.length co24) := (blk_cell BK213.out 2).trans rfl
        have hfz55_0 := blk_frozen BK213.out 0
        have hfz55_1 := blk_frozen BK213.out 1
        have hfz55_2 := blk_frozen BK213.out 2
        go_wp2_with (first | ((with_reducible refine gate_callee (f := 27) rfl ?_); refine goesL_ (some 42) rfl rfl Try.func27 (by kernel_rfl) rfl #[.agg #[.int .i8 t220, .int .i8 t221, .slice Ao38 t222.length co38], .agg #[.int .i8 t207, .int .i8 t208, .slice Ao24 t209.length co24]] rfl (by (try simp only [List.map_toArray, List.map_cons, List.map_nil]); first | done | rfl | (simp only [List.length_drop, List.length_take]; rfl)) ?_; (with_reducible refine (laws_eqGame.calls k t220 t221 _ _ t222 t207 t208 _ _ t209 false _ ?side1 ?side2 ?side3 ?side4 A39.out).mono ?_); (case side1 => refine (Kd.R_reads' (e := 75) (base := w.heap.size) (ok := fun k_ => (((True ∧ some k_ ≠ (.slice Ao19 t204.length co19 : Value).ownBlock) ∧ some k_ ≠ (.slice Ao24 t209.length co24 : Value).ownBlock) ∧ some k_ ≠ (.slice Ao31 t216.length co31 : Value).ownBlock)) (n := t222.length) (c := co38) ?_).2.2; exact (by (with_reducible repeat (first | apply Kd.R_alloc | apply Kd.R_drewN | apply Kd.R_drew)); exact (Kd.R_mono (Kd.R_far (p := ⟨gb226, 2, none⟩) (Kd.R_far (p := ⟨gb226, 1, none⟩) (Kd.R_far (p := ⟨gb226, 0, none⟩) (Kd.R_types HO224.out BK226.out (by decide)) (fun _ hk => hk.2) (.int .i8 t220)) (fun _ hk => hk.2) (.int .i8 t221)) (fun _ hk => hk.2) (.slice Ao38 t222.length co38)) (fun _ h_ => h_.1)))); (case side2 => exact (Kd.R_reads' HO224.out).2.1); (case side3 => refine (Kd.R_reads' (e := 75) (base := w.heap.size) (ok := fun k_ => (((True ∧ some k_ ≠ (.slice Ao19 t204.length co19 : Value).ownBlock) ∧ some k_ ≠ (.slice Ao31 t216.length co31 : Value).ownBlock) ∧ some k_ ≠ (.slice Ao38 t222.length co38 : Value).ownBlock)) (n := t209.length) (c := co24) ?_).2.2; exact (by (with_reducible repeat (first | apply Kd.R_alloc | apply Kd.R_drewN | apply Kd.R_drew)); exact (Kd.R_mono (Kd.R_far (p := ⟨gb226, 2, none⟩) (Kd.R_far (p := ⟨gb226, 1, none⟩) (Kd.R_far (p := ⟨gb226, 0, none⟩) (Kd.R_types HO211.out BK226.out (by decide)) (fun _ hk => hk.2) (.int .i8 t220)) (fun _ hk => hk.2) (.int .i8 t221)) (fun _ hk => hk.2) (.slice Ao38 t222.length co38)) (fun _ h_ => h_.1)))); (case side4 => exact (Kd.R_reads' HO211.out).2.1); rintro e w56 ⟨rfl, hb⟩; refine ⟨_, rfl, ?_⟩; have n0_ := Aside0.mk (Kd.R_below (by (with_reducible repeat (first | apply Kd.R_alloc | apply Kd.R_drewN | apply Kd.R_drew)); exact (Kd.R_mono (Kd.R_far (p := ⟨gb226, 2, none⟩) (Kd.R_far (p := ⟨gb226, 1, none⟩) (Kd.R_far (p := ⟨gb226, 0, none⟩) (Kd.R_types HO206.out BK226.out (by decide)) (fun _ hk => hk.2) (.int .i8 t220)) (fun _ hk => hk.2) (.int .i8 t221)) (fun _ hk => hk.2) (.slice Ao38 t222.length co38)) (fun _ h_ => h_.1))) hb); have n1_ := Aside0.mk (Kd.R_below (by (with_reducible repeat (first | apply Kd.R_alloc | apply Kd.R_drewN | apply Kd.R_drew)); exact (Kd.R_mono (Kd.R_far (p := ⟨gb226, 2, none⟩) (Kd.R_far (p := ⟨gb226, 1, none⟩) (Kd.R_far (p := ⟨gb226, 0, none⟩) (Kd.R_types HO211.out BK226.out (by decide)) (fun _ hk => hk.2) (.int .i8 t220)) (fun _ hk => hk.2) (.int .i8 t221)) (fun _ hk => hk.2) (.slice Ao38 t222.length co38)) (fun _ h_ => h_.1))) hb); have n2_ := Aside0.mk (Kd.R_below (by (with_reducible repeat (first | apply Kd.R_alloc | apply Kd.R_drewN | apply Kd.R_drew)); exact (Kd.R_mono (Kd.R_far (p := ⟨gb226, 2, none⟩) (Kd.R_far (p := ⟨gb226, 1, none⟩) (Kd.R_far (p := ⟨gb226, 0, none⟩) (Kd.R_types HO218.out BK226.out (by decide)) (fun _ hk => hk.2) (.int .i8 t220)) (fun _ hk => hk.2) (.int .i8 t221)) (fun _ hk => hk.2) (.slice Ao38 t222.length co38)) (fun _ h_ => h_.1))) hb); have n3_ := Aside0.mk (Kd.R_below (by (with_reducible repeat (first | apply Kd.R_alloc | apply Kd.R_drewN | apply Kd.R_drew)); exact (Kd.R_mono (Kd.R_far (p := ⟨gb226, 2, none⟩) (Kd.R_far (p := ⟨gb226, 1, none⟩) (Kd.R_far (p := ⟨gb226, 0, none⟩) (Kd.R_types HO224.out BK226.out (by decide)) (fun _ hk => hk.2) (.int .i8 t220)) (fun _ hk => hk.2) (.int .i8 t221)) (fun _ hk => hk.2) (.slice Ao38 t222.length co38)) (fun _ h_ => h_.1))) hb); have n4_ := Aside0.mk (blk_below (g := gb200) (o := .cells #[.int .i8 a0_0, .int .i8 a0_1, .slice A0_2 l0_2.length c0_2] 45 (0, 0)) (by (with_reducible repeat (first | refine blk_drewN ?_ _ | refine blk_drew ?_ | refine blk_alloc ?_ _)); refine blk_far ?_ NB200_226.out _; (with_reducible repeat (first | refine blk_drewN ?_ _ | refine blk_drew ?_ | refine blk_alloc ?_ _)); refine blk_far ?_ NB200_226.out _; (with_reducible repeat (first | refine blk_drewN ?_ _ | refine blk_drew ?_ | refine blk_alloc ?_ _)); refine blk_far ?_ NB200_226.out _; (with_reducible repeat (first | refine blk_drewN ?_ _ | refine blk_drew ?_ | refine blk_alloc ?_ _)); exact BK200.out) hb); have n5_ := Aside0.mk (blk_below (g := gb213) (o := .cells #[.int .i8 t207, .int .i8 t208, .slice Ao24 t209.length co24] 37 (0, 0)) (by (with_reducible repeat (first | refine blk_drewN ?_ _ | refine blk_drew ?_ | refine blk_alloc ?_ _)); refine blk_far ?_ NB213_226.out _; (with_reducible repeat (first | refine blk_drewN ?_ _ | refine blk_drew ?_ | refine blk_alloc ?_ _)); refine blk_far ?_ NB213_226.out _; (with_reducible repeat (first | refine blk_drewN ?_ _ | refine blk_drew ?_ | refine blk_alloc ?_ _)); refine blk_far ?_ NB213_226.out _; (with_reducible repeat (first | refine blk_drewN ?_ _ | refine blk_drew ?_ | refine blk_alloc ?_ _)); exact BK213.out) hb); have n6_ := Aside0.mk (blk_below (g := gb219) (o := .cells #[.int .i8 t214, .int .i8 t215, .slice Ao31 t216.length co31] 37 (0, 0)) (by (with_reducible repeat (first | refine blk_drewN ?_ _ | refine blk_drew ?_ | refine blk_alloc ?_ _)); refine blk_far ?_ NB219_226.out _; (with_reducible repeat (first | refine blk_drewN ?_ _ | refine blk_drew ?_ | refine blk_alloc ?_ _)); refine blk_far ?_ NB219_226.out _; (with_reducible repeat (first | refine blk_drewN ?_ _ | refine blk_drew ?_ | refine blk_alloc ?_ _)); refine blk_far ?_ NB219_226.out _; (with_reducible repeat (first | refine blk_drewN ?_ _ | refine blk_drew ?_ | refine blk_alloc ?_ _)); exact BK219.out) hb); have n7_ := Aside0.mk (blk_below (g := gb226) (o := .cells #[.int .i8 t220, .int .i8 t221, .slice Ao38 t222.length co38] 37 (0, 0)) (by (with_reducible repeat (first | refine blk_drewN ?_ _ | refine blk_drew ?_ | refine blk_alloc ?_ _)); refine blk_put (cs := #[.int .i8 t220, .int .i8 t221, .slice none 0 0]) ?_ 2 _ rfl; (with_reducible repeat (first | refine blk_drewN ?_ _ | refine blk_drew ?_ | refine blk_alloc ?_ _)); refine blk_put (cs := #[.int .i8 t220, .int .i8 0, .slice none 0 0]) ?_ 1 _ rfl; (with_reducible repeat (first | refine blk_drewN ?_ _ | refine blk_drew ?_ | refine blk_alloc ?_ _)); refine blk_put (cs := #[.int .i8 0, .int .i8 0, .slice none 0 0]) ?_ 0 _ rfl; (with_reducible repeat (first | refine blk_drewN ?_ _ | refine blk_drew ?_ | refine blk_alloc ?_ _)); exact BK226.out) hb); have n8_ := Aside0.mk (below_step (by repeat (first | (with_reducible first | exact HB.out | apply below_alloc | apply pw_below_drewN | apply below_drew1 | refine below_set ?_ GE200.out | refine below_set ?_ GE213.out | refine below_set ?_ GE219.out | refine below_set ?_ GE226.out) | exact HB.out)) hb); clear HO206; clear HO211; clear HO218; clear HO224; clear BK200; clear BK213; clear BK219; clear BK226; clear HB; have HO206 := n0_; have HO211 := n1_; have HO218 := n2_; have HO224 := n3_; have BK200 := n4_; have BK213 := n5_; have BK219 := n6_; have BK226 := n7_; have HB := n8_; clear n0_ n1_ n2_ n3_ n4_ n5_ n6_ n7_ n8_; (try clear hb); (try clear hb2); (try clear hk); (try clear hi)))
        go_meet
        case rel => exact ⟨_, (true), (by first | rfl | (simp; done) | (simp [*]; done)), H', ⟨by first | omega | exact Nat.le_refl _⟩, ⟨by (with_reducible repeat (first | apply Kd.R_alloc | apply Kd.R_drewN | apply Kd.R_drew)); exact Kd.R_mono HO211.out (fun _ hk => ⟨hk.1.2, hk.2⟩)⟩, ⟨by (with_reducible repeat (first | apply Kd.R_alloc | apply Kd.R_drewN | apply Kd.R_drew)); exact Kd.R_mono HO218.out (fun _ hk => ⟨hk.1.2, hk.2⟩)⟩, ⟨by (with_reducible repeat (first | apply Kd.R_alloc | apply Kd.R_drewN | apply Kd.R_drew)); exact Kd.R_mono HO224.out (fun _ hk => ⟨hk.1.2, hk.2⟩)⟩, ⟨by (with_reducible repeat (first | refine blk_drewN ?_ _ | refine blk_drew ?_ | refine blk_alloc ?_ _)); exact BK200.out⟩, ⟨by (with_reducible repeat (first | refine blk_drewN ?_ _ | refine blk_drew ?_ | refine blk_alloc ?_ _)); exact BK213.out⟩, ⟨by (with_reducible repeat (first | refine blk_drewN ?_ _ | refine blk_drew ?_ | refine blk_alloc ?_ _)); exact BK219.out⟩, ⟨by (with_reducible repeat (first | refine blk_drewN ?_ _ | refine blk_drew ?_ | refine blk_alloc ?_ _)); exact BK226.out⟩, ⟨by repeat (first | (with_reducible first | exact HB.out | apply below_alloc | apply pw_below_drewN | apply below_drew1 | refine below_set ?_ GE200.out | refine below_set ?_ GE213.out | refine below_set ?_ GE219.out | refine below_set ?_ GE226.out) | exact HB.out)⟩⟩
    case rest =>
      clear HC13
      try clear c1
      try clear c2
      try clear p2
      try clear c3
      try clear c4
      try clear c5
      try clear c5b0
      try clear c13
      try clear c22
      try clear c27
      try clear c28
      try clear c29
      try clear c30
      try clear c32
      try clear c34
      try clear c35
      try clear c36
      try clear c40
      try clear c41
      try clear c42
      try clear c43
      try clear c45
      try clear c46
      try clear c49
      try clear c50
      try clear c51
      try clear c53
      try clear c54
      try clear hcz15_0
      try clear hcz15_1
      try clear hcz15_2
      try clear hcz17_0
      try clear hcz17_1
      try clear hcz17_2
      try clear hcz23_0
      try clear hcz23_1
      try clear hcz23_2
      try clear hcz25_0
      try clear hcz25_1
      try clear hcz25_2
      try clear hcz30_0
      try clear hcz30_1
      try clear hcz30_2
      try clear hcz37_0
      try clear hcz37_1
      try clear hcz37_2
      try clear hcz44_0
      try clear hcz44_1
      try clear hcz44_2
      try clear hcz47_0
      try clear hcz47_1
      try clear hcz47_2
      try clear hcz52_0
      try clear hcz52_1
      try clear hcz52_2
      try clear hcz55_0
      try clear hcz55_1
      try clear hcz55_2
      try clear hcz7_0
      try clear hcz7_1
      try clear hcz7_2
      try clear hfz15_0
      try clear hfz15_1
      try clear hfz15_2
      try clear hfz17_0
      try clear hfz17_1
      try clear hfz17_2
      try clear hfz23_0
      try clear hfz23_1
      try clear hfz23_2
      try clear hfz25_0
      try clear hfz25_1
      try clear hfz25_2
      try clear hfz30_0
      try clear hfz30_1
      try clear hfz30_2
      try clear hfz37_0
      try clear hfz37_1
      try clear hfz37_2
      try clear hfz44_0
      try clear hfz44_1
      try clear hfz44_2
      try clear hfz47_0
      try clear hfz47_1
      try clear hfz47_2
      try clear hfz52_0
      try clear hfz52_1
      try clear hfz52_2
      try clear hfz55_0
      try clear hfz55_1
      try clear hfz55_2
      try clear hfz7_0
      try clear hfz7_1
      try clear hfz7_2
      obtain ⟨kq, x48_12, rfl, HA, HJ12, HO_214002, HO_220002, HO_227002, BK200, BK213, BK219, BK226, HB⟩ := hcut
      cases kq with
      | zero => exact absurd HA.out (by simp [laws_FnExactAddAsk.j0])
      | succ kj12 =>
        have H := HA.out
        clear HA
        simp only [laws_FnExactAddAsk.j0] at H
        by_cases c57 : x48_12 = true
        · subst c57
          have H1 : (some false) = some r := by rw [if_pos rfl] at H; exact H
          clear H
          have H := H1
          clear H1
          obtain rfl := Option.some.inj H
          go_wp2
          go_ret
          exact ⟨by first | rfl | (simp [errW_none, errW_some] <;> rfl) | (simp [*, errW_none, errW_some] <;> rfl), by repeat (first | (with_reducible first | exact HB.out | apply below_alloc | apply pw_below_drewN | apply below_drew1 | refine below_set ?_ GE200.out | refine below_set ?_ GE213.out | refine below_set ?_ GE219.out | refine below_set ?_ GE226.out) | exact HB.out)⟩
        · replace c57 := Bool.eq_false_iff.mpr c57
          subst c57
          have H1 : ((laws_toGame.f kj12 a0_0 a0_1 l0_2).bind fun bt228 => ((laws_eqGame.f kj12 t214 t215 t216 bt228.1 bt228.2.1 bt228.2.2).bind fun t233 => (if t233 = true then ((laws_markGame.f kj12 t214 t215 t216 1).bind fun bt234 => (if bt234.1 < 0 then (laws_FnExactAddAsk.j1 kj12 a1 a2 t212 true a0_0 a0_1 l0_2 t207 t208 t209 t220 t221 t222) else ((laws_eqGame.f kj12 t220 t221 t222 t207 t208 t209).bind fun t236 => (if t236 = true then (laws_FnExactAddAsk.j1 kj12 a1 a2 t212 (t225 != t212) a0_0 a0_1 l0_2 t207 t208 t209 t220 t221 t222) else (laws_FnExactAddAsk.j1 kj12 a1 a2 t212 true a0_0 a0_1 l0_2 t207 t208 t209 t220 t221 t222))))) else (some false)))) = some r := by rw [if_neg (show ¬ (false = true) by decide)] at H; exact H
          clear H
          have H := H1
          clear H1
          replace H := Option.bind_eq_some_iff.mp H
          obtain ⟨⟨t228, t229, t230⟩, A580, H⟩ := H
          replace H : ((laws_eqGame.f kj12 t214 t215 t216 t228 t229 t230).bind fun t233 => (if t233 = true then ((laws_markGame.f kj12 t214 t215 t216 1).bind fun bt234 => (if bt234.1 < 0 then (laws_FnExactAddAsk.j1 kj12 a1 a2 t212 true a0_0 a0_1 l0_2 t207 t208 t209 t220 t221 t222) else ((laws_eqGame.f kj12 t220 t221 t222 t207 t208 t209).bind fun t236 => (if t236 = true then (laws_FnExactAddAsk.j1 kj12 a1 a2 t212 (t225 != t212) a0_0 a0_1 l0_2 t207 t208 t209 t220 t221 t222) else (laws_FnExactAddAsk.j1 kj12 a1 a2 t212 true a0_0 a0_1 l0_2 t207 t208 t209 t220 t221 t222))))) else (some false))) = some r := H
          have A58 := Aside0.mk A580
          clear A580
          replace H := Option.bind_eq_some_iff.mp H
          obtain ⟨t233, A590, H⟩ := H
          replace H : (if t233 = true then ((laws_markGame.f kj12 t214 t215 t216 1).bind fun bt234 => (if bt234.1 < 0 then (laws_FnExactAddAsk.j1 kj12 a1 a2 t212 true a0_0 a0_1 l0_2 t207 t208 t209 t220 t221 t222) else ((laws_eqGame.f kj12 t220 t221 t222 t207 t208 t209).bind fun t236 => (if t236 = true then (laws_FnExactAddAsk.j1 kj12 a1 a2 t212 (t225 != t212) a0_0 a0_1 l0_2 t207 t208 t209 t220 t221 t222) else (laws_FnExactAddAsk.j1 kj12 a1 a2 t212 true a0_0 a0_1 l0_2 t207 t208 t209 t220 t221 t222))))) else (some false)) = some r := H
          have A59 := Aside0.mk A590
          clear A590
          by_cases c60 : t233 = true
          · subst c60
            have H1 : ((laws_markGame.f kj12 t214 t215 t216 1).bind fun bt234 => (if bt234.1 < 0 then (laws_FnExactAddAsk.j1 kj12 a1 a2 t212 true a0_0 a0_1 l0_2 t207 t208 t209 t220 t221 t222) else ((laws_eqGame.f kj12 t220 t221 t222 t207 t208 t209).bind fun t236 => (if t236 = true then (laws_FnExactAddAsk.j1 kj12 a1 a2 t212 (t225 != t212) a0_0 a0_1 l0_2 t207 t208 t209 t220 t221 t222) else (laws_FnExactAddAsk.j1 kj12 a1 a2 t212 true a0_0 a0_1 l0_2 t207 t208 t209 t220 t221 t222))))) = some r := by rw [if_pos rfl] at H; exact H
            clear H
            have H := H1
            clear H1
            replace H := Option.bind_eq_some_iff.mp H
            obtain ⟨⟨t234, t235⟩, A610, H⟩ := H
            replace H : (if t234 < 0 then (laws_FnExactAddAsk.j1 kj12 a1 a2 t212 true a0_0 a0_1 l0_2 t207 t208 t209 t220 t221 t222) else ((laws_eqGame.f kj12 t220 t221 t222 t207 t208 t209).bind fun t236 => (if t236 = true then (laws_FnExactAddAsk.j1 kj12 a1 a2 t212 (t225 != t212) a0_0 a0_1 l0_2 t207 t208 t209 t220 t221 t222) else (laws_FnExactAddAsk.j1 kj12 a1 a2 t212 true a0_0 a0_1 l0_2 t207 t208 t209 t220 t221 t222)))) = some r := H
            have A61 := Aside0.mk A610
            clear A610
            have HC62 := Aside0.mk H
            clear H
            try go_wp2
            have n0_ := Aside0.mk (Kd.R_drew HO_214002.out)
            have n1_ := Aside0.mk (Kd.R_drew HO_220002.out)
            have n2_ := Aside0.mk (Kd.R_drew HO_227002.out)
            have n3_ := Aside0.mk (blk_drew BK200.out)
            have n4_ := Aside0.mk (blk_drew BK213.out)
            have n5_ := Aside0.mk (blk_drew BK219.out)
            have n6_ := Aside0.mk (blk_drew BK226.out)
            have n7_ := Aside0.mk (below_drew1 HB.out)
            clear HO_214002
            clear HO_220002
            clear HO_227002
            clear BK200
            clear BK213
            clear BK219
            clear BK226
            clear HB
            have HO_214002 := n0_
            have HO_220002 := n1_
            have HO_227002 := n2_
            have BK200 := n3_
            have BK213 := n4_
            have BK219 := n5_
            have BK226 := n6_
            have HB := n7_
            clear n0_ n1_ n2_ n3_ n4_ n5_ n6_ n7_
            refine start_ (n := 5) (S := fun w' => w'.cell? ⟨gb219, 0, none⟩ = some (.int .i8 t214) ∧ w'.cell? ⟨gb219, 1, none⟩ = some (.int .i8 t215) ∧ w'.cell? ⟨gb219, 2, none⟩ = some (.slice Ao31 t216.length co31) ∧ w'.cell? ⟨gb200, 0, none⟩ = some (.int .i8 a0_0) ∧ w'.cell? ⟨gb200, 1, none⟩ = some (.int .i8 a0_1) ∧ w'.cell? ⟨gb200, 2, none⟩ = some (.slice A0_2 l0_2.length c0_2)) (ds := []) #[false, false, false, false, false] (by kernel_rfl) rfl rfl ⟨(blk_cell BK219.out 0).trans rfl, (blk_cell BK219.out 1).trans rfl, (blk_cell BK219.out 2).trans rfl, (blk_cell BK200.out 0).trans rfl, (blk_cell BK200.out 1).trans rfl, (blk_cell BK200.out 2).trans rfl⟩ (fun hHeld => ?_)
            generalize wc.drew = w63 at HO_214002 HO_220002 HO_227002 BK200 BK213 BK219 BK226 HB hHeld ⊢
            refine take_ (i := 0) (N := some 49) (v := ?_) (a' := ?_) #[true, false, false, false, false] rfl rfl (by kernel_rfl) (fun _ _ _ h => h) (Or.inl ⟨by rfl, ?_⟩) hHeld ?_ ?_
            rotate_left
            · rintro w' ⟨s0, s1, s2, s3, s4, s5⟩
              go_simp
              with_reducible rfl
            rotate_left
            · simp only [Act.put, List.setIfInBounds_toArray, List.set_cons_zero, List.set_cons_succ, i64_w, i32_w]
              rfl
            refine take_ (i := 1) (N := some 50) (v := ?_) (a' := ?_) #[true, true, false, false, false] rfl rfl (by kernel_rfl) (fun _ _ _ h => h) (Or.inl ⟨by rfl, ?_⟩) hHeld ?_ ?_
            rotate_left
            · rintro w' ⟨s0, s1, s2, s3, s4, s5⟩
              go_simp
              with_reducible rfl
            rotate_left
            · simp only [Act.put, List.setIfInBounds_toArray, List.set_cons_zero, List.set_cons_succ, i64_w, i32_w]
              rfl
            refine one_ (i := 2) (N := some 51) #[true, true, true, false, false] rfl rfl (by kernel_rfl) (by decide) (fun K hK => ?_)
            refine goes_ Try.func32 (by kernel_rfl) rfl #[.agg #[.int .i8 a0_0, .int .i8 a0_1, .slice A0_2 l0_2.length c0_2]] (by rfl) rfl rfl (by (try simp only [List.map_toArray, List.map_cons, List.map_nil]); first | done | rfl | (simp only [List.length_drop, List.length_take]; rfl)) ?_
            with_reducible refine (laws_toGame.calls kj12 a0_0 a0_1 _ _ l0_2 t228 t229 t230 _ ?side1 ?side2 A58.out).mono ?_
            (case side1 => repeat (first | exact (Kd.C_below HR0_2.out HB.out) | (with_reducible refine Kd.C_alloc ?_ _) | (with_reducible refine Kd.C_drewN ?_ _) | (with_reducible refine Kd.C_drew ?_)))
            (case side2 => exact HC0_2.out)
            rintro e w64 ⟨v231, rfl, ho0, hb⟩
            refine ⟨_, rfl, ?_⟩
            have n0_ := Aside0.mk (Kd.R_elder' (by (with_reducible repeat (first | apply Kd.R_alloc | apply Kd.R_drewN | apply Kd.R_drew)); exact HO_214002.out) (Kd.R_base ho0) hb)
            have n1_ := Aside0.mk (Kd.R_elder' (by (with_reducible repeat (first | apply Kd.R_alloc | apply Kd.R_drewN | apply Kd.R_drew)); exact HO_220002.out) (Kd.R_base ho0) hb)
            have n2_ := Aside0.mk (Kd.R_elder' (by (with_reducible repeat (first | apply Kd.R_alloc | apply Kd.R_drewN | apply Kd.R_drew)); exact HO_227002.out) (Kd.R_base ho0) hb)
            have n3_ := Aside0.mk (Kd.R_lower (Kd.R_new' (Kd.R_new' (Kd.R_new' ho0 (Kd.R_lt (by (with_reducible repeat (first | apply Kd.R_alloc | apply Kd.R_drewN | apply Kd.R_drew)); exact HO_214002.out))) (Kd.R_lt (by (with_reducible repeat (first | apply Kd.R_alloc | apply Kd.R_drewN | apply Kd.R_drew)); exact HO_220002.out))) (Kd.R_lt (by (with_reducible repeat (first | apply Kd.R_alloc | apply Kd.R_drewN | apply Kd.R_drew)); exact HO_227002.out))) (below_size (by repeat (first | (with_reducible first | exact HB.out | apply below_alloc | apply pw_below_drewN | apply below_drew1 | refine below_set ?_ GE200.out | refine below_set ?_ GE213.out | refine below_set ?_ GE219.out | refine below_set ?_ GE226.out) | exact HB.out))))
            have n4_ := Aside0.mk (blk_below (g := gb200) (o := .cells #[.int .i8 a0_0, .int .i8 a0_1, .slice A0_2 l0_2.length c0_2] 45 (0, 0)) (by (with_reducible repeat (first | refine blk_drewN ?_ _ | refine blk_drew ?_ | refine blk_alloc ?_ _)); exact BK200.out) hb)
            have n5_ := Aside0.mk (blk_below (g := gb213) (o := .cells #[.int .i8 t207, .int .i8 t208, .slice Ao24 t209.length co24] 37 (0, 0)) (by (with_reducible repeat (first | refine blk_drewN ?_ _ | refine blk_drew ?_ | refine blk_alloc ?_ _)); exact BK213.out) hb)
            have n6_ := Aside0.mk (blk_below (g := gb219) (o := .cells #[.int .i8 t214, .int .i8 t215, .slice Ao31 t216.length co31] 37 (0, 0)) (by (with_reducible repeat (first | refine blk_drewN ?_ _ | refine blk_drew ?_ | refine blk_alloc ?_ _)); exact BK219.out) hb)
            have n7_ := Aside0.mk (blk_below (g := gb226) (o := .cells #[.int .i8 t220, .int .i8 t221, .slice Ao38 t222.length co38] 37 (0, 0)) (by (with_reducible repeat (first | refine blk_drewN ?_ _ | refine blk_drew ?_ | refine blk_alloc ?_ _)); exact BK226.out) hb)
            have n8_ := Aside0.mk (below_step (by repeat (first | (with_reducible first | exact HB.out | apply below_alloc | apply pw_below_drewN | apply below_drew1 | refine below_set ?_ GE200.out | refine below_set ?_ GE213.out | refine below_set ?_ GE219.out | refine below_set ?_ GE226.out) | exact HB.out)) hb)
            clear HO_214002
            clear HO_220002
            clear HO_227002
            clear BK200
            clear BK213
            clear BK219
            clear BK226
            clear HB
            have HO_214002 := n0_
            have HO_220002 := n1_
            have HO_227002 := n2_
            have HO232 := n3_
            have BK200 := n4_
            have BK213 := n5_
            have BK219 := n6_
            have BK226 := n7_
            have HB := n8_
            clear n0_ n1_ n2_ n3_ n4_ n5_ n6_ n7_ n8_
            (try clear hb)
            (try clear hb2)
            (try clear hk)
            (try clear hi)
            (try clear ho0)
            obtain ⟨Ao65, co65, eo65⟩ := Kd.R_slice HO232.out
            (first | subst eo65 | (injection eo65 with f1_ f2_ f3_; have f4_ := f1_.symm; have f5_ := f3_.symm; clear f1_ f2_ f3_; subst f4_; subst f5_))
            refine hK.out _ _ ⟨(blk_cell BK219.out 0).trans rfl, (blk_cell BK219.out 1).trans rfl, (blk_cell BK219.out 2).trans rfl, (blk_cell BK200.out 0).trans rfl, (blk_cell BK200.out 1).trans rfl, (blk_cell BK200.out 2).trans rfl⟩ (fun hHeld => ?_)
            clear hK K
            refine norm_ (a' := ?_) ?_ ?_
            rotate_left
            · show Act.put _ (some 51) _ = _
              simp only [Act.put, List.setIfInBounds_toArray, List.set_cons_zero, List.set_cons_succ, i64_w, i32_w]
              rfl
            refine one_ (i := 3) (N := some 52) #[true, true, true, true, false] rfl rfl (by kernel_rfl) (by decide) (fun K hK => ?_)
            refine goes_ Try.func27 (by kernel_rfl) rfl #[.agg #[.int .i8 t214, .int .i8 t215, .slice Ao31 t216.length co31], .agg #[.int .i8 t228, .int .i8 t229, .slice Ao65 t230.length co65]] (by rfl) rfl rfl (by (try simp only [List.map_toArray, List.map_cons, List.map_nil]); first | done | rfl | (simp only [List.length_drop, List.length_take]; rfl)) ?_
            with_reducible refine (laws_eqGame.calls kj12 t214 t215 _ _ t216 t228 t229 _ _ t230 true _ ?side1 ?side2 ?side3 ?side4 A59.out).mono ?_
            (case side1 => repeat (first | exact (Kd.R_reads' HO_220002.out).2.2 | (with_reducible refine Kd.C_alloc ?_ _) | (with_reducible refine Kd.C_drewN ?_ _) | (with_reducible refine Kd.C_drew ?_)))
            (case side2 => exact (Kd.R_reads' HO_220002.out).2.1)
            (case side3 => repeat (first | exact (Kd.R_reads' HO232.out).2.2 | (with_reducible refine Kd.C_alloc ?_ _) | (with_reducible refine Kd.C_drewN ?_ _) | (with_reducible refine Kd.C_drew ?_)))
            (case side4 => exact (Kd.R_reads' HO232.out).2.1)
            rintro e w66 ⟨rfl, hb⟩
            refine ⟨_, rfl, ?_⟩
            have n0_ := Aside0.mk (Kd.R_below (by (with_reducible repeat (first | apply Kd.R_alloc | apply Kd.R_drewN | apply Kd.R_drew)); exact HO_214002.out) hb)
            have n1_ := Aside0.mk (Kd.R_below (by (with_reducible repeat (first | apply Kd.R_alloc | apply Kd.R_drewN | apply Kd.R_drew)); exact HO_220002.out) hb)
            have n2_ := Aside0.mk (Kd.R_below (by (with_reducible repeat (first | apply Kd.R_alloc | apply Kd.R_drewN | apply Kd.R_drew)); exact HO_227002.out) hb)
            have n3_ := Aside0.mk (Kd.R_below (by (with_reducible repeat (first | apply Kd.R_alloc | apply Kd.R_drewN | apply Kd.R_drew)); exact HO232.out) hb)
            have n4_ := Aside0.mk (blk_below (g := gb200) (o := .cells #[.int .i8 a0_0, .int .i8 a0_1, .slice A0_2 l0_2.length c0_2] 45 (0, 0)) (by (with_reducible repeat (first | refine blk_drewN ?_ _ | refine blk_drew ?_ | refine blk_alloc ?_ _)); exact BK200.out) hb)
            have n5_ := Aside0.mk (blk_below (g := gb213) (o := .cells #[.int .i8 t207, .int .i8 t208, .slice Ao24 t209.length co24] 37 (0, 0)) (by (with_reducible repeat (first | refine blk_drewN ?_ _ | refine blk_drew ?_ | refine blk_alloc ?_ _)); exact BK213.out) hb)
            have n6_ := Aside0.mk (blk_below (g := gb219) (o := .cells #[.int .i8 t214, .int .i8 t215, .slice Ao31 t216.length co31] 37 (0, 0)) (by (with_reducible repeat (first | refine blk_drewN ?_ _ | refine blk_drew ?_ | refine blk_alloc ?_ _)); exact BK219.out) hb)
            have n7_ := Aside0.mk (blk_below (g := gb226) (o := .cells #[.int .i8 t220, .int .i8 t221, .slice Ao38 t222.length co38] 37 (0, 0)) (by (with_reducible repeat (first | refine blk_drewN ?_ _ | refine blk_drew ?_ | refine blk_alloc ?_ _)); exact BK226.out) hb)
            have n8_ := Aside0.mk (below_step (by repeat (first | (with_reducible first | exact HB.out | apply below_alloc | apply pw_below_drewN | apply below_drew1 | refine below_set ?_ GE200.out | refine below_set ?_ GE213.out | refine below_set ?_ GE219.out | refine below_set ?_ GE226.out) | exact HB.out)) hb)
            clear HO_214002
            clear HO_220002
            clear HO_227002
            clear HO232
            clear BK200
            clear BK213
            clear BK219
            clear BK226
            clear HB
            have HO_214002 := n0_
            have HO_220002 := n1_
            have HO_227002 := n2_
            have HO232 := n3_
            have BK200 := n4_
            have BK213 := n5_
            have BK219 := n6_
            have BK226 := n7_
            have HB := n8_
            clear n0_ n1_ n2_ n3_ n4_ n5_ n6_ n7_ n8_
            (try clear hb)
            (try clear hb2)
            (try clear hk)
            (try clear hi)
            refine hK.out _ _ ⟨(blk_cell BK219.out 0).trans rfl, (blk_cell BK219.out 1).trans rfl, (blk_cell BK219.out 2).trans rfl, (blk_cell BK200.out 0).trans rfl, (blk_cell BK200.out 1).trans rfl, (blk_cell BK200.out 2).trans rfl⟩ (fun hHeld => ?_)
            clear hK K
            refine norm_ (a' := ?_) ?_ ?_
            rotate_left
            · show Act.put _ (some 52) _ = _
              simp only [Act.put, List.setIfInBounds_toArray, List.set_cons_zero, List.set_cons_succ, i64_w, i32_w]
              rfl
            refine pure_ (i := 4) (N := some 53) (v := ?_) (a' := ?_) #[true, true, true, true, true] rfl rfl (by kernel_rfl) (fun _ _ _ h => h) (Or.inl ⟨by rfl, ?_⟩) ?_ ?_
            rotate_left
            · intro w'
              go_simp
              with_reducible rfl
            rotate_left
            · simp only [Act.put, List.setIfInBounds_toArray, List.set_cons_zero, List.set_cons_succ, i64_w, i32_w]
              rfl
            refine done_ (by kernel_rfl) ?_
            have hnb67 := NB219_200.out
            have hnc67 := NB200_219.out
            have hnb68 := NB219_213.out
            have hnc68 := NB213_219.out
            have hnb69 := NB219_226.out
            have hnc69 := NB226_219.out
            have hcz70_0 : w66.cell? ⟨gb219, 0, none⟩ = some (.int .i8 t214) := (blk_cell BK219.out 0).trans rfl
            have hcz70_1 : w66.cell? ⟨gb219, 1, none⟩ = some (.int .i8 t215) := (blk_cell BK219.out 1).trans rfl
            have hcz70_2 : w66.cell? ⟨gb219, 2, none⟩ = some (.slice Ao31 t216.length co31) := (blk_cell BK219.out 2).trans rfl
            have hfz70_0 := blk_frozen BK219.out 0
            have hfz70_1 := blk_frozen BK219.out 1
            have hfz70_2 := blk_frozen BK219.out 2
            go_upto_region 14 with (first | ((with_reducible refine gate_callee (f := 28) rfl ?_); refine goesL_ (some 56) rfl rfl Try.func28 (by kernel_rfl) rfl #[.agg #[.int .i8 t214, .int .i8 t215, .slice Ao31 t216.length co31], .int .i64 1] rfl (by (try simp only [List.map_toArray, List.map_cons, List.map_nil]); first | done | rfl | (simp only [List.length_drop, List.length_take]; rfl)) ?_; (with_reducible refine (laws_markGame.calls kj12 t214 t215 (fun k_ => some k_ = (.slice Ao31 t216.length co31 : Value).ownBlock) (.slice Ao31 t216.length co31) t216 1 t234 t235 w _ ?side1 ?side2 A61.out).mono ?_); (case side1 => repeat (first | (with_reducible first | exact HB.out | apply below_alloc | apply pw_below_drewN | apply below_drew1 | refine below_set ?_ GE200.out | refine below_set ?_ GE213.out | refine below_set ?_ GE219.out | refine below_set ?_ GE226.out) | exact HB.out)); (case side2 => exact Kd.R_tight rfl HO_220002.out); rintro e w71 ⟨rfl, hy0, hb, hkp⟩; refine ⟨_, rfl, ?_⟩; have n0_ := Aside0.mk (Kd.R_mono (ok' := fun k_ => some k_ ≠ (.slice Ao31 t216.length co31 : Value).ownBlock ∧ some k_ ≠ (.slice Ao38 t222.length co38 : Value).ownBlock ∧ some k_ ≠ (.slice Ao65 t230.length co65 : Value).ownBlock) (Kd.R_keptB (HO_214002.out) hkp (fun k_ hk_ hs_ => (hk_.1.1) hs_)) (fun k_ hk_ => ⟨hk_.1.1.1, hk_.1.1.2, hk_.1.2⟩)); have n1_ := Aside0.mk (Kd.R_reok rfl hy0 (fun k_ e_ => HO_220002.out.1 k_ e_)); have n2_ := Aside0.mk (Kd.R_mono (ok' := fun k_ => some k_ ≠ (.slice Ao24 t209.length co24 : Value).ownBlock ∧ some k_ ≠ (.slice Ao31 t216.length co31 : Value).ownBlock ∧ some k_ ≠ (.slice Ao65 t230.length co65 : Value).ownBlock) (Kd.R_keptB (HO_227002.out) hkp (fun k_ hk_ hs_ => (hk_.1.2) hs_)) (fun k_ hk_ => ⟨hk_.1.1.1, hk_.1.1.2, hk_.1.2⟩)); have n3_ := Aside0.mk (blk_kept (by (with_reducible repeat (first | refine blk_drewN ?_ _ | refine blk_drew ?_ | refine blk_alloc ?_ _)); exact BK200.out) hkp (fun hs_ => (fun e_ => (Kd.R_ne HO_220002.out BK200.out (by decide)) e_) hs_)); have n4_ := Aside0.mk (blk_kept (by (with_reducible repeat (first | refine blk_drewN ?_ _ | refine blk_drew ?_ | refine blk_alloc ?_ _)); exact BK213.out) hkp (fun hs_ => (fun e_ => (Kd.R_ne HO_220002.out BK213.out (by decide)) e_) hs_)); have n5_ := Aside0.mk (blk_kept (by (with_reducible repeat (first | refine blk_drewN ?_ _ | refine blk_drew ?_ | refine blk_alloc ?_ _)); exact BK219.out) hkp (fun hs_ => (fun e_ => (Kd.R_ne HO_220002.out BK219.out (by decide)) e_) hs_)); have n6_ := Aside0.mk (blk_kept (by (with_reducible repeat (first | refine blk_drewN ?_ _ | refine blk_drew ?_ | refine blk_alloc ?_ _)); exact BK226.out) hkp (fun hs_ => (fun e_ => (Kd.R_ne HO_220002.out BK226.out (by decide)) e_) hs_)); have n7_ := Aside0.mk (Kd.R_mono (ok' := fun k_ => some k_ ≠ (.slice Ao24 t209.length co24 : Value).ownBlock ∧ some k_ ≠ (.slice Ao31 t216.length co31 : Value).ownBlock ∧ some k_ ≠ (.slice Ao38 t222.length co38 : Value).ownBlock) (Kd.R_keptB (HO232.out) hkp (fun k_ hk_ hs_ => (hk_.1.2) hs_)) (fun k_ hk_ => ⟨hk_.1.1.1.2, hk_.1.1.2, hk_.1.2⟩)); have n8_ := Aside0.mk (hb); clear HO_214002; clear HO_220002; clear HO_227002; clear BK200; clear BK213; clear BK219; clear BK226; clear HO232; clear HB; have HO_214002 := n0_; have HO_220002 := n1_; have HO_227002 := n2_; have BK200 := n3_; have BK213 := n4_; have BK219 := n5_; have BK226 := n6_; have HO232 := n7_; have HB := n8_; clear n0_ n1_ n2_ n3_ n4_ n5_ n6_ n7_ n8_; (try clear hb); (try clear hkp); (try clear hy0)))
            (try simp only [Act.put, List.setIfInBounds_toArray, List.set_cons_zero, List.set_cons_succ])
            go_cut [69] (fun v69 wc => ∃ (kq : Nat) (x69_61 : Bool), v69 = .bool x69_61 ∧ Aside0 (laws_FnExactAddAsk.j1 kq a1 a2 t212 x69_61 a0_0 a0_1 l0_2 t207 t208 t209 t220 t221 t222 = some r) ∧ Aside0 (kq ≤ kj12) ∧ Aside0 (Kd.R k75 75 wc w.heap.size (fun k_ => some k_ ≠ ((.slice Ao31 t216.length co31) : Value).ownBlock ∧ some k_ ≠ ((.slice Ao38 t222.length co38) : Value).ownBlock) (.slice Ao24 t209.length co24) t209) ∧ Aside0 (Kd.R k75 75 wc w.heap.size (fun k_ => some k_ ≠ ((.slice Ao24 t209.length co24) : Value).ownBlock ∧ some k_ ≠ ((.slice Ao38 t222.length co38) : Value).ownBlock) (.slice Ao31 t216.length co31) t235) ∧ Aside0 (Kd.R k75 75 wc w.heap.size (fun k_ => some k_ ≠ ((.slice Ao24 t209.length co24) : Value).ownBlock ∧ some k_ ≠ ((.slice Ao31 t216.length co31) : Value).ownBlock) (.slice Ao38 t222.length co38) t222) ∧ Aside0 (wc.heap[gb200]? = some (.cells #[.int .i8 a0_0, .int .i8 a0_1, (.slice A0_2 l0_2.length c0_2)] 45 (0, 0))) ∧ Aside0 (wc.heap[gb213]? = some (.cells #[.int .i8 t207, .int .i8 t208, (.slice Ao24 t209.length co24)] 37 (0, 0))) ∧ Aside0 (wc.heap[gb219]? = some (.cells #[.int .i8 t214, .int .i8 t215, (.slice Ao31 t216.length co31)] 37 (0, 0))) ∧ Aside0 (wc.heap[gb226]? = some (.cells #[.int .i8 t220, .int .i8 t221, (.slice Ao38 t222.length co38)] 37 (0, 0))) ∧ Aside0 (Below w.heap.size w wc))
            case first =>
              have H := HC62.out
              clear HC62
              by_cases c72 : t234 < 0
              · rw [if_pos c72] at H
                have c72b0 : decide (t234 < 0) = true := decide_eq_true c72
                clear c72
                (first | rw [c72b0] | (simp only [i64_w, i32_w]; rw [c72b0]) | skip)
                have H' := Aside0.mk H
                clear H
                go_wp2
                go_meet
                case rel => exact ⟨_, (true), (by first | rfl | (simp; done) | (simp [*]; done)), H', ⟨by have := HJ12.out; first | omega | exact Nat.le_refl _⟩, ⟨by (with_reducible repeat (first | apply Kd.R_alloc | apply Kd.R_drewN | apply Kd.R_drew)); exact Kd.R_mono HO_214002.out (fun _ hk => ⟨hk.1, hk.2.1⟩)⟩, ⟨by (with_reducible repeat (first | apply Kd.R_alloc | apply Kd.R_drewN | apply Kd.R_drew)); exact Kd.R_mono HO_220002.out (fun _ hk => ⟨hk.1.1, hk.1.2⟩)⟩, ⟨by (with_reducible repeat (first | apply Kd.R_alloc | apply Kd.R_drewN | apply Kd.R_drew)); exact Kd.R_mono HO_227002.out (fun _ hk => ⟨hk.1, hk.2.1⟩)⟩, ⟨by (with_reducible repeat (first | refine blk_drewN ?_ _ | refine blk_drew ?_ | refine blk_alloc ?_ _)); exact BK200.out⟩, ⟨by (with_reducible repeat (first | refine blk_drewN ?_ _ | refine blk_drew ?_ | refine blk_alloc ?_ _)); exact BK213.out⟩, ⟨by (with_reducible repeat (first | refine blk_drewN ?_ _ | refine blk_drew ?_ | refine blk_alloc ?_ _)); exact BK219.out⟩, ⟨by (with_reducible repeat (first | refine blk_drewN ?_ _ | refine blk_drew ?_ | refine blk_alloc ?_ _)); exact BK226.out⟩, ⟨by repeat (first | (with_reducible first | exact HB.out | apply below_alloc | apply pw_below_drewN | apply below_drew1 | refine below_set ?_ GE200.out | refine below_set ?_ GE213.out | refine below_set ?_ GE219.out | refine below_set ?_ GE226.out) | exact HB.out)⟩⟩
              · rw [if_neg c72] at H
                have c72b0 : decide (t234 < 0) = false := decide_eq_false c72
                clear c72
                (first | rw [c72b0] | (simp only [i64_w, i32_w]; rw [c72b0]) | skip)
                replace H := Option.bind_eq_some_iff.mp H
                obtain ⟨t236, A730, H⟩ := H
                replace H : (if t236 = true then (laws_FnExactAddAsk.j1 kj12 a1 a2 t212 (t225 != t212) a0_0 a0_1 l0_2 t207 t208 t209 t220 t221 t222) else (laws_FnExactAddAsk.j1 kj12 a1 a2 t212 true a0_0 a0_1 l0_2 t207 t208 t209 t220 t221 t222)) = some r := H
                have A73 := Aside0.mk A730
                clear A730
                by_cases c74 : t236 = true
                · subst c74
                  have H1 : (laws_FnExactAddAsk.j1 kj12 a1 a2 t212 (t225 != t212) a0_0 a0_1 l0_2 t207 t208 t209 t220 t221 t222) = some r := by rw [if_pos rfl] at H; exact H
                  clear H
                  have H := H1
                  clear H1
                  have H' := Aside0.mk H
                  clear H
                  have hnb75 := NB226_200.out
                  have hnc75 := NB200_226.out
                  have hnb76 := NB226_213.out
                  have hnc76 := NB213_226.out
                  have hnb77 := NB226_219.out
                  have hnc77 := NB219_226.out
                  have hcz78_0 : w71.cell? ⟨gb226, 0, none⟩ = some (.int .i8 t220) := (blk_cell BK226.out 0).trans rfl
                  have hcz78_1 : w71.cell? ⟨gb226, 1, none⟩ = some (.int .i8 t221) := (blk_cell BK226.out 1).trans rfl
                  have hcz78_2 : w71.cell? ⟨gb226, 2, none⟩ = some (.slice Ao38 t222.length co38) := (blk_cell BK226.out 2).trans rfl
                  have hfz78_0 := blk_frozen BK226.out 0
                  have hfz78_1 := blk_frozen BK226.out 1
                  have hfz78_2 := blk_frozen BK226.out 2
                  have hnb79 := NB213_200.out
                  have hnc79 := NB200_213.out
                  have hnb80 := NB213_219.out
                  have hnc80 := NB219_213.out
                  have hcz81_0 : w71.cell? ⟨gb213, 0, none⟩ = some (.int .i8 t207) := (blk_cell BK213.out 0).trans rfl
                  have hcz81_1 : w71.cell? ⟨gb213, 1, none⟩ = some (.int .i8 t208) := (blk_cell BK213.out 1).trans rfl
                  have hcz81_2 : w71.cell? ⟨gb213, 2, none⟩ = some (.slice Ao24 t209.length co24) := (blk_cell BK213.out 2).trans rfl
                  have hfz81_0 := blk_frozen BK213.out 0
                  have hfz81_1 := blk_frozen BK213.out 1
                  have hfz81_2 := blk_frozen BK213.out 2
                  go_wp2_with (first | (go_at_call 27; (with_reducible refine (laws_eqGame.calls kj12 t220 t221 _ _ t222 t207 t208 _ _ t209 true _ ?side1 ?side2 ?side3 ?side4 A73.out).mono ?_); (case side1 => repeat (first | exact (Kd.R_reads' HO_227002.out).2.2 | (with_reducible refine Kd.C_alloc ?_ _) | (with_reducible refine Kd.C_drewN ?_ _) | (with_reducible refine Kd.C_drew ?_))); (case side2 => exact (Kd.R_reads' HO_227002.out).2.1); (case side3 => repeat (first | exact (Kd.R_reads' HO_214002.out).2.2 | (with_reducible refine Kd.C_alloc ?_ _) | (with_reducible refine Kd.C_drewN ?_ _) | (with_reducible refine Kd.C_drew ?_))); (case side4 => exact (Kd.R_reads' HO_214002.out).2.1); rintro e w82 ⟨rfl, hb⟩; have n0_ := Aside0.mk (Kd.R_below (by (with_reducible repeat (first | apply Kd.R_alloc | apply Kd.R_drewN | apply Kd.R_drew)); exact HO_214002.out) hb); have n1_ := Aside0.mk (Kd.R_below (by (with_reducible repeat (first | apply Kd.R_alloc | apply Kd.R_drewN | apply Kd.R_drew)); exact HO_220002.out) hb); have n2_ := Aside0.mk (Kd.R_below (by (with_reducible repeat (first | apply Kd.R_alloc | apply Kd.R_drewN | apply Kd.R_drew)); exact HO_227002.out) hb); have n3_ := Aside0.mk (Kd.R_below (by (with_reducible repeat (first | apply Kd.R_alloc | apply Kd.R_drewN | apply Kd.R_drew)); exact HO232.out) hb); have n4_ := Aside0.mk (blk_below (g := gb200) (o := .cells #[.int .i8 a0_0, .int .i8 a0_1, .slice A0_2 l0_2.length c0_2] 45 (0, 0)) (by (with_reducible repeat (first | refine blk_drewN ?_ _ | refine blk_drew ?_ | refine blk_alloc ?_ _)); exact BK200.out) hb); have n5_ := Aside0.mk (blk_below (g := gb213) (o := .cells #[.int .i8 t207, .int .i8 t208, .slice Ao24 t209.length co24] 37 (0, 0)) (by (with_reducible repeat (first | refine blk_drewN ?_ _ | refine blk_drew ?_ | refine blk_alloc ?_ _)); exact BK213.out) hb); have n6_ := Aside0.mk (blk_below (g := gb219) (o := .cells #[.int .i8 t214, .int .i8 t215, .slice Ao31 t216.length co31] 37 (0, 0)) (by (with_reducible repeat (first | refine blk_drewN ?_ _ | refine blk_drew ?_ | refine blk_alloc ?_ _)); exact BK219.out) hb); have n7_ := Aside0.mk (blk_below (g := gb226) (o := .cells #[.int .i8 t220, .int .i8 t221, .slice Ao38 t222.length co38] 37 (0, 0)) (by (with_reducible repeat (first | refine blk_drewN ?_ _ | refine blk_drew ?_ | refine blk_alloc ?_ _)); exact BK226.out) hb); have n8_ := Aside0.mk (below_step (by repeat (first | (with_reducible first | exact HB.out | apply below_alloc | apply pw_below_drewN | apply below_drew1 | refine below_set ?_ GE200.out | refine below_set ?_ GE213.out | refine below_set ?_ GE219.out | refine below_set ?_ GE226.out) | exact HB.out)) hb); clear HO_214002; clear HO_220002; clear HO_227002; clear HO232; clear BK200; clear BK213; clear BK219; clear BK226; clear HB; have HO_214002 := n0_; have HO_220002 := n1_; have HO_227002 := n2_; have HO232 := n3_; have BK200 := n4_; have BK213 := n5_; have BK219 := n6_; have BK226 := n7_; have HB := n8_; clear n0_ n1_ n2_ n3_ n4_ n5_ n6_ n7_ n8_; (try clear hb); (try clear hb2); (try clear hk); (try clear hi)))
                  go_meet
                  case rel => exact ⟨_, ((t225 != t212)), (by first | rfl | (simp; done) | (simp [*]; done)), H', ⟨by have := HJ12.out; first | omega | exact Nat.le_refl _⟩, ⟨by (with_reducible repeat (first | apply Kd.R_alloc | apply Kd.R_drewN | apply Kd.R_drew)); exact Kd.R_mono HO_214002.out (fun _ hk => ⟨hk.1, hk.2.1⟩)⟩, ⟨by (with_reducible repeat (first | apply Kd.R_alloc | apply Kd.R_drewN | apply Kd.R_drew)); exact Kd.R_mono HO_220002.out (fun _ hk => ⟨hk.1.1, hk.1.2⟩)⟩, ⟨by (with_reducible repeat (first | apply Kd.R_alloc | apply Kd.R_drewN | apply Kd.R_drew)); exact Kd.R_mono HO_227002.out (fun _ hk => ⟨hk.1, hk.2.1⟩)⟩, ⟨by (with_reducible repeat (first | refine blk_drewN ?_ _ | refine blk_drew ?_ | refine blk_alloc ?_ _)); exact BK200.out⟩, ⟨by (with_reducible repeat (first | refine blk_drewN ?_ _ | refine blk_drew ?_ | refine blk_alloc ?_ _)); exact BK213.out⟩, ⟨by (with_reducible repeat (first | refine blk_drewN ?_ _ | refine blk_drew ?_ | refine blk_alloc ?_ _)); exact BK219.out⟩, ⟨by (with_reducible repeat (first | refine blk_drewN ?_ _ | refine blk_drew ?_ | refine blk_alloc ?_ _)); exact BK226.out⟩, ⟨by repeat (first | (with_reducible first | exact HB.out | apply below_alloc | apply pw_below_drewN | apply below_drew1 | refine below_set ?_ GE200.out | refine below_set ?_ GE213.out | refine below_set ?_ GE219.out | refine below_set ?_ GE226.out) | exact HB.out)⟩⟩
                · replace c74 := Bool.eq_false_iff.mpr c74
                  subst c74
                  have H1 : (laws_FnExactAddAsk.j1 kj12 a1 a2 t212 true a0_0 a0_1 l0_2 t207 t208 t209 t220 t221 t222) = some r := by rw [if_neg (show ¬ (false = true) by decide)] at H; exact H
                  clear H
                  have H := H1
                  clear H1
                  have H' := Aside0.mk H
                  clear H
                  have hnb83 := NB226_200.out
                  have hnc83 := NB200_226.out
                  have hnb84 := NB226_213.out
                  have hnc84 := NB213_226.out
                  have hnb85 := NB226_219.out
                  have hnc85 := NB219_226.out
                  have hcz86_0 : w71.cell? ⟨gb226, 0, none⟩ = some (.int .i8 t220) := (blk_cell BK226.out 0).trans rfl
                  have hcz86_1 : w71.cell? ⟨gb226, 1, none⟩ = some (.int .i8 t221) := (blk_cell BK226.out 1).trans rfl
                  have hcz86_2 : w71.cell? ⟨gb226, 2, none⟩ = some (.slice Ao38 t222.length co38) := (blk_cell BK226.out 2).trans rfl
                  have hfz86_0 := blk_frozen BK226.out 0
                  have hfz86_1 := blk_frozen BK226.out 1
                  have hfz86_2 := blk_frozen BK226.out 2
                  have hnb87 := NB213_200.out
                  have hnc87 := NB200_213.out
                  have hnb88 := NB213_219.out
                  have hnc88 := NB219_213.out
                  have hcz89_0 : w71.cell? ⟨gb213, 0, none⟩ = some (.int .i8 t207) := (blk_cell BK213.out 0).trans rfl
                  have hcz89_1 : w71.cell? ⟨gb213, 1, none⟩ = some (.int .i8 t208) := (blk_cell BK213.out 1).trans rfl
                  have hcz89_2 : w71.cell? ⟨gb213, 2, none⟩ = some (.slice Ao24 t209.length co24) := (blk_cell BK213.out 2).trans rfl
                  have hfz89_0 := blk_frozen BK213.out 0
                  have hfz89_1 := blk_frozen BK213.out 1
                  have hfz89_2 := blk_frozen BK213.out 2
                  go_wp2_with (first | (go_at_call 27; (with_reducible refine (laws_eqGame.calls kj12 t220 t221 _ _ t222 t207 t208 _ _ t209 false _ ?side1 ?side2 ?side3 ?side4 A73.out).mono ?_); (case side1 => repeat (first | exact (Kd.R_reads' HO_227002.out).2.2 | (with_reducible refine Kd.C_alloc ?_ _) | (with_reducible refine Kd.C_drewN ?_ _) | (with_reducible refine Kd.C_drew ?_))); (case side2 => exact (Kd.R_reads' HO_227002.out).2.1); (case side3 => repeat (first | exact (Kd.R_reads' HO_214002.out).2.2 | (with_reducible refine Kd.C_alloc ?_ _) | (with_reducible refine Kd.C_drewN ?_ _) | (with_reducible refine Kd.C_drew ?_))); (case side4 => exact (Kd.R_reads' HO_214002.out).2.1); rintro e w90 ⟨rfl, hb⟩; have n0_ := Aside0.mk (Kd.R_below (by (with_reducible repeat (first | apply Kd.R_alloc | apply Kd.R_drewN | apply Kd.R_drew)); exact HO_214002.out) hb); have n1_ := Aside0.mk (Kd.R_below (by (with_reducible repeat (first | apply Kd.R_alloc | apply Kd.R_drewN | apply Kd.R_drew)); exact HO_220002.out) hb); have n2_ := Aside0.mk (Kd.R_below (by (with_reducible repeat (first | apply Kd.R_alloc | apply Kd.R_drewN | apply Kd.R_drew)); exact HO_227002.out) hb); have n3_ := Aside0.mk (Kd.R_below (by (with_reducible repeat (first | apply Kd.R_alloc | apply Kd.R_drewN | apply Kd.R_drew)); exact HO232.out) hb); have n4_ := Aside0.mk (blk_below (g := gb200) (o := .cells #[.int .i8 a0_0, .int .i8 a0_1, .slice A0_2 l0_2.length c0_2] 45 (0, 0)) (by (with_reducible repeat (first | refine blk_drewN ?_ _ | refine blk_drew ?_ | refine blk_alloc ?_ _)); exact BK200.out) hb); have n5_ := Aside0.mk (blk_below (g := gb213) (o := .cells #[.int .i8 t207, .int .i8 t208, .slice Ao24 t209.length co24] 37 (0, 0)) (by (with_reducible repeat (first | refine blk_drewN ?_ _ | refine blk_drew ?_ | refine blk_alloc ?_ _)); exact BK213.out) hb); have n6_ := Aside0.mk (blk_below (g := gb219) (o := .cells #[.int .i8 t214, .int .i8 t215, .slice Ao31 t216.length co31] 37 (0, 0)) (by (with_reducible repeat (first | refine blk_drewN ?_ _ | refine blk_drew ?_ | refine blk_alloc ?_ _)); exact BK219.out) hb); have n7_ := Aside0.mk (blk_below (g := gb226) (o := .cells #[.int .i8 t220, .int .i8 t221, .slice Ao38 t222.length co38] 37 (0, 0)) (by (with_reducible repeat (first | refine blk_drewN ?_ _ | refine blk_drew ?_ | refine blk_alloc ?_ _)); exact BK226.out) hb); have n8_ := Aside0.mk (below_step (by repeat (first | (with_reducible first | exact HB.out | apply below_alloc | apply pw_below_drewN | apply below_drew1 | refine below_set ?_ GE200.out | refine below_set ?_ GE213.out | refine below_set ?_ GE219.out | refine below_set ?_ GE226.out) | exact HB.out)) hb); clear HO_214002; clear HO_220002; clear HO_227002; clear HO232; clear BK200; clear BK213; clear BK219; clear BK226; clear HB; have HO_214002 := n0_; have HO_220002 := n1_; have HO_227002 := n2_; have HO232 := n3_; have BK200 := n4_; have BK213 := n5_; have BK219 := n6_; have BK226 := n7_; have HB := n8_; clear n0_ n1_ n2_ n3_ n4_ n5_ n6_ n7_ n8_; (try clear hb); (try clear hb2); (try clear hk); (try clear hi)))
                  go_meet
                  case rel => exact ⟨_, (true), (by first | rfl | (simp; done) | (simp [*]; done)), H', ⟨by have := HJ12.out; first | omega | exact Nat.le_refl _⟩, ⟨by (with_reducible repeat (first | apply Kd.R_alloc | apply Kd.R_drewN | apply Kd.R_drew)); exact Kd.R_mono HO_214002.out (fun _ hk => ⟨hk.1, hk.2.1⟩)⟩, ⟨by (with_reducible repeat (first | apply Kd.R_alloc | apply Kd.R_drewN | apply Kd.R_drew)); exact Kd.R_mono HO_220002.out (fun _ hk => ⟨hk.1.1, hk.1.2⟩)⟩, ⟨by (with_reducible repeat (first | apply Kd.R_alloc | apply Kd.R_drewN | apply Kd.R_drew)); exact Kd.R_mono HO_227002.out (fun _ hk => ⟨hk.1, hk.2.1⟩)⟩, ⟨by (with_reducible repeat (first | refine blk_drewN ?_ _ | refine blk_drew ?_ | refine blk_alloc ?_ _)); exact BK200.out⟩, ⟨by (with_reducible repeat (first | refine blk_drewN ?_ _ | refine blk_drew ?_ | refine blk_alloc ?_ _)); exact BK213.out⟩, ⟨by (with_reducible repeat (first | refine blk_drewN ?_ _ | refine blk_drew ?_ | refine blk_alloc ?_ _)); exact BK219.out⟩, ⟨by (with_reducible repeat (first | refine blk_drewN ?_ _ | refine blk_drew ?_ | refine blk_alloc ?_ _)); exact BK226.out⟩, ⟨by repeat (first | (with_reducible first | exact HB.out | apply below_alloc | apply pw_below_drewN | apply below_drew1 | refine below_set ?_ GE200.out | refine below_set ?_ GE213.out | refine below_set ?_ GE219.out | refine below_set ?_ GE226.out) | exact HB.out)⟩⟩
            case rest =>
              clear HC62
              try clear c1
              try clear c2
              try clear p2
              try clear c3
              try clear c4
              try clear c5
              try clear c5b0
              try clear c6
              try clear c7
              try clear c8
              try clear c13
              try clear c22
              try clear c27
              try clear c28
              try clear c29
              try clear c30
              try clear c32
              try clear c34
              try clear c35
              try clear c36
              try clear c40
              try clear c41
              try clear c42
              try clear c43
              try clear c45
              try clear c46
              try clear c49
              try clear c50
              try clear c51
              try clear c53
              try clear c54
              try clear c57
              try clear c60
              try clear c67
              try clear c68
              try clear c69
              try clear c72
              try clear c72b0
              try clear c74
              try clear c75
              try clear c76
              try clear c77
              try clear c79
              try clear c80
              try clear c83
              try clear c84
              try clear c85
              try clear c87
              try clear c88
              try clear hcz15_0
              try clear hcz15_1
              try clear hcz15_2
              try clear hcz17_0
              try clear hcz17_1
              try clear hcz17_2
              try clear hcz23_0
              try clear hcz23_1
              try clear hcz23_2
              try clear hcz25_0
              try clear hcz25_1
              try clear hcz25_2
              try clear hcz30_0
              try clear hcz30_1
              try clear hcz30_2
              try clear hcz37_0
              try clear hcz37_1
              try clear hcz37_2
              try clear hcz44_0
              try clear hcz44_1
              try clear hcz44_2
              try clear hcz47_0
              try clear hcz47_1
              try clear hcz47_2
              try clear hcz52_0
              try clear hcz52_1
              try clear hcz52_2
              try clear hcz55_0
              try clear hcz55_1
              try clear hcz55_2
              try clear hcz70_0
              try clear hcz70_1
              try clear hcz70_2
              try clear hcz78_0
              try clear hcz78_1
              try clear hcz78_2
              try clear hcz7_0
              try clear hcz7_1
              try clear hcz7_2
              try clear hcz81_0
              try clear hcz81_1
              try clear hcz81_2
              try clear hcz86_0
              try clear hcz86_1
              try clear hcz86_2
              try clear hcz89_0
              try clear hcz89_1
              try clear hcz89_2
              try clear hfz15_0
              try clear hfz15_1
              try clear hfz15_2
              try clear hfz17_0
              try clear hfz17_1
              try clear hfz17_2
              try clear hfz23_0
              try clear hfz23_1
              try clear hfz23_2
              try clear hfz25_0
              try clear hfz25_1
              try clear hfz25_2
              try clear hfz30_0
              try clear hfz30_1
              try clear hfz30_2
              try clear hfz37_0
              try clear hfz37_1
              try clear hfz37_2
              try clear hfz44_0
              try clear hfz44_1
              try clear hfz44_2
              try clear hfz47_0
              try clear hfz47_1
              try clear hfz47_2
              try clear hfz52_0
              try clear hfz52_1
              try clear hfz52_2
              try clear hfz55_0
              try clear hfz55_1
              try clear hfz55_2
              try clear hfz70_0
              try clear hfz70_1
              try clear hfz70_2
              try clear hfz78_0
              try clear hfz78_1
              try clear hfz78_2
              try clear hfz7_0
              try clear hfz7_1
              try clear hfz7_2
              try clear hfz81_0
              try clear hfz81_1
              try clear hfz81_2
              try clear hfz86_0
              try clear hfz86_1
              try clear hfz86_2
              try clear hfz89_0
              try clear hfz89_1
              try clear hfz89_2
              try clear p2
              obtain ⟨kq, x69_61, rfl, HA, HJ61, HO_214002, HO_220002, HO_227002, BK200, BK213, BK219, BK226, HB⟩ := hcut
              have hl220002_61 := (Kd.R_reads' HO_220002.out).1
              rw [hl220002_61] at HO_220002
              (try simp only [hl220002_61])
              (try simp only [hl220002_61] at BK200)
              (try simp only [hl220002_61] at BK213)
              (try simp only [hl220002_61] at BK219)
              (try simp only [hl220002_61] at BK226)
              (try simp only [hl220002_61] at HO_214002)
              (try simp only [hl220002_61] at HO_227002)
              cases kq with
              | zero => exact absurd HA.out (by simp [laws_FnExactAddAsk.j1])
              | succ kj61 =>
                have H := HA.out
                clear HA
                simp only [laws_FnExactAddAsk.j1] at H
                by_cases c91 : x69_61 = true
                · subst c91
                  have H1 : (some false) = some r := by rw [if_pos rfl] at H; exact H
                  clear H
                  have H := H1
                  clear H1
                  obtain rfl := Option.some.inj H
                  go_wp2
                  go_ret
                  exact ⟨by first | rfl | (simp [errW_none, errW_some] <;> rfl) | (simp [*, errW_none, errW_some] <;> rfl), by repeat (first | (with_reducible first | exact HB.out | apply below_alloc | apply pw_below_drewN | apply below_drew1 | refine below_set ?_ GE200.out | refine below_set ?_ GE213.out | refine below_set ?_ GE219.out | refine below_set ?_ GE226.out) | exact HB.out)⟩
                · replace c91 := Bool.eq_false_iff.mpr c91
                  subst c91
                  have H1 : ((laws_markGame.f kj61 t220 t221 t222 1).bind fun bt237 => ((laws_heldGame.f kj61 t220 t221 bt237.2 1).bind fun t239 => (if t239 < 0 then (some false) else (if t239 = bt237.1 then ((laws_toGame.f kj61 a0_0 a0_1 l0_2).bind fun bt240 => ((impl_AddAsk.f kj61 bt240.1 bt240.2.1 bt240.2.2 a1 a2).bind fun bt245 => ((laws_eqGame.f kj61 bt245.1 bt245.2.1 bt245.2.2.1 t207 t208 t209).bind fun t252 => (if t252 = true then (laws_FnExactAddAsk.j2 kj61 bt237.1 (bt245.2.2.2 != t212) t220 t221 bt237.2) else (laws_FnExactAddAsk.j2 kj61 bt237.1 true t220 t221 bt237.2))))) else (some false))))) = some r := by rw [if_neg (show ¬ (false = true) by decide)] at H; exact H
                  clear H
                  have H := H1
                  clear H1
                  replace H := Option.bind_eq_some_iff.mp H
                  obtain ⟨⟨t237, t238⟩, A920, H⟩ := H
                  replace H : ((laws_heldGame.f kj61 t220 t221 t238 1).bind fun t239 => (if t239 < 0 then (some false) else (if t239 = t237 then ((laws_toGame.f kj61 a0_0 a0_1 l0_2).bind fun bt240 => ((impl_AddAsk.f kj61 bt240.1 bt240.2.1 bt240.2.2 a1 a2).bind fun bt245 => ((laws_eqGame.f kj61 bt245.1 bt245.2.1 bt245.2.2.1 t207 t208 t209).bind fun t252 => (if t252 = true then (laws_FnExactAddAsk.j2 kj61 t237 (bt245.2.2.2 != t212) t220 t221 t238) else (laws_FnExactAddAsk.j2 kj61 t237 true t220 t221 t238))))) else (some false)))) = some r := H
                  have A92 := Aside0.mk A920
                  clear A920
                  replace H := Option.bind_eq_some_iff.mp H
                  obtain ⟨t239, A930, H⟩ := H
                  replace H : (if t239 < 0 then (some false) else (if t239 = t237 then ((laws_toGame.f kj61 a0_0 a0_1 l0_2).bind fun bt240 => ((impl_AddAsk.f kj61 bt240.1 bt240.2.1 bt240.2.2 a1 a2).bind fun bt245 => ((laws_eqGame.f kj61 bt245.1 bt245.2.1 bt245.2.2.1 t207 t208 t209).bind fun t252 => (if t252 = true then (laws_FnExactAddAsk.j2 kj61 t237 (bt245.2.2.2 != t212) t220 t221 t238) else (laws_FnExactAddAsk.j2 kj61 t237 true t220 t221 t238))))) else (some false))) = some r := H
                  have A93 := Aside0.mk A930
                  clear A930
                  by_cases c94 : t239 < 0
                  · rw [if_pos c94] at H
                    have c94b0 : decide (t239 < 0) = true := decide_eq_true c94
                    clear c94
                    obtain rfl := Option.some.inj H
                    have hnb95 := NB226_200.out
                    have hnc95 := NB200_226.out
                    have hnb96 := NB226_213.out
                    have hnc96 := NB213_226.out
                    have hnb97 := NB226_219.out
                    have hnc97 := NB219_226.out
                    have hcz98_0 : wc.cell? ⟨gb226, 0, none⟩ = some (.int .i8 t220) := (blk_cell BK226.out 0).trans rfl
                    have hcz98_1 : wc.cell? ⟨gb226, 1, none⟩ = some (.int .i8 t221) := (blk_cell BK226.out 1).trans rfl
                    have hcz98_2 : wc.cell? ⟨gb226, 2, none⟩ = some (.slice Ao38 t222.length co38) := (blk_cell BK226.out 2).trans rfl
                    have hfz98_0 := blk_frozen BK226.out 0
                    have hfz98_1 := blk_frozen BK226.out 1
                    have hfz98_2 := blk_frozen BK226.out 2
                    go_wp2_with (first | ((with_reducible refine gate_callee (f := 28) rfl ?_); refine goesL_ (some 72) rfl rfl Try.func28 (by kernel_rfl) rfl #[.agg #[.int .i8 t220, .int .i8 t221, .slice Ao38 t222.length co38], .int .i64 1] rfl (by (try simp only [List.map_toArray, List.map_cons, List.map_nil]); first | done | rfl | (simp only [List.length_drop, List.length_take]; rfl)) ?_; (with_reducible refine (laws_markGame.calls kj61 t220 t221 (fun k_ => some k_ = (.slice Ao38 t222.length co38 : Value).ownBlock) (.slice Ao38 t222.length co38) t222 1 t237 t238 w _ ?side1 ?side2 A92.out).mono ?_); (case side1 => repeat (first | (with_reducible first | exact HB.out | apply below_alloc | apply pw_below_drewN | apply below_drew1 | refine below_set ?_ GE200.out | refine below_set ?_ GE213.out | refine below_set ?_ GE219.out | refine below_set ?_ GE226.out) | exact HB.out)); (case side2 => exact Kd.R_tight rfl HO_227002.out); rintro e w99 ⟨rfl, hy0, hb, hkp⟩; refine ⟨_, rfl, ?_⟩; have n0_ := Aside0.mk (Kd.R_mono (ok' := fun k_ => some k_ ≠ (.slice Ao31 t235.length co31 : Value).ownBlock ∧ some k_ ≠ (.slice Ao38 t222.length co38 : Value).ownBlock) (Kd.R_keptB (HO_214002.out) hkp (fun k_ hk_ hs_ => (hk_.2) hs_)) (fun k_ hk_ => ⟨hk_.1.1, hk_.1.2⟩)); have n1_ := Aside0.mk (Kd.R_mono (ok' := fun k_ => some k_ ≠ (.slice Ao24 t209.length co24 : Value).ownBlock ∧ some k_ ≠ (.slice Ao38 t222.length co38 : Value).ownBlock) (Kd.R_keptB (HO_220002.out) hkp (fun k_ hk_ hs_ => (hk_.2) hs_)) (fun k_ hk_ => ⟨hk_.1.1, hk_.1.2⟩)); have n2_ := Aside0.mk (Kd.R_reok rfl hy0 (fun k_ e_ => HO_227002.out.1 k_ e_)); have n3_ := Aside0.mk (blk_kept (by (with_reducible repeat (first | refine blk_drewN ?_ _ | refine blk_drew ?_ | refine blk_alloc ?_ _)); exact BK200.out) hkp (fun hs_ => (fun e_ => (Kd.R_ne HO_227002.out BK200.out (by decide)) e_) hs_)); have n4_ := Aside0.mk (blk_kept (by (with_reducible repeat (first | refine blk_drewN ?_ _ | refine blk_drew ?_ | refine blk_alloc ?_ _)); exact BK213.out) hkp (fun hs_ => (fun e_ => (Kd.R_ne HO_227002.out BK213.out (by decide)) e_) hs_)); have n5_ := Aside0.mk (blk_kept (by (with_reducible repeat (first | refine blk_drewN ?_ _ | refine blk_drew ?_ | refine blk_alloc ?_ _)); exact BK219.out) hkp (fun hs_ => (fun e_ => (Kd.R_ne HO_227002.out BK219.out (by decide)) e_) hs_)); have n6_ := Aside0.mk (blk_kept (by (with_reducible repeat (first | refine blk_drewN ?_ _ | refine blk_drew ?_ | refine blk_alloc ?_ _)); exact BK226.out) hkp (fun hs_ => (fun e_ => (Kd.R_ne HO_227002.out BK226.out (by decide)) e_) hs_)); have n7_ := Aside0.mk (hb); clear HO_214002; clear HO_220002; clear HO_227002; clear BK200; clear BK213; clear BK219; clear BK226; clear HB; have HO_214002 := n0_; have HO_220002 := n1_; have HO_227002 := n2_; have BK200 := n3_; have BK213 := n4_; have BK219 := n5_; have BK226 := n6_; have HB := n7_; clear n0_ n1_ n2_ n3_ n4_ n5_ n6_ n7_; (try clear hb); (try clear hkp); (try clear hy0); have hcz100_0 : w99.cell? ⟨gb226, 0, none⟩ = some (.int .i8 t220) := (blk_cell BK226.out 0).trans rfl; have hcz100_1 : w99.cell? ⟨gb226, 1, none⟩ = some (.int .i8 t221) := (blk_cell BK226.out 1).trans rfl; have hcz100_2 : w99.cell? ⟨gb226, 2, none⟩ = some (.slice Ao38 t222.length co38) := (blk_cell BK226.out 2).trans rfl; have hfz100_0 := blk_frozen BK226.out 0; have hfz100_1 := blk_frozen BK226.out 1; have hfz100_2 := blk_frozen BK226.out 2) | ((with_reducible refine gate_callee (f := 29) rfl ?_); refine goesL_ (some 75) rfl rfl Try.func29 (by kernel_rfl) rfl #[.agg #[.int .i8 t220, .int .i8 t221, .slice Ao38 t238.length co38], .int .i64 1] rfl (by (try simp only [List.map_toArray, List.map_cons, List.map_nil]); first | done | (rw [show t238.length = t222.length from (Kd.R_reads' HO_227002.out).1.symm] <;> rfl) | rfl | (simp only [List.length_drop, List.length_take]; rfl)) ?_; (with_reducible refine (laws_heldGame.calls kj61 t220 t221 _ _ t238 1 t239 _ ?side1 ?side2 A93.out).mono ?_); (case side1 => repeat (first | exact (Kd.R_reads' HO_227002.out).2.2 | (with_reducible refine Kd.C_alloc ?_ _) | (with_reducible refine Kd.C_drewN ?_ _) | (with_reducible refine Kd.C_drew ?_))); (case side2 => rw [show t238.length = t222.length from (Kd.R_reads' HO_227002.out).1.symm]; exact (Kd.R_reads' HO_227002.out).2.1); rintro e w101 ⟨rfl, hb⟩; refine ⟨_, rfl, ?_⟩; have n0_ := Aside0.mk (Kd.R_below (by (with_reducible repeat (first | apply Kd.R_alloc | apply Kd.R_drewN | apply Kd.R_drew)); exact HO_214002.out) hb); have n1_ := Aside0.mk (Kd.R_below (by (with_reducible repeat (first | apply Kd.R_alloc | apply Kd.R_drewN | apply Kd.R_drew)); exact HO_220002.out) hb); have n2_ := Aside0.mk (Kd.R_below (by (with_reducible repeat (first | apply Kd.R_alloc | apply Kd.R_drewN | apply Kd.R_drew)); exact HO_227002.out) hb); have n3_ := Aside0.mk (blk_below (g := gb200) (o := .cells #[.int .i8 a0_0, .int .i8 a0_1, .slice A0_2 l0_2.length c0_2] 45 (0, 0)) (by (with_reducible repeat (first | refine blk_drewN ?_ _ | refine blk_drew ?_ | refine blk_alloc ?_ _)); exact BK200.out) hb); have n4_ := Aside0.mk (blk_below (g := gb213) (o := .cells #[.int .i8 t207, .int .i8 t208, .slice Ao24 t209.length co24] 37 (0, 0)) (by (with_reducible repeat (first | refine blk_drewN ?_ _ | refine blk_drew ?_ | refine blk_alloc ?_ _)); exact BK213.out) hb); have n5_ := Aside0.mk (blk_below (g := gb219) (o := .cells #[.int .i8 t214, .int .i8 t215, .slice Ao31 t235.length co31] 37 (0, 0)) (by (with_reducible repeat (first | refine blk_drewN ?_ _ | refine blk_drew ?_ | refine blk_alloc ?_ _)); exact BK219.out) hb); have n6_ := Aside0.mk (blk_below (g := gb226) (o := .cells #[.int .i8 t220, .int .i8 t221, .slice Ao38 t222.length co38] 37 (0, 0)) (by (with_reducible repeat (first | refine blk_drewN ?_ _ | refine blk_drew ?_ | refine blk_alloc ?_ _)); exact BK226.out) hb); have n7_ := Aside0.mk (below_step (by repeat (first | (with_reducible first | exact HB.out | apply below_alloc | apply pw_below_drewN | apply below_drew1 | refine below_set ?_ GE200.out | refine below_set ?_ GE213.out | refine below_set ?_ GE219.out | refine below_set ?_ GE226.out) | exact HB.out)) hb); clear HO_214002; clear HO_220002; clear HO_227002; clear BK200; clear BK213; clear BK219; clear BK226; clear HB; have HO_214002 := n0_; have HO_220002 := n1_; have HO_227002 := n2_; have BK200 := n3_; have BK213 := n4_; have BK219 := n5_; have BK226 := n6_; have HB := n7_; clear n0_ n1_ n2_ n3_ n4_ n5_ n6_ n7_; (try clear hb); (try clear hb2); (try clear hk); (try clear hi)))
                    go_ret
                    exact ⟨by first | rfl | (simp [errW_none, errW_some] <;> rfl) | (simp [*, errW_none, errW_some] <;> rfl), by repeat (first | (with_reducible first | exact HB.out | apply below_alloc | apply pw_below_drewN | apply below_drew1 | refine below_set ?_ GE200.out | refine below_set ?_ GE213.out | refine below_set ?_ GE219.out | refine below_set ?_ GE226.out) | exact HB.out)⟩
                  · rw [if_neg c94] at H
                    have c94b0 : decide (t239 < 0) = false := decide_eq_false c94
                    clear c94
                    by_cases c102 : t239 = t237
                    · rw [if_pos c102] at H
                      have c102b0 : (t239 == t237) = true := beq_iff_eq.mpr c102
                      have c102b1 : (t239 != t237) = false := bne_eq_false_iff_eq.mpr c102
                      clear c102
                      replace H := Option.bind_eq_some_iff.mp H
                      obtain ⟨⟨t240, t241, t242⟩, A1030, H⟩ := H
                      replace H : ((impl_AddAsk.f kj61 t240 t241 t242 a1 a2).bind fun bt245 => ((laws_eqGame.f kj61 bt245.1 bt245.2.1 bt245.2.2.1 t207 t208 t209).bind fun t252 => (if t252 = true then (laws_FnExactAddAsk.j2 kj61 t237 (bt245.2.2.2 != t212) t220 t221 t238) else (laws_FnExactAddAsk.j2 kj61 t237 true t220 t221 t238)))) = some r := H
                      have A103 := Aside0.mk A1030
                      clear A1030
                      replace H := Option.bind_eq_some_iff.mp H
                      obtain ⟨⟨t245, t246, t247, t250⟩, A1040, H⟩ := H
                      replace H : ((laws_eqGame.f kj61 t245 t246 t247 t207 t208 t209).bind fun t252 => (if t252 = true then (laws_FnExactAddAsk.j2 kj61 t237 (t250 != t212) t220 t221 t238) else (laws_FnExactAddAsk.j2 kj61 t237 true t220 t221 t238))) = some r := H
                      have A104 := Aside0.mk A1040
                      clear A1040
                      have HC105 := Aside0.mk H
                      clear H
                      have hnb106 := NB226_200.out
                      have hnc106 := NB200_226.out
                      have hnb107 := NB226_213.out
                      have hnc107 := NB213_226.out
                      have hnb108 := NB226_219.out
                      have hnc108 := NB219_226.out
                      have hcz109_0 : wc.cell? ⟨gb226, 0, none⟩ = some (.int .i8 t220) := (blk_cell BK226.out 0).trans rfl
                      have hcz109_1 : wc.cell? ⟨gb226, 1, none⟩ = some (.int .i8 t221) := (blk_cell BK226.out 1).trans rfl
                      have hcz109_2 : wc.cell? ⟨gb226, 2, none⟩ = some (.slice Ao38 t222.length co38) := (blk_cell BK226.out 2).trans rfl
                      have hfz109_0 := blk_frozen BK226.out 0
                      have hfz109_1 := blk_frozen BK226.out 1
                      have hfz109_2 := blk_frozen BK226.out 2
                      go_upto_region 25 with (first | ((with_reducible refine gate_callee (f := 28) rfl ?_); refine goesL_ (some 72) rfl rfl Try.func28 (by kernel_rfl) rfl #[.agg #[.int .i8 t220, .int .i8 t221, .slice Ao38 t222.length co38], .int .i64 1] rfl (by (try simp only [List.map_toArray, List.map_cons, List.map_nil]); first | done | rfl | (simp only [List.length_drop, List.length_take]; rfl)) ?_; (with_reducible refine (laws_markGame.calls kj61 t220 t221 (fun k_ => some k_ = (.slice Ao38 t222.length co38 : Value).ownBlock) (.slice Ao38 t222.length co38) t222 1 t237 t238 w _ ?side1 ?side2 A92.out).mono ?_); (case side1 => repeat (first | (with_reducible first | exact HB.out | apply below_alloc | apply pw_below_drewN | apply below_drew1 | refine below_set ?_ GE200.out | refine below_set ?_ GE213.out | refine below_set ?_ GE219.out | refine below_set ?_ GE226.out) | exact HB.out)); (case side2 => exact Kd.R_tight rfl HO_227002.out); rintro e w110 ⟨rfl, hy0, hb, hkp⟩; refine ⟨_, rfl, ?_⟩; have n0_ := Aside0.mk (Kd.R_mono (ok' := fun k_ => some k_ ≠ (.slice Ao31 t235.length co31 : Value).ownBlock ∧ some k_ ≠ (.slice Ao38 t222.length co38 : Value).ownBlock) (Kd.R_keptB (HO_214002.out) hkp (fun k_ hk_ hs_ => (hk_.2) hs_)) (fun k_ hk_ => ⟨hk_.1.1, hk_.1.2⟩)); have n1_ := Aside0.mk (Kd.R_mono (ok' := fun k_ => some k_ ≠ (.slice Ao24 t209.length co24 : Value).ownBlock ∧ some k_ ≠ (.slice Ao38 t222.length co38 : Value).ownBlock) (Kd.R_keptB (HO_220002.out) hkp (fun k_ hk_ hs_ => (hk_.2) hs_)) (fun k_ hk_ => ⟨hk_.1.1, hk_.1.2⟩)); have n2_ := Aside0.mk (Kd.R_reok rfl hy0 (fun k_ e_ => HO_227002.out.1 k_ e_)); have n3_ := Aside0.mk (blk_kept (by (with_reducible repeat (first | refine blk_drewN ?_ _ | refine blk_drew ?_ | refine blk_alloc ?_ _)); exact BK200.out) hkp (fun hs_ => (fun e_ => (Kd.R_ne HO_227002.out BK200.out (by decide)) e_) hs_)); have n4_ := Aside0.mk (blk_kept (by (with_reducible repeat (first | refine blk_drewN ?_ _ | refine blk_drew ?_ | refine blk_alloc ?_ _)); exact BK213.out) hkp (fun hs_ => (fun e_ => (Kd.R_ne HO_227002.out BK213.out (by decide)) e_) hs_)); have n5_ := Aside0.mk (blk_kept (by (with_reducible repeat (first | refine blk_drewN ?_ _ | refine blk_drew ?_ | refine blk_alloc ?_ _)); exact BK219.out) hkp (fun hs_ => (fun e_ => (Kd.R_ne HO_227002.out BK219.out (by decide)) e_) hs_)); have n6_ := Aside0.mk (blk_kept (by (with_reducible repeat (first | refine blk_drewN ?_ _ | refine blk_drew ?_ | refine blk_alloc ?_ _)); exact BK226.out) hkp (fun hs_ => (fun e_ => (Kd.R_ne HO_227002.out BK226.out (by decide)) e_) hs_)); have n7_ := Aside0.mk (hb); clear HO_214002; clear HO_220002; clear HO_227002; clear BK200; clear BK213; clear BK219; clear BK226; clear HB; have HO_214002 := n0_; have HO_220002 := n1_; have HO_227002 := n2_; have BK200 := n3_; have BK213 := n4_; have BK219 := n5_; have BK226 := n6_; have HB := n7_; clear n0_ n1_ n2_ n3_ n4_ n5_ n6_ n7_; (try clear hb); (try clear hkp); (try clear hy0); have hcz111_0 : w110.cell? ⟨gb226, 0, none⟩ = some (.int .i8 t220) := (blk_cell BK226.out 0).trans rfl; have hcz111_1 : w110.cell? ⟨gb226, 1, none⟩ = some (.int .i8 t221) := (blk_cell BK226.out 1).trans rfl; have hcz111_2 : w110.cell? ⟨gb226, 2, none⟩ = some (.slice Ao38 t222.length co38) := (blk_cell BK226.out 2).trans rfl; have hfz111_0 := blk_frozen BK226.out 0; have hfz111_1 := blk_frozen BK226.out 1; have hfz111_2 := blk_frozen BK226.out 2) | ((with_reducible refine gate_callee (f := 29) rfl ?_); refine goesL_ (some 75) rfl rfl Try.func29 (by kernel_rfl) rfl #[.agg #[.int .i8 t220, .int .i8 t221, .slice Ao38 t238.length co38], .int .i64 1] rfl (by (try simp only [List.map_toArray, List.map_cons, List.map_nil]); first | done | (rw [show t238.length = t222.length from (Kd.R_reads' HO_227002.out).1.symm] <;> rfl) | rfl | (simp only [List.length_drop, List.length_take]; rfl)) ?_; (with_reducible refine (laws_heldGame.calls kj61 t220 t221 _ _ t238 1 t239 _ ?side1 ?side2 A93.out).mono ?_); (case side1 => repeat (first | exact (Kd.R_reads' HO_227002.out).2.2 | (with_reducible refine Kd.C_alloc ?_ _) | (with_reducible refine Kd.C_drewN ?_ _) | (with_reducible refine Kd.C_drew ?_))); (case side2 => rw [show t238.length = t222.length from (Kd.R_reads' HO_227002.out).1.symm]; exact (Kd.R_reads' HO_227002.out).2.1); rintro e w112 ⟨rfl, hb⟩; refine ⟨_, rfl, ?_⟩; have n0_ := Aside0.mk (Kd.R_below (by (with_reducible repeat (first | apply Kd.R_alloc | apply Kd.R_drewN | apply Kd.R_drew)); exact HO_214002.out) hb); have n1_ := Aside0.mk (Kd.R_below (by (with_reducible repeat (first | apply Kd.R_alloc | apply Kd.R_drewN | apply Kd.R_drew)); exact HO_220002.out) hb); have n2_ := Aside0.mk (Kd.R_below (by (with_reducible repeat (first | apply Kd.R_alloc | apply Kd.R_drewN | apply Kd.R_drew)); exact HO_227002.out) hb); have n3_ := Aside0.mk (blk_below (g := gb200) (o := .cells #[.int .i8 a0_0, .int .i8 a0_1, .slice A0_2 l0_2.length c0_2] 45 (0, 0)) (by (with_reducible repeat (first | refine blk_drewN ?_ _ | refine blk_drew ?_ | refine blk_alloc ?_ _)); exact BK200.out) hb); have n4_ := Aside0.mk (blk_below (g := gb213) (o := .cells #[.int .i8 t207, .int .i8 t208, .slice Ao24 t209.length co24] 37 (0, 0)) (by (with_reducible repeat (first | refine blk_drewN ?_ _ | refine blk_drew ?_ | refine blk_alloc ?_ _)); exact BK213.out) hb); have n5_ := Aside0.mk (blk_below (g := gb219) (o := .cells #[.int .i8 t214, .int .i8 t215, .slice Ao31 t235.length co31] 37 (0, 0)) (by (with_reducible repeat (first | refine blk_drewN ?_ _ | refine blk_drew ?_ | refine blk_alloc ?_ _)); exact BK219.out) hb); have n6_ := Aside0.mk (blk_below (g := gb226) (o := .cells #[.int .i8 t220, .int .i8 t221, .slice Ao38 t222.length co38] 37 (0, 0)) (by (with_reducible repeat (first | refine blk_drewN ?_ _ | refine blk_drew ?_ | refine blk_alloc ?_ _)); exact BK226.out) hb); have n7_ := Aside0.mk (below_step (by repeat (first | (with_reducible first | exact HB.out | apply below_alloc | apply pw_below_drewN | apply below_drew1 | refine below_set ?_ GE200.out | refine below_set ?_ GE213.out | refine below_set ?_ GE219.out | refine below_set ?_ GE226.out) | exact HB.out)) hb); clear HO_214002; clear HO_220002; clear HO_227002; clear BK200; clear BK213; clear BK219; clear BK226; clear HB; have HO_214002 := n0_; have HO_220002 := n1_; have HO_227002 := n2_; have BK200 := n3_; have BK213 := n4_; have BK219 := n5_; have BK226 := n6_; have HB := n7_; clear n0_ n1_ n2_ n3_ n4_ n5_ n6_ n7_; (try clear hb); (try clear hb2); (try clear hk); (try clear hi); have hnb113 := NB200_213.out; have hnc113 := NB213_200.out; have hnb114 := NB200_219.out; have hnc114 := NB219_200.out; have hcz115_0 : w112.cell? ⟨gb200, 0, none⟩ = some (.int .i8 a0_0) := (blk_cell BK200.out 0).trans rfl; have hcz115_1 : w112.cell? ⟨gb200, 1, none⟩ = some (.int .i8 a0_1) := (blk_cell BK200.out 1).trans rfl; have hcz115_2 : w112.cell? ⟨gb200, 2, none⟩ = some (.slice A0_2 l0_2.length c0_2) := (blk_cell BK200.out 2).trans rfl; have hfz115_0 := blk_frozen BK200.out 0; have hfz115_1 := blk_frozen BK200.out 1; have hfz115_2 := blk_frozen BK200.out 2) | ((with_reducible refine gate_callee (f := 32) rfl ?_); refine goesL_ (some 83) rfl rfl Try.func32 (by kernel_rfl) rfl #[.agg #[.int .i8 a0_0, .int .i8 a0_1, .slice A0_2 l0_2.length c0_2]] rfl (by (try simp only [List.map_toArray, List.map_cons, List.map_nil]); first | done | rfl | (simp only [List.length_drop, List.length_take]; rfl)) ?_; (with_reducible refine (laws_toGame.calls kj61 a0_0 a0_1 _ _ l0_2 t240 t241 t242 _ ?side1 ?side2 A103.out).mono ?_); (case side1 => repeat (first | exact (Kd.C_below HR0_2.out HB.out) | (with_reducible refine Kd.C_alloc ?_ _) | (with_reducible refine Kd.C_drewN ?_ _) | (with_reducible refine Kd.C_drew ?_))); (case side2 => exact HC0_2.out); rintro e w116 ⟨v243, rfl, ho0, hb⟩; refine ⟨_, rfl, ?_⟩; have n0_ := Aside0.mk (Kd.R_elder' (by (with_reducible repeat (first | apply Kd.R_alloc | apply Kd.R_drewN | apply Kd.R_drew)); exact HO_214002.out) (Kd.R_base ho0) hb); have n1_ := Aside0.mk (Kd.R_elder' (by (with_reducible repeat (first | apply Kd.R_alloc | apply Kd.R_drewN | apply Kd.R_drew)); exact HO_220002.out) (Kd.R_base ho0) hb); have n2_ := Aside0.mk (Kd.R_elder' (by (with_reducible repeat (first | apply Kd.R_alloc | apply Kd.R_drewN | apply Kd.R_drew)); exact HO_227002.out) (Kd.R_base ho0) hb); have n3_ := Aside0.mk (Kd.R_lower (Kd.R_new' (Kd.R_new' (Kd.R_new' ho0 (Kd.R_lt (by (with_reducible repeat (first | apply Kd.R_alloc | apply Kd.R_drewN | apply Kd.R_drew)); exact HO_214002.out))) (Kd.R_lt (by (with_reducible repeat (first | apply Kd.R_alloc | apply Kd.R_drewN | apply Kd.R_drew)); exact HO_220002.out))) (Kd.R_lt (by (with_reducible repeat (first | apply Kd.R_alloc | apply Kd.R_drewN | apply Kd.R_drew)); exact HO_227002.out))) (below_size (by repeat (first | (with_reducible first | exact HB.out | apply below_alloc | apply pw_below_drewN | apply below_drew1 | refine below_set ?_ GE200.out | refine below_set ?_ GE213.out | refine below_set ?_ GE219.out | refine below_set ?_ GE226.out) | exact HB.out)))); have n4_ := Aside0.mk (blk_below (g := gb200) (o := .cells #[.int .i8 a0_0, .int .i8 a0_1, .slice A0_2 l0_2.length c0_2] 45 (0, 0)) (by (with_reducible repeat (first | refine blk_drewN ?_ _ | refine blk_drew ?_ | refine blk_alloc ?_ _)); exact BK200.out) hb); have n5_ := Aside0.mk (blk_below (g := gb213) (o := .cells #[.int .i8 t207, .int .i8 t208, .slice Ao24 t209.length co24] 37 (0, 0)) (by (with_reducible repeat (first | refine blk_drewN ?_ _ | refine blk_drew ?_ | refine blk_alloc ?_ _)); exact BK213.out) hb); have n6_ := Aside0.mk (blk_below (g := gb219) (o := .cells #[.int .i8 t214, .int .i8 t215, .slice Ao31 t235.length co31] 37 (0, 0)) (by (with_reducible repeat (first | refine blk_drewN ?_ _ | refine blk_drew ?_ | refine blk_alloc ?_ _)); exact BK219.out) hb); have n7_ := Aside0.mk (blk_below (g := gb226) (o := .cells #[.int .i8 t220, .int .i8 t221, .slice Ao38 t222.length co38] 37 (0, 0)) (by (with_reducible repeat (first | refine blk_drewN ?_ _ | refine blk_drew ?_ | refine blk_alloc ?_ _)); exact BK226.out) hb); have n8_ := Aside0.mk (below_step (by repeat (first | (with_reducible first | exact HB.out | apply below_alloc | apply pw_below_drewN | apply below_drew1 | refine below_set ?_ GE200.out | refine below_set ?_ GE213.out | refine below_set ?_ GE219.out | refine below_set ?_ GE226.out) | exact HB.out)) hb); clear HO_214002; clear HO_220002; clear HO_227002; clear BK200; clear BK213; clear BK219; clear BK226; clear HB; have HO_214002 := n0_; have HO_220002 := n1_; have HO_227002 := n2_; have HO244 := n3_; have BK200 := n4_; have BK213 := n5_; have BK219 := n6_; have BK226 := n7_; have HB := n8_; clear n0_ n1_ n2_ n3_ n4_ n5_ n6_ n7_ n8_; (try clear hb); (try clear hb2); (try clear hk); (try clear hi); (try clear ho0); obtain ⟨Ao117, co117, eo117⟩ := Kd.R_slice HO244.out; subst eo117) | ((with_reducible refine gate_callee (f := 43) rfl ?_); refine goesL_ (some 86) rfl rfl Try.func43 (by kernel_rfl) rfl #[.agg #[.int .i8 t240, .int .i8 t241, .slice Ao117 t242.length co117], .int .u64 a1, .bool a2] rfl (by (try simp only [List.map_toArray, List.map_cons, List.map_nil]); first | done | rfl | (simp only [List.length_drop, List.length_take]; rfl)) ?_; (with_reducible refine (impl_AddAsk.calls kj61 t240 t241 _ _ t242 a1 a2 t245 t246 t247 t250 _ ?side1 ?side2 A104.out).mono ?_); (case side1 => repeat (first | exact (Kd.R_reads' HO244.out).2.2 | (with_reducible refine Kd.C_alloc ?_ _) | (with_reducible refine Kd.C_drewN ?_ _) | (with_reducible refine Kd.C_drew ?_))); (case side2 => exact (Kd.R_reads' HO244.out).2.1); rintro e w118 ⟨v248, rfl, ho0, hb⟩; refine ⟨_, rfl, ?_⟩; have n0_ := Aside0.mk (Kd.R_elder' (by (with_reducible repeat (first | apply Kd.R_alloc | apply Kd.R_drewN | apply Kd.R_drew)); exact HO_214002.out) (Kd.R_base ho0) hb); have n1_ := Aside0.mk (Kd.R_elder' (by (with_reducible repeat (first | apply Kd.R_alloc | apply Kd.R_drewN | apply Kd.R_drew)); exact HO_220002.out) (Kd.R_base ho0) hb); have n2_ := Aside0.mk (Kd.R_elder' (by (with_reducible repeat (first | apply Kd.R_alloc | apply Kd.R_drewN | apply Kd.R_drew)); exact HO_227002.out) (Kd.R_base ho0) hb); have n3_ := Aside0.mk (Kd.R_elder' (by (with_reducible repeat (first | apply Kd.R_alloc | apply Kd.R_drewN | apply Kd.R_drew)); exact HO244.out) (Kd.R_base ho0) hb); have n4_ := Aside0.mk (Kd.R_lower (Kd.R_new' (Kd.R_new' (Kd.R_new' (Kd.R_new' ho0 (Kd.R_lt (by (with_reducible repeat (first | apply Kd.R_alloc | apply Kd.R_drewN | apply Kd.R_drew)); exact HO_214002.out))) (Kd.R_lt (by (with_reducible repeat (first | apply Kd.R_alloc | apply Kd.R_drewN | apply Kd.R_drew)); exact HO_220002.out))) (Kd.R_lt (by (with_reducible repeat (first | apply Kd.R_alloc | apply Kd.R_drewN | apply Kd.R_drew)); exact HO_227002.out))) (Kd.R_lt (by (with_reducible repeat (first | apply Kd.R_alloc | apply Kd.R_drewN | apply Kd.R_drew)); exact HO244.out))) (below_size (by repeat (first | (with_reducible first | exact HB.out | apply below_alloc | apply pw_below_drewN | apply below_drew1 | refine below_set ?_ GE200.out | refine below_set ?_ GE213.out | refine below_set ?_ GE219.out | refine below_set ?_ GE226.out) | exact HB.out)))); have n5_ := Aside0.mk (blk_below (g := gb200) (o := .cells #[.int .i8 a0_0, .int .i8 a0_1, .slice A0_2 l0_2.length c0_2] 45 (0, 0)) (by (with_reducible repeat (first | refine blk_drewN ?_ _ | refine blk_drew ?_ | refine blk_alloc ?_ _)); exact BK200.out) hb); have n6_ := Aside0.mk (blk_below (g := gb213) (o := .cells #[.int .i8 t207, .int .i8 t208, .slice Ao24 t209.length co24] 37 (0, 0)) (by (with_reducible repeat (first | refine blk_drewN ?_ _ | refine blk_drew ?_ | refine blk_alloc ?_ _)); exact BK213.out) hb); have n7_ := Aside0.mk (blk_below (g := gb219) (o := .cells #[.int .i8 t214, .int .i8 t215, .slice Ao31 t235.length co31] 37 (0, 0)) (by (with_reducible repeat (first | refine blk_drewN ?_ _ | refine blk_drew ?_ | refine blk_alloc ?_ _)); exact BK219.out) hb); have n8_ := Aside0.mk (blk_below (g := gb226) (o := .cells #[.int .i8 t220, .int .i8 t221, .slice Ao38 t222.length co38] 37 (0, 0)) (by (with_reducible repeat (first | refine blk_drewN ?_ _ | refine blk_drew ?_ | refine blk_alloc ?_ _)); exact BK226.out) hb); have n9_ := Aside0.mk (below_step (by repeat (first | (with_reducible first | exact HB.out | apply below_alloc | apply pw_below_drewN | apply below_drew1 | refine below_set ?_ GE200.out | refine below_set ?_ GE213.out | refine below_set ?_ GE219.out | refine below_set ?_ GE226.out) | exact HB.out)) hb); clear HO_214002; clear HO_220002; clear HO_227002; clear HO244; clear BK200; clear BK213; clear BK219; clear BK226; clear HB; have HO_214002 := n0_; have HO_220002 := n1_; have HO_227002 := n2_; have HO244 := n3_; have HO249 := n4_; have BK200 := n5_; have BK213 := n6_; have BK219 := n7_; have BK226 := n8_; have HB := n9_; clear n0_ n1_ n2_ n3_ n4_ n5_ n6_ n7_ n8_ n9_; (try clear hb); (try clear hb2); (try clear hk); (try clear hi); (try clear ho0)) | ((with_reducible refine gate_dst (N := 16) rfl ?_); refine box_event ?hg (N := 16) ?hd (cs := #[.int .i8 0, .int .i8 0, .slice none 0 0]) (t := 37) ?hr ?_; (case hd => rfl); (case hg => rfl); (case hr => first | (go_simp; done) | (go_simp; rfl)); intro gb251 hg w119 hbox hb; have n0_ := Aside0.mk (Kd.R_below (by (with_reducible repeat (first | apply Kd.R_alloc | apply Kd.R_drewN | apply Kd.R_drew)); exact HO_214002.out) hb); have n1_ := Aside0.mk (Kd.R_below (by (with_reducible repeat (first | apply Kd.R_alloc | apply Kd.R_drewN | apply Kd.R_drew)); exact HO_220002.out) hb); have n2_ := Aside0.mk (Kd.R_below (by (with_reducible repeat (first | apply Kd.R_alloc | apply Kd.R_drewN | apply Kd.R_drew)); exact HO_227002.out) hb); have n3_ := Aside0.mk (Kd.R_below (by (with_reducible repeat (first | apply Kd.R_alloc | apply Kd.R_drewN | apply Kd.R_drew)); exact HO244.out) hb); have n4_ := Aside0.mk (Kd.R_below (by (with_reducible repeat (first | apply Kd.R_alloc | apply Kd.R_drewN | apply Kd.R_drew)); exact HO249.out) hb); have n5_ := Aside0.mk (blk_below (g := gb200) (o := .cells #[.int .i8 a0_0, .int .i8 a0_1, .slice A0_2 l0_2.length c0_2] 45 (0, 0)) (by (with_reducible repeat (first | refine blk_drewN ?_ _ | refine blk_drew ?_ | refine blk_alloc ?_ _)); exact BK200.out) hb); have n6_ := Aside0.mk (blk_below (g := gb213) (o := .cells #[.int .i8 t207, .int .i8 t208, .slice Ao24 t209.length co24] 37 (0, 0)) (by (with_reducible repeat (first | refine blk_drewN ?_ _ | refine blk_drew ?_ | refine blk_alloc ?_ _)); exact BK213.out) hb); have n7_ := Aside0.mk (blk_below (g := gb219) (o := .cells #[.int .i8 t214, .int .i8 t215, .slice Ao31 t235.length co31] 37 (0, 0)) (by (with_reducible repeat (first | refine blk_drewN ?_ _ | refine blk_drew ?_ | refine blk_alloc ?_ _)); exact BK219.out) hb); have n8_ := Aside0.mk (blk_below (g := gb226) (o := .cells #[.int .i8 t220, .int .i8 t221, .slice Ao38 t222.length co38] 37 (0, 0)) (by (with_reducible repeat (first | refine blk_drewN ?_ _ | refine blk_drew ?_ | refine blk_alloc ?_ _)); exact BK226.out) hb); have n9_ := Aside0.mk (below_step (by repeat (first | (with_reducible first | exact HB.out | apply below_alloc | apply pw_below_drewN | apply below_drew1 | refine below_set ?_ GE200.out | refine below_set ?_ GE213.out | refine below_set ?_ GE219.out | refine below_set ?_ GE226.out) | exact HB.out)) hb); have n10_ := Aside0.mk (hbox); have n11_ := Aside0.mk ((by rw [hg]; exact (below_size (by repeat (first | (with_reducible first | exact HB.out | apply below_alloc | apply pw_below_drewN | apply below_drew1 | refine below_set ?_ GE200.out | refine below_set ?_ GE213.out | refine below_set ?_ GE219.out | refine below_set ?_ GE226.out) | exact HB.out))) : w.heap.size ≤ gb251)); have n12_ := Aside0.mk ((by rw [hg]; exact (below_size (by repeat (first | (with_reducible first | exact HB.out | apply below_alloc | apply pw_below_drewN | apply below_drew1 | refine below_set ?_ GE200.out | refine below_set ?_ GE213.out | refine below_set ?_ GE219.out | refine below_set ?_ GE226.out) | exact HB.out))) : w.heap.size ≤ gb251)); have n13_ := Aside0.mk ((by rw [hg]; exact Nat.ne_of_lt (blk_lt (g := gb200) (o := .cells #[.int .i8 a0_0, .int .i8 a0_1, .slice A0_2 l0_2.length c0_2] 45 (0, 0)) (by (with_reducible repeat (first | refine blk_drewN ?_ _ | refine blk_drew ?_ | refine blk_alloc ?_ _)); exact BK200.out)) : gb200 ≠ gb251)); have n14_ := Aside0.mk ((by rw [hg]; exact Nat.ne_of_gt (blk_lt (g := gb200) (o := .cells #[.int .i8 a0_0, .int .i8 a0_1, .slice A0_2 l0_2.length c0_2] 45 (0, 0)) (by (with_reducible repeat (first | refine blk_drewN ?_ _ | refine blk_drew ?_ | refine blk_alloc ?_ _)); exact BK200.out)) : gb251 ≠ gb200)); have n15_ := Aside0.mk ((by rw [hg]; exact Nat.ne_of_lt (blk_lt (g := gb213) (o := .cells #[.int .i8 t207, .int .i8 t208, .slice Ao24 t209.length co24] 37 (0, 0)) (by (with_reducible repeat (first | refine blk_drewN ?_ _ | refine blk_drew ?_ | refine blk_alloc ?_ _)); exact BK213.out)) : gb213 ≠ gb251)); have n16_ := Aside0.mk ((by rw [hg]; exact Nat.ne_of_gt (blk_lt (g := gb213) (o := .cells #[.int .i8 t207, .int .i8 t208, .slice Ao24 t209.length co24] 37 (0, 0)) (by (with_reducible repeat (first | refine blk_drewN ?_ _ | refine blk_drew ?_ | refine blk_alloc ?_ _)); exact BK213.out)) : gb251 ≠ gb213)); have n17_ := Aside0.mk ((by rw [hg]; exact Nat.ne_of_lt (blk_lt (g := gb219) (o := .cells #[.int .i8 t214, .int .i8 t215, .slice Ao31 t235.length co31] 37 (0, 0)) (by (with_reducible repeat (first | refine blk_drewN ?_ _ | refine blk_drew ?_ | refine blk_alloc ?_ _)); exact BK219.out)) : gb219 ≠ gb251)); have n18_ := Aside0.mk ((by rw [hg]; exact Nat.ne_of_gt (blk_lt (g := gb219) (o := .cells #[.int .i8 t214, .int .i8 t215, .slice Ao31 t235.length co31] 37 (0, 0)) (by (with_reducible repeat (first | refine blk_drewN ?_ _ | refine blk_drew ?_ | refine blk_alloc ?_ _)); exact BK219.out)) : gb251 ≠ gb219)); have n19_ := Aside0.mk ((by rw [hg]; exact Nat.ne_of_lt (blk_lt (g := gb226) (o := .cells #[.int .i8 t220, .int .i8 t221, .slice Ao38 t222.length co38] 37 (0, 0)) (by (with_reducible repeat (first | refine blk_drewN ?_ _ | refine blk_drew ?_ | refine blk_alloc ?_ _)); exact BK226.out)) : gb226 ≠ gb251)); have n20_ := Aside0.mk ((by rw [hg]; exact Nat.ne_of_gt (blk_lt (g := gb226) (o := .cells #[.int .i8 t220, .int .i8 t221, .slice Ao38 t222.length co38] 37 (0, 0)) (by (with_reducible repeat (first | refine blk_drewN ?_ _ | refine blk_drew ?_ | refine blk_alloc ?_ _)); exact BK226.out)) : gb251 ≠ gb226)); clear HO_214002; clear HO_220002; clear HO_227002; clear HO244; clear HO249; clear BK200; clear BK213; clear BK219; clear BK226; clear HB; have HO_214002 := n0_; have HO_220002 := n1_; have HO_227002 := n2_; have HO244 := n3_; have HO249 := n4_; have BK200 := n5_; have BK213 := n6_; have BK219 := n7_; have BK226 := n8_; have HB := n9_; have BK251 := n10_; have GW251 := n11_; have GE251 := n12_; have NB200_251 := n13_; have NB251_200 := n14_; have NB213_251 := n15_; have NB251_213 := n16_; have NB219_251 := n17_; have NB251_219 := n18_; have NB226_251 := n19_; have NB251_226 := n20_; clear n0_ n1_ n2_ n3_ n4_ n5_ n6_ n7_ n8_ n9_ n10_ n11_ n12_ n13_ n14_ n15_ n16_ n17_ n18_ n19_ n20_; clear hb hbox hg; have hnb120 := NB251_200.out; have hnc120 := NB200_251.out; have hnb121 := NB251_213.out; have hnc121 := NB213_251.out; have hnb122 := NB251_219.out; have hnc122 := NB219_251.out; have hnb123 := NB251_226.out; have hnc123 := NB226_251.out; have hcz124_0 : w119.cell? ⟨gb251, 0, none⟩ = some (.int .i8 0) := (blk_cell BK251.out 0).trans rfl; have hcz124_1 : w119.cell? ⟨gb251, 1, none⟩ = some (.int .i8 0) := (blk_cell BK251.out 1).trans rfl; have hcz124_2 : w119.cell? ⟨gb251, 2, none⟩ = some (.slice none 0 0) := (blk_cell BK251.out 2).trans rfl; have hfz124_0 := blk_frozen BK251.out 0; have hfz124_1 := blk_frozen BK251.out 1; have hfz124_2 := blk_frozen BK251.out 2; obtain ⟨Ao125, co125, eo125⟩ := Kd.R_slice HO249.out; subst eo125))
                      (try simp only [Act.put, List.setIfInBounds_toArray, List.set_cons_zero, List.set_cons_succ])
                      go_cut [97] (fun v97 wc => ∃ (kq : Nat) (x97_104 : Bool), v97 = .bool x97_104 ∧ Aside0 (laws_FnExactAddAsk.j2 kq t237 x97_104 t220 t221 t238 = some r) ∧ Aside0 (kq ≤ kj61) ∧ Aside0 (Kd.R k75 75 wc w.heap.size (fun k_ => some k_ ≠ ((.slice Ao31 t235.length co31) : Value).ownBlock ∧ some k_ ≠ ((.slice Ao38 t222.length co38) : Value).ownBlock ∧ some k_ ≠ ((.slice Ao125 t247.length co125) : Value).ownBlock) (.slice Ao24 t209.length co24) t209) ∧ Aside0 (Kd.R k75 75 wc w.heap.size (fun k_ => some k_ ≠ ((.slice Ao24 t209.length co24) : Value).ownBlock ∧ some k_ ≠ ((.slice Ao38 t222.length co38) : Value).ownBlock ∧ some k_ ≠ ((.slice Ao125 t247.length co125) : Value).ownBlock) (.slice Ao31 t235.length co31) t235) ∧ Aside0 (Kd.R k75 75 wc w.heap.size (fun k_ => some k_ ≠ ((.slice Ao24 t209.length co24) : Value).ownBlock ∧ some k_ ≠ ((.slice Ao31 t235.length co31) : Value).ownBlock ∧ some k_ ≠ ((.slice Ao125 t247.length co125) : Value).ownBlock) (.slice Ao38 t222.length co38) t238) ∧ Aside0 (Kd.R k75 75 wc w.heap.size (fun k_ => some k_ ≠ ((.slice Ao24 t209.length co24) : Value).ownBlock ∧ some k_ ≠ ((.slice Ao31 t235.length co31) : Value).ownBlock ∧ some k_ ≠ ((.slice Ao38 t222.length co38) : Value).ownBlock) (.slice Ao125 t247.length co125) t247) ∧ Aside0 (wc.heap[gb200]? = some (.cells #[.int .i8 a0_0, .int .i8 a0_1, (.slice A0_2 l0_2.length c0_2)] 45 (0, 0))) ∧ Aside0 (wc.heap[gb213]? = some (.cells #[.int .i8 t207, .int .i8 t208, (.slice Ao24 t209.length co24)] 37 (0, 0))) ∧ Aside0 (wc.heap[gb219]? = some (.cells #[.int .i8 t214, .int .i8 t215, (.slice Ao31 t235.length co31)] 37 (0, 0))) ∧ Aside0 (wc.heap[gb226]? = some (.cells #[.int .i8 t220, .int .i8 t221, (.slice Ao38 t222.length co38)] 37 (0, 0))) ∧ Aside0 (wc.heap[gb251]? = some (.cells #[.int .i8 t245, .int .i8 t246, (.slice Ao125 t247.length co125)] 37 (0, 0))) ∧ Aside0 (Below w.heap.size w wc))
                      case first =>
                        have H := HC105.out
                        clear HC105
                        replace H := Option.bind_eq_some_iff.mp H
                        obtain ⟨t252, A1260, H⟩ := H
                        replace H : (if t252 = true then (laws_FnExactAddAsk.j2 kj61 t237 (t250 != t212) t220 t221 t238) else (laws_FnExactAddAsk.j2 kj61 t237 true t220 t221 t238)) = some r := H
                        have A126 := Aside0.mk A1260
                        clear A1260
                        by_cases c127 : t252 = true
                        · subst c127
                          have H1 : (laws_FnExactAddAsk.j2 kj61 t237 (t250 != t212) t220 t221 t238) = some r := by rw [if_pos rfl] at H; exact H
                          clear H
                          have H := H1
                          clear H1
                          have H' := Aside0.mk H
                          clear H
                          have hnb128 := NB251_200.out
                          have hnc128 := NB200_251.out
                          have hnb129 := NB251_213.out
                          have hnc129 := NB213_251.out
                          have hnb130 := NB251_219.out
                          have hnc130 := NB219_251.out
                          have hnb131 := NB251_226.out
                          have hnc131 := NB226_251.out
                          have hcz132_0 : w119.cell? ⟨gb251, 0, none⟩ = some (.int .i8 0) := (blk_cell BK251.out 0).trans rfl
                          have hcz132_1 : w119.cell? ⟨gb251, 1, none⟩ = some (.int .i8 0) := (blk_cell BK251.out 1).trans rfl
                          have hcz132_2 : w119.cell? ⟨gb251, 2, none⟩ = some (.slice none 0 0) := (blk_cell BK251.out 2).trans rfl
                          have hfz132_0 := blk_frozen BK251.out 0
                          have hfz132_1 := blk_frozen BK251.out 1
                          have hfz132_2 := blk_frozen BK251.out 2
                          have hnb133 := NB213_200.out
                          have hnc133 := NB200_213.out
                          have hnb134 := NB213_219.out
                          have hnc134 := NB219_213.out
                          have hnb135 := NB213_226.out
                          have hnc135 := NB226_213.out
                          have hcz136_0 : w119.cell? ⟨gb213, 0, none⟩ = some (.int .i8 t207) := (blk_cell BK213.out 0).trans rfl
                          have hcz136_1 : w119.cell? ⟨gb213, 1, none⟩ = some (.int .i8 t208) := (blk_cell BK213.out 1).trans rfl
                          have hcz136_2 : w119.cell? ⟨gb213, 2, none⟩ = some (.slice Ao24 t209.length co24) := (blk_cell BK213.out 2).trans rfl
                          have hfz136_0 := blk_frozen BK213.out 0
                          have hfz136_1 := blk_frozen BK213.out 1
                          have hfz136_2 := blk_frozen BK213.out 2
                          go_wp2_with (first | ((with_reducible refine gate_callee (f := 27) rfl ?_); refine goesL_ (some 91) rfl rfl Try.func27 (by kernel_rfl) rfl #[.agg #[.int .i8 t245, .int .i8 t246, .slice Ao125 t247.length co125], .agg #[.int .i8 t207, .int .i8 t208, .slice Ao24 t209.length co24]] rfl (by (try simp only [List.map_toArray, List.map_cons, List.map_nil]); first | done | rfl | (simp only [List.length_drop, List.length_take]; rfl)) ?_; (with_reducible refine (laws_eqGame.calls kj61 t245 t246 _ _ t247 t207 t208 _ _ t209 true _ ?side1 ?side2 ?side3 ?side4 A126.out).mono ?_); (case side1 => refine (Kd.R_reads' (e := 75) (base := w.heap.size) (ok := fun k_ => ((((True ∧ some k_ ≠ (.slice Ao24 t209.length co24 : Value).ownBlock) ∧ some k_ ≠ (.slice Ao31 t235.length co31 : Value).ownBlock) ∧ some k_ ≠ (.slice Ao38 t222.length co38 : Value).ownBlock) ∧ some k_ ≠ (.slice Ao117 t242.length co117 : Value).ownBlock)) (n := t247.length) (c := co125) ?_).2.2; exact (by (with_reducible repeat (first | apply Kd.R_alloc | apply Kd.R_drewN | apply Kd.R_drew)); exact (Kd.R_mono (Kd.R_far (p := ⟨gb251, 2, none⟩) (Kd.R_far (p := ⟨gb251, 1, none⟩) (Kd.R_far (p := ⟨gb251, 0, none⟩) (Kd.R_types HO249.out BK251.out (by decide)) (fun _ hk => hk.2) (.int .i8 t245)) (fun _ hk => hk.2) (.int .i8 t246)) (fun _ hk => hk.2) (.slice Ao125 t247.length co125)) (fun _ h_ => h_.1)))); (case side2 => exact (Kd.R_reads' HO249.out).2.1); (case side3 => refine (Kd.R_reads' (e := 75) (base := w.heap.size) (ok := fun k_ => (((some k_ ≠ (.slice Ao31 t235.length co31 : Value).ownBlock ∧ some k_ ≠ (.slice Ao38 t222.length co38 : Value).ownBlock) ∧ some k_ ≠ (.slice Ao117 t242.length co117 : Value).ownBlock) ∧ some k_ ≠ (.slice Ao125 t247.length co125 : Value).ownBlock)) (n := t209.length) (c := co24) ?_).2.2; exact (by (with_reducible repeat (first | apply Kd.R_alloc | apply Kd.R_drewN | apply Kd.R_drew)); exact (Kd.R_mono (Kd.R_far (p := ⟨gb251, 2, none⟩) (Kd.R_far (p := ⟨gb251, 1, none⟩) (Kd.R_far (p := ⟨gb251, 0, none⟩) (Kd.R_types HO_214002.out BK251.out (by decide)) (fun _ hk => hk.2) (.int .i8 t245)) (fun _ hk => hk.2) (.int .i8 t246)) (fun _ hk => hk.2) (.slice Ao125 t247.length co125)) (fun _ h_ => h_.1)))); (case side4 => exact (Kd.R_reads' HO_214002.out).2.1); rintro e w137 ⟨rfl, hb⟩; refine ⟨_, rfl, ?_⟩; have n0_ := Aside0.mk (Kd.R_below (by (with_reducible repeat (first | apply Kd.R_alloc | apply Kd.R_drewN | apply Kd.R_drew)); exact (Kd.R_mono (Kd.R_far (p := ⟨gb251, 2, none⟩) (Kd.R_far (p := ⟨gb251, 1, none⟩) (Kd.R_far (p := ⟨gb251, 0, none⟩) (Kd.R_types HO_214002.out BK251.out (by decide)) (fun _ hk => hk.2) (.int .i8 t245)) (fun _ hk => hk.2) (.int .i8 t246)) (fun _ hk => hk.2) (.slice Ao125 t247.length co125)) (fun _ h_ => h_.1))) hb); have n1_ := Aside0.mk (Kd.R_below (by (with_reducible repeat (first | apply Kd.R_alloc | apply Kd.R_drewN | apply Kd.R_drew)); exact (Kd.R_mono (Kd.R_far (p := ⟨gb251, 2, none⟩) (Kd.R_far (p := ⟨gb251, 1, none⟩) (Kd.R_far (p := ⟨gb251, 0, none⟩) (Kd.R_types HO_220002.out BK251.out (by decide)) (fun _ hk => hk.2) (.int .i8 t245)) (fun _ hk => hk.2) (.int .i8 t246)) (fun _ hk => hk.2) (.slice Ao125 t247.length co125)) (fun _ h_ => h_.1))) hb); have n2_ := Aside0.mk (Kd.R_below (by (with_reducible repeat (first | apply Kd.R_alloc | apply Kd.R_drewN | apply Kd.R_drew)); exact (Kd.R_mono (Kd.R_far (p := ⟨gb251, 2, none⟩) (Kd.R_far (p := ⟨gb251, 1, none⟩) (Kd.R_far (p := ⟨gb251, 0, none⟩) (Kd.R_types HO_227002.out BK251.out (by decide)) (fun _ hk => hk.2) (.int .i8 t245)) (fun _ hk => hk.2) (.int .i8 t246)) (fun _ hk => hk.2) (.slice Ao125 t247.length co125)) (fun _ h_ => h_.1))) hb); have n3_ := Aside0.mk (Kd.R_below (by (with_reducible repeat (first | apply Kd.R_alloc | apply Kd.R_drewN | apply Kd.R_drew)); exact (Kd.R_mono (Kd.R_far (p := ⟨gb251, 2, none⟩) (Kd.R_far (p := ⟨gb251, 1, none⟩) (Kd.R_far (p := ⟨gb251, 0, none⟩) (Kd.R_types HO244.out BK251.out (by decide)) (fun _ hk => hk.2) (.int .i8 t245)) (fun _ hk => hk.2) (.int .i8 t246)) (fun _ hk => hk.2) (.slice Ao125 t247.length co125)) (fun _ h_ => h_.1))) hb); have n4_ := Aside0.mk (Kd.R_below (by (with_reducible repeat (first | apply Kd.R_alloc | apply Kd.R_drewN | apply Kd.R_drew)); exact (Kd.R_mono (Kd.R_far (p := ⟨gb251, 2, none⟩) (Kd.R_far (p := ⟨gb251, 1, none⟩) (Kd.R_far (p := ⟨gb251, 0, none⟩) (Kd.R_types HO249.out BK251.out (by decide)) (fun _ hk => hk.2) (.int .i8 t245)) (fun _ hk => hk.2) (.int .i8 t246)) (fun _ hk => hk.2) (.slice Ao125 t247.length co125)) (fun _ h_ => h_.1))) hb); have n5_ := Aside0.mk (blk_below (g := gb200) (o := .cells #[.int .i8 a0_0, .int .i8 a0_1, .slice A0_2 l0_2.length c0_2] 45 (0, 0)) (by (with_reducible repeat (first | refine blk_drewN ?_ _ | refine blk_drew ?_ | refine blk_alloc ?_ _)); refine blk_far ?_ NB200_251.out _; (with_reducible repeat (first | refine blk_drewN ?_ _ | refine blk_drew ?_ | refine blk_alloc ?_ _)); refine blk_far ?_ NB200_251.out _; (with_reducible repeat (first | refine blk_drewN ?_ _ | refine blk_drew ?_ | refine blk_alloc ?_ _)); refine blk_far ?_ NB200_251.out _; (with_reducible repeat (first | refine blk_drewN ?_ _ | refine blk_drew ?_ | refine blk_alloc ?_ _)); exact BK200.out) hb); have n6_ := Aside0.mk (blk_below (g := gb213) (o := .cells #[.int .i8 t207, .int .i8 t208, .slice Ao24 t209.length co24] 37 (0, 0)) (by (with_reducible repeat (first | refine blk_drewN ?_ _ | refine blk_drew ?_ | refine blk_alloc ?_ _)); refine blk_far ?_ NB213_251.out _; (with_reducible repeat (first | refine blk_drewN ?_ _ | refine blk_drew ?_ | refine blk_alloc ?_ _)); refine blk_far ?_ NB213_251.out _; (with_reducible repeat (first | refine blk_drewN ?_ _ | refine blk_drew ?_ | refine blk_alloc ?_ _)); refine blk_far ?_ NB213_251.out _; (with_reducible repeat (first | refine blk_drewN ?_ _ | refine blk_drew ?_ | refine blk_alloc ?_ _)); exact BK213.out) hb); have n7_ := Aside0.mk (blk_below (g := gb219) (o := .cells #[.int .i8 t214, .int .i8 t215, .slice Ao31 t235.length co31] 37 (0, 0)) (by (with_reducible repeat (first | refine blk_drewN ?_ _ | refine blk_drew ?_ | refine blk_alloc ?_ _)); refine blk_far ?_ NB219_251.out _; (with_reducible repeat (first | refine blk_drewN ?_ _ | refine blk_drew ?_ | refine blk_alloc ?_ _)); refine blk_far ?_ NB219_251.out _; (with_reducible repeat (first | refine blk_drewN ?_ _ | refine blk_drew ?_ | refine blk_alloc ?_ _)); refine blk_far ?_ NB219_251.out _; (with_reducible repeat (first | refine blk_drewN ?_ _ | refine blk_drew ?_ | refine blk_alloc ?_ _)); exact BK219.out) hb); have n8_ := Aside0.mk (blk_below (g := gb226) (o := .cells #[.int .i8 t220, .int .i8 t221, .slice Ao38 t222.length co38] 37 (0, 0)) (by (with_reducible repeat (first | refine blk_drewN ?_ _ | refine blk_drew ?_ | refine blk_alloc ?_ _)); refine blk_far ?_ NB226_251.out _; (with_reducible repeat (first | refine blk_drewN ?_ _ | refine blk_drew ?_ | refine blk_alloc ?_ _)); refine blk_far ?_ NB226_251.out _; (with_reducible repeat (first | refine blk_drewN ?_ _ | refine blk_drew ?_ | refine blk_alloc ?_ _)); refine blk_far ?_ NB226_251.out _; (with_reducible repeat (first | refine blk_drewN ?_ _ | refine blk_drew ?_ | refine blk_alloc ?_ _)); exact BK226.out) hb); have n9_ := Aside0.mk (blk_below (g := gb251) (o := .cells #[.int .i8 t245, .int .i8 t246, .slice Ao125 t247.length co125] 37 (0, 0)) (by (with_reducible repeat (first | refine blk_drewN ?_ _ | refine blk_drew ?_ | refine blk_alloc ?_ _)); refine blk_put (cs := #[.int .i8 t245, .int .i8 t246, .slice none 0 0]) ?_ 2 _ rfl; (with_reducible repeat (first | refine blk_drewN ?_ _ | refine blk_drew ?_ | refine blk_alloc ?_ _)); refine blk_put (cs := #[.int .i8 t245, .int .i8 0, .slice none 0 0]) ?_ 1 _ rfl; (with_reducible repeat (first | refine blk_drewN ?_ _ | refine blk_drew ?_ | refine blk_alloc ?_ _)); refine blk_put (cs := #[.int .i8 0, .int .i8 0, .slice none 0 0]) ?_ 0 _ rfl; (with_reducible repeat (first | refine blk_drewN ?_ _ | refine blk_drew ?_ | refine blk_alloc ?_ _)); exact BK251.out) hb); have n10_ := Aside0.mk (below_step (by repeat (first | (with_reducible first | exact HB.out | apply below_alloc | apply pw_below_drewN | apply below_drew1 | refine below_set ?_ GE200.out | refine below_set ?_ GE213.out | refine below_set ?_ GE219.out | refine below_set ?_ GE226.out | refine below_set ?_ GE251.out) | exact HB.out)) hb); clear HO_214002; clear HO_220002; clear HO_227002; clear HO244; clear HO249; clear BK200; clear BK213; clear BK219; clear BK226; clear BK251; clear HB; have HO_214002 := n0_; have HO_220002 := n1_; have HO_227002 := n2_; have HO244 := n3_; have HO249 := n4_; have BK200 := n5_; have BK213 := n6_; have BK219 := n7_; have BK226 := n8_; have BK251 := n9_; have HB := n10_; clear n0_ n1_ n2_ n3_ n4_ n5_ n6_ n7_ n8_ n9_ n10_; (try clear hb); (try clear hb2); (try clear hk); (try clear hi)))
                          go_meet
                          case rel => exact ⟨_, ((t250 != t212)), (by first | rfl | (simp; done) | (simp [*]; done)), H', ⟨by have := HJ12.out; have := HJ61.out; first | omega | exact Nat.le_refl _⟩, ⟨by (try simp only [hl220002_61]); (with_reducible repeat (first | apply Kd.R_alloc | apply Kd.R_drewN | apply Kd.R_drew)); exact Kd.R_mono HO_214002.out (fun _ hk => ⟨hk.1.1.1, ⟨hk.1.1.2, hk.2⟩⟩)⟩, ⟨by (try simp only [hl220002_61]); (with_reducible repeat (first | apply Kd.R_alloc | apply Kd.R_drewN | apply Kd.R_drew)); exact Kd.R_mono HO_220002.out (fun _ hk => ⟨hk.1.1.1, ⟨hk.1.1.2, hk.2⟩⟩)⟩, ⟨by (try simp only [hl220002_61]); (with_reducible repeat (first | apply Kd.R_alloc | apply Kd.R_drewN | apply Kd.R_drew)); exact Kd.R_mono HO_227002.out (fun _ hk => ⟨hk.1.1.1, ⟨hk.1.1.2, hk.2⟩⟩)⟩, ⟨by (try simp only [hl220002_61]); (with_reducible repeat (first | apply Kd.R_alloc | apply Kd.R_drewN | apply Kd.R_drew)); exact Kd.R_mono HO249.out (fun _ hk => ⟨hk.1.1.1.2, ⟨hk.1.1.2, hk.1.2⟩⟩)⟩, ⟨by (try simp only [hl220002_61]); (with_reducible repeat (first | refine blk_drewN ?_ _ | refine blk_drew ?_ | refine blk_alloc ?_ _)); exact BK200.out⟩, ⟨by (try simp only [hl220002_61]); (with_reducible repeat (first | refine blk_drewN ?_ _ | refine blk_drew ?_ | refine blk_alloc ?_ _)); exact BK213.out⟩, ⟨by (try simp only [hl220002_61]); (with_reducible repeat (first | refine blk_drewN ?_ _ | refine blk_drew ?_ | refine blk_alloc ?_ _)); exact BK219.out⟩, ⟨by (try simp only [hl220002_61]); (with_reducible repeat (first | refine blk_drewN ?_ _ | refine blk_drew ?_ | refine blk_alloc ?_ _)); exact BK226.out⟩, ⟨by (try simp only [hl220002_61]); (with_reducible repeat (first | refine blk_drewN ?_ _ | refine blk_drew ?_ | refine blk_alloc ?_ _)); exact BK251.out⟩, ⟨by repeat (first | (with_reducible first | exact HB.out | apply below_alloc | apply pw_below_drewN | apply below_drew1 | refine below_set ?_ GE200.out | refine below_set ?_ GE213.out | refine below_set ?_ GE219.out | refine below_set ?_ GE226.out | refine below_set ?_ GE251.out) | exact HB.out)⟩⟩
                        · replace c127 := Bool.eq_false_iff.mpr c127
                          subst c127
                          have H1 : (laws_FnExactAddAsk.j2 kj61 t237 true t220 t221 t238) = some r := by rw [if_neg (show ¬ (false = true) by decide)] at H; exact H
                          clear H
                          have H := H1
                          clear H1
                          have H' := Aside0.mk H
                          clear H
                          have hnb138 := NB251_200.out
                          have hnc138 := NB200_251.out
                          have hnb139 := NB251_213.out
                          have hnc139 := NB213_251.out
                          have hnb140 := NB251_219.out
                          have hnc140 := NB219_251.out
                          have hnb141 := NB251_226.out
                          have hnc141 := NB226_251.out
                          have hcz142_0 : w119.cell? ⟨gb251, 0, none⟩ = some (.int .i8 0) := (blk_cell BK251.out 0).trans rfl
                          have hcz142_1 : w119.cell? ⟨gb251, 1, none⟩ = some (.int .i8 0) := (blk_cell BK251.out 1).trans rfl
                          have hcz142_2 : w119.cell? ⟨gb251, 2, none⟩ = some (.slice none 0 0) := (blk_cell BK251.out 2).trans rfl
                          have hfz142_0 := blk_frozen BK251.out 0
                          have hfz142_1 := blk_frozen BK251.out 1
                          have hfz142_2 := blk_frozen BK251.out 2
                          have hnb143 := NB213_200.out
                          have hnc143 := NB200_213.out
                          have hnb144 := NB213_219.out
                          have hnc144 := NB219_213.out
                          have hnb145 := NB213_226.out
                          have hnc145 := NB226_213.out
                          have hcz146_0 : w119.cell? ⟨gb213, 0, none⟩ = some (.int .i8 t207) := (blk_cell BK213.out 0).trans rfl
                          have hcz146_1 : w119.cell? ⟨gb213, 1, none⟩ = some (.int .i8 t208) := (blk_cell BK213.out 1).trans rfl
                          have hcz146_2 : w119.cell? ⟨gb213, 2, none⟩ = some (.slice Ao24 t209.length co24) := (blk_cell BK213.out 2).trans rfl
                          have hfz146_0 := blk_frozen BK213.out 0
                          have hfz146_1 := blk_frozen BK213.out 1
                          have hfz146_2 := blk_frozen BK213.out 2
                          go_wp2_with (first | ((with_reducible refine gate_callee (f := 27) rfl ?_); refine goesL_ (some 91) rfl rfl Try.func27 (by kernel_rfl) rfl #[.agg #[.int .i8 t245, .int .i8 t246, .slice Ao125 t247.length co125], .agg #[.int .i8 t207, .int .i8 t208, .slice Ao24 t209.length co24]] rfl (by (try simp only [List.map_toArray, List.map_cons, List.map_nil]); first | done | rfl | (simp only [List.length_drop, List.length_take]; rfl)) ?_; (with_reducible refine (laws_eqGame.calls kj61 t245 t246 _ _ t247 t207 t208 _ _ t209 false _ ?side1 ?side2 ?side3 ?side4 A126.out).mono ?_); (case side1 => refine (Kd.R_reads' (e := 75) (base := w.heap.size) (ok := fun k_ => ((((True ∧ some k_ ≠ (.slice Ao24 t209.length co24 : Value).ownBlock) ∧ some k_ ≠ (.slice Ao31 t235.length co31 : Value).ownBlock) ∧ some k_ ≠ (.slice Ao38 t222.length co38 : Value).ownBlock) ∧ some k_ ≠ (.slice Ao117 t242.length co117 : Value).ownBlock)) (n := t247.length) (c := co125) ?_).2.2; exact (by (with_reducible repeat (first | apply Kd.R_alloc | apply Kd.R_drewN | apply Kd.R_drew)); exact (Kd.R_mono (Kd.R_far (p := ⟨gb251, 2, none⟩) (Kd.R_far (p := ⟨gb251, 1, none⟩) (Kd.R_far (p := ⟨gb251, 0, none⟩) (Kd.R_types HO249.out BK251.out (by decide)) (fun _ hk => hk.2) (.int .i8 t245)) (fun _ hk => hk.2) (.int .i8 t246)) (fun _ hk => hk.2) (.slice Ao125 t247.length co125)) (fun _ h_ => h_.1)))); (case side2 => exact (Kd.R_reads' HO249.out).2.1); (case side3 => refine (Kd.R_reads' (e := 75) (base := w.heap.size) (ok := fun k_ => (((some k_ ≠ (.slice Ao31 t235.length co31 : Value).ownBlock ∧ some k_ ≠ (.slice Ao38 t222.length co38 : Value).ownBlock) ∧ some k_ ≠ (.slice Ao117 t242.length co117 : Value).ownBlock) ∧ some k_ ≠ (.slice Ao125 t247.length co125 : Value).ownBlock)) (n := t209.length) (c := co24) ?_).2.2; exact (by (with_reducible repeat (first | apply Kd.R_alloc | apply Kd.R_drewN | apply Kd.R_drew)); exact (Kd.R_mono (Kd.R_far (p := ⟨gb251, 2, none⟩) (Kd.R_far (p := ⟨gb251, 1, none⟩) (Kd.R_far (p := ⟨gb251, 0, none⟩) (Kd.R_types HO_214002.out BK251.out (by decide)) (fun _ hk => hk.2) (.int .i8 t245)) (fun _ hk => hk.2) (.int .i8 t246)) (fun _ hk => hk.2) (.slice Ao125 t247.length co125)) (fun _ h_ => h_.1)))); (case side4 => exact (Kd.R_reads' HO_214002.out).2.1); rintro e w147 ⟨rfl, hb⟩; refine ⟨_, rfl, ?_⟩; have n0_ := Aside0.mk (Kd.R_below (by (with_reducible repeat (first | apply Kd.R_alloc | apply Kd.R_drewN | apply Kd.R_drew)); exact (Kd.R_mono (Kd.R_far (p := ⟨gb251, 2, none⟩) (Kd.R_far (p := ⟨gb251, 1, none⟩) (Kd.R_far (p := ⟨gb251, 0, none⟩) (Kd.R_types HO_214002.out BK251.out (by decide)) (fun _ hk => hk.2) (.int .i8 t245)) (fun _ hk => hk.2) (.int .i8 t246)) (fun _ hk => hk.2) (.slice Ao125 t247.length co125)) (fun _ h_ => h_.1))) hb); have n1_ := Aside0.mk (Kd.R_below (by (with_reducible repeat (first | apply Kd.R_alloc | apply Kd.R_drewN | apply Kd.R_drew)); exact (Kd.R_mono (Kd.R_far (p := ⟨gb251, 2, none⟩) (Kd.R_far (p := ⟨gb251, 1, none⟩) (Kd.R_far (p := ⟨gb251, 0, none⟩) (Kd.R_types HO_220002.out BK251.out (by decide)) (fun _ hk => hk.2) (.int .i8 t245)) (fun _ hk => hk.2) (.int .i8 t246)) (fun _ hk => hk.2) (.slice Ao125 t247.length co125)) (fun _ h_ => h_.1))) hb); have n2_ := Aside0.mk (Kd.R_below (by (with_reducible repeat (first | apply Kd.R_alloc | apply Kd.R_drewN | apply Kd.R_drew)); exact (Kd.R_mono (Kd.R_far (p := ⟨gb251, 2, none⟩) (Kd.R_far (p := ⟨gb251, 1, none⟩) (Kd.R_far (p := ⟨gb251, 0, none⟩) (Kd.R_types HO_227002.out BK251.out (by decide)) (fun _ hk => hk.2) (.int .i8 t245)) (fun _ hk => hk.2) (.int .i8 t246)) (fun _ hk => hk.2) (.slice Ao125 t247.length co125)) (fun _ h_ => h_.1))) hb); have n3_ := Aside0.mk (Kd.R_below (by (with_reducible repeat (first | apply Kd.R_alloc | apply Kd.R_drewN | apply Kd.R_drew)); exact (Kd.R_mono (Kd.R_far (p := ⟨gb251, 2, none⟩) (Kd.R_far (p := ⟨gb251, 1, none⟩) (Kd.R_far (p := ⟨gb251, 0, none⟩) (Kd.R_types HO244.out BK251.out (by decide)) (fun _ hk => hk.2) (.int .i8 t245)) (fun _ hk => hk.2) (.int .i8 t246)) (fun _ hk => hk.2) (.slice Ao125 t247.length co125)) (fun _ h_ => h_.1))) hb); have n4_ := Aside0.mk (Kd.R_below (by (with_reducible repeat (first | apply Kd.R_alloc | apply Kd.R_drewN | apply Kd.R_drew)); exact (Kd.R_mono (Kd.R_far (p := ⟨gb251, 2, none⟩) (Kd.R_far (p := ⟨gb251, 1, none⟩) (Kd.R_far (p := ⟨gb251, 0, none⟩) (Kd.R_types HO249.out BK251.out (by decide)) (fun _ hk => hk.2) (.int .i8 t245)) (fun _ hk => hk.2) (.int .i8 t246)) (fun _ hk => hk.2) (.slice Ao125 t247.length co125)) (fun _ h_ => h_.1))) hb); have n5_ := Aside0.mk (blk_below (g := gb200) (o := .cells #[.int .i8 a0_0, .int .i8 a0_1, .slice A0_2 l0_2.length c0_2] 45 (0, 0)) (by (with_reducible repeat (first | refine blk_drewN ?_ _ | refine blk_drew ?_ | refine blk_alloc ?_ _)); refine blk_far ?_ NB200_251.out _; (with_reducible repeat (first | refine blk_drewN ?_ _ | refine blk_drew ?_ | refine blk_alloc ?_ _)); refine blk_far ?_ NB200_251.out _; (with_reducible repeat (first | refine blk_drewN ?_ _ | refine blk_drew ?_ | refine blk_alloc ?_ _)); refine blk_far ?_ NB200_251.out _; (with_reducible repeat (first | refine blk_drewN ?_ _ | refine blk_drew ?_ | refine blk_alloc ?_ _)); exact BK200.out) hb); have n6_ := Aside0.mk (blk_below (g := gb213) (o := .cells #[.int .i8 t207, .int .i8 t208, .slice Ao24 t209.length co24] 37 (0, 0)) (by (with_reducible repeat (first | refine blk_drewN ?_ _ | refine blk_drew ?_ | refine blk_alloc ?_ _)); refine blk_far ?_ NB213_251.out _; (with_reducible repeat (first | refine blk_drewN ?_ _ | refine blk_drew ?_ | refine blk_alloc ?_ _)); refine blk_far ?_ NB213_251.out _; (with_reducible repeat (first | refine blk_drewN ?_ _ | refine blk_drew ?_ | refine blk_alloc ?_ _)); refine blk_far ?_ NB213_251.out _; (with_reducible repeat (first | refine blk_drewN ?_ _ | refine blk_drew ?_ | refine blk_alloc ?_ _)); exact BK213.out) hb); have n7_ := Aside0.mk (blk_below (g := gb219) (o := .cells #[.int .i8 t214, .int .i8 t215, .slice Ao31 t235.length co31] 37 (0, 0)) (by (with_reducible repeat (first | refine blk_drewN ?_ _ | refine blk_drew ?_ | refine blk_alloc ?_ _)); refine blk_far ?_ NB219_251.out _; (with_reducible repeat (first | refine blk_drewN ?_ _ | refine blk_drew ?_ | refine blk_alloc ?_ _)); refine blk_far ?_ NB219_251.out _; (with_reducible repeat (first | refine blk_drewN ?_ _ | refine blk_drew ?_ | refine blk_alloc ?_ _)); refine blk_far ?_ NB219_251.out _; (with_reducible repeat (first | refine blk_drewN ?_ _ | refine blk_drew ?_ | refine blk_alloc ?_ _)); exact BK219.out) hb); have n8_ := Aside0.mk (blk_below (g := gb226) (o := .cells #[.int .i8 t220, .int .i8 t221, .slice Ao38 t222.length co38] 37 (0, 0)) (by (with_reducible repeat (first | refine blk_drewN ?_ _ | refine blk_drew ?_ | refine blk_alloc ?_ _)); refine blk_far ?_ NB226_251.out _; (with_reducible repeat (first | refine blk_drewN ?_ _ | refine blk_drew ?_ | refine blk_alloc ?_ _)); refine blk_far ?_ NB226_251.out _; (with_reducible repeat (first | refine blk_drewN ?_ _ | refine blk_drew ?_ | refine blk_alloc ?_ _)); refine blk_far ?_ NB226_251.out _; (with_reducible repeat (first | refine blk_drewN ?_ _ | refine blk_drew ?_ | refine blk_alloc ?_ _)); exact BK226.out) hb); have n9_ := Aside0.mk (blk_below (g := gb251) (o := .cells #[.int .i8 t245, .int .i8 t246, .slice Ao125 t247.length co125] 37 (0, 0)) (by (with_reducible repeat (first | refine blk_drewN ?_ _ | refine blk_drew ?_ | refine blk_alloc ?_ _)); refine blk_put (cs := #[.int .i8 t245, .int .i8 t246, .slice none 0 0]) ?_ 2 _ rfl; (with_reducible repeat (first | refine blk_drewN ?_ _ | refine blk_drew ?_ | refine blk_alloc ?_ _)); refine blk_put (cs := #[.int .i8 t245, .int .i8 0, .slice none 0 0]) ?_ 1 _ rfl; (with_reducible repeat (first | refine blk_drewN ?_ _ | refine blk_drew ?_ | refine blk_alloc ?_ _)); refine blk_put (cs := #[.int .i8 0, .int .i8 0, .slice none 0 0]) ?_ 0 _ rfl; (with_reducible repeat (first | refine blk_drewN ?_ _ | refine blk_drew ?_ | refine blk_alloc ?_ _)); exact BK251.out) hb); have n10_ := Aside0.mk (below_step (by repeat (first | (with_reducible first | exact HB.out | apply below_alloc | apply pw_below_drewN | apply below_drew1 | refine below_set ?_ GE200.out | refine below_set ?_ GE213.out | refine below_set ?_ GE219.out | refine below_set ?_ GE226.out | refine below_set ?_ GE251.out) | exact HB.out)) hb); clear HO_214002; clear HO_220002; clear HO_227002; clear HO244; clear HO249; clear BK200; clear BK213; clear BK219; clear BK226; clear BK251; clear HB; have HO_214002 := n0_; have HO_220002 := n1_; have HO_227002 := n2_; have HO244 := n3_; have HO249 := n4_; have BK200 := n5_; have BK213 := n6_; have BK219 := n7_; have BK226 := n8_; have BK251 := n9_; have HB := n10_; clear n0_ n1_ n2_ n3_ n4_ n5_ n6_ n7_ n8_ n9_ n10_; (try clear hb); (try clear hb2); (try clear hk); (try clear hi)))
                          go_meet
                          case rel => exact ⟨_, (true), (by first | rfl | (simp; done) | (simp [*]; done)), H', ⟨by have := HJ12.out; have := HJ61.out; first | omega | exact Nat.le_refl _⟩, ⟨by (try simp only [hl220002_61]); (with_reducible repeat (first | apply Kd.R_alloc | apply Kd.R_drewN | apply Kd.R_drew)); exact Kd.R_mono HO_214002.out (fun _ hk => ⟨hk.1.1.1, ⟨hk.1.1.2, hk.2⟩⟩)⟩, ⟨by (try simp only [hl220002_61]); (with_reducible repeat (first | apply Kd.R_alloc | apply Kd.R_drewN | apply Kd.R_drew)); exact Kd.R_mono HO_220002.out (fun _ hk => ⟨hk.1.1.1, ⟨hk.1.1.2, hk.2⟩⟩)⟩, ⟨by (try simp only [hl220002_61]); (with_reducible repeat (first | apply Kd.R_alloc | apply Kd.R_drewN | apply Kd.R_drew)); exact Kd.R_mono HO_227002.out (fun _ hk => ⟨hk.1.1.1, ⟨hk.1.1.2, hk.2⟩⟩)⟩, ⟨by (try simp only [hl220002_61]); (with_reducible repeat (first | apply Kd.R_alloc | apply Kd.R_drewN | apply Kd.R_drew)); exact Kd.R_mono HO249.out (fun _ hk => ⟨hk.1.1.1.2, ⟨hk.1.1.2, hk.1.2⟩⟩)⟩, ⟨by (try simp only [hl220002_61]); (with_reducible repeat (first | refine blk_drewN ?_ _ | refine blk_drew ?_ | refine blk_alloc ?_ _)); exact BK200.out⟩, ⟨by (try simp only [hl220002_61]); (with_reducible repeat (first | refine blk_drewN ?_ _ | refine blk_drew ?_ | refine blk_alloc ?_ _)); exact BK213.out⟩, ⟨by (try simp only [hl220002_61]); (with_reducible repeat (first | refine blk_drewN ?_ _ | refine blk_drew ?_ | refine blk_alloc ?_ _)); exact BK219.out⟩, ⟨by (try simp only [hl220002_61]); (with_reducible repeat (first | refine blk_drewN ?_ _ | refine blk_drew ?_ | refine blk_alloc ?_ _)); exact BK226.out⟩, ⟨by (try simp only [hl220002_61]); (with_reducible repeat (first | refine blk_drewN ?_ _ | refine blk_drew ?_ | refine blk_alloc ?_ _)); exact BK251.out⟩, ⟨by repeat (first | (with_reducible first | exact HB.out | apply below_alloc | apply pw_below_drewN | apply below_drew1 | refine below_set ?_ GE200.out | refine below_set ?_ GE213.out | refine below_set ?_ GE219.out | refine below_set ?_ GE226.out | refine below_set ?_ GE251.out) | exact HB.out)⟩⟩
                      case rest =>
                        clear HC105
                        try clear c1
                        try clear c2
                        try clear p2
                        try clear c3
                        try clear c4
                        try clear c5
                        try clear c5b0
                        try clear c6
                        try clear c7
                        try clear c8
                        try clear c9
                        try clear c10
                        try clear c11
                        try clear c12
                        try clear c13
                        try clear c14
                        try clear c22
                        try clear c27
                        try clear c28
                        try clear c29
                        try clear c30
                        try clear c32
                        try clear c34
                        try clear c35
                        try clear c36
                        try clear c40
                        try clear c41
                        try clear c42
                        try clear c43
                        try clear c45
                        try clear c46
                        try clear c49
                        try clear c50
                        try clear c51
                        try clear c53
                        try clear c54
                        try clear c57
                        try clear c60
                        try clear c67
                        try clear c68
                        try clear c69
                        try clear c72
                        try clear c72b0
                        try clear c74
                        try clear c75
                        try clear c76
                        try clear c77
                        try clear c79
                        try clear c80
                        try clear c83
                        try clear c84
                        try clear c85
                        try clear c87
                        try clear c88
                        try clear c91
                        try clear c94
                        try clear c94b0
                        try clear c95
                        try clear c96
                        try clear c97
                        try clear c102
                        try clear c102b0
                        try clear c102b1
                        try clear c106
                        try clear c107
                        try clear c108
                        try clear c113
                        try clear c114
                        try clear c120
                        try clear c121
                        try clear c122
                        try clear c123
                        try clear c127
                        try clear c128
                        try clear c129
                        try clear c130
                        try clear c131
                        try clear c133
                        try clear c134
                        try clear c135
                        try clear c138
                        try clear c139
                        try clear c140
                        try clear c141
                        try clear c143
                        try clear c144
                        try clear c145
                        try clear hcz100_0
                        try clear hcz100_1
                        try clear hcz100_2
                        try clear hcz109_0
                        try clear hcz109_1
                        try clear hcz109_2
                        try clear hcz111_0
                        try clear hcz111_1
                        try clear hcz111_2
                        try clear hcz115_0
                        try clear hcz115_1
                        try clear hcz115_2
                        try clear hcz124_0
                        try clear hcz124_1
                        try clear hcz124_2
                        try clear hcz132_0
                        try clear hcz132_1
                        try clear hcz132_2
                        try clear hcz136_0
                        try clear hcz136_1
                        try clear hcz136_2
                        try clear hcz142_0
                        try clear hcz142_1
                        try clear hcz142_2
                        try clear hcz146_0
                        try clear hcz146_1
                        try clear hcz146_2
                        try clear hcz15_0
                        try clear hcz15_1
                        try clear hcz15_2
                        try clear hcz17_0
                        try clear hcz17_1
                        try clear hcz17_2
                        try clear hcz23_0
                        try clear hcz23_1
                        try clear hcz23_2
                        try clear hcz25_0
                        try clear hcz25_1
                        try clear hcz25_2
                        try clear hcz30_0
                        try clear hcz30_1
                        try clear hcz30_2
                        try clear hcz37_0
                        try clear hcz37_1
                        try clear hcz37_2
                        try clear hcz44_0
                        try clear hcz44_1
                        try clear hcz44_2
                        try clear hcz47_0
                        try clear hcz47_1
                        try clear hcz47_2
                        try clear hcz52_0
                        try clear hcz52_1
                        try clear hcz52_2
                        try clear hcz55_0
                        try clear hcz55_1
                        try clear hcz55_2
                        try clear hcz70_0
                        try clear hcz70_1
                        try clear hcz70_2
                        try clear hcz78_0
                        try clear hcz78_1
                        try clear hcz78_2
                        try clear hcz7_0
                        try clear hcz7_1
                        try clear hcz7_2
                        try clear hcz81_0
                        try clear hcz81_1
                        try clear hcz81_2
                        try clear hcz86_0
                        try clear hcz86_1
                        try clear hcz86_2
                        try clear hcz89_0
                        try clear hcz89_1
                        try clear hcz89_2
                        try clear hcz98_0
                        try clear hcz98_1
                        try clear hcz98_2
                        try clear hfz100_0
                        try clear hfz100_1
                        try clear hfz100_2
                        try clear hfz109_0
                        try clear hfz109_1
                        try clear hfz109_2
                        try clear hfz111_0
                        try clear hfz111_1
                        try clear hfz111_2
                        try clear hfz115_0
                        try clear hfz115_1
                        try clear hfz115_2
                        try clear hfz124_0
                        try clear hfz124_1
                        try clear hfz124_2
                        try clear hfz132_0
                        try clear hfz132_1
                        try clear hfz132_2
                        try clear hfz136_0
                        try clear hfz136_1
                        try clear hfz136_2
                        try clear hfz142_0
                        try clear hfz142_1
                        try clear hfz142_2
                        try clear hfz146_0
                        try clear hfz146_1
                        try clear hfz146_2
                        try clear hfz15_0
                        try clear hfz15_1
                        try clear hfz15_2
                        try clear hfz17_0
                        try clear hfz17_1
                        try clear hfz17_2
                        try clear hfz23_0
                        try clear hfz23_1
                        try clear hfz23_2
                        try clear hfz25_0
                        try clear hfz25_1
                        try clear hfz25_2
                        try clear hfz30_0
                        try clear hfz30_1
                        try clear hfz30_2
                        try clear hfz37_0
                        try clear hfz37_1
                        try clear hfz37_2
                        try clear hfz44_0
                        try clear hfz44_1
                        try clear hfz44_2
                        try clear hfz47_0
                        try clear hfz47_1
                        try clear hfz47_2
                        try clear hfz52_0
                        try clear hfz52_1
                        try clear hfz52_2
                        try clear hfz55_0
                        try clear hfz55_1
                        try clear hfz55_2
                        try clear hfz70_0
                        try clear hfz70_1
                        try clear hfz70_2
                        try clear hfz78_0
                        try clear hfz78_1
                        try clear hfz78_2
                        try clear hfz7_0
                        try clear hfz7_1
                        try clear hfz7_2
                        try clear hfz81_0
                        try clear hfz81_1
                        try clear hfz81_2
                        try clear hfz86_0
                        try clear hfz86_1
                        try clear hfz86_2
                        try clear hfz89_0
                        try clear hfz89_1
                        try clear hfz89_2
                        try clear hfz98_0
                        try clear hfz98_1
                        try clear hfz98_2
                        try clear p2
                        obtain ⟨kq, x97_104, rfl, HA, HJ104, HO_214002, HO_220002, HO_227002, HO_252002, BK200, BK213, BK219, BK226, BK251, HB⟩ := hcut
                        have hl227002_104 := (Kd.R_reads' HO_227002.out).1
                        rw [hl227002_104] at HO_227002
                        (try simp only [hl227002_104])
                        (try simp only [hl227002_104] at BK200)
                        (try simp only [hl227002_104] at BK213)
                        (try simp only [hl227002_104] at BK219)
                        (try simp only [hl227002_104] at BK226)
                        (try simp only [hl227002_104] at BK251)
                        (try simp only [hl227002_104] at HO_214002)
                        (try simp only [hl227002_104] at HO_220002)
                        (try simp only [hl227002_104] at HO_252002)
                        cases kq with
                        | zero => exact absurd HA.out (by simp [laws_FnExactAddAsk.j2])
                        | succ kj104 =>
                          have H := HA.out
                          clear HA
                          simp only [laws_FnExactAddAsk.j2] at H
                          by_cases c148 : x97_104 = true
                          · subst c148
                            have H1 : (some false) = some r := by rw [if_pos rfl] at H; exact H
                            clear H
                            have H := H1
                            clear H1
                            obtain rfl := Option.some.inj H
                            go_wp2
                            go_ret
                            exact ⟨by first | rfl | (simp [errW_none, errW_some] <;> rfl) | (simp [*, errW_none, errW_some] <;> rfl), by repeat (first | (with_reducible first | exact HB.out | apply below_alloc | apply pw_below_drewN | apply below_drew1 | refine below_set ?_ GE200.out | refine below_set ?_ GE213.out | refine below_set ?_ GE219.out | refine below_set ?_ GE226.out | refine below_set ?_ GE251.out) | exact HB.out)⟩
                          · replace c148 := Bool.eq_false_iff.mpr c148
                            subst c148
                            have H1 : ((laws_heldGame.f kj104 t220 t221 t238 1).bind fun t253 => (if t253 < 0 then (some false) else (if t253 = t237 then (some true) else (some false)))) = some r := by rw [if_neg (show ¬ (false = true) by decide)] at H; exact H
                            clear H
                            have H := H1
                            clear H1
                            replace H := Option.bind_eq_some_iff.mp H
                            obtain ⟨t253, A1490, H⟩ := H
                            replace H : (if t253 < 0 then (some false) else (if t253 = t237 then (some true) else (some false))) = some r := H
                            have A149 := Aside0.mk A1490
                            clear A1490
                            by_cases c150 : t253 < 0
                            · rw [if_pos c150] at H
                              have c150b0 : decide (t253 < 0) = true := decide_eq_true c150
                              clear c150
                              obtain rfl := Option.some.inj H
                              have hnb151 := NB226_200.out
                              have hnc151 := NB200_226.out
                              have hnb152 := NB226_213.out
                              have hnc152 := NB213_226.out
                              have hnb153 := NB226_219.out
                              have hnc153 := NB219_226.out
                              have hnb154 := NB226_251.out
                              have hnc154 := NB251_226.out
                              have hcz155_0 : wc.cell? ⟨gb226, 0, none⟩ = some (.int .i8 t220) := (blk_cell BK226.out 0).trans rfl
                              have hcz155_1 : wc.cell? ⟨gb226, 1, none⟩ = some (.int .i8 t221) := (blk_cell BK226.out 1).trans rfl
                              have hcz155_2 : wc.cell? ⟨gb226, 2, none⟩ = some (.slice Ao38 t238.length co38) := (blk_cell BK226.out 2).trans rfl
                              have hfz155_0 := blk_frozen BK226.out 0
                              have hfz155_1 := blk_frozen BK226.out 1
                              have hfz155_2 := blk_frozen BK226.out 2
                              go_wp2_with (first | ((with_reducible refine gate_callee (f := 29) rfl ?_); refine goesL_ (some 100) rfl rfl Try.func29 (by kernel_rfl) rfl #[.agg #[.int .i8 t220, .int .i8 t221, .slice Ao38 t238.length co38], .int .i64 1] rfl (by (try simp only [List.map_toArray, List.map_cons, List.map_nil]); first | done | rfl | (simp only [List.length_drop, List.length_take]; rfl)) ?_; (with_reducible refine (laws_heldGame.calls kj104 t220 t221 _ _ t238 1 t253 _ ?side1 ?side2 A149.out).mono ?_); (case side1 => repeat (first | exact (Kd.R_reads' HO_227002.out).2.2 | (with_reducible refine Kd.C_alloc ?_ _) | (with_reducible refine Kd.C_drewN ?_ _) | (with_reducible refine Kd.C_drew ?_))); (case side2 => exact (Kd.R_reads' HO_227002.out).2.1); rintro e w156 ⟨rfl, hb⟩; refine ⟨_, rfl, ?_⟩; have n0_ := Aside0.mk (Kd.R_below (by (with_reducible repeat (first | apply Kd.R_alloc | apply Kd.R_drewN | apply Kd.R_drew)); exact HO_214002.out) hb); have n1_ := Aside0.mk (Kd.R_below (by (with_reducible repeat (first | apply Kd.R_alloc | apply Kd.R_drewN | apply Kd.R_drew)); exact HO_220002.out) hb); have n2_ := Aside0.mk (Kd.R_below (by (with_reducible repeat (first | apply Kd.R_alloc | apply Kd.R_drewN | apply Kd.R_drew)); exact HO_227002.out) hb); have n3_ := Aside0.mk (Kd.R_below (by (with_reducible repeat (first | apply Kd.R_alloc | apply Kd.R_drewN | apply Kd.R_drew)); exact HO_252002.out) hb); have n4_ := Aside0.mk (blk_below (g := gb200) (o := .cells #[.int .i8 a0_0, .int .i8 a0_1, .slice A0_2 l0_2.length c0_2] 45 (0, 0)) (by (with_reducible repeat (first | refine blk_drewN ?_ _ | refine blk_drew ?_ | refine blk_alloc ?_ _)); exact BK200.out) hb); have n5_ := Aside0.mk (blk_below (g := gb213) (o := .cells #[.int .i8 t207, .int .i8 t208, .slice Ao24 t209.length co24] 37 (0, 0)) (by (with_reducible repeat (first | refine blk_drewN ?_ _ | refine blk_drew ?_ | refine blk_alloc ?_ _)); exact BK213.out) hb); have n6_ := Aside0.mk (blk_below (g := gb219) (o := .cells #[.int .i8 t214, .int .i8 t215, .slice Ao31 t235.length co31] 37 (0, 0)) (by (with_reducible repeat (first | refine blk_drewN ?_ _ | refine blk_drew ?_ | refine blk_alloc ?_ _)); exact BK219.out) hb); have n7_ := Aside0.mk (blk_below (g := gb226) (o := .cells #[.int .i8 t220, .int .i8 t221, .slice Ao38 t238.length co38] 37 (0, 0)) (by (with_reducible repeat (first | refine blk_drewN ?_ _ | refine blk_drew ?_ | refine blk_alloc ?_ _)); exact BK226.out) hb); have n8_ := Aside0.mk (blk_below (g := gb251) (o := .cells #[.int .i8 t245, .int .i8 t246, .slice Ao125 t247.length co125] 37 (0, 0)) (by (with_reducible repeat (first | refine blk_drewN ?_ _ | refine blk_drew ?_ | refine blk_alloc ?_ _)); exact BK251.out) hb); have n9_ := Aside0.mk (below_step (by repeat (first | (with_reducible first | exact HB.out | apply below_alloc | apply pw_below_drewN | apply below_drew1 | refine below_set ?_ GE200.out | refine below_set ?_ GE213.out | refine below_set ?_ GE219.out | refine below_set ?_ GE226.out | refine below_set ?_ GE251.out) | exact HB.out)) hb); clear HO_214002; clear HO_220002; clear HO_227002; clear HO_252002; clear BK200; clear BK213; clear BK219; clear BK226; clear BK251; clear HB; have HO_214002 := n0_; have HO_220002 := n1_; have HO_227002 := n2_; have HO_252002 := n3_; have BK200 := n4_; have BK213 := n5_; have BK219 := n6_; have BK226 := n7_; have BK251 := n8_; have HB := n9_; clear n0_ n1_ n2_ n3_ n4_ n5_ n6_ n7_ n8_ n9_; (try clear hb); (try clear hb2); (try clear hk); (try clear hi)))
                              go_ret
                              exact ⟨by first | rfl | (simp [errW_none, errW_some] <;> rfl) | (simp [*, errW_none, errW_some] <;> rfl), by repeat (first | (with_reducible first | exact HB.out | apply below_alloc | apply pw_below_drewN | apply below_drew1 | refine below_set ?_ GE200.out | refine below_set ?_ GE213.out | refine below_set ?_ GE219.out | refine below_set ?_ GE226.out | refine below_set ?_ GE251.out) | exact HB.out)⟩
                            · rw [if_neg c150] at H
                              have c150b0 : decide (t253 < 0) = false := decide_eq_false c150
                              clear c150
                              by_cases c157 : t253 = t237
                              · rw [if_pos c157] at H
                                have c157b0 : (t253 == t237) = true := beq_iff_eq.mpr c157
                                have c157b1 : (t253 != t237) = false := bne_eq_false_iff_eq.mpr c157
                                clear c157
                                obtain rfl := Option.some.inj H
                                have hnb158 := NB226_200.out
                                have hnc158 := NB200_226.out
                                have hnb159 := NB226_213.out
                                have hnc159 := NB213_226.out
                                have hnb160 := NB226_219.out
                                have hnc160 := NB219_226.out
                                have hnb161 := NB226_251.out
                                have hnc161 := NB251_226.out
                                have hcz162_0 : wc.cell? ⟨gb226, 0, none⟩ = some (.int .i8 t220) := (blk_cell BK226.out 0).trans rfl
                                have hcz162_1 : wc.cell? ⟨gb226, 1, none⟩ = some (.int .i8 t221) := (blk_cell BK226.out 1).trans rfl
                                have hcz162_2 : wc.cell? ⟨gb226, 2, none⟩ = some (.slice Ao38 t238.length co38) := (blk_cell BK226.out 2).trans rfl
                                have hfz162_0 := blk_frozen BK226.out 0
                                have hfz162_1 := blk_frozen BK226.out 1
                                have hfz162_2 := blk_frozen BK226.out 2
                                go_wp2_with (first | ((with_reducible refine gate_callee (f := 29) rfl ?_); refine goesL_ (some 100) rfl rfl Try.func29 (by kernel_rfl) rfl #[.agg #[.int .i8 t220, .int .i8 t221, .slice Ao38 t238.length co38], .int .i64 1] rfl (by (try simp only [List.map_toArray, List.map_cons, List.map_nil]); first | done | rfl | (simp only [List.length_drop, List.length_take]; rfl)) ?_; (with_reducible refine (laws_heldGame.calls kj104 t220 t221 _ _ t238 1 t253 _ ?side1 ?side2 A149.out).mono ?_); (case side1 => repeat (first | exact (Kd.R_reads' HO_227002.out).2.2 | (with_reducible refine Kd.C_alloc ?_ _) | (with_reducible refine Kd.C_drewN ?_ _) | (with_reducible refine Kd.C_drew ?_))); (case side2 => exact (Kd.R_reads' HO_227002.out).2.1); rintro e w163 ⟨rfl, hb⟩; refine ⟨_, rfl, ?_⟩; have n0_ := Aside0.mk (Kd.R_below (by (with_reducible repeat (first | apply Kd.R_alloc | apply Kd.R_drewN | apply Kd.R_drew)); exact HO_214002.out) hb); have n1_ := Aside0.mk (Kd.R_below (by (with_reducible repeat (first | apply Kd.R_alloc | apply Kd.R_drewN | apply Kd.R_drew)); exact HO_220002.out) hb); have n2_ := Aside0.mk (Kd.R_below (by (with_reducible repeat (first | apply Kd.R_alloc | apply Kd.R_drewN | apply Kd.R_drew)); exact HO_227002.out) hb); have n3_ := Aside0.mk (Kd.R_below (by (with_reducible repeat (first | apply Kd.R_alloc | apply Kd.R_drewN | apply Kd.R_drew)); exact HO_252002.out) hb); have n4_ := Aside0.mk (blk_below (g := gb200) (o := .cells #[.int .i8 a0_0, .int .i8 a0_1, .slice A0_2 l0_2.length c0_2] 45 (0, 0)) (by (with_reducible repeat (first | refine blk_drewN ?_ _ | refine blk_drew ?_ | refine blk_alloc ?_ _)); exact BK200.out) hb); have n5_ := Aside0.mk (blk_below (g := gb213) (o := .cells #[.int .i8 t207, .int .i8 t208, .slice Ao24 t209.length co24] 37 (0, 0)) (by (with_reducible repeat (first | refine blk_drewN ?_ _ | refine blk_drew ?_ | refine blk_alloc ?_ _)); exact BK213.out) hb); have n6_ := Aside0.mk (blk_below (g := gb219) (o := .cells #[.int .i8 t214, .int .i8 t215, .slice Ao31 t235.length co31] 37 (0, 0)) (by (with_reducible repeat (first | refine blk_drewN ?_ _ | refine blk_drew ?_ | refine blk_alloc ?_ _)); exact BK219.out) hb); have n7_ := Aside0.mk (blk_below (g := gb226) (o := .cells #[.int .i8 t220, .int .i8 t221, .slice Ao38 t238.length co38] 37 (0, 0)) (by (with_reducible repeat (first | refine blk_drewN ?_ _ | refine blk_drew ?_ | refine blk_alloc ?_ _)); exact BK226.out) hb); have n8_ := Aside0.mk (blk_below (g := gb251) (o := .cells #[.int .i8 t245, .int .i8 t246, .slice Ao125 t247.length co125] 37 (0, 0)) (by (with_reducible repeat (first | refine blk_drewN ?_ _ | refine blk_drew ?_ | refine blk_alloc ?_ _)); exact BK251.out) hb); have n9_ := Aside0.mk (below_step (by repeat (first | (with_reducible first | exact HB.out | apply below_alloc | apply pw_below_drewN | apply below_drew1 | refine below_set ?_ GE200.out | refine below_set ?_ GE213.out | refine below_set ?_ GE219.out | refine below_set ?_ GE226.out | refine below_set ?_ GE251.out) | exact HB.out)) hb); clear HO_214002; clear HO_220002; clear HO_227002; clear HO_252002; clear BK200; clear BK213; clear BK219; clear BK226; clear BK251; clear HB; have HO_214002 := n0_; have HO_220002 := n1_; have HO_227002 := n2_; have HO_252002 := n3_; have BK200 := n4_; have BK213 := n5_; have BK219 := n6_; have BK226 := n7_; have BK251 := n8_; have HB := n9_; clear n0_ n1_ n2_ n3_ n4_ n5_ n6_ n7_ n8_ n9_; (try clear hb); (try clear hb2); (try clear hk); (try clear hi)))
                                go_ret
                                exact ⟨by first | rfl | (simp [errW_none, errW_some] <;> rfl) | (simp [*, errW_none, errW_some] <;> rfl), by repeat (first | (with_reducible first | exact HB.out | apply below_alloc | apply pw_below_drewN | apply below_drew1 | refine below_set ?_ GE200.out | refine below_set ?_ GE213.out | refine below_set ?_ GE219.out | refine below_set ?_ GE226.out | refine below_set ?_ GE251.out) | exact HB.out)⟩
                              · rw [if_neg c157] at H
                                have c157b0 : (t253 == t237) = false := beq_eq_false_iff_ne.mpr c157
                                have c157b1 : (t253 != t237) = true := bne_iff_ne.mpr c157
                                obtain rfl := Option.some.inj H
                                have hnb164 := NB226_200.out
                                have hnc164 := NB200_226.out
                                have hnb165 := NB226_213.out
                                have hnc165 := NB213_226.out
                                have hnb166 := NB226_219.out
                                have hnc166 := NB219_226.out
                                have hnb167 := NB226_251.out
                                have hnc167 := NB251_226.out
                                have hcz168_0 : wc.cell? ⟨gb226, 0, none⟩ = some (.int .i8 t220) := (blk_cell BK226.out 0).trans rfl
                                have hcz168_1 : wc.cell? ⟨gb226, 1, none⟩ = some (.int .i8 t221) := (blk_cell BK226.out 1).trans rfl
                                have hcz168_2 : wc.cell? ⟨gb226, 2, none⟩ = some (.slice Ao38 t238.length co38) := (blk_cell BK226.out 2).trans rfl
                                have hfz168_0 := blk_frozen BK226.out 0
                                have hfz168_1 := blk_frozen BK226.out 1
                                have hfz168_2 := blk_frozen BK226.out 2
                                go_wp2_with (first | ((with_reducible refine gate_callee (f := 29) rfl ?_); refine goesL_ (some 100) rfl rfl Try.func29 (by kernel_rfl) rfl #[.agg #[.int .i8 t220, .int .i8 t221, .slice Ao38 t238.length co38], .int .i64 1] rfl (by (try simp only [List.map_toArray, List.map_cons, List.map_nil]); first | done | rfl | (simp only [List.length_drop, List.length_take]; rfl)) ?_; (with_reducible refine (laws_heldGame.calls kj104 t220 t221 _ _ t238 1 t253 _ ?side1 ?side2 A149.out).mono ?_); (case side1 => repeat (first | exact (Kd.R_reads' HO_227002.out).2.2 | (with_reducible refine Kd.C_alloc ?_ _) | (with_reducible refine Kd.C_drewN ?_ _) | (with_reducible refine Kd.C_drew ?_))); (case side2 => exact (Kd.R_reads' HO_227002.out).2.1); rintro e w169 ⟨rfl, hb⟩; refine ⟨_, rfl, ?_⟩; have n0_ := Aside0.mk (Kd.R_below (by (with_reducible repeat (first | apply Kd.R_alloc | apply Kd.R_drewN | apply Kd.R_drew)); exact HO_214002.out) hb); have n1_ := Aside0.mk (Kd.R_below (by (with_reducible repeat (first | apply Kd.R_alloc | apply Kd.R_drewN | apply Kd.R_drew)); exact HO_220002.out) hb); have n2_ := Aside0.mk (Kd.R_below (by (with_reducible repeat (first | apply Kd.R_alloc | apply Kd.R_drewN | apply Kd.R_drew)); exact HO_227002.out) hb); have n3_ := Aside0.mk (Kd.R_below (by (with_reducible repeat (first | apply Kd.R_alloc | apply Kd.R_drewN | apply Kd.R_drew)); exact HO_252002.out) hb); have n4_ := Aside0.mk (blk_below (g := gb200) (o := .cells #[.int .i8 a0_0, .int .i8 a0_1, .slice A0_2 l0_2.length c0_2] 45 (0, 0)) (by (with_reducible repeat (first | refine blk_drewN ?_ _ | refine blk_drew ?_ | refine blk_alloc ?_ _)); exact BK200.out) hb); have n5_ := Aside0.mk (blk_below (g := gb213) (o := .cells #[.int .i8 t207, .int .i8 t208, .slice Ao24 t209.length co24] 37 (0, 0)) (by (with_reducible repeat (first | refine blk_drewN ?_ _ | refine blk_drew ?_ | refine blk_alloc ?_ _)); exact BK213.out) hb); have n6_ := Aside0.mk (blk_below (g := gb219) (o := .cells #[.int .i8 t214, .int .i8 t215, .slice Ao31 t235.length co31] 37 (0, 0)) (by (with_reducible repeat (first | refine blk_drewN ?_ _ | refine blk_drew ?_ | refine blk_alloc ?_ _)); exact BK219.out) hb); have n7_ := Aside0.mk (blk_below (g := gb226) (o := .cells #[.int .i8 t220, .int .i8 t221, .slice Ao38 t238.length co38] 37 (0, 0)) (by (with_reducible repeat (first | refine blk_drewN ?_ _ | refine blk_drew ?_ | refine blk_alloc ?_ _)); exact BK226.out) hb); have n8_ := Aside0.mk (blk_below (g := gb251) (o := .cells #[.int .i8 t245, .int .i8 t246, .slice Ao125 t247.length co125] 37 (0, 0)) (by (with_reducible repeat (first | refine blk_drewN ?_ _ | refine blk_drew ?_ | refine blk_alloc ?_ _)); exact BK251.out) hb); have n9_ := Aside0.mk (below_step (by repeat (first | (with_reducible first | exact HB.out | apply below_alloc | apply pw_below_drewN | apply below_drew1 | refine below_set ?_ GE200.out | refine below_set ?_ GE213.out | refine below_set ?_ GE219.out | refine below_set ?_ GE226.out | refine below_set ?_ GE251.out) | exact HB.out)) hb); clear HO_214002; clear HO_220002; clear HO_227002; clear HO_252002; clear BK200; clear BK213; clear BK219; clear BK226; clear BK251; clear HB; have HO_214002 := n0_; have HO_220002 := n1_; have HO_227002 := n2_; have HO_252002 := n3_; have BK200 := n4_; have BK213 := n5_; have BK219 := n6_; have BK226 := n7_; have BK251 := n8_; have HB := n9_; clear n0_ n1_ n2_ n3_ n4_ n5_ n6_ n7_ n8_ n9_; (try clear hb); (try clear hb2); (try clear hk); (try clear hi)))
                                go_ret
                                exact ⟨by first | rfl | (simp [errW_none, errW_some] <;> rfl) | (simp [*, errW_none, errW_some] <;> rfl), by repeat (first | (with_reducible first | exact HB.out | apply below_alloc | apply pw_below_drewN | apply below_drew1 | refine below_set ?_ GE200.out | refine below_set ?_ GE213.out | refine below_set ?_ GE219.out | refine below_set ?_ GE226.out | refine below_set ?_ GE251.out) | exact HB.out)⟩
                    · rw [if_neg c102] at H
                      have c102b0 : (t239 == t237) = false := beq_eq_false_iff_ne.mpr c102
                      have c102b1 : (t239 != t237) = true := bne_iff_ne.mpr c102
                      obtain rfl := Option.some.inj H
                      have hnb170 := NB226_200.out
                      have hnc170 := NB200_226.out
                      have hnb171 := NB226_213.out
                      have hnc171 := NB213_226.out
                      have hnb172 := NB226_219.out
                      have hnc172 := NB219_226.out
                      have hcz173_0 : wc.cell? ⟨gb226, 0, none⟩ = some (.int .i8 t220) := (blk_cell BK226.out 0).trans rfl
                      have hcz173_1 : wc.cell? ⟨gb226, 1, none⟩ = some (.int .i8 t221) := (blk_cell BK226.out 1).trans rfl
                      have hcz173_2 : wc.cell? ⟨gb226, 2, none⟩ = some (.slice Ao38 t222.length co38) := (blk_cell BK226.out 2).trans rfl
                      have hfz173_0 := blk_frozen BK226.out 0
                      have hfz173_1 := blk_frozen BK226.out 1
                      have hfz173_2 := blk_frozen BK226.out 2
                      go_wp2_with (first | ((with_reducible refine gate_callee (f := 28) rfl ?_); refine goesL_ (some 72) rfl rfl Try.func28 (by kernel_rfl) rfl #[.agg #[.int .i8 t220, .int .i8 t221, .slice Ao38 t222.length co38], .int .i64 1] rfl (by (try simp only [List.map_toArray, List.map_cons, List.map_nil]); first | done | rfl | (simp only [List.length_drop, List.length_take]; rfl)) ?_; (with_reducible refine (laws_markGame.calls kj61 t220 t221 (fun k_ => some k_ = (.slice Ao38 t222.length co38 : Value).ownBlock) (.slice Ao38 t222.length co38) t222 1 t237 t238 w _ ?side1 ?side2 A92.out).mono ?_); (case side1 => repeat (first | (with_reducible first | exact HB.out | apply below_alloc | apply pw_below_drewN | apply below_drew1 | refine below_set ?_ GE200.out | refine below_set ?_ GE213.out | refine below_set ?_ GE219.out | refine below_set ?_ GE226.out) | exact HB.out)); (case side2 => exact Kd.R_tight rfl HO_227002.out); rintro e w174 ⟨rfl, hy0, hb, hkp⟩; refine ⟨_, rfl, ?_⟩; have n0_ := Aside0.mk (Kd.R_mono (ok' := fun k_ => some k_ ≠ (.slice Ao31 t235.length co31 : Value).ownBlock ∧ some k_ ≠ (.slice Ao38 t222.length co38 : Value).ownBlock) (Kd.R_keptB (HO_214002.out) hkp (fun k_ hk_ hs_ => (hk_.2) hs_)) (fun k_ hk_ => ⟨hk_.1.1, hk_.1.2⟩)); have n1_ := Aside0.mk (Kd.R_mono (ok' := fun k_ => some k_ ≠ (.slice Ao24 t209.length co24 : Value).ownBlock ∧ some k_ ≠ (.slice Ao38 t222.length co38 : Value).ownBlock) (Kd.R_keptB (HO_220002.out) hkp (fun k_ hk_ hs_ => (hk_.2) hs_)) (fun k_ hk_ => ⟨hk_.1.1, hk_.1.2⟩)); have n2_ := Aside0.mk (Kd.R_reok rfl hy0 (fun k_ e_ => HO_227002.out.1 k_ e_)); have n3_ := Aside0.mk (blk_kept (by (with_reducible repeat (first | refine blk_drewN ?_ _ | refine blk_drew ?_ | refine blk_alloc ?_ _)); exact BK200.out) hkp (fun hs_ => (fun e_ => (Kd.R_ne HO_227002.out BK200.out (by decide)) e_) hs_)); have n4_ := Aside0.mk (blk_kept (by (with_reducible repeat (first | refine blk_drewN ?_ _ | refine blk_drew ?_ | refine blk_alloc ?_ _)); exact BK213.out) hkp (fun hs_ => (fun e_ => (Kd.R_ne HO_227002.out BK213.out (by decide)) e_) hs_)); have n5_ := Aside0.mk (blk_kept (by (with_reducible repeat (first | refine blk_drewN ?_ _ | refine blk_drew ?_ | refine blk_alloc ?_ _)); exact BK219.out) hkp (fun hs_ => (fun e_ => (Kd.R_ne HO_227002.out BK219.out (by decide)) e_) hs_)); have n6_ := Aside0.mk (blk_kept (by (with_reducible repeat (first | refine blk_drewN ?_ _ | refine blk_drew ?_ | refine blk_alloc ?_ _)); exact BK226.out) hkp (fun hs_ => (fun e_ => (Kd.R_ne HO_227002.out BK226.out (by decide)) e_) hs_)); have n7_ := Aside0.mk (hb); clear HO_214002; clear HO_220002; clear HO_227002; clear BK200; clear BK213; clear BK219; clear BK226; clear HB; have HO_214002 := n0_; have HO_220002 := n1_; have HO_227002 := n2_; have BK200 := n3_; have BK213 := n4_; have BK219 := n5_; have BK226 := n6_; have HB := n7_; clear n0_ n1_ n2_ n3_ n4_ n5_ n6_ n7_; (try clear hb); (try clear hkp); (try clear hy0); have hcz175_0 : w174.cell? ⟨gb226, 0, none⟩ = some (.int .i8 t220) := (blk_cell BK226.out 0).trans rfl; have hcz175_1 : w174.cell? ⟨gb226, 1, none⟩ = some (.int .i8 t221) := (blk_cell BK226.out 1).trans rfl; have hcz175_2 : w174.cell? ⟨gb226, 2, none⟩ = some (.slice Ao38 t222.length co38) := (blk_cell BK226.out 2).trans rfl; have hfz175_0 := blk_frozen BK226.out 0; have hfz175_1 := blk_frozen BK226.out 1; have hfz175_2 := blk_frozen BK226.out 2) | ((with_reducible refine gate_callee (f := 29) rfl ?_); refine goesL_ (some 75) rfl rfl Try.func29 (by kernel_rfl) rfl #[.agg #[.int .i8 t220, .int .i8 t221, .slice Ao38 t238.length co38], .int .i64 1] rfl (by (try simp only [List.map_toArray, List.map_cons, List.map_nil]); first | done | (rw [show t238.length = t222.length from (Kd.R_reads' HO_227002.out).1.symm] <;> rfl) | rfl | (simp only [List.length_drop, List.length_take]; rfl)) ?_; (with_reducible refine (laws_heldGame.calls kj61 t220 t221 _ _ t238 1 t239 _ ?side1 ?side2 A93.out).mono ?_); (case side1 => repeat (first | exact (Kd.R_reads' HO_227002.out).2.2 | (with_reducible refine Kd.C_alloc ?_ _) | (with_reducible refine Kd.C_drewN ?_ _) | (with_reducible refine Kd.C_drew ?_))); (case side2 => rw [show t238.length = t222.length from (Kd.R_reads' HO_227002.out).1.symm]; exact (Kd.R_reads' HO_227002.out).2.1); rintro e w176 ⟨rfl, hb⟩; refine ⟨_, rfl, ?_⟩; have n0_ := Aside0.mk (Kd.R_below (by (with_reducible repeat (first | apply Kd.R_alloc | apply Kd.R_drewN | apply Kd.R_drew)); exact HO_214002.out) hb); have n1_ := Aside0.mk (Kd.R_below (by (with_reducible repeat (first | apply Kd.R_alloc | apply Kd.R_drewN | apply Kd.R_drew)); exact HO_220002.out) hb); have n2_ := Aside0.mk (Kd.R_below (by (with_reducible repeat (first | apply Kd.R_alloc | apply Kd.R_drewN | apply Kd.R_drew)); exact HO_227002.out) hb); have n3_ := Aside0.mk (blk_below (g := gb200) (o := .cells #[.int .i8 a0_0, .int .i8 a0_1, .slice A0_2 l0_2.length c0_2] 45 (0, 0)) (by (with_reducible repeat (first | refine blk_drewN ?_ _ | refine blk_drew ?_ | refine blk_alloc ?_ _)); exact BK200.out) hb); have n4_ := Aside0.mk (blk_below (g := gb213) (o := .cells #[.int .i8 t207, .int .i8 t208, .slice Ao24 t209.length co24] 37 (0, 0)) (by (with_reducible repeat (first | refine blk_drewN ?_ _ | refine blk_drew ?_ | refine blk_alloc ?_ _)); exact BK213.out) hb); have n5_ := Aside0.mk (blk_below (g := gb219) (o := .cells #[.int .i8 t214, .int .i8 t215, .slice Ao31 t235.length co31] 37 (0, 0)) (by (with_reducible repeat (first | refine blk_drewN ?_ _ | refine blk_drew ?_ | refine blk_alloc ?_ _)); exact BK219.out) hb); have n6_ := Aside0.mk (blk_below (g := gb226) (o := .cells #[.int .i8 t220, .int .i8 t221, .slice Ao38 t222.length co38] 37 (0, 0)) (by (with_reducible repeat (first | refine blk_drewN ?_ _ | refine blk_drew ?_ | refine blk_alloc ?_ _)); exact BK226.out) hb); have n7_ := Aside0.mk (below_step (by repeat (first | (with_reducible first | exact HB.out | apply below_alloc | apply pw_below_drewN | apply below_drew1 | refine below_set ?_ GE200.out | refine below_set ?_ GE213.out | refine below_set ?_ GE219.out | refine below_set ?_ GE226.out) | exact HB.out)) hb); clear HO_214002; clear HO_220002; clear HO_227002; clear BK200; clear BK213; clear BK219; clear BK226; clear HB; have HO_214002 := n0_; have HO_220002 := n1_; have HO_227002 := n2_; have BK200 := n3_; have BK213 := n4_; have BK219 := n5_; have BK226 := n6_; have HB := n7_; clear n0_ n1_ n2_ n3_ n4_ n5_ n6_ n7_; (try clear hb); (try clear hb2); (try clear hk); (try clear hi)))
                      go_ret
                      exact ⟨by first | rfl | (simp [errW_none, errW_some] <;> rfl) | (simp [*, errW_none, errW_some] <;> rfl), by repeat (first | (with_reducible first | exact HB.out | apply below_alloc | apply pw_below_drewN | apply below_drew1 | refine below_set ?_ GE200.out | refine below_set ?_ GE213.out | refine below_set ?_ GE219.out | refine below_set ?_ GE226.out) | exact HB.out)⟩
          · replace c60 := Bool.eq_false_iff.mpr c60
            subst c60
            have H1 : (some false) = some r := by rw [if_neg (show ¬ (false = true) by decide)] at H; exact H
            clear H
            have H := H1
            clear H1
            obtain rfl := Option.some.inj H
            try go_wp2
            have n0_ := Aside0.mk (Kd.R_drew HO_214002.out)
            have n1_ := Aside0.mk (Kd.R_drew HO_220002.out)
            have n2_ := Aside0.mk (Kd.R_drew HO_227002.out)
            have n3_ := Aside0.mk (blk_drew BK200.out)
            have n4_ := Aside0.mk (blk_drew BK213.out)
            have n5_ := Aside0.mk (blk_drew BK219.out)
            have n6_ := Aside0.mk (blk_drew BK226.out)
            have n7_ := Aside0.mk (below_drew1 HB.out)
            clear HO_214002
            clear HO_220002
            clear HO_227002
            clear BK200
            clear BK213
            clear BK219
            clear BK226
            clear HB
            have HO_214002 := n0_
            have HO_220002 := n1_
            have HO_227002 := n2_
            have BK200 := n3_
            have BK213 := n4_
            have BK219 := n5_
            have BK226 := n6_
            have HB := n7_
            clear n0_ n1_ n2_ n3_ n4_ n5_ n6_ n7_
            refine start_ (n := 5) (S := fun w' => w'.cell? ⟨gb219, 0, none⟩ = some (.int .i8 t214) ∧ w'.cell? ⟨gb219, 1, none⟩ = some (.int .i8 t215) ∧ w'.cell? ⟨gb219, 2, none⟩ = some (.slice Ao31 t216.length co31) ∧ w'.cell? ⟨gb200, 0, none⟩ = some (.int .i8 a0_0) ∧ w'.cell? ⟨gb200, 1, none⟩ = some (.int .i8 a0_1) ∧ w'.cell? ⟨gb200, 2, none⟩ = some (.slice A0_2 l0_2.length c0_2)) (ds := []) #[false, false, false, false, false] (by kernel_rfl) rfl rfl ⟨(blk_cell BK219.out 0).trans rfl, (blk_cell BK219.out 1).trans rfl, (blk_cell BK219.out 2).trans rfl, (blk_cell BK200.out 0).trans rfl, (blk_cell BK200.out 1).trans rfl, (blk_cell BK200.out 2).trans rfl⟩ (fun hHeld => ?_)
            generalize wc.drew = w177 at HO_214002 HO_220002 HO_227002 BK200 BK213 BK219 BK226 HB hHeld ⊢
            refine take_ (i := 0) (N := some 49) (v := ?_) (a' := ?_) #[true, false, false, false, false] rfl rfl (by kernel_rfl) (fun _ _ _ h => h) (Or.inl ⟨by rfl, ?_⟩) hHeld ?_ ?_
            rotate_left
            · rintro w' ⟨s0, s1, s2, s3, s4, s5⟩
              go_simp
              with_reducible rfl
            rotate_left
            · simp only [Act.put, List.setIfInBounds_toArray, List.set_cons_zero, List.set_cons_succ, i64_w, i32_w]
              rfl
            refine take_ (i := 1) (N := some 50) (v := ?_) (a' := ?_) #[true, true, false, false, false] rfl rfl (by kernel_rfl) (fun _ _ _ h => h) (Or.inl ⟨by rfl, ?_⟩) hHeld ?_ ?_
            rotate_left
            · rintro w' ⟨s0, s1, s2, s3, s4, s5⟩
              go_simp
              with_reducible rfl
            rotate_left
            · simp only [Act.put, List.setIfInBounds_toArray, List.set_cons_zero, List.set_cons_succ, i64_w, i32_w]
              rfl
            refine one_ (i := 2) (N := some 51) #[true, true, true, false, false] rfl rfl (by kernel_rfl) (by decide) (fun K hK => ?_)
            refine goes_ Try.func32 (by kernel_rfl) rfl #[.agg #[.int .i8 a0_0, .int .i8 a0_1, .slice A0_2 l0_2.length c0_2]] (by rfl) rfl rfl (by (try simp only [List.map_toArray, List.map_cons, List.map_nil]); first | done | rfl | (simp only [List.length_drop, List.length_take]; rfl)) ?_
            with_reducible refine (laws_toGame.calls kj12 a0_0 a0_1 _ _ l0_2 t228 t229 t230 _ ?side1 ?side2 A58.out).mono ?_
            (case side1 => repeat (first | exact (Kd.C_below HR0_2.out HB.out) | (with_reducible refine Kd.C_alloc ?_ _) | (with_reducible refine Kd.C_drewN ?_ _) | (with_reducible refine Kd.C_drew ?_)))
            (case side2 => exact HC0_2.out)
            rintro e w178 ⟨v231, rfl, ho0, hb⟩
            refine ⟨_, rfl, ?_⟩
            have n0_ := Aside0.mk (Kd.R_elder' (by (with_reducible repeat (first | apply Kd.R_alloc | apply Kd.R_drewN | apply Kd.R_drew)); exact HO_214002.out) (Kd.R_base ho0) hb)
            have n1_ := Aside0.mk (Kd.R_elder' (by (with_reducible repeat (first | apply Kd.R_alloc | apply Kd.R_drewN | apply Kd.R_drew)); exact HO_220002.out) (Kd.R_base ho0) hb)
            have n2_ := Aside0.mk (Kd.R_elder' (by (with_reducible repeat (first | apply Kd.R_alloc | apply Kd.R_drewN | apply Kd.R_drew)); exact HO_227002.out) (Kd.R_base ho0) hb)
            have n3_ := Aside0.mk (Kd.R_lower (Kd.R_new' (Kd.R_new' (Kd.R_new' ho0 (Kd.R_lt (by (with_reducible repeat (first | apply Kd.R_alloc | apply Kd.R_drewN | apply Kd.R_drew)); exact HO_214002.out))) (Kd.R_lt (by (with_reducible repeat (first | apply Kd.R_alloc | apply Kd.R_drewN | apply Kd.R_drew)); exact HO_220002.out))) (Kd.R_lt (by (with_reducible repeat (first | apply Kd.R_alloc | apply Kd.R_drewN | apply Kd.R_drew)); exact HO_227002.out))) (below_size (by repeat (first | (with_reducible first | exact HB.out | apply below_alloc | apply pw_below_drewN | apply below_drew1 | refine below_set ?_ GE200.out | refine below_set ?_ GE213.out | refine below_set ?_ GE219.out | refine below_set ?_ GE226.out) | exact HB.out))))
            have n4_ := Aside0.mk (blk_below (g := gb200) (o := .cells #[.int .i8 a0_0, .int .i8 a0_1, .slice A0_2 l0_2.length c0_2] 45 (0, 0)) (by (with_reducible repeat (first | refine blk_drewN ?_ _ | refine blk_drew ?_ | refine blk_alloc ?_ _)); exact BK200.out) hb)
            have n5_ := Aside0.mk (blk_below (g := gb213) (o := .cells #[.int .i8 t207, .int .i8 t208, .slice Ao24 t209.length co24] 37 (0, 0)) (by (with_reducible repeat (first | refine blk_drewN ?_ _ | refine blk_drew ?_ | refine blk_alloc ?_ _)); exact BK213.out) hb)
            have n6_ := Aside0.mk (blk_below (g := gb219) (o := .cells #[.int .i8 t214, .int .i8 t215, .slice Ao31 t216.length co31] 37 (0, 0)) (by (with_reducible repeat (first | refine blk_drewN ?_ _ | refine blk_drew ?_ | refine blk_alloc ?_ _)); exact BK219.out) hb)
            have n7_ := Aside0.mk (blk_below (g := gb226) (o := .cells #[.int .i8 t220, .int .i8 t221, .slice Ao38 t222.length co38] 37 (0, 0)) (by (with_reducible repeat (first | refine blk_drewN ?_ _ | refine blk_drew ?_ | refine blk_alloc ?_ _)); exact BK226.out) hb)
            have n8_ := Aside0.mk (below_step (by repeat (first | (with_reducible first | exact HB.out | apply below_alloc | apply pw_below_drewN | apply below_drew1 | refine below_set ?_ GE200.out | refine below_set ?_ GE213.out | refine below_set ?_ GE219.out | refine below_set ?_ GE226.out) | exact HB.out)) hb)
            clear HO_214002
            clear HO_220002
            clear HO_227002
            clear BK200
            clear BK213
            clear BK219
            clear BK226
            clear HB
            have HO_214002 := n0_
            have HO_220002 := n1_
            have HO_227002 := n2_
            have HO232 := n3_
            have BK200 := n4_
            have BK213 := n5_
            have BK219 := n6_
            have BK226 := n7_
            have HB := n8_
            clear n0_ n1_ n2_ n3_ n4_ n5_ n6_ n7_ n8_
            (try clear hb)
            (try clear hb2)
            (try clear hk)
            (try clear hi)
            (try clear ho0)
            obtain ⟨Ao179, co179, eo179⟩ := Kd.R_slice HO232.out
            (first | subst eo179 | (injection eo179 with f1_ f2_ f3_; have f4_ := f1_.symm; have f5_ := f3_.symm; clear f1_ f2_ f3_; subst f4_; subst f5_))
            refine hK.out _ _ ⟨(blk_cell BK219.out 0).trans rfl, (blk_cell BK219.out 1).trans rfl, (blk_cell BK219.out 2).trans rfl, (blk_cell BK200.out 0).trans rfl, (blk_cell BK200.out 1).trans rfl, (blk_cell BK200.out 2).trans rfl⟩ (fun hHeld => ?_)
            clear hK K
            refine norm_ (a' := ?_) ?_ ?_
            rotate_left
            · show Act.put _ (some 51) _ = _
              simp only [Act.put, List.setIfInBounds_toArray, List.set_cons_zero, List.set_cons_succ, i64_w, i32_w]
              rfl
            refine one_ (i := 3) (N := some 52) #[true, true, true, true, false] rfl rfl (by kernel_rfl) (by decide) (fun K hK => ?_)
            refine goes_ Try.func27 (by kernel_rfl) rfl #[.agg #[.int .i8 t214, .int .i8 t215, .slice Ao31 t216.length co31], .agg #[.int .i8 t228, .int .i8 t229, .slice Ao179 t230.length co179]] (by rfl) rfl rfl (by (try simp only [List.map_toArray, List.map_cons, List.map_nil]); first | done | rfl | (simp only [List.length_drop, List.length_take]; rfl)) ?_
            with_reducible refine (laws_eqGame.calls kj12 t214 t215 _ _ t216 t228 t229 _ _ t230 false _ ?side1 ?side2 ?side3 ?side4 A59.out).mono ?_
            (case side1 => repeat (first | exact (Kd.R_reads' HO_220002.out).2.2 | (with_reducible refine Kd.C_alloc ?_ _) | (with_reducible refine Kd.C_drewN ?_ _) | (with_reducible refine Kd.C_drew ?_)))
            (case side2 => exact (Kd.R_reads' HO_220002.out).2.1)
            (case side3 => repeat (first | exact (Kd.R_reads' HO232.out).2.2 | (with_reducible refine Kd.C_alloc ?_ _) | (with_reducible refine Kd.C_drewN ?_ _) | (with_reducible refine Kd.C_drew ?_)))
            (case side4 => exact (Kd.R_reads' HO232.out).2.1)
            rintro e w180 ⟨rfl, hb⟩
            refine ⟨_, rfl, ?_⟩
            have n0_ := Aside0.mk (Kd.R_below (by (with_reducible repeat (first | apply Kd.R_alloc | apply Kd.R_drewN | apply Kd.R_drew)); exact HO_214002.out) hb)
            have n1_ := Aside0.mk (Kd.R_below (by (with_reducible repeat (first | apply Kd.R_alloc | apply Kd.R_drewN | apply Kd.R_drew)); exact HO_220002.out) hb)
            have n2_ := Aside0.mk (Kd.R_below (by (with_reducible repeat (first | apply Kd.R_alloc | apply Kd.R_drewN | apply Kd.R_drew)); exact HO_227002.out) hb)
            have n3_ := Aside0.mk (Kd.R_below (by (with_reducible repeat (first | apply Kd.R_alloc | apply Kd.R_drewN | apply Kd.R_drew)); exact HO232.out) hb)
            have n4_ := Aside0.mk (blk_below (g := gb200) (o := .cells #[.int .i8 a0_0, .int .i8 a0_1, .slice A0_2 l0_2.length c0_2] 45 (0, 0)) (by (with_reducible repeat (first | refine blk_drewN ?_ _ | refine blk_drew ?_ | refine blk_alloc ?_ _)); exact BK200.out) hb)
            have n5_ := Aside0.mk (blk_below (g := gb213) (o := .cells #[.int .i8 t207, .int .i8 t208, .slice Ao24 t209.length co24] 37 (0, 0)) (by (with_reducible repeat (first | refine blk_drewN ?_ _ | refine blk_drew ?_ | refine blk_alloc ?_ _)); exact BK213.out) hb)
            have n6_ := Aside0.mk (blk_below (g := gb219) (o := .cells #[.int .i8 t214, .int .i8 t215, .slice Ao31 t216.length co31] 37 (0, 0)) (by (with_reducible repeat (first | refine blk_drewN ?_ _ | refine blk_drew ?_ | refine blk_alloc ?_ _)); exact BK219.out) hb)
            have n7_ := Aside0.mk (blk_below (g := gb226) (o := .cells #[.int .i8 t220, .int .i8 t221, .slice Ao38 t222.length co38] 37 (0, 0)) (by (with_reducible repeat (first | refine blk_drewN ?_ _ | refine blk_drew ?_ | refine blk_alloc ?_ _)); exact BK226.out) hb)
            have n8_ := Aside0.mk (below_step (by repeat (first | (with_reducible first | exact HB.out | apply below_alloc | apply pw_below_drewN | apply below_drew1 | refine below_set ?_ GE200.out | refine below_set ?_ GE213.out | refine below_set ?_ GE219.out | refine below_set ?_ GE226.out) | exact HB.out)) hb)
            clear HO_214002
            clear HO_220002
            clear HO_227002
            clear HO232
            clear BK200
            clear BK213
            clear BK219
            clear BK226
            clear HB
            have HO_214002 := n0_
            have HO_220002 := n1_
            have HO_227002 := n2_
            have HO232 := n3_
            have BK200 := n4_
            have BK213 := n5_
            have BK219 := n6_
            have BK226 := n7_
            have HB := n8_
            clear n0_ n1_ n2_ n3_ n4_ n5_ n6_ n7_ n8_
            (try clear hb)
            (try clear hb2)
            (try clear hk)
            (try clear hi)
            refine hK.out _ _ ⟨(blk_cell BK219.out 0).trans rfl, (blk_cell BK219.out 1).trans rfl, (blk_cell BK219.out 2).trans rfl, (blk_cell BK200.out 0).trans rfl, (blk_cell BK200.out 1).trans rfl, (blk_cell BK200.out 2).trans rfl⟩ (fun hHeld => ?_)
            clear hK K
            refine norm_ (a' := ?_) ?_ ?_
            rotate_left
            · show Act.put _ (some 52) _ = _
              simp only [Act.put, List.setIfInBounds_toArray, List.set_cons_zero, List.set_cons_succ, i64_w, i32_w]
              rfl
            refine pure_ (i := 4) (N := some 53) (v := ?_) (a' := ?_) #[true, true, true, true, true] rfl rfl (by kernel_rfl) (fun _ _ _ h => h) (Or.inl ⟨by rfl, ?_⟩) ?_ ?_
            rotate_left
            · intro w'
              go_simp
              with_reducible rfl
            rotate_left
            · simp only [Act.put, List.setIfInBounds_toArray, List.set_cons_zero, List.set_cons_succ, i64_w, i32_w]
              rfl
            refine done_ (by kernel_rfl) ?_
            try go_wp2
            go_ret
            exact ⟨by first | rfl | (simp [errW_none, errW_some] <;> rfl) | (simp [*, errW_none, errW_some] <;> rfl), by repeat (first | (with_reducible first | exact HB.out | apply below_alloc | apply pw_below_drewN | apply below_drew1 | refine below_set ?_ GE200.out | refine below_set ?_ GE213.out | refine below_set ?_ GE219.out | refine below_set ?_ GE226.out) | exact HB.out)⟩

end Go.Proofs.Ytoicmgphccgdbaa.X
