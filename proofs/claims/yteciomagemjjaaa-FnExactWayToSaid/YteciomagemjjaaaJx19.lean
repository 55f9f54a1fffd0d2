/- The law of WayTo. -/
import Derived.Test.YteciomagemjjaaaJx6
import Derived.Test.YteciomagemjjaaaJx13
import Derived.Test.YteciomagemjjaaaJx14
import Derived.Test.YteciomagemjjaaaJx15
import Derived.Test.YteciomagemjjaaaLMrkJ
import Derived.Test.YteciomagemjjaaaLMvqJ
import Derived.Test.YteciomagemjjaaaLWtoJ
import Derived.Test.YteciomagemjjaaaLWtsJ
import Derived.Test.YteciomagemjjaaaLPrJ
namespace Go.Proofs.Yteciomagemjjaaa.J
open Go.RowKit Go.Proofs.YteciomagemjjaaaW.PrintWords Go.Proofs.YteciomagemjjaaaW.PrintLast Go.Proofs.YteciomagemjjaaaW.PrintMore
attribute [local go_sem] zma zna zxa zwa zia zja zoa zpa   -- for this text's walks alone
set_option linter.unusedVariables false
set_option linter.unusedSimpArgs false
/-! ### laws_FnExactWayTo: function 7 -/
mutual
def laws_FnExactWayTo.j0 : Nat → List (S80) → Int → List (S80) → Int → Bool → List Int → Int → Int → Int → Int → Bool → Int → Int → Int → Int → List Int → Int → Int → Int → Int → Bool → Option (Bool)
 | 0, _, _, _, _, _, _, _, _, _, _, _, _, _, _, _, _, _, _, _, _, _ => none
 | k + 1, x6, x7, x9, x10, x46, x307000, x307001, x307002, x307003, x307004, x307005, x308000, x308001, x308002, x308003, x334000, x334001, x334002, x334003, x334004, x334005 => if x46 = true then (some false) else ((laws_toPuzzle.f k x307000 x307001 x307002 x307003 x307004 x307005).bind fun bt343 => ((laws_eqPuzzle.f k x334000 x334001 x334002 x334003 x334004 x334005 bt343.1 bt343.2.1 bt343.2.2.1 bt343.2.2.2.1 bt343.2.2.2.2.1 bt343.2.2.2.2.2).bind fun t351 => (if t351 = true then ((laws_markPuzzle.f k x334000 x334001 x334002 x334003 x334004 x334005 1).bind fun bt352 => (if bt352.1 < 0 then (laws_FnExactWayTo.j1 k x6 x7 x9 true x307000 x307001 x307002 x307003 x307004 x307005 x308000 x308001 x308002 x308003) else ((laws_eqMoveS.f k x9 x6).bind fun t354 => (if t354 = true then (laws_FnExactWayTo.j1 k x6 x7 x9 (x10 != x7) x307000 x307001 x307002 x307003 x307004 x307005 x308000 x308001 x308002 x308003) else (laws_FnExactWayTo.j1 k x6 x7 x9 true x307000 x307001 x307002 x307003 x307004 x307005 x308000 x308001 x308002 x308003))))) else (some false))))
def laws_FnExactWayTo.j1 : Nat → List (S80) → Int → List (S80) → Bool → List Int → Int → Int → Int → Int → Bool → Int → Int → Int → Int → Option (Bool)
 | 0, _, _, _, _, _, _, _, _, _, _, _, _, _, _ => none
 | k + 1, x6, x7, x9, x67, x307000, x307001, x307002, x307003, x307004, x307005, x308000, x308001, x308002, x308003 => if x67 = true then (some false) else ((laws_markMoveS.f k x9 1).bind fun bt355 => ((laws_heldMoveS.f k bt355.2 1).bind fun t357 => (if t357 < 0 then (some false) else (if t357 = bt355.1 then ((laws_toPuzzle.f k x307000 x307001 x307002 x307003 x307004 x307005).bind fun bt358 => ((laws_toWater.f k x308000 x308001 x308002 x308003).bind fun bt366 => ((impl_WayTo.f k bt358.1 bt358.2.1 bt358.2.2.1 bt358.2.2.2.1 bt358.2.2.2.2.1 bt358.2.2.2.2.2 bt366.1 bt366.2.1 bt366.2.2.1 bt366.2.2.2).bind fun bt370 => ((laws_eqMoveS.f k bt370.1 x6).bind fun t374 => (if t374 = true then (laws_FnExactWayTo.j2 k bt355.2 bt355.1 (bt370.2 != x7)) else (laws_FnExactWayTo.j2 k bt355.2 bt355.1 true)))))) else (some false)))))
def laws_FnExactWayTo.j2 : Nat → List (S80) → Int → Bool → Option (Bool)
 | 0, _, _, _ => none
 | k + 1, x9, x12, x95 => if x95 = true then (some false) else ((laws_heldMoveS.f k x9 1).bind fun t375 => (if t375 < 0 then (some false) else (if t375 = x12 then (some true) else (some false))))
end
def laws_FnExactWayTo.f (k : Nat) (l0_0 : List Int) (a0_1 : Int) (a0_2 : Int) (a0_3 : Int) (a0_4 : Int) (a0_5 : Bool) (a1_0 : Int) (a1_1 : Int) (a1_2 : Int) (a1_3 : Int) : Option (Bool) := (laws_szPuzzle.f l0_0 a0_1 a0_2 a0_3 a0_4 a0_5 1048576).bind fun t308 => (if t308 < 0 then (some true) else ((laws_toPuzzle.f k l0_0 a0_1 a0_2 a0_3 a0_4 a0_5).bind fun bt309 => ((laws_toWater.f k a1_0 a1_1 a1_2 a1_3).bind fun bt317 => ((spec_WayTo.f k bt309.1 bt309.2.1 bt309.2.2.1 bt309.2.2.2.1 bt309.2.2.2.2.1 bt309.2.2.2.2.2 bt317.1 bt317.2.1 bt317.2.2.1 bt317.2.2.2).bind fun bt321 => ((laws_toPuzzle.f k l0_0 a0_1 a0_2 a0_3 a0_4 a0_5).bind fun bt325 => ((laws_toWater.f k a1_0 a1_1 a1_2 a1_3).bind fun bt334 => ((impl_WayTo.f k bt325.1 bt325.2.1 bt325.2.2.1 bt325.2.2.2.1 bt325.2.2.2.2.1 bt325.2.2.2.2.2 bt334.1 bt334.2.1 bt334.2.2.1 bt334.2.2.2).bind fun bt338 => ((laws_eqMoveS.f k bt338.1 bt321.1).bind fun t342 => (if t342 = true then (laws_FnExactWayTo.j0 k bt321.1 bt321.2 bt338.1 bt338.2 (bt338.2 != bt321.2) l0_0 a0_1 a0_2 a0_3 a0_4 a0_5 a1_0 a1_1 a1_2 a1_3 bt325.1 bt325.2.1 bt325.2.2.1 bt325.2.2.2.1 bt325.2.2.2.2.1 bt325.2.2.2.2.2) else (laws_FnExactWayTo.j0 k bt321.1 bt321.2 bt338.1 bt338.2 true l0_0 a0_1 a0_2 a0_3 a0_4 a0_5 a1_0 a1_1 a1_2 a1_3 bt325.1 bt325.2.1 bt325.2.2.1 bt325.2.2.2.1 bt325.2.2.2.2.1 bt325.2.2.2.2.2))))))))))
def laws_FnExactWayTo.T5 : Bool × List (List Nat × List Nat) := (true, [([], []), ([0], [0]), ([], []), ([2, 1], [2]), ([1, 3, 3], [1, 3]), ([4], [4]), ([5], [5]), ([5], [5]), ([6, 4, 0, 1, 2, 3, 4, 5, 6], [6]), ([7, 8, 0, 1, 2, 3, 4, 5, 6, 7, 8], [7])])
def laws_FnExactWayTo.B5 : List Nat := [0, 1, 0, 7, 15, 31, 63, 63, 127, 511]
theorem laws_FnExactWayTo.tab5 : rtab .any (zqd Try.f7 5) = laws_FnExactWayTo.T5 := by kernel_rfl
theorem laws_FnExactWayTo.bits5 : zjb laws_FnExactWayTo.T5.2 laws_FnExactWayTo.B5 = true := by kernel_rfl
def laws_FnExactWayTo.T7 : Bool × List (List Nat × List Nat) := (true, [([], []), ([], []), ([1], [1]), ([0, 2, 2], [0, 2]), ([3], [3]), ([4], [4]), ([4], [4]), ([5, 3, 0, 1, 2, 3, 4, 5], [5]), ([6, 7, 0, 1, 2, 3, 4, 5, 6, 7], [6])])
def laws_FnExactWayTo.B7 : List Nat := [0, 0, 2, 7, 15, 31, 31, 63, 255]
theorem laws_FnExactWayTo.tab7 : rtab .any (zqd Try.f7 7) = laws_FnExactWayTo.T7 := by kernel_rfl
theorem laws_FnExactWayTo.bits7 : zjb laws_FnExactWayTo.T7.2 laws_FnExactWayTo.B7 = true := by kernel_rfl
def laws_FnExactWayTo.T24 : Bool × List (List Nat × List Nat) := (true, [([], []), ([0], [0]), ([], []), ([2, 1], [2]), ([1, 3, 3], [1, 3]), ([4], [4]), ([5], [5]), ([5], [5]), ([6, 4, 0, 1, 2, 3, 4, 5, 6], [6]), ([7, 8, 0, 1, 2, 3, 4, 5, 6, 7, 8], [7])])
def laws_FnExactWayTo.B24 : List Nat := [0, 1, 0, 7, 15, 31, 63, 63, 127, 511]
theorem laws_FnExactWayTo.tab24 : rtab .any (zqd Try.f7 24) = laws_FnExactWayTo.T24 := by kernel_rfl
theorem laws_FnExactWayTo.bits24 : zjb laws_FnExactWayTo.T24.2 laws_FnExactWayTo.B24 = true := by kernel_rfl
set_option maxHeartbeats 8000000 in
set_option maxRecDepth 100000 in
theorem laws_FnExactWayTo.calls (k : Nat) (A0_0 : Option Addr) (c0_0 : Nat) (l0_0 : List Int) (a0_1 : Int) (a0_2 : Int) (a0_3 : Int) (a0_4 : Int) (a0_5 : Bool) (a1_0 : Int) (a1_1 : Int) (a1_2 : Int) (a1_3 : Int) (r : Bool) (w : World) (hr0_0 : Kd.C (Kd.int .i16) w A0_0 l0_0.length l0_0) (hc0_0 : l0_0.length ≤ c0_0) (h : laws_FnExactWayTo.f k l0_0 a0_1 a0_2 a0_3 a0_4 a0_5 a1_0 a1_1 a1_2 a1_3 = some r) :
  Calls Try.prog 7 #[.agg #[.slice A0_0 l0_0.length c0_0, .int .i16 a0_1, .int .i16 a0_2, .int .i16 a0_3, .int .i16 a0_4, .bool a0_5], .agg #[.int .i16 a1_0, .int .i16 a1_1, .int .i16 a1_2, .int .i16 a1_3]] w fun e w' => e = .returned (.bool r) ∧ Below w.heap.size w w' := by
 have hu53 := Try.underlying53
 have hu26 := Try.underlying26
 have hu29 := Try.underlying29
 have HR0_0 := zb.mk hr0_0
 have HC0_0 := zb.mk hc0_0
 clear hr0_0 hc0_0
 have HB := zb.mk (Below.refl w.heap.size w)
 have H : ((laws_szPuzzle.f l0_0 a0_1 a0_2 a0_3 a0_4 a0_5 1048576).bind fun t308 => (if t308 < 0 then (some true) else ((laws_toPuzzle.f k l0_0 a0_1 a0_2 a0_3 a0_4 a0_5).bind fun bt309 => ((laws_toWater.f k a1_0 a1_1 a1_2 a1_3).bind fun bt317 => ((spec_WayTo.f k bt309.1 bt309.2.1 bt309.2.2.1 bt309.2.2.2.1 bt309.2.2.2.2.1 bt309.2.2.2.2.2 bt317.1 bt317.2.1 bt317.2.2.1 bt317.2.2.2).bind fun bt321 => ((laws_toPuzzle.f k l0_0 a0_1 a0_2 a0_3 a0_4 a0_5).bind fun bt325 => ((laws_toWater.f k a1_0 a1_1 a1_2 a1_3).bind fun bt334 => ((impl_WayTo.f k bt325.1 bt325.2.1 bt325.2.2.1 bt325.2.2.2.1 bt325.2.2.2.2.1 bt325.2.2.2.2.2 bt334.1 bt334.2.1 bt334.2.2.1 bt334.2.2.2).bind fun bt338 => ((laws_eqMoveS.f k bt338.1 bt321.1).bind fun t342 => (if t342 = true then (laws_FnExactWayTo.j0 k bt321.1 bt321.2 bt338.1 bt338.2 (bt338.2 != bt321.2) l0_0 a0_1 a0_2 a0_3 a0_4 a0_5 a1_0 a1_1 a1_2 a1_3 bt325.1 bt325.2.1 bt325.2.2.1 bt325.2.2.2.1 bt325.2.2.2.2.1 bt325.2.2.2.2.2) else (laws_FnExactWayTo.j0 k bt321.1 bt321.2 bt338.1 bt338.2 true l0_0 a0_1 a0_2 a0_3 a0_4 a0_5 a1_0 a1_1 a1_2 a1_3 bt325.1 bt325.2.1 bt325.2.2.1 bt325.2.2.2.1 bt325.2.2.2.2.1 bt325.2.2.2.2.2))))))))))) = some r := h
 clear h
 replace H := Option.bind_eq_some_iff.mp H
 obtain ⟨t308, A30, H⟩ := H
 replace H : (if t308 < 0 then (some true) else ((laws_toPuzzle.f k l0_0 a0_1 a0_2 a0_3 a0_4 a0_5).bind fun bt309 => ((laws_toWater.f k a1_0 a1_1 a1_2 a1_3).bind fun bt317 => ((spec_WayTo.f k bt309.1 bt309.2.1 bt309.2.2.1 bt309.2.2.2.1 bt309.2.2.2.2.1 bt309.2.2.2.2.2 bt317.1 bt317.2.1 bt317.2.2.1 bt317.2.2.2).bind fun bt321 => ((laws_toPuzzle.f k l0_0 a0_1 a0_2 a0_3 a0_4 a0_5).bind fun bt325 => ((laws_toWater.f k a1_0 a1_1 a1_2 a1_3).bind fun bt334 => ((impl_WayTo.f k bt325.1 bt325.2.1 bt325.2.2.1 bt325.2.2.2.1 bt325.2.2.2.2.1 bt325.2.2.2.2.2 bt334.1 bt334.2.1 bt334.2.2.1 bt334.2.2.2).bind fun bt338 => ((laws_eqMoveS.f k bt338.1 bt321.1).bind fun t342 => (if t342 = true then (laws_FnExactWayTo.j0 k bt321.1 bt321.2 bt338.1 bt338.2 (bt338.2 != bt321.2) l0_0 a0_1 a0_2 a0_3 a0_4 a0_5 a1_0 a1_1 a1_2 a1_3 bt325.1 bt325.2.1 bt325.2.2.1 bt325.2.2.2.1 bt325.2.2.2.2.1 bt325.2.2.2.2.2) else (laws_FnExactWayTo.j0 k bt321.1 bt321.2 bt338.1 bt338.2 true l0_0 a0_1 a0_2 a0_3 a0_4 a0_5 a1_0 a1_1 a1_2 a1_3 bt325.1 bt325.2.1 bt325.2.2.1 bt325.2.2.2.1 bt325.2.2.2.2.1 bt325.2.2.2.2.2)))))))))) = some r := H
 have A3 := zb.mk A30
 clear A30
 by_cases c4 : t308 < 0
 ·rw [if_pos c4] at H
  have c4b0 : decide (t308 < 0) = true := decide_eq_true c4
  clear c4
  obtain rfl := Option.some.inj H
  go_enter Try.func7, Try.ntmps7
  go_wp2_with (first | ((with_reducible refine zy (N := 2) rfl ?_); refine bx (N := 2) #[.slice A0_0 l0_0.length c0_0, .int .i16 a0_1, .int .i16 a0_2, .int .i16 a0_3, .int .i16 a0_4, .bool a0_5] 53 rfl ?_; intro gb306 hg w5 hbox hb; have BK306 := zb.mk hbox; have GW306 := gB hg; have GE306 := GW306; replace HB := zb.mk (zm sB hb); clear hb hbox hg) | ((with_reducible refine zy (N := 3) rfl ?_); refine bx (N := 3) #[.int .i16 a1_0, .int .i16 a1_1, .int .i16 a1_2, .int .i16 a1_3] 26 rfl ?_; intro gb307 hg w6 hbox hb; have BK307 := zb.mk hbox; have GW307 := gB hg; have GE307 := GW307; have NB306_307 := nK hg BK306; have NB307_306 := zb.mk NB306_307.out.symm; replace BK306 := dK BK306 hb; replace HB := zb.mk (zm sB hb); clear hb hbox hg; have hnb7 := NB306_307.out; have hnc7 := NB307_306.out; obtain ⟨hcz8_0, hcz8_1, hcz8_2, hcz8_3, hcz8_4, hcz8_5⟩ := xc6 BK306; obtain ⟨hfz8_0, hfz8_1, hfz8_2, hfz8_3, hfz8_4, hfz8_5⟩ := xf6 BK306) | ((with_reducible refine zt (f := 32) rfl ?_); refine gz (some 18) Try.func32 #[.agg #[.slice A0_0 l0_0.length c0_0, .int .i16 a0_1, .int .i16 a0_2, .int .i16 a0_3, .int .i16 a0_4, .bool a0_5], .int .i64 1048576] rfl rfl ?_; (with_reducible refine (laws_szPuzzle.calls _ _ l0_0 a0_1 a0_2 a0_3 a0_4 a0_5 1048576 t308 _ ?side1 ?side2 A3.out).mono ?_); (case side1 => exact uC HR0_0 HB); (case side2 => exact HC0_0.out); rintro e w9 ⟨rfl, hb⟩; refine ⟨_, rfl, ?_⟩; replace BK306 := dK BK306 hb; replace BK307 := dK BK307 hb; replace HB := zb.mk (zm sB hb); try clear hb))
  go_ret
  exact ⟨by first | rfl | (simp [zn, zo] <;> rfl) | (simp [*, zn, zo] <;> rfl), sB⟩
 rw [if_neg c4] at H
 have c4b0 : decide (t308 < 0) = false := decide_eq_false c4
 clear c4
 replace H := Option.bind_eq_some_iff.mp H
 obtain ⟨⟨t309, t312, t313, t314, t315, t316⟩, A100, H⟩ := H
 replace H : ((laws_toWater.f k a1_0 a1_1 a1_2 a1_3).bind fun bt317 => ((spec_WayTo.f k t309 t312 t313 t314 t315 t316 bt317.1 bt317.2.1 bt317.2.2.1 bt317.2.2.2).bind fun bt321 => ((laws_toPuzzle.f k l0_0 a0_1 a0_2 a0_3 a0_4 a0_5).bind fun bt325 => ((laws_toWater.f k a1_0 a1_1 a1_2 a1_3).bind fun bt334 => ((impl_WayTo.f k bt325.1 bt325.2.1 bt325.2.2.1 bt325.2.2.2.1 bt325.2.2.2.2.1 bt325.2.2.2.2.2 bt334.1 bt334.2.1 bt334.2.2.1 bt334.2.2.2).bind fun bt338 => ((laws_eqMoveS.f k bt338.1 bt321.1).bind fun t342 => (if t342 = true then (laws_FnExactWayTo.j0 k bt321.1 bt321.2 bt338.1 bt338.2 (bt338.2 != bt321.2) l0_0 a0_1 a0_2 a0_3 a0_4 a0_5 a1_0 a1_1 a1_2 a1_3 bt325.1 bt325.2.1 bt325.2.2.1 bt325.2.2.2.1 bt325.2.2.2.2.1 bt325.2.2.2.2.2) else (laws_FnExactWayTo.j0 k bt321.1 bt321.2 bt338.1 bt338.2 true l0_0 a0_1 a0_2 a0_3 a0_4 a0_5 a1_0 a1_1 a1_2 a1_3 bt325.1 bt325.2.1 bt325.2.2.1 bt325.2.2.2.1 bt325.2.2.2.2.1 bt325.2.2.2.2.2)))))))) = some r := H
 have A10 := zb.mk A100
 clear A100
 replace H := Option.bind_eq_some_iff.mp H
 obtain ⟨⟨t317, t318, t319, t320⟩, A110, H⟩ := H
 replace H : ((spec_WayTo.f k t309 t312 t313 t314 t315 t316 t317 t318 t319 t320).bind fun bt321 => ((laws_toPuzzle.f k l0_0 a0_1 a0_2 a0_3 a0_4 a0_5).bind fun bt325 => ((laws_toWater.f k a1_0 a1_1 a1_2 a1_3).bind fun bt334 => ((impl_WayTo.f k bt325.1 bt325.2.1 bt325.2.2.1 bt325.2.2.2.1 bt325.2.2.2.2.1 bt325.2.2.2.2.2 bt334.1 bt334.2.1 bt334.2.2.1 bt334.2.2.2).bind fun bt338 => ((laws_eqMoveS.f k bt338.1 bt321.1).bind fun t342 => (if t342 = true then (laws_FnExactWayTo.j0 k bt321.1 bt321.2 bt338.1 bt338.2 (bt338.2 != bt321.2) l0_0 a0_1 a0_2 a0_3 a0_4 a0_5 a1_0 a1_1 a1_2 a1_3 bt325.1 bt325.2.1 bt325.2.2.1 bt325.2.2.2.1 bt325.2.2.2.2.1 bt325.2.2.2.2.2) else (laws_FnExactWayTo.j0 k bt321.1 bt321.2 bt338.1 bt338.2 true l0_0 a0_1 a0_2 a0_3 a0_4 a0_5 a1_0 a1_1 a1_2 a1_3 bt325.1 bt325.2.1 bt325.2.2.1 bt325.2.2.2.1 bt325.2.2.2.2.1 bt325.2.2.2.2.2))))))) = some r := H
 have A11 := zb.mk A110
 clear A110
 replace H := Option.bind_eq_some_iff.mp H
 obtain ⟨⟨t321, t324⟩, A120, H⟩ := H
 replace H : ((laws_toPuzzle.f k l0_0 a0_1 a0_2 a0_3 a0_4 a0_5).bind fun bt325 => ((laws_toWater.f k a1_0 a1_1 a1_2 a1_3).bind fun bt334 => ((impl_WayTo.f k bt325.1 bt325.2.1 bt325.2.2.1 bt325.2.2.2.1 bt325.2.2.2.2.1 bt325.2.2.2.2.2 bt334.1 bt334.2.1 bt334.2.2.1 bt334.2.2.2).bind fun bt338 => ((laws_eqMoveS.f k bt338.1 t321).bind fun t342 => (if t342 = true then (laws_FnExactWayTo.j0 k t321 t324 bt338.1 bt338.2 (bt338.2 != t324) l0_0 a0_1 a0_2 a0_3 a0_4 a0_5 a1_0 a1_1 a1_2 a1_3 bt325.1 bt325.2.1 bt325.2.2.1 bt325.2.2.2.1 bt325.2.2.2.2.1 bt325.2.2.2.2.2) else (laws_FnExactWayTo.j0 k t321 t324 bt338.1 bt338.2 true l0_0 a0_1 a0_2 a0_3 a0_4 a0_5 a1_0 a1_1 a1_2 a1_3 bt325.1 bt325.2.1 bt325.2.2.1 bt325.2.2.2.1 bt325.2.2.2.2.1 bt325.2.2.2.2.2)))))) = some r := H
 have A12 := zb.mk A120
 clear A120
 replace H := Option.bind_eq_some_iff.mp H
 obtain ⟨⟨t325, t328, t329, t330, t331, t332⟩, A130, H⟩ := H
 replace H : ((laws_toWater.f k a1_0 a1_1 a1_2 a1_3).bind fun bt334 => ((impl_WayTo.f k t325 t328 t329 t330 t331 t332 bt334.1 bt334.2.1 bt334.2.2.1 bt334.2.2.2).bind fun bt338 => ((laws_eqMoveS.f k bt338.1 t321).bind fun t342 => (if t342 = true then (laws_FnExactWayTo.j0 k t321 t324 bt338.1 bt338.2 (bt338.2 != t324) l0_0 a0_1 a0_2 a0_3 a0_4 a0_5 a1_0 a1_1 a1_2 a1_3 t325 t328 t329 t330 t331 t332) else (laws_FnExactWayTo.j0 k t321 t324 bt338.1 bt338.2 true l0_0 a0_1 a0_2 a0_3 a0_4 a0_5 a1_0 a1_1 a1_2 a1_3 t325 t328 t329 t330 t331 t332))))) = some r := H
 have A13 := zb.mk A130
 clear A130
 replace H := Option.bind_eq_some_iff.mp H
 obtain ⟨⟨t334, t335, t336, t337⟩, A140, H⟩ := H
 replace H : ((impl_WayTo.f k t325 t328 t329 t330 t331 t332 t334 t335 t336 t337).bind fun bt338 => ((laws_eqMoveS.f k bt338.1 t321).bind fun t342 => (if t342 = true then (laws_FnExactWayTo.j0 k t321 t324 bt338.1 bt338.2 (bt338.2 != t324) l0_0 a0_1 a0_2 a0_3 a0_4 a0_5 a1_0 a1_1 a1_2 a1_3 t325 t328 t329 t330 t331 t332) else (laws_FnExactWayTo.j0 k t321 t324 bt338.1 bt338.2 true l0_0 a0_1 a0_2 a0_3 a0_4 a0_5 a1_0 a1_1 a1_2 a1_3 t325 t328 t329 t330 t331 t332)))) = some r := H
 have A14 := zb.mk A140
 clear A140
 replace H := Option.bind_eq_some_iff.mp H
 obtain ⟨⟨t338, t341⟩, A150, H⟩ := H
 replace H : ((laws_eqMoveS.f k t338 t321).bind fun t342 => (if t342 = true then (laws_FnExactWayTo.j0 k t321 t324 t338 t341 (t341 != t324) l0_0 a0_1 a0_2 a0_3 a0_4 a0_5 a1_0 a1_1 a1_2 a1_3 t325 t328 t329 t330 t331 t332) else (laws_FnExactWayTo.j0 k t321 t324 t338 t341 true l0_0 a0_1 a0_2 a0_3 a0_4 a0_5 a1_0 a1_1 a1_2 a1_3 t325 t328 t329 t330 t331 t332))) = some r := H
 have A15 := zb.mk A150
 clear A150
 have HC16 := zb.mk H
 clear H
 go_enter Try.func7, Try.ntmps7
 try go_wp2_with (first | ((with_reducible refine zy (N := 2) rfl ?_); refine bx (N := 2) #[.slice A0_0 l0_0.length c0_0, .int .i16 a0_1, .int .i16 a0_2, .int .i16 a0_3, .int .i16 a0_4, .bool a0_5] 53 rfl ?_; intro gb306 hg w17 hbox hb; have BK306 := zb.mk hbox; have GW306 := gB hg; have GE306 := GW306; replace HB := zb.mk (zm sB hb); clear hb hbox hg) | ((with_reducible refine zy (N := 3) rfl ?_); refine bx (N := 3) #[.int .i16 a1_0, .int .i16 a1_1, .int .i16 a1_2, .int .i16 a1_3] 26 rfl ?_; intro gb307 hg w18 hbox hb; have BK307 := zb.mk hbox; have GW307 := gB hg; have GE307 := GW307; have NB306_307 := nK hg BK306; have NB307_306 := zb.mk NB306_307.out.symm; replace BK306 := dK BK306 hb; replace HB := zb.mk (zm sB hb); clear hb hbox hg; have hnb19 := NB306_307.out; have hnc19 := NB307_306.out; obtain ⟨hcz20_0, hcz20_1, hcz20_2, hcz20_3, hcz20_4, hcz20_5⟩ := xc6 BK306; obtain ⟨hfz20_0, hfz20_1, hfz20_2, hfz20_3, hfz20_4, hfz20_5⟩ := xf6 BK306) | ((with_reducible refine zt (f := 32) rfl ?_); refine gz (some 18) Try.func32 #[.agg #[.slice A0_0 l0_0.length c0_0, .int .i16 a0_1, .int .i16 a0_2, .int .i16 a0_3, .int .i16 a0_4, .bool a0_5], .int .i64 1048576] rfl rfl ?_; (with_reducible refine (laws_szPuzzle.calls _ _ l0_0 a0_1 a0_2 a0_3 a0_4 a0_5 1048576 t308 _ ?side1 ?side2 A3.out).mono ?_); (case side1 => exact uC HR0_0 HB); (case side2 => exact HC0_0.out); rintro e w21 ⟨rfl, hb⟩; refine ⟨_, rfl, ?_⟩; replace BK306 := dK BK306 hb; replace BK307 := dK BK307 hb; replace HB := zb.mk (zm sB hb); try clear hb))
 have n0_ := zb.mk (zh BK306.out)
 have n1_ := zb.mk (zh BK307.out)
 have n2_ := zb.mk (zi HB.out)
 clear BK306
 clear BK307
 clear HB
 have BK306 := n0_
 have BK307 := n1_
 have HB := n2_
 clear n0_ n1_ n2_
 refine zcc (n := 10) (S := fun w' => w'.cell? ⟨gb306, 0, none⟩ = some (.slice A0_0 l0_0.length c0_0) ∧ w'.cell? ⟨gb306, 1, none⟩ = some (.int .i16 a0_1) ∧ w'.cell? ⟨gb306, 2, none⟩ = some (.int .i16 a0_2) ∧ w'.cell? ⟨gb306, 3, none⟩ = some (.int .i16 a0_3) ∧ w'.cell? ⟨gb306, 4, none⟩ = some (.int .i16 a0_4) ∧ w'.cell? ⟨gb306, 5, none⟩ = some (.bool a0_5) ∧ w'.cell? ⟨gb307, 0, none⟩ = some (.int .i16 a1_0) ∧ w'.cell? ⟨gb307, 1, none⟩ = some (.int .i16 a1_1) ∧ w'.cell? ⟨gb307, 2, none⟩ = some (.int .i16 a1_2) ∧ w'.cell? ⟨gb307, 3, none⟩ = some (.int .i16 a1_3)) (ds := []) #[false, false, false, false, false, false, false, false, false, false] (by kernel_rfl) rfl rfl ⟨(za BK306.out 0).trans rfl, (za BK306.out 1).trans rfl, (za BK306.out 2).trans rfl, (za BK306.out 3).trans rfl, (za BK306.out 4).trans rfl, (za BK306.out 5).trans rfl, (za BK307.out 0).trans rfl, (za BK307.out 1).trans rfl, (za BK307.out 2).trans rfl, (za BK307.out 3).trans rfl⟩ (fun hHeld => ?_); refine zab laws_FnExactWayTo.tab5 laws_FnExactWayTo.bits5 (fun HT_ HW_ => ?_)
 generalize w21.drew = w22 at BK306 BK307 HB hHeld ⊢
 refine take_ (i := 0) (N := some 22) (v := ?_) (a' := ?_) #[true, false, false, false, false, false, false, false, false, false] rfl rfl (zqa HT_.out HW_.out (by kernel_rfl)) (fun _ _ _ h => h) (Or.inl ⟨by rfl, ?_⟩) hHeld ?_ ?_
 rotate_left
 ·rintro w' ⟨s0, s1, s2, s3, s4, s5, s6, s7, s8, s9⟩
  go_simp
  with_reducible rfl
 rotate_left
 ·simp only [Act.put, List.setIfInBounds_toArray, List.set_cons_zero, List.set_cons_succ, zaa, zz]
  rfl
 refine take_ (i := 2) (N := some 24) (v := ?_) (a' := ?_) #[true, false, true, false, false, false, false, false, false, false] rfl rfl (zqa HT_.out HW_.out (by kernel_rfl)) (fun _ _ _ h => h) (Or.inl ⟨by rfl, ?_⟩) hHeld ?_ ?_
 rotate_left
 ·rintro w' ⟨s0, s1, s2, s3, s4, s5, s6, s7, s8, s9⟩
  go_simp
  with_reducible rfl
 rotate_left
 ·simp only [Act.put, List.setIfInBounds_toArray, List.set_cons_zero, List.set_cons_succ, zaa, zz]
  rfl
 refine one_ (i := 1) (N := some 23) #[true, true, true, false, false, false, false, false, false, false] rfl rfl (zbb HT_.out (by kernel_rfl)) (by decide) (fun K hK => ?_)
 refine zkc Try.func34 (by kernel_rfl) rfl #[.agg #[.slice A0_0 l0_0.length c0_0, .int .i16 a0_1, .int .i16 a0_2, .int .i16 a0_3, .int .i16 a0_4, .bool a0_5]] (by rfl) rfl rfl (by (try simp only [List.map_toArray, List.map_cons, List.map_nil]); first | done | rfl | (simp only [List.length_drop, List.length_take]; rfl)) ?_
 with_reducible refine (laws_toPuzzle.calls k _ _ l0_0 a0_1 a0_2 a0_3 a0_4 a0_5 t309 t312 t313 t314 t315 t316 _ ?side1 ?side2 A10.out).mono ?_
 (case side1 => exact uC HR0_0 HB)
 (case side2 => exact HC0_0.out)
 rintro e w23 ⟨v310, rfl, ho0, hb⟩
 refine ⟨_, rfl, ?_⟩
 have n0_ := zb.mk (Kd.R_lower ho0 (zq sB))
 have n1_ := dK BK306 hb
 have n2_ := dK BK307 hb
 have n3_ := zb.mk (zm sB hb)
 clear BK306
 clear BK307
 clear HB
 have HO311 := n0_
 have BK306 := n1_
 have BK307 := n2_
 have HB := n3_
 clear n0_ n1_ n2_ n3_
 (try clear hb)
 (try clear hb2)
 (try clear hk)
 (try clear hi)
 (try clear ho0)
 refine hK.out _ _ ⟨(za BK306.out 0).trans rfl, (za BK306.out 1).trans rfl, (za BK306.out 2).trans rfl, (za BK306.out 3).trans rfl, (za BK306.out 4).trans rfl, (za BK306.out 5).trans rfl, (za BK307.out 0).trans rfl, (za BK307.out 1).trans rfl, (za BK307.out 2).trans rfl, (za BK307.out 3).trans rfl⟩ (fun hHeld => ?_)
 clear hK K
 refine zra (a' := ?_) ?_ ?_
 rotate_left
 ·show Act.put _ (some 23) _ = _
  simp only [Act.put, List.setIfInBounds_toArray, List.set_cons_zero, List.set_cons_succ, zaa, zz]
  rfl
 refine one_ (i := 3) (N := some 25) #[true, true, true, true, false, false, false, false, false, false] rfl rfl (zbb HT_.out (by kernel_rfl)) (by decide) (fun K hK => ?_)
 refine zkc Try.func41 (by kernel_rfl) rfl #[.agg #[.int .i16 a1_0, .int .i16 a1_1, .int .i16 a1_2, .int .i16 a1_3]] (by rfl) rfl rfl (by (try simp only [List.map_toArray, List.map_cons, List.map_nil]); first | done | rfl | (simp only [List.length_drop, List.length_take]; rfl)) ?_
 with_reducible refine (laws_toWater.calls k a1_0 a1_1 a1_2 a1_3 t317 t318 t319 t320 _ A11.out).mono ?_
 rintro e w24 ⟨rfl, hb⟩
 refine ⟨_, rfl, ?_⟩
 have n0_ := dR HO311 hb
 have n1_ := dK BK306 hb
 have n2_ := dK BK307 hb
 have n3_ := zb.mk (zm sB hb)
 clear HO311
 clear BK306
 clear BK307
 clear HB
 have HO311 := n0_
 have BK306 := n1_
 have BK307 := n2_
 have HB := n3_
 clear n0_ n1_ n2_ n3_
 (try clear hb)
 (try clear hb2)
 (try clear hk)
 (try clear hi)
 obtain ⟨Ao25, co25, eo25⟩ := Kd.R_slice HO311.out
 (first | subst eo25 | (injection eo25 with f1_ f2_ f3_; have f4_ := f1_.symm; have f5_ := f3_.symm; clear f1_ f2_ f3_; subst f4_; subst f5_))
 refine hK.out _ _ ⟨(za BK306.out 0).trans rfl, (za BK306.out 1).trans rfl, (za BK306.out 2).trans rfl, (za BK306.out 3).trans rfl, (za BK306.out 4).trans rfl, (za BK306.out 5).trans rfl, (za BK307.out 0).trans rfl, (za BK307.out 1).trans rfl, (za BK307.out 2).trans rfl, (za BK307.out 3).trans rfl⟩ (fun hHeld => ?_)
 clear hK K
 refine zra (a' := ?_) ?_ ?_
 rotate_left
 ·show Act.put _ (some 25) _ = _
  simp only [Act.put, List.setIfInBounds_toArray, List.set_cons_zero, List.set_cons_succ, zaa, zz]
  rfl
 refine one_ (i := 4) (N := some 26) #[true, true, true, true, true, false, false, false, false, false] rfl rfl (zbb HT_.out (by kernel_rfl)) (by decide) (fun K hK => ?_)
 refine zkc Try.func20 (by kernel_rfl) rfl #[.agg #[.slice Ao25 t309.length co25, .int .i16 t312, .int .i16 t313, .int .i16 t314, .int .i16 t315, .bool t316], .agg #[.int .i16 t317, .int .i16 t318, .int .i16 t319, .int .i16 t320]] (by rfl) rfl rfl (by (try simp only [List.map_toArray, List.map_cons, List.map_nil]); first | done | rfl | (simp only [List.length_drop, List.length_take]; rfl)) ?_
 with_reducible refine (spec_WayTo.calls k _ _ t309 t312 t313 t314 t315 t316 t317 t318 t319 t320 t321 t324 _ ?side1 ?side2 A12.out).mono ?_
 (case side1 => exact uQ HO311)
 (case side2 => exact (Kd.R_reads' HO311.out).2.1)
 rintro e w26 ⟨v322, rfl, ho0, hb⟩
 refine ⟨_, rfl, ?_⟩
 have n0_ := dR HO311 hb
 have n1_ := zb.mk (Kd.R_lower ho0 (zq sB))
 have n2_ := dK BK306 hb
 have n3_ := dK BK307 hb
 have n4_ := zb.mk (zm sB hb)
 clear HO311
 clear BK306
 clear BK307
 clear HB
 have HO311 := n0_
 have HO323 := n1_
 have BK306 := n2_
 have BK307 := n3_
 have HB := n4_
 clear n0_ n1_ n2_ n3_ n4_
 (try clear hb)
 (try clear hb2)
 (try clear hk)
 (try clear hi)
 (try clear ho0)
 refine hK.out _ _ ⟨(za BK306.out 0).trans rfl, (za BK306.out 1).trans rfl, (za BK306.out 2).trans rfl, (za BK306.out 3).trans rfl, (za BK306.out 4).trans rfl, (za BK306.out 5).trans rfl, (za BK307.out 0).trans rfl, (za BK307.out 1).trans rfl, (za BK307.out 2).trans rfl, (za BK307.out 3).trans rfl⟩ (fun hHeld => ?_)
 clear hK K
 refine zra (a' := ?_) ?_ ?_
 rotate_left
 ·show Act.put _ (some 26) _ = _
  simp only [Act.put, List.setIfInBounds_toArray, List.set_cons_zero, List.set_cons_succ, zaa, zz]
  rfl
 refine zfa (i := 5) (N := some 21) (v := ?_) (a' := ?_) #[true, true, true, true, true, true, false, false, false, false] rfl rfl (zba HT_.out (by kernel_rfl)) (fun _ _ _ h => h) (Or.inl ⟨by rfl, ?_⟩) ?_ ?_
 rotate_left
 ·intro w'
  go_simp
  with_reducible rfl
 rotate_left
 ·simp only [Act.put, List.setIfInBounds_toArray, List.set_cons_zero, List.set_cons_succ, zaa, zz]
  rfl
 refine zfa (i := 6) (N := some 27) (v := ?_) (a' := ?_) #[true, true, true, true, true, true, true, false, false, false] rfl rfl (zba HT_.out (by kernel_rfl)) (fun _ _ _ h => h) (Or.inl ⟨by rfl, ?_⟩) ?_ ?_
 rotate_left
 ·intro w'
  go_simp
  with_reducible rfl
 rotate_left
 ·simp only [Act.put, List.setIfInBounds_toArray, List.set_cons_zero, List.set_cons_succ, zaa, zz]
  rfl
 refine zfa (i := 7) (N := some 28) (v := ?_) (a' := ?_) #[true, true, true, true, true, true, true, true, false, false] rfl rfl (zba HT_.out (by kernel_rfl)) (fun _ _ _ h => h) (Or.inl ⟨by rfl, ?_⟩) ?_ ?_
 rotate_left
 ·intro w'
  go_simp
  with_reducible rfl
 rotate_left
 ·simp only [Act.put, List.setIfInBounds_toArray, List.set_cons_zero, List.set_cons_succ, zaa, zz]
  rfl
 refine zfa (i := 8) (N := some 6) (v := ?_) (a' := ?_) #[true, true, true, true, true, true, true, true, true, false] rfl rfl (zba HT_.out (by kernel_rfl)) (fun _ _ _ h => h) (Or.inl ⟨by rfl, ?_⟩) ?_ ?_
 rotate_left
 ·intro w'
  go_simp
  with_reducible rfl
 rotate_left
 ·simp only [Act.put, List.setIfInBounds_toArray, List.set_cons_zero, List.set_cons_succ, zaa, zz]
  rfl
 refine zfa (i := 9) (N := some 7) (v := ?_) (a' := ?_) #[true, true, true, true, true, true, true, true, true, true] rfl rfl (zba HT_.out (by kernel_rfl)) (fun _ _ _ h => h) (Or.inl ⟨by rfl, ?_⟩) ?_ ?_
 rotate_left
 ·intro w'
  go_simp
  with_reducible rfl
 rotate_left
 ·simp only [Act.put, List.setIfInBounds_toArray, List.set_cons_zero, List.set_cons_succ, zaa, zz]
  rfl
 refine zxc (zwb HT_.out (by kernel_rfl)) ?_
 obtain ⟨hcz27_0, hcz27_1, hcz27_2, hcz27_3, hcz27_4, hcz27_5⟩ := xc6 BK306
 obtain ⟨hfz27_0, hfz27_1, hfz27_2, hfz27_3, hfz27_4, hfz27_5⟩ := xf6 BK306
 try go_wp2_with (first | ((with_reducible refine zt (f := 34) rfl ?_); refine gz (some 30) Try.func34 #[.agg #[.slice A0_0 l0_0.length c0_0, .int .i16 a0_1, .int .i16 a0_2, .int .i16 a0_3, .int .i16 a0_4, .bool a0_5]] rfl rfl ?_; (with_reducible refine (laws_toPuzzle.calls k _ _ l0_0 a0_1 a0_2 a0_3 a0_4 a0_5 t325 t328 t329 t330 t331 t332 _ ?side1 ?side2 A13.out).mono ?_); (case side1 => exact uC HR0_0 HB); (case side2 => exact HC0_0.out); rintro e w28 ⟨v326, rfl, ho0, hb⟩; refine ⟨_, rfl, ?_⟩; have HO327 := zb.mk (Kd.R_lower (Kd.R_new' ho0 (Kd.R_lt (uR HO311))) (zq sB)); replace HO311 := zb.mk (Kd.R_elder' (uR HO311) (Kd.R_base ho0) hb); replace HO323 := dR HO323 hb; replace BK306 := dK BK306 hb; replace BK307 := dK BK307 hb; replace HB := zb.mk (zm sB hb); try clear hb) | ((with_reducible refine zy (N := 8) rfl ?_); refine bx (N := 8) #[.slice none 0 0, .int .i16 0, .int .i16 0, .int .i16 0, .int .i16 0, .bool false] 29 rfl ?_; intro gb333 hg w29 hbox hb; have BK333 := zb.mk hbox; have GW333 := gB hg; have GE333 := GW333; have NB306_333 := nK hg BK306; have NB333_306 := zb.mk NB306_333.out.symm; have NB307_333 := nK hg BK307; have NB333_307 := zb.mk NB307_333.out.symm; replace HO311 := dR HO311 hb; replace HO323 := dR HO323 hb; replace HO327 := dR HO327 hb; replace BK306 := dK BK306 hb; replace BK307 := dK BK307 hb; replace HB := zb.mk (zm sB hb); clear hb hbox hg; obtain ⟨Ao30, co30, eo30⟩ := Kd.R_slice HO327.out; subst eo30; have hnb31 := NB333_306.out; have hnc31 := NB306_333.out; have hnb32 := NB333_307.out; have hnc32 := NB307_333.out; obtain ⟨hcz33_0, hcz33_1, hcz33_2, hcz33_3, hcz33_4, hcz33_5⟩ := xc6 BK333; obtain ⟨hfz33_0, hfz33_1, hfz33_2, hfz33_3, hfz33_4, hfz33_5⟩ := xf6 BK333))
 have n0_ : zb (Kd.R (Kd.int .i16) 25 ((((((w29.setCell ⟨gb333, 0, none⟩ (.slice Ao30 t325.length co30)).setCell ⟨gb333, 1, none⟩ (.int .i16 t328)).setCell ⟨gb333, 2, none⟩ (.int .i16 t329)).setCell ⟨gb333, 3, none⟩ (.int .i16 t330)).setCell ⟨gb333, 4, none⟩ (.int .i16 t331)).setCell ⟨gb333, 5, none⟩ (.bool t332)) w.heap.size (fun k_ => some k_ ≠ (.slice Ao30 t325.length co30 : Value).ownBlock) (.slice Ao25 t309.length co25) t309) := ⟨by (with_reducible repeat (first | apply Kd.R_alloc | apply Kd.R_drewN | apply Kd.R_drew)); exact Kd.R_mono (Kd.R_far (p := ⟨gb333, 5, none⟩) (Kd.R_far (p := ⟨gb333, 4, none⟩) (Kd.R_far (p := ⟨gb333, 3, none⟩) (Kd.R_far (p := ⟨gb333, 2, none⟩) (Kd.R_far (p := ⟨gb333, 1, none⟩) (Kd.R_far (p := ⟨gb333, 0, none⟩) (Kd.R_types HO311.out BK333.out (by decide)) (fun _ hk => hk.2) (.slice Ao30 t325.length co30)) (fun _ hk => hk.2) (.int .i16 t328)) (fun _ hk => hk.2) (.int .i16 t329)) (fun _ hk => hk.2) (.int .i16 t330)) (fun _ hk => hk.2) (.int .i16 t331)) (fun _ hk => hk.2) (.bool t332)) (fun _ hk => hk.1.2)⟩
 have n1_ : zb (Kd.R k80 80 ((((((w29.setCell ⟨gb333, 0, none⟩ (.slice Ao30 t325.length co30)).setCell ⟨gb333, 1, none⟩ (.int .i16 t328)).setCell ⟨gb333, 2, none⟩ (.int .i16 t329)).setCell ⟨gb333, 3, none⟩ (.int .i16 t330)).setCell ⟨gb333, 4, none⟩ (.int .i16 t331)).setCell ⟨gb333, 5, none⟩ (.bool t332)) w.heap.size (fun _ => True) v322 t321) := ⟨by (with_reducible repeat (first | apply Kd.R_alloc | apply Kd.R_drewN | apply Kd.R_drew)); exact Kd.R_mono (Kd.R_far (p := ⟨gb333, 5, none⟩) (Kd.R_far (p := ⟨gb333, 4, none⟩) (Kd.R_far (p := ⟨gb333, 3, none⟩) (Kd.R_far (p := ⟨gb333, 2, none⟩) (Kd.R_far (p := ⟨gb333, 1, none⟩) (Kd.R_far (p := ⟨gb333, 0, none⟩) (Kd.R_types HO323.out BK333.out (by decide)) (fun _ hk => hk.2) (.slice Ao30 t325.length co30)) (fun _ hk => hk.2) (.int .i16 t328)) (fun _ hk => hk.2) (.int .i16 t329)) (fun _ hk => hk.2) (.int .i16 t330)) (fun _ hk => hk.2) (.int .i16 t331)) (fun _ hk => hk.2) (.bool t332)) (fun _ hk => trivial)⟩
 have n2_ : zb (Kd.R (Kd.int .i16) 25 ((((((w29.setCell ⟨gb333, 0, none⟩ (.slice Ao30 t325.length co30)).setCell ⟨gb333, 1, none⟩ (.int .i16 t328)).setCell ⟨gb333, 2, none⟩ (.int .i16 t329)).setCell ⟨gb333, 3, none⟩ (.int .i16 t330)).setCell ⟨gb333, 4, none⟩ (.int .i16 t331)).setCell ⟨gb333, 5, none⟩ (.bool t332)) w.heap.size (fun k_ => some k_ ≠ (.slice Ao25 t309.length co25 : Value).ownBlock) (.slice Ao30 t325.length co30) t325) := ⟨by (with_reducible repeat (first | apply Kd.R_alloc | apply Kd.R_drewN | apply Kd.R_drew)); exact Kd.R_mono (Kd.R_far (p := ⟨gb333, 5, none⟩) (Kd.R_far (p := ⟨gb333, 4, none⟩) (Kd.R_far (p := ⟨gb333, 3, none⟩) (Kd.R_far (p := ⟨gb333, 2, none⟩) (Kd.R_far (p := ⟨gb333, 1, none⟩) (Kd.R_far (p := ⟨gb333, 0, none⟩) (Kd.R_types HO327.out BK333.out (by decide)) (fun _ hk => hk.2) (.slice Ao30 t325.length co30)) (fun _ hk => hk.2) (.int .i16 t328)) (fun _ hk => hk.2) (.int .i16 t329)) (fun _ hk => hk.2) (.int .i16 t330)) (fun _ hk => hk.2) (.int .i16 t331)) (fun _ hk => hk.2) (.bool t332)) (fun _ hk => hk.1.2)⟩
 have n3_ : zb (((((((w29.setCell ⟨gb333, 0, none⟩ (.slice Ao30 t325.length co30)).setCell ⟨gb333, 1, none⟩ (.int .i16 t328)).setCell ⟨gb333, 2, none⟩ (.int .i16 t329)).setCell ⟨gb333, 3, none⟩ (.int .i16 t330)).setCell ⟨gb333, 4, none⟩ (.int .i16 t331)).setCell ⟨gb333, 5, none⟩ (.bool t332)).heap[gb306]? = some (.cells #[.slice A0_0 l0_0.length c0_0, .int .i16 a0_1, .int .i16 a0_2, .int .i16 a0_3, .int .i16 a0_4, .bool a0_5] 53 (0, 0))) := ⟨by (with_reducible repeat (first | refine zg ?_ _ | refine zh ?_ | refine ze ?_ _)); refine zu ?_ NB306_333.out _; (with_reducible repeat (first | refine zg ?_ _ | refine zh ?_ | refine ze ?_ _)); refine zu ?_ NB306_333.out _; (with_reducible repeat (first | refine zg ?_ _ | refine zh ?_ | refine ze ?_ _)); refine zu ?_ NB306_333.out _; (with_reducible repeat (first | refine zg ?_ _ | refine zh ?_ | refine ze ?_ _)); refine zu ?_ NB306_333.out _; (with_reducible repeat (first | refine zg ?_ _ | refine zh ?_ | refine ze ?_ _)); refine zu ?_ NB306_333.out _; (with_reducible repeat (first | refine zg ?_ _ | refine zh ?_ | refine ze ?_ _)); refine zu ?_ NB306_333.out _; (with_reducible repeat (first | refine zg ?_ _ | refine zh ?_ | refine ze ?_ _)); exact BK306.out⟩
 have n4_ : zb (((((((w29.setCell ⟨gb333, 0, none⟩ (.slice Ao30 t325.length co30)).setCell ⟨gb333, 1, none⟩ (.int .i16 t328)).setCell ⟨gb333, 2, none⟩ (.int .i16 t329)).setCell ⟨gb333, 3, none⟩ (.int .i16 t330)).setCell ⟨gb333, 4, none⟩ (.int .i16 t331)).setCell ⟨gb333, 5, none⟩ (.bool t332)).heap[gb307]? = some (.cells #[.int .i16 a1_0, .int .i16 a1_1, .int .i16 a1_2, .int .i16 a1_3] 26 (0, 0))) := ⟨by (with_reducible repeat (first | refine zg ?_ _ | refine zh ?_ | refine ze ?_ _)); refine zu ?_ NB307_333.out _; (with_reducible repeat (first | refine zg ?_ _ | refine zh ?_ | refine ze ?_ _)); refine zu ?_ NB307_333.out _; (with_reducible repeat (first | refine zg ?_ _ | refine zh ?_ | refine ze ?_ _)); refine zu ?_ NB307_333.out _; (with_reducible repeat (first | refine zg ?_ _ | refine zh ?_ | refine ze ?_ _)); refine zu ?_ NB307_333.out _; (with_reducible repeat (first | refine zg ?_ _ | refine zh ?_ | refine ze ?_ _)); refine zu ?_ NB307_333.out _; (with_reducible repeat (first | refine zg ?_ _ | refine zh ?_ | refine ze ?_ _)); refine zu ?_ NB307_333.out _; (with_reducible repeat (first | refine zg ?_ _ | refine zh ?_ | refine ze ?_ _)); exact BK307.out⟩
 have n5_ : zb (((((((w29.setCell ⟨gb333, 0, none⟩ (.slice Ao30 t325.length co30)).setCell ⟨gb333, 1, none⟩ (.int .i16 t328)).setCell ⟨gb333, 2, none⟩ (.int .i16 t329)).setCell ⟨gb333, 3, none⟩ (.int .i16 t330)).setCell ⟨gb333, 4, none⟩ (.int .i16 t331)).setCell ⟨gb333, 5, none⟩ (.bool t332)).heap[gb333]? = some (.cells #[.slice Ao30 t325.length co30, .int .i16 t328, .int .i16 t329, .int .i16 t330, .int .i16 t331, .bool t332] 29 (0, 0))) := ⟨by (with_reducible repeat (first | refine zg ?_ _ | refine zh ?_ | refine ze ?_ _)); refine zda (cs := #[.slice Ao30 t325.length co30, .int .i16 t328, .int .i16 t329, .int .i16 t330, .int .i16 t331, .bool false]) ?_ 5 _ rfl; (with_reducible repeat (first | refine zg ?_ _ | refine zh ?_ | refine ze ?_ _)); refine zda (cs := #[.slice Ao30 t325.length co30, .int .i16 t328, .int .i16 t329, .int .i16 t330, .int .i16 0, .bool false]) ?_ 4 _ rfl; (with_reducible repeat (first | refine zg ?_ _ | refine zh ?_ | refine ze ?_ _)); refine zda (cs := #[.slice Ao30 t325.length co30, .int .i16 t328, .int .i16 t329, .int .i16 0, .int .i16 0, .bool false]) ?_ 3 _ rfl; (with_reducible repeat (first | refine zg ?_ _ | refine zh ?_ | refine ze ?_ _)); refine zda (cs := #[.slice Ao30 t325.length co30, .int .i16 t328, .int .i16 0, .int .i16 0, .int .i16 0, .bool false]) ?_ 2 _ rfl; (with_reducible repeat (first | refine zg ?_ _ | refine zh ?_ | refine ze ?_ _)); refine zda (cs := #[.slice Ao30 t325.length co30, .int .i16 0, .int .i16 0, .int .i16 0, .int .i16 0, .bool false]) ?_ 1 _ rfl; (with_reducible repeat (first | refine zg ?_ _ | refine zh ?_ | refine ze ?_ _)); refine zda (cs := #[.slice none 0 0, .int .i16 0, .int .i16 0, .int .i16 0, .int .i16 0, .bool false]) ?_ 0 _ rfl; (with_reducible repeat (first | refine zg ?_ _ | refine zh ?_ | refine ze ?_ _)); exact BK333.out⟩
 have n6_ : zb (Below w.heap.size w ((((((w29.setCell ⟨gb333, 0, none⟩ (.slice Ao30 t325.length co30)).setCell ⟨gb333, 1, none⟩ (.int .i16 t328)).setCell ⟨gb333, 2, none⟩ (.int .i16 t329)).setCell ⟨gb333, 3, none⟩ (.int .i16 t330)).setCell ⟨gb333, 4, none⟩ (.int .i16 t331)).setCell ⟨gb333, 5, none⟩ (.bool t332))) := ⟨sB⟩
 (try clear HO311)
 (try clear HO323)
 (try clear HO327)
 (try clear BK306)
 (try clear BK307)
 (try clear BK333)
 (try clear HB)
 generalize ((((((w29.setCell ⟨gb333, 0, none⟩ (.slice Ao30 t325.length co30)).setCell ⟨gb333, 1, none⟩ (.int .i16 t328)).setCell ⟨gb333, 2, none⟩ (.int .i16 t329)).setCell ⟨gb333, 3, none⟩ (.int .i16 t330)).setCell ⟨gb333, 4, none⟩ (.int .i16 t331)).setCell ⟨gb333, 5, none⟩ (.bool t332)) = w34 at n0_ n1_ n2_ n3_ n4_ n5_ n6_ ⊢
 have HO311 := n0_
 have HO323 := n1_
 have HO327 := n2_
 have BK306 := n3_
 have BK307 := n4_
 have BK333 := n5_
 have HB := n6_
 clear n0_ n1_ n2_ n3_ n4_ n5_ n6_
 have n0_ := zb.mk (Kd.R_drew HO311.out)
 have n1_ := zb.mk (Kd.R_drew HO323.out)
 have n2_ := zb.mk (Kd.R_drew HO327.out)
 have n3_ := zb.mk (zh BK306.out)
 have n4_ := zb.mk (zh BK307.out)
 have n5_ := zb.mk (zh BK333.out)
 have n6_ := zb.mk (zi HB.out)
 clear HO311
 clear HO323
 clear HO327
 clear BK306
 clear BK307
 clear BK333
 clear HB
 have HO311 := n0_
 have HO323 := n1_
 have HO327 := n2_
 have BK306 := n3_
 have BK307 := n4_
 have BK333 := n5_
 have HB := n6_
 clear n0_ n1_ n2_ n3_ n4_ n5_ n6_
 refine zcc (n := 9) (S := fun w' => w'.cell? ⟨gb333, 0, none⟩ = some (.slice Ao30 t325.length co30) ∧ w'.cell? ⟨gb333, 1, none⟩ = some (.int .i16 t328) ∧ w'.cell? ⟨gb333, 2, none⟩ = some (.int .i16 t329) ∧ w'.cell? ⟨gb333, 3, none⟩ = some (.int .i16 t330) ∧ w'.cell? ⟨gb333, 4, none⟩ = some (.int .i16 t331) ∧ w'.cell? ⟨gb333, 5, none⟩ = some (.bool t332) ∧ w'.cell? ⟨gb307, 0, none⟩ = some (.int .i16 a1_0) ∧ w'.cell? ⟨gb307, 1, none⟩ = some (.int .i16 a1_1) ∧ w'.cell? ⟨gb307, 2, none⟩ = some (.int .i16 a1_2) ∧ w'.cell? ⟨gb307, 3, none⟩ = some (.int .i16 a1_3)) (ds := []) #[false, false, false, false, false, false, false, false, false] (by kernel_rfl) rfl rfl ⟨(za BK333.out 0).trans rfl, (za BK333.out 1).trans rfl, (za BK333.out 2).trans rfl, (za BK333.out 3).trans rfl, (za BK333.out 4).trans rfl, (za BK333.out 5).trans rfl, (za BK307.out 0).trans rfl, (za BK307.out 1).trans rfl, (za BK307.out 2).trans rfl, (za BK307.out 3).trans rfl⟩ (fun hHeld => ?_); refine zab laws_FnExactWayTo.tab7 laws_FnExactWayTo.bits7 (fun HT_ HW_ => ?_)
 generalize w34.drew = w35 at HO311 HO323 HO327 BK306 BK307 BK333 HB hHeld ⊢
 refine take_ (i := 0) (N := some 32) (v := ?_) (a' := ?_) #[true, false, false, false, false, false, false, false, false] rfl rfl (zqa HT_.out HW_.out (by kernel_rfl)) (fun _ _ _ h => h) (Or.inl ⟨by rfl, ?_⟩) hHeld ?_ ?_
 rotate_left
 ·rintro w' ⟨s0, s1, s2, s3, s4, s5, s6, s7, s8, s9⟩
  go_simp
  with_reducible rfl
 rotate_left
 ·simp only [Act.put, List.setIfInBounds_toArray, List.set_cons_zero, List.set_cons_succ, zaa, zz]
  rfl
 refine take_ (i := 1) (N := some 33) (v := ?_) (a' := ?_) #[true, true, false, false, false, false, false, false, false] rfl rfl (zqa HT_.out HW_.out (by kernel_rfl)) (fun _ _ _ h => h) (Or.inl ⟨by rfl, ?_⟩) hHeld ?_ ?_
 rotate_left
 ·rintro w' ⟨s0, s1, s2, s3, s4, s5, s6, s7, s8, s9⟩
  go_simp
  with_reducible rfl
 rotate_left
 ·simp only [Act.put, List.setIfInBounds_toArray, List.set_cons_zero, List.set_cons_succ, zaa, zz]
  rfl
 refine one_ (i := 2) (N := some 34) #[true, true, true, false, false, false, false, false, false] rfl rfl (zbb HT_.out (by kernel_rfl)) (by decide) (fun K hK => ?_)
 refine zkc Try.func41 (by kernel_rfl) rfl #[.agg #[.int .i16 a1_0, .int .i16 a1_1, .int .i16 a1_2, .int .i16 a1_3]] (by rfl) rfl rfl (by (try simp only [List.map_toArray, List.map_cons, List.map_nil]); first | done | rfl | (simp only [List.length_drop, List.length_take]; rfl)) ?_
 with_reducible refine (laws_toWater.calls k a1_0 a1_1 a1_2 a1_3 t334 t335 t336 t337 _ A14.out).mono ?_
 rintro e w36 ⟨rfl, hb⟩
 refine ⟨_, rfl, ?_⟩
 have n0_ := dR HO311 hb
 have n1_ := dR HO323 hb
 have n2_ := dR HO327 hb
 have n3_ := dK BK306 hb
 have n4_ := dK BK307 hb
 have n5_ := dK BK333 hb
 have n6_ := zb.mk (zm sB hb)
 clear HO311
 clear HO323
 clear HO327
 clear BK306
 clear BK307
 clear BK333
 clear HB
 have HO311 := n0_
 have HO323 := n1_
 have HO327 := n2_
 have BK306 := n3_
 have BK307 := n4_
 have BK333 := n5_
 have HB := n6_
 clear n0_ n1_ n2_ n3_ n4_ n5_ n6_
 (try clear hb)
 (try clear hb2)
 (try clear hk)
 (try clear hi)
 refine hK.out _ _ ⟨(za BK333.out 0).trans rfl, (za BK333.out 1).trans rfl, (za BK333.out 2).trans rfl, (za BK333.out 3).trans rfl, (za BK333.out 4).trans rfl, (za BK333.out 5).trans rfl, (za BK307.out 0).trans rfl, (za BK307.out 1).trans rfl, (za BK307.out 2).trans rfl, (za BK307.out 3).trans rfl⟩ (fun hHeld => ?_)
 clear hK K
 refine zra (a' := ?_) ?_ ?_
 rotate_left
 ·show Act.put _ (some 34) _ = _
  simp only [Act.put, List.setIfInBounds_toArray, List.set_cons_zero, List.set_cons_succ, zaa, zz]
  rfl
 refine one_ (i := 3) (N := some 35) #[true, true, true, true, false, false, false, false, false] rfl rfl (zbb HT_.out (by kernel_rfl)) (by decide) (fun K hK => ?_)
 refine zkc Try.func19 (by kernel_rfl) rfl #[.agg #[.slice Ao30 t325.length co30, .int .i16 t328, .int .i16 t329, .int .i16 t330, .int .i16 t331, .bool t332], .agg #[.int .i16 t334, .int .i16 t335, .int .i16 t336, .int .i16 t337]] (by rfl) rfl rfl (by (try simp only [List.map_toArray, List.map_cons, List.map_nil]); first | done | rfl | (simp only [List.length_drop, List.length_take]; rfl)) ?_
 with_reducible refine (impl_WayTo.calls k _ _ t325 t328 t329 t330 t331 t332 t334 t335 t336 t337 t338 t341 _ ?side1 ?side2 A15.out).mono ?_
 (case side1 => exact uQ HO327)
 (case side2 => exact (Kd.R_reads' HO327.out).2.1)
 rintro e w37 ⟨v339, rfl, ho0, hb⟩
 refine ⟨_, rfl, ?_⟩
 have n0_ := dR HO311 hb
 have n1_ := zb.mk (Kd.R_elder' (uR HO323) (Kd.R_base ho0) hb)
 have n2_ := dR HO327 hb
 have n3_ := zb.mk (Kd.R_lower (Kd.R_new' ho0 (Kd.R_lt (uR HO323))) (zq sB))
 have n4_ := dK BK306 hb
 have n5_ := dK BK307 hb
 have n6_ := dK BK333 hb
 have n7_ := zb.mk (zm sB hb)
 clear HO311
 clear HO323
 clear HO327
 clear BK306
 clear BK307
 clear BK333
 clear HB
 have HO311 := n0_
 have HO323 := n1_
 have HO327 := n2_
 have HO340 := n3_
 have BK306 := n4_
 have BK307 := n5_
 have BK333 := n6_
 have HB := n7_
 clear n0_ n1_ n2_ n3_ n4_ n5_ n6_ n7_
 (try clear hb)
 (try clear hb2)
 (try clear hk)
 (try clear hi)
 (try clear ho0)
 refine hK.out _ _ ⟨(za BK333.out 0).trans rfl, (za BK333.out 1).trans rfl, (za BK333.out 2).trans rfl, (za BK333.out 3).trans rfl, (za BK333.out 4).trans rfl, (za BK333.out 5).trans rfl, (za BK307.out 0).trans rfl, (za BK307.out 1).trans rfl, (za BK307.out 2).trans rfl, (za BK307.out 3).trans rfl⟩ (fun hHeld => ?_)
 clear hK K
 refine zra (a' := ?_) ?_ ?_
 rotate_left
 ·show Act.put _ (some 35) _ = _
  simp only [Act.put, List.setIfInBounds_toArray, List.set_cons_zero, List.set_cons_succ, zaa, zz]
  rfl
 refine zfa (i := 4) (N := some 31) (v := ?_) (a' := ?_) #[true, true, true, true, true, false, false, false, false] rfl rfl (zba HT_.out (by kernel_rfl)) (fun _ _ _ h => h) (Or.inl ⟨by rfl, ?_⟩) ?_ ?_
 rotate_left
 ·intro w'
  go_simp
  with_reducible rfl
 rotate_left
 ·simp only [Act.put, List.setIfInBounds_toArray, List.set_cons_zero, List.set_cons_succ, zaa, zz]
  rfl
 refine zfa (i := 5) (N := some 36) (v := ?_) (a' := ?_) #[true, true, true, true, true, true, false, false, false] rfl rfl (zba HT_.out (by kernel_rfl)) (fun _ _ _ h => h) (Or.inl ⟨by rfl, ?_⟩) ?_ ?_
 rotate_left
 ·intro w'
  go_simp
  with_reducible rfl
 rotate_left
 ·simp only [Act.put, List.setIfInBounds_toArray, List.set_cons_zero, List.set_cons_succ, zaa, zz]
  rfl
 refine zfa (i := 6) (N := some 37) (v := ?_) (a' := ?_) #[true, true, true, true, true, true, true, false, false] rfl rfl (zba HT_.out (by kernel_rfl)) (fun _ _ _ h => h) (Or.inl ⟨by rfl, ?_⟩) ?_ ?_
 rotate_left
 ·intro w'
  go_simp
  with_reducible rfl
 rotate_left
 ·simp only [Act.put, List.setIfInBounds_toArray, List.set_cons_zero, List.set_cons_succ, zaa, zz]
  rfl
 refine zfa (i := 7) (N := some 9) (v := ?_) (a' := ?_) #[true, true, true, true, true, true, true, true, false] rfl rfl (zba HT_.out (by kernel_rfl)) (fun _ _ _ h => h) (Or.inl ⟨by rfl, ?_⟩) ?_ ?_
 rotate_left
 ·intro w'
  go_simp
  with_reducible rfl
 rotate_left
 ·simp only [Act.put, List.setIfInBounds_toArray, List.set_cons_zero, List.set_cons_succ, zaa, zz]
  rfl
 refine zfa (i := 8) (N := some 10) (v := ?_) (a' := ?_) #[true, true, true, true, true, true, true, true, true] rfl rfl (zba HT_.out (by kernel_rfl)) (fun _ _ _ h => h) (Or.inl ⟨by rfl, ?_⟩) ?_ ?_
 rotate_left
 ·intro w'
  go_simp
  with_reducible rfl
 rotate_left
 ·simp only [Act.put, List.setIfInBounds_toArray, List.set_cons_zero, List.set_cons_succ, zaa, zz]
  rfl
 refine zxc (zwb HT_.out (by kernel_rfl)) ?_
 go_upto_region 8 with (fail)
 go_cut [46] (fun v46 wc => ∃ (kq : Nat) (x46_15 : Bool), v46 = .bool x46_15 ∧ zb (laws_FnExactWayTo.j0 kq t321 t324 t338 t341 x46_15 l0_0 a0_1 a0_2 a0_3 a0_4 a0_5 a1_0 a1_1 a1_2 a1_3 t325 t328 t329 t330 t331 t332 = some r) ∧ zb (kq ≤ k) ∧ zb (Kd.R k80 80 wc w.heap.size (fun k_ => some k_ ≠ (v339 : Value).ownBlock) v322 t321) ∧ zb (Kd.R k80 80 wc w.heap.size (fun k_ => some k_ ≠ (v322 : Value).ownBlock) v339 t338) ∧ zb (Kd.R (Kd.int .i16) 25 wc w.heap.size (fun _ => True) (.slice Ao30 t325.length co30) t325) ∧ zb (wc.heap[gb306]? = some (.cells #[(.slice A0_0 l0_0.length c0_0), .int .i16 a0_1, .int .i16 a0_2, .int .i16 a0_3, .int .i16 a0_4, .bool a0_5] 53 (0, 0))) ∧ zb (wc.heap[gb307]? = some (.cells #[.int .i16 a1_0, .int .i16 a1_1, .int .i16 a1_2, .int .i16 a1_3] 26 (0, 0))) ∧ zb (wc.heap[gb333]? = some (.cells #[(.slice Ao30 t325.length co30), .int .i16 t328, .int .i16 t329, .int .i16 t330, .int .i16 t331, .bool t332] 29 (0, 0))) ∧ zb (Below w.heap.size w wc))
 case first =>
  have H := HC16.out
  clear HC16
  replace H := Option.bind_eq_some_iff.mp H
  obtain ⟨t342, A380, H⟩ := H
  replace H : (if t342 = true then (laws_FnExactWayTo.j0 k t321 t324 t338 t341 (t341 != t324) l0_0 a0_1 a0_2 a0_3 a0_4 a0_5 a1_0 a1_1 a1_2 a1_3 t325 t328 t329 t330 t331 t332) else (laws_FnExactWayTo.j0 k t321 t324 t338 t341 true l0_0 a0_1 a0_2 a0_3 a0_4 a0_5 a1_0 a1_1 a1_2 a1_3 t325 t328 t329 t330 t331 t332)) = some r := H
  have A38 := zb.mk A380
  clear A380
  by_cases c39 : t342 = true
  ·subst c39
   have H1 : (laws_FnExactWayTo.j0 k t321 t324 t338 t341 (t341 != t324) l0_0 a0_1 a0_2 a0_3 a0_4 a0_5 a1_0 a1_1 a1_2 a1_3 t325 t328 t329 t330 t331 t332) = some r := by rw [if_pos rfl] at H; exact H
   clear H
   have H := H1
   clear H1
   have H' := zb.mk H
   clear H
   obtain ⟨Ao40, co40, eo40⟩ := Kd.R_slice HO340.out
   subst eo40
   obtain ⟨Ao41, co41, eo41⟩ := Kd.R_slice HO323.out
   subst eo41
   go_wp2_with (first | ((with_reducible refine zt (f := 42) rfl ?_); refine gz (some 40) Try.func42 #[.slice Ao40 t338.length co40, .slice Ao41 t321.length co41] rfl rfl ?_; (with_reducible refine (laws_eqMoveS.calls k _ _ t338 _ _ t321 true _ ?side1 ?side2 ?side3 ?side4 A38.out).mono ?_); (case side1 => exact uQ HO340); (case side2 => exact (Kd.R_reads' HO340.out).2.1); (case side3 => exact uQ HO323); (case side4 => exact (Kd.R_reads' HO323.out).2.1); rintro e w42 ⟨rfl, hb⟩; refine ⟨_, rfl, ?_⟩; replace HO311 := dR HO311 hb; replace HO323 := dR HO323 hb; replace HO327 := dR HO327 hb; replace HO340 := dR HO340 hb; replace BK306 := dK BK306 hb; replace BK307 := dK BK307 hb; replace BK333 := dK BK333 hb; replace HB := zb.mk (zm sB hb); try clear hb))
   go_meet
   case rel => exact ⟨_, ((t341 != t324)), (by first | rfl | (simp; done) | (simp [*]; done)), H', ⟨by first | omega | exact Nat.le_refl _⟩, ⟨uR' (Kd.R_mono HO323.out (fun _ hk => hk.2))⟩, ⟨uR' (Kd.R_mono HO340.out (fun _ hk => hk.2))⟩, ⟨uR' (Kd.R_mono HO327.out (fun _ hk => trivial))⟩, ⟨uK BK306⟩, ⟨uK BK307⟩, ⟨uK BK333⟩, ⟨sB⟩⟩
  replace c39 := Bool.eq_false_iff.mpr c39
  subst c39
  have H1 : (laws_FnExactWayTo.j0 k t321 t324 t338 t341 true l0_0 a0_1 a0_2 a0_3 a0_4 a0_5 a1_0 a1_1 a1_2 a1_3 t325 t328 t329 t330 t331 t332) = some r := by rw [if_neg (show ¬ (false = true) by decide)] at H; exact H
  clear H
  have H := H1
  clear H1
  have H' := zb.mk H
  clear H
  obtain ⟨Ao43, co43, eo43⟩ := Kd.R_slice HO340.out
  subst eo43
  obtain ⟨Ao44, co44, eo44⟩ := Kd.R_slice HO323.out
  subst eo44
  go_wp2_with (first | ((with_reducible refine zt (f := 42) rfl ?_); refine gz (some 40) Try.func42 #[.slice Ao43 t338.length co43, .slice Ao44 t321.length co44] rfl rfl ?_; (with_reducible refine (laws_eqMoveS.calls k _ _ t338 _ _ t321 false _ ?side1 ?side2 ?side3 ?side4 A38.out).mono ?_); (case side1 => exact uQ HO340); (case side2 => exact (Kd.R_reads' HO340.out).2.1); (case side3 => exact uQ HO323); (case side4 => exact (Kd.R_reads' HO323.out).2.1); rintro e w45 ⟨rfl, hb⟩; refine ⟨_, rfl, ?_⟩; replace HO311 := dR HO311 hb; replace HO323 := dR HO323 hb; replace HO327 := dR HO327 hb; replace HO340 := dR HO340 hb; replace BK306 := dK BK306 hb; replace BK307 := dK BK307 hb; replace BK333 := dK BK333 hb; replace HB := zb.mk (zm sB hb); try clear hb))
  go_meet
  case rel => exact ⟨_, (true), (by first | rfl | (simp; done) | (simp [*]; done)), H', ⟨by first | omega | exact Nat.le_refl _⟩, ⟨uR' (Kd.R_mono HO323.out (fun _ hk => hk.2))⟩, ⟨uR' (Kd.R_mono HO340.out (fun _ hk => hk.2))⟩, ⟨uR' (Kd.R_mono HO327.out (fun _ hk => trivial))⟩, ⟨uK BK306⟩, ⟨uK BK307⟩, ⟨uK BK333⟩, ⟨sB⟩⟩
 case rest =>
  clear HC16
  try clear c1
  try clear c2
  try clear p2
  try clear c3
  try clear c4
  try clear c4b0
  try clear c7
  try clear c19
  try clear c20
  try clear c31
  try clear c32
  try clear c34
  try clear c39
  try clear c41
  try clear c42
  try clear hcz20_0 hcz20_1 hcz20_2 hcz20_3 hcz20_4 hcz20_5
  try clear hcz27_0 hcz27_1 hcz27_2 hcz27_3 hcz27_4 hcz27_5
  try clear hcz33_0 hcz33_1 hcz33_2 hcz33_3 hcz33_4 hcz33_5
  try clear hcz8_0 hcz8_1 hcz8_2 hcz8_3 hcz8_4 hcz8_5
  try clear hfz20_0 hfz20_1 hfz20_2 hfz20_3 hfz20_4 hfz20_5
  try clear hfz27_0 hfz27_1 hfz27_2 hfz27_3 hfz27_4 hfz27_5
  try clear hfz33_0 hfz33_1 hfz33_2 hfz33_3 hfz33_4 hfz33_5
  try clear hfz8_0 hfz8_1 hfz8_2 hfz8_3 hfz8_4 hfz8_5
  obtain ⟨kq, x46_15, rfl, HA, HJ15, HO_6, HO_9, HO_334000, BK306, BK307, BK333, HB⟩ := hcut
  cases kq with
  | zero => exact absurd HA.out (by simp [laws_FnExactWayTo.j0])
  | succ kj15 =>
   have H := HA.out
   clear HA
   simp only [laws_FnExactWayTo.j0] at H
   by_cases c46 : x46_15 = true
   ·subst c46
    have H1 : (some false) = some r := by rw [if_pos rfl] at H; exact H
    clear H
    have H := H1
    clear H1
    obtain rfl := Option.some.inj H
    go_wp2
    go_ret
    exact ⟨by first | rfl | (simp [zn, zo] <;> rfl) | (simp [*, zn, zo] <;> rfl), sB⟩
   replace c46 := Bool.eq_false_iff.mpr c46
   subst c46
   have H1 : ((laws_toPuzzle.f kj15 l0_0 a0_1 a0_2 a0_3 a0_4 a0_5).bind fun bt343 => ((laws_eqPuzzle.f kj15 t325 t328 t329 t330 t331 t332 bt343.1 bt343.2.1 bt343.2.2.1 bt343.2.2.2.1 bt343.2.2.2.2.1 bt343.2.2.2.2.2).bind fun t351 => (if t351 = true then ((laws_markPuzzle.f kj15 t325 t328 t329 t330 t331 t332 1).bind fun bt352 => (if bt352.1 < 0 then (laws_FnExactWayTo.j1 kj15 t321 t324 t338 true l0_0 a0_1 a0_2 a0_3 a0_4 a0_5 a1_0 a1_1 a1_2 a1_3) else ((laws_eqMoveS.f kj15 t338 t321).bind fun t354 => (if t354 = true then (laws_FnExactWayTo.j1 kj15 t321 t324 t338 (t341 != t324) l0_0 a0_1 a0_2 a0_3 a0_4 a0_5 a1_0 a1_1 a1_2 a1_3) else (laws_FnExactWayTo.j1 kj15 t321 t324 t338 true l0_0 a0_1 a0_2 a0_3 a0_4 a0_5 a1_0 a1_1 a1_2 a1_3))))) else (some false)))) = some r := by rw [if_neg (show ¬ (false = true) by decide)] at H; exact H
   clear H
   have H := H1
   clear H1
   replace H := Option.bind_eq_some_iff.mp H
   obtain ⟨⟨t343, t346, t347, t348, t349, t350⟩, A470, H⟩ := H
   replace H : ((laws_eqPuzzle.f kj15 t325 t328 t329 t330 t331 t332 t343 t346 t347 t348 t349 t350).bind fun t351 => (if t351 = true then ((laws_markPuzzle.f kj15 t325 t328 t329 t330 t331 t332 1).bind fun bt352 => (if bt352.1 < 0 then (laws_FnExactWayTo.j1 kj15 t321 t324 t338 true l0_0 a0_1 a0_2 a0_3 a0_4 a0_5 a1_0 a1_1 a1_2 a1_3) else ((laws_eqMoveS.f kj15 t338 t321).bind fun t354 => (if t354 = true then (laws_FnExactWayTo.j1 kj15 t321 t324 t338 (t341 != t324) l0_0 a0_1 a0_2 a0_3 a0_4 a0_5 a1_0 a1_1 a1_2 a1_3) else (laws_FnExactWayTo.j1 kj15 t321 t324 t338 true l0_0 a0_1 a0_2 a0_3 a0_4 a0_5 a1_0 a1_1 a1_2 a1_3))))) else (some false))) = some r := H
   have A47 := zb.mk A470
   clear A470
   replace H := Option.bind_eq_some_iff.mp H
   obtain ⟨t351, A480, H⟩ := H
   replace H : (if t351 = true then ((laws_markPuzzle.f kj15 t325 t328 t329 t330 t331 t332 1).bind fun bt352 => (if bt352.1 < 0 then (laws_FnExactWayTo.j1 kj15 t321 t324 t338 true l0_0 a0_1 a0_2 a0_3 a0_4 a0_5 a1_0 a1_1 a1_2 a1_3) else ((laws_eqMoveS.f kj15 t338 t321).bind fun t354 => (if t354 = true then (laws_FnExactWayTo.j1 kj15 t321 t324 t338 (t341 != t324) l0_0 a0_1 a0_2 a0_3 a0_4 a0_5 a1_0 a1_1 a1_2 a1_3) else (laws_FnExactWayTo.j1 kj15 t321 t324 t338 true l0_0 a0_1 a0_2 a0_3 a0_4 a0_5 a1_0 a1_1 a1_2 a1_3))))) else (some false)) = some r := H
   have A48 := zb.mk A480
   clear A480
   by_cases c49 : t351 = true
   ·subst c49
    have H1 : ((laws_markPuzzle.f kj15 t325 t328 t329 t330 t331 t332 1).bind fun bt352 => (if bt352.1 < 0 then (laws_FnExactWayTo.j1 kj15 t321 t324 t338 true l0_0 a0_1 a0_2 a0_3 a0_4 a0_5 a1_0 a1_1 a1_2 a1_3) else ((laws_eqMoveS.f kj15 t338 t321).bind fun t354 => (if t354 = true then (laws_FnExactWayTo.j1 kj15 t321 t324 t338 (t341 != t324) l0_0 a0_1 a0_2 a0_3 a0_4 a0_5 a1_0 a1_1 a1_2 a1_3) else (laws_FnExactWayTo.j1 kj15 t321 t324 t338 true l0_0 a0_1 a0_2 a0_3 a0_4 a0_5 a1_0 a1_1 a1_2 a1_3))))) = some r := by rw [if_pos rfl] at H; exact H
    clear H
    have H := H1
    clear H1
    replace H := Option.bind_eq_some_iff.mp H
    obtain ⟨⟨t352, t353⟩, A500, H⟩ := H
    replace H : (if t352 < 0 then (laws_FnExactWayTo.j1 kj15 t321 t324 t338 true l0_0 a0_1 a0_2 a0_3 a0_4 a0_5 a1_0 a1_1 a1_2 a1_3) else ((laws_eqMoveS.f kj15 t338 t321).bind fun t354 => (if t354 = true then (laws_FnExactWayTo.j1 kj15 t321 t324 t338 (t341 != t324) l0_0 a0_1 a0_2 a0_3 a0_4 a0_5 a1_0 a1_1 a1_2 a1_3) else (laws_FnExactWayTo.j1 kj15 t321 t324 t338 true l0_0 a0_1 a0_2 a0_3 a0_4 a0_5 a1_0 a1_1 a1_2 a1_3)))) = some r := H
    have A50 := zb.mk A500
    clear A500
    have HC51 := zb.mk H
    clear H
    try go_wp2
    have n0_ := zb.mk (Kd.R_drew HO_6.out)
    have n1_ := zb.mk (Kd.R_drew HO_9.out)
    have n2_ := zb.mk (Kd.R_drew HO_334000.out)
    have n3_ := zb.mk (zh BK306.out)
    have n4_ := zb.mk (zh BK307.out)
    have n5_ := zb.mk (zh BK333.out)
    have n6_ := zb.mk (zi HB.out)
    clear HO_6
    clear HO_9
    clear HO_334000
    clear BK306
    clear BK307
    clear BK333
    clear HB
    have HO_6 := n0_
    have HO_9 := n1_
    have HO_334000 := n2_
    have BK306 := n3_
    have BK307 := n4_
    have BK333 := n5_
    have HB := n6_
    clear n0_ n1_ n2_ n3_ n4_ n5_ n6_
    refine zcc (n := 5) (S := fun w' => w'.cell? ⟨gb333, 0, none⟩ = some (.slice Ao30 t325.length co30) ∧ w'.cell? ⟨gb333, 1, none⟩ = some (.int .i16 t328) ∧ w'.cell? ⟨gb333, 2, none⟩ = some (.int .i16 t329) ∧ w'.cell? ⟨gb333, 3, none⟩ = some (.int .i16 t330) ∧ w'.cell? ⟨gb333, 4, none⟩ = some (.int .i16 t331) ∧ w'.cell? ⟨gb333, 5, none⟩ = some (.bool t332) ∧ w'.cell? ⟨gb306, 0, none⟩ = some (.slice A0_0 l0_0.length c0_0) ∧ w'.cell? ⟨gb306, 1, none⟩ = some (.int .i16 a0_1) ∧ w'.cell? ⟨gb306, 2, none⟩ = some (.int .i16 a0_2) ∧ w'.cell? ⟨gb306, 3, none⟩ = some (.int .i16 a0_3) ∧ w'.cell? ⟨gb306, 4, none⟩ = some (.int .i16 a0_4) ∧ w'.cell? ⟨gb306, 5, none⟩ = some (.bool a0_5)) (ds := []) #[false, false, false, false, false] (by kernel_rfl) rfl rfl ⟨(za BK333.out 0).trans rfl, (za BK333.out 1).trans rfl, (za BK333.out 2).trans rfl, (za BK333.out 3).trans rfl, (za BK333.out 4).trans rfl, (za BK333.out 5).trans rfl, (za BK306.out 0).trans rfl, (za BK306.out 1).trans rfl, (za BK306.out 2).trans rfl, (za BK306.out 3).trans rfl, (za BK306.out 4).trans rfl, (za BK306.out 5).trans rfl⟩ (fun hHeld => ?_)
    generalize wc.drew = w52 at HO_6 HO_9 HO_334000 BK306 BK307 BK333 HB hHeld ⊢
    refine take_ (i := 0) (N := some 47) (v := ?_) (a' := ?_) #[true, false, false, false, false] rfl rfl (by kernel_rfl) (fun _ _ _ h => h) (Or.inl ⟨by rfl, ?_⟩) hHeld ?_ ?_
    rotate_left
    ·rintro w' ⟨s0, s1, s2, s3, s4, s5, s6, s7, s8, s9, s10, s11⟩
     go_simp
     with_reducible rfl
    rotate_left
    ·simp only [Act.put, List.setIfInBounds_toArray, List.set_cons_zero, List.set_cons_succ, zaa, zz]
     rfl
    refine take_ (i := 1) (N := some 48) (v := ?_) (a' := ?_) #[true, true, false, false, false] rfl rfl (by kernel_rfl) (fun _ _ _ h => h) (Or.inl ⟨by rfl, ?_⟩) hHeld ?_ ?_
    rotate_left
    ·rintro w' ⟨s0, s1, s2, s3, s4, s5, s6, s7, s8, s9, s10, s11⟩
     go_simp
     with_reducible rfl
    rotate_left
    ·simp only [Act.put, List.setIfInBounds_toArray, List.set_cons_zero, List.set_cons_succ, zaa, zz]
     rfl
    refine one_ (i := 2) (N := some 49) #[true, true, true, false, false] rfl rfl (by kernel_rfl) (by decide) (fun K hK => ?_)
    refine zkc Try.func34 (by kernel_rfl) rfl #[.agg #[.slice A0_0 l0_0.length c0_0, .int .i16 a0_1, .int .i16 a0_2, .int .i16 a0_3, .int .i16 a0_4, .bool a0_5]] (by rfl) rfl rfl (by (try simp only [List.map_toArray, List.map_cons, List.map_nil]); first | done | rfl | (simp only [List.length_drop, List.length_take]; rfl)) ?_
    with_reducible refine (laws_toPuzzle.calls kj15 _ _ l0_0 a0_1 a0_2 a0_3 a0_4 a0_5 t343 t346 t347 t348 t349 t350 _ ?side1 ?side2 A47.out).mono ?_
    (case side1 => exact uC HR0_0 HB)
    (case side2 => exact HC0_0.out)
    rintro e w53 ⟨v344, rfl, ho0, hb⟩
    refine ⟨_, rfl, ?_⟩
    have n0_ := dR HO_6 hb
    have n1_ := dR HO_9 hb
    have n2_ := zb.mk (Kd.R_elder' (uR HO_334000) (Kd.R_base ho0) hb)
    have n3_ := zb.mk (Kd.R_lower (Kd.R_new' ho0 (Kd.R_lt (uR HO_334000))) (zq sB))
    have n4_ := dK BK306 hb
    have n5_ := dK BK307 hb
    have n6_ := dK BK333 hb
    have n7_ := zb.mk (zm sB hb)
    clear HO_6
    clear HO_9
    clear HO_334000
    clear BK306
    clear BK307
    clear BK333
    clear HB
    have HO_6 := n0_
    have HO_9 := n1_
    have HO_334000 := n2_
    have HO345 := n3_
    have BK306 := n4_
    have BK307 := n5_
    have BK333 := n6_
    have HB := n7_
    clear n0_ n1_ n2_ n3_ n4_ n5_ n6_ n7_
    (try clear hb)
    (try clear hb2)
    (try clear hk)
    (try clear hi)
    (try clear ho0)
    obtain ⟨Ao54, co54, eo54⟩ := Kd.R_slice HO345.out
    (first | subst eo54 | (injection eo54 with f1_ f2_ f3_; have f4_ := f1_.symm; have f5_ := f3_.symm; clear f1_ f2_ f3_; subst f4_; subst f5_))
    refine hK.out _ _ ⟨(za BK333.out 0).trans rfl, (za BK333.out 1).trans rfl, (za BK333.out 2).trans rfl, (za BK333.out 3).trans rfl, (za BK333.out 4).trans rfl, (za BK333.out 5).trans rfl, (za BK306.out 0).trans rfl, (za BK306.out 1).trans rfl, (za BK306.out 2).trans rfl, (za BK306.out 3).trans rfl, (za BK306.out 4).trans rfl, (za BK306.out 5).trans rfl⟩ (fun hHeld => ?_)
    clear hK K
    refine zra (a' := ?_) ?_ ?_
    rotate_left
    ·show Act.put _ (some 49) _ = _
     simp only [Act.put, List.setIfInBounds_toArray, List.set_cons_zero, List.set_cons_succ, zaa, zz]
     rfl
    refine one_ (i := 3) (N := some 50) #[true, true, true, true, false] rfl rfl (by kernel_rfl) (by decide) (fun K hK => ?_)
    refine zkc Try.func35 (by kernel_rfl) rfl #[.agg #[.slice Ao30 t325.length co30, .int .i16 t328, .int .i16 t329, .int .i16 t330, .int .i16 t331, .bool t332], .agg #[.slice Ao54 t343.length co54, .int .i16 t346, .int .i16 t347, .int .i16 t348, .int .i16 t349, .bool t350]] (by rfl) rfl rfl (by (try simp only [List.map_toArray, List.map_cons, List.map_nil]); first | done | rfl | (simp only [List.length_drop, List.length_take]; rfl)) ?_
    with_reducible refine (laws_eqPuzzle.calls kj15 _ _ t325 t328 t329 t330 t331 t332 _ _ t343 t346 t347 t348 t349 t350 true _ ?side1 ?side2 ?side3 ?side4 A48.out).mono ?_
    (case side1 => exact uQ HO_334000)
    (case side2 => exact (Kd.R_reads' HO_334000.out).2.1)
    (case side3 => exact uQ HO345)
    (case side4 => exact (Kd.R_reads' HO345.out).2.1)
    rintro e w55 ⟨rfl, hb⟩
    refine ⟨_, rfl, ?_⟩
    have n0_ := dR HO_6 hb
    have n1_ := dR HO_9 hb
    have n2_ := dR HO_334000 hb
    have n3_ := dR HO345 hb
    have n4_ := dK BK306 hb
    have n5_ := dK BK307 hb
    have n6_ := dK BK333 hb
    have n7_ := zb.mk (zm sB hb)
    clear HO_6
    clear HO_9
    clear HO_334000
    clear HO345
    clear BK306
    clear BK307
    clear BK333
    clear HB
    have HO_6 := n0_
    have HO_9 := n1_
    have HO_334000 := n2_
    have HO345 := n3_
    have BK306 := n4_
    have BK307 := n5_
    have BK333 := n6_
    have HB := n7_
    clear n0_ n1_ n2_ n3_ n4_ n5_ n6_ n7_
    (try clear hb)
    (try clear hb2)
    (try clear hk)
    (try clear hi)
    refine hK.out _ _ ⟨(za BK333.out 0).trans rfl, (za BK333.out 1).trans rfl, (za BK333.out 2).trans rfl, (za BK333.out 3).trans rfl, (za BK333.out 4).trans rfl, (za BK333.out 5).trans rfl, (za BK306.out 0).trans rfl, (za BK306.out 1).trans rfl, (za BK306.out 2).trans rfl, (za BK306.out 3).trans rfl, (za BK306.out 4).trans rfl, (za BK306.out 5).trans rfl⟩ (fun hHeld => ?_)
    clear hK K
    refine zra (a' := ?_) ?_ ?_
    rotate_left
    ·show Act.put _ (some 50) _ = _
     simp only [Act.put, List.setIfInBounds_toArray, List.set_cons_zero, List.set_cons_succ, zaa, zz]
     rfl
    refine zfa (i := 4) (N := some 51) (v := ?_) (a' := ?_) #[true, true, true, true, true] rfl rfl (by kernel_rfl) (fun _ _ _ h => h) (Or.inl ⟨by rfl, ?_⟩) ?_ ?_
    rotate_left
    ·intro w'
     go_simp
     with_reducible rfl
    rotate_left
    ·simp only [Act.put, List.setIfInBounds_toArray, List.set_cons_zero, List.set_cons_succ, zaa, zz]
     rfl
    refine zxc (by kernel_rfl) ?_
    have hnb56 := NB333_306.out
    have hnc56 := NB306_333.out
    have hnb57 := NB333_307.out
    have hnc57 := NB307_333.out
    obtain ⟨hcz58_0, hcz58_1, hcz58_2, hcz58_3, hcz58_4, hcz58_5⟩ := xc6 BK333
    obtain ⟨hfz58_0, hfz58_1, hfz58_2, hfz58_3, hfz58_4, hfz58_5⟩ := xf6 BK333
    go_upto_region 14 with (first | ((with_reducible refine zt (f := 38) rfl ?_); refine gz (some 54) Try.func38 #[.agg #[.slice Ao30 t325.length co30, .int .i16 t328, .int .i16 t329, .int .i16 t330, .int .i16 t331, .bool t332], .int .i64 1] rfl rfl ?_; (with_reducible refine (laws_markPuzzle.calls kj15 (fun k_ => some k_ = (.slice Ao30 t325.length co30 : Value).ownBlock) (.slice Ao30 t325.length co30) t325 t328 t329 t330 t331 t332 1 t352 t353 w _ ?side1 ?side2 A50.out).mono ?_); (case side1 => repeat (first | (with_reducible first | exact HB.out | apply zj | apply zf | apply zi | refine zk ?_ GE306.out | refine zk ?_ GE307.out | refine zk ?_ GE333.out) | exact HB.out)); (case side2 => exact Kd.R_tight rfl HO_334000.out); rintro e w59 ⟨rfl, hy0, hb, hkp⟩; refine ⟨_, rfl, ?_⟩; replace HO_6 := zb.mk (Kd.R_mono (ok' := fun k_ => some k_ ≠ (v339 : Value).ownBlock) (Kd.R_keptB ((Kd.R_apart' HO_6.out (Kd.R_typed HO_334000.out) (by decide))) hkp (fun k_ hk_ hs_ => (hk_.2) hs_)) (fun k_ hk_ => hk_.1.1)); replace HO_9 := zb.mk (Kd.R_mono (ok' := fun k_ => some k_ ≠ (v322 : Value).ownBlock) (Kd.R_keptB ((Kd.R_apart' HO_9.out (Kd.R_typed HO_334000.out) (by decide))) hkp (fun k_ hk_ hs_ => (hk_.2) hs_)) (fun k_ hk_ => hk_.1.1)); replace BK306 := zb.mk (zfb (uK BK306) hkp (fun hs_ => (fun e_ => (Kd.R_ne HO_334000.out BK306.out (by decide)) e_) hs_)); replace BK307 := zb.mk (zfb (uK BK307) hkp (fun hs_ => (fun e_ => (Kd.R_ne HO_334000.out BK307.out (by decide)) e_) hs_)); replace BK333 := zb.mk (zfb (uK BK333) hkp (fun hs_ => (fun e_ => (Kd.R_ne HO_334000.out BK333.out (by decide)) e_) hs_)); replace HO_334000 := zb.mk (Kd.R_reok rfl hy0 (fun k_ e_ => HO_334000.out.1 k_ e_)); replace HO345 := zb.mk (Kd.R_mono (ok' := fun k_ => some k_ ≠ (.slice Ao30 t325.length co30 : Value).ownBlock) (Kd.R_keptB (HO345.out) hkp (fun k_ hk_ hs_ => (hk_.2) hs_)) (fun k_ hk_ => hk_.1.2)); replace HB := zb.mk hb; (try clear hb); (try clear hkp); (try clear hy0)))
    (try simp only [Act.put, List.setIfInBounds_toArray, List.set_cons_zero, List.set_cons_succ])
    go_cut [67] (fun v67 wc => ∃ (kq : Nat) (x67_50 : Bool), v67 = .bool x67_50 ∧ zb (laws_FnExactWayTo.j1 kq t321 t324 t338 x67_50 l0_0 a0_1 a0_2 a0_3 a0_4 a0_5 a1_0 a1_1 a1_2 a1_3 = some r) ∧ zb (kq ≤ kj15) ∧ zb (Kd.R k80 80 wc w.heap.size (fun k_ => some k_ ≠ (v339 : Value).ownBlock) v322 t321) ∧ zb (Kd.R k80 80 wc w.heap.size (fun k_ => some k_ ≠ (v322 : Value).ownBlock) v339 t338) ∧ zb (Kd.R (Kd.int .i16) 25 wc w.heap.size (fun _ => True) (.slice Ao30 t325.length co30) t353) ∧ zb (wc.heap[gb306]? = some (.cells #[(.slice A0_0 l0_0.length c0_0), .int .i16 a0_1, .int .i16 a0_2, .int .i16 a0_3, .int .i16 a0_4, .bool a0_5] 53 (0, 0))) ∧ zb (wc.heap[gb307]? = some (.cells #[.int .i16 a1_0, .int .i16 a1_1, .int .i16 a1_2, .int .i16 a1_3] 26 (0, 0))) ∧ zb (wc.heap[gb333]? = some (.cells #[(.slice Ao30 t325.length co30), .int .i16 t328, .int .i16 t329, .int .i16 t330, .int .i16 t331, .bool t332] 29 (0, 0))) ∧ zb (Below w.heap.size w wc))
    case first =>
     have H := HC51.out
     clear HC51
     by_cases c60 : t352 < 0
     ·rw [if_pos c60] at H
      have c60b0 : decide (t352 < 0) = true := decide_eq_true c60
      clear c60
      (first | rw [c60b0] | (simp only [zaa, zz]; rw [c60b0]) | skip)
      have H' := zb.mk H
      clear H
      go_wp2
      go_meet
      case rel => exact ⟨_, (true), (by first | rfl | (simp; done) | (simp [*]; done)), H', ⟨by have := HJ15.out; first | omega | exact Nat.le_refl _⟩, ⟨uR HO_6⟩, ⟨uR HO_9⟩, ⟨uR' (Kd.R_mono HO_334000.out (fun _ hk => trivial))⟩, ⟨uK BK306⟩, ⟨uK BK307⟩, ⟨uK BK333⟩, ⟨sB⟩⟩
     rw [if_neg c60] at H
     have c60b0 : decide (t352 < 0) = false := decide_eq_false c60
     clear c60
     (first | rw [c60b0] | (simp only [zaa, zz]; rw [c60b0]) | skip)
     replace H := Option.bind_eq_some_iff.mp H
     obtain ⟨t354, A610, H⟩ := H
     replace H : (if t354 = true then (laws_FnExactWayTo.j1 kj15 t321 t324 t338 (t341 != t324) l0_0 a0_1 a0_2 a0_3 a0_4 a0_5 a1_0 a1_1 a1_2 a1_3) else (laws_FnExactWayTo.j1 kj15 t321 t324 t338 true l0_0 a0_1 a0_2 a0_3 a0_4 a0_5 a1_0 a1_1 a1_2 a1_3)) = some r := H
     have A61 := zb.mk A610
     clear A610
     by_cases c62 : t354 = true
     ·subst c62
      have H1 : (laws_FnExactWayTo.j1 kj15 t321 t324 t338 (t341 != t324) l0_0 a0_1 a0_2 a0_3 a0_4 a0_5 a1_0 a1_1 a1_2 a1_3) = some r := by rw [if_pos rfl] at H; exact H
      clear H
      have H := H1
      clear H1
      have H' := zb.mk H
      clear H
      obtain ⟨Ao63, co63, eo63⟩ := Kd.R_slice HO_9.out
      subst eo63
      obtain ⟨Ao64, co64, eo64⟩ := Kd.R_slice HO_6.out
      subst eo64
      go_wp2_with (first | (go_at_call 42; (with_reducible refine (laws_eqMoveS.calls kj15 _ _ t338 _ _ t321 true _ ?side1 ?side2 ?side3 ?side4 A61.out).mono ?_); (case side1 => exact uQ HO_9); (case side2 => exact (Kd.R_reads' HO_9.out).2.1); (case side3 => exact uQ HO_6); (case side4 => exact (Kd.R_reads' HO_6.out).2.1); rintro e w65 ⟨rfl, hb⟩; replace HO_6 := dR HO_6 hb; replace HO_9 := dR HO_9 hb; replace HO_334000 := dR HO_334000 hb; replace HO345 := dR HO345 hb; replace BK306 := dK BK306 hb; replace BK307 := dK BK307 hb; replace BK333 := dK BK333 hb; replace HB := zb.mk (zm sB hb); try clear hb))
      go_meet
      case rel => exact ⟨_, ((t341 != t324)), (by first | rfl | (simp; done) | (simp [*]; done)), H', ⟨by have := HJ15.out; first | omega | exact Nat.le_refl _⟩, ⟨uR HO_6⟩, ⟨uR HO_9⟩, ⟨uR' (Kd.R_mono HO_334000.out (fun _ hk => trivial))⟩, ⟨uK BK306⟩, ⟨uK BK307⟩, ⟨uK BK333⟩, ⟨sB⟩⟩
     replace c62 := Bool.eq_false_iff.mpr c62
     subst c62
     have H1 : (laws_FnExactWayTo.j1 kj15 t321 t324 t338 true l0_0 a0_1 a0_2 a0_3 a0_4 a0_5 a1_0 a1_1 a1_2 a1_3) = some r := by rw [if_neg (show ¬ (false = true) by decide)] at H; exact H
     clear H
     have H := H1
     clear H1
     have H' := zb.mk H
     clear H
     obtain ⟨Ao66, co66, eo66⟩ := Kd.R_slice HO_9.out
     subst eo66
     obtain ⟨Ao67, co67, eo67⟩ := Kd.R_slice HO_6.out
     subst eo67
     go_wp2_with (first | (go_at_call 42; (with_reducible refine (laws_eqMoveS.calls kj15 _ _ t338 _ _ t321 false _ ?side1 ?side2 ?side3 ?side4 A61.out).mono ?_); (case side1 => exact uQ HO_9); (case side2 => exact (Kd.R_reads' HO_9.out).2.1); (case side3 => exact uQ HO_6); (case side4 => exact (Kd.R_reads' HO_6.out).2.1); rintro e w68 ⟨rfl, hb⟩; replace HO_6 := dR HO_6 hb; replace HO_9 := dR HO_9 hb; replace HO_334000 := dR HO_334000 hb; replace HO345 := dR HO345 hb; replace BK306 := dK BK306 hb; replace BK307 := dK BK307 hb; replace BK333 := dK BK333 hb; replace HB := zb.mk (zm sB hb); try clear hb))
     go_meet
     case rel => exact ⟨_, (true), (by first | rfl | (simp; done) | (simp [*]; done)), H', ⟨by have := HJ15.out; first | omega | exact Nat.le_refl _⟩, ⟨uR HO_6⟩, ⟨uR HO_9⟩, ⟨uR' (Kd.R_mono HO_334000.out (fun _ hk => trivial))⟩, ⟨uK BK306⟩, ⟨uK BK307⟩, ⟨uK BK333⟩, ⟨sB⟩⟩
    case rest =>
     clear HC51
     try clear c1
     try clear c2
     try clear p2
     try clear c3
     try clear c4
     try clear c4b0
     try clear c5
     try clear c6
     try clear c7
     try clear c19
     try clear c20
     try clear c31
     try clear c32
     try clear c34
     try clear c35
     try clear c38
     try clear c39
     try clear c41
     try clear c42
     try clear c46
     try clear c49
     try clear c56
     try clear c57
     try clear c60
     try clear c60b0
     try clear c62
     try clear hcz20_0 hcz20_1 hcz20_2 hcz20_3 hcz20_4 hcz20_5
     try clear hcz27_0 hcz27_1 hcz27_2 hcz27_3 hcz27_4 hcz27_5
     try clear hcz33_0 hcz33_1 hcz33_2 hcz33_3 hcz33_4 hcz33_5
     try clear hcz58_0 hcz58_1 hcz58_2 hcz58_3 hcz58_4 hcz58_5
     try clear hcz8_0 hcz8_1 hcz8_2 hcz8_3 hcz8_4 hcz8_5
     try clear hfz20_0 hfz20_1 hfz20_2 hfz20_3 hfz20_4 hfz20_5
     try clear hfz27_0 hfz27_1 hfz27_2 hfz27_3 hfz27_4 hfz27_5
     try clear hfz33_0 hfz33_1 hfz33_2 hfz33_3 hfz33_4 hfz33_5
     try clear hfz58_0 hfz58_1 hfz58_2 hfz58_3 hfz58_4 hfz58_5
     try clear hfz8_0 hfz8_1 hfz8_2 hfz8_3 hfz8_4 hfz8_5
     try clear p2
     obtain ⟨kq, x67_50, rfl, HA, HJ50, HO_6, HO_9, HO_334000, BK306, BK307, BK333, HB⟩ := hcut
     have hl334000_50 := (Kd.R_reads' HO_334000.out).1
     rw [hl334000_50] at HO_334000
     (try simp only [hl334000_50])
     (try simp only [hl334000_50] at BK306)
     (try simp only [hl334000_50] at BK307)
     (try simp only [hl334000_50] at BK333)
     (try simp only [hl334000_50] at HO_6)
     (try simp only [hl334000_50] at HO_9)
     cases kq with
     | zero => exact absurd HA.out (by simp [laws_FnExactWayTo.j1])
     | succ kj50 =>
      have H := HA.out
      clear HA
      simp only [laws_FnExactWayTo.j1] at H
      by_cases c69 : x67_50 = true
      ·subst c69
       have H1 : (some false) = some r := by rw [if_pos rfl] at H; exact H
       clear H
       have H := H1
       clear H1
       obtain rfl := Option.some.inj H
       go_wp2
       go_ret
       exact ⟨by first | rfl | (simp [zn, zo] <;> rfl) | (simp [*, zn, zo] <;> rfl), sB⟩
      replace c69 := Bool.eq_false_iff.mpr c69
      subst c69
      have H1 : ((laws_markMoveS.f kj50 t338 1).bind fun bt355 => ((laws_heldMoveS.f kj50 bt355.2 1).bind fun t357 => (if t357 < 0 then (some false) else (if t357 = bt355.1 then ((laws_toPuzzle.f kj50 l0_0 a0_1 a0_2 a0_3 a0_4 a0_5).bind fun bt358 => ((laws_toWater.f kj50 a1_0 a1_1 a1_2 a1_3).bind fun bt366 => ((impl_WayTo.f kj50 bt358.1 bt358.2.1 bt358.2.2.1 bt358.2.2.2.1 bt358.2.2.2.2.1 bt358.2.2.2.2.2 bt366.1 bt366.2.1 bt366.2.2.1 bt366.2.2.2).bind fun bt370 => ((laws_eqMoveS.f kj50 bt370.1 t321).bind fun t374 => (if t374 = true then (laws_FnExactWayTo.j2 kj50 bt355.2 bt355.1 (bt370.2 != t324)) else (laws_FnExactWayTo.j2 kj50 bt355.2 bt355.1 true)))))) else (some false))))) = some r := by rw [if_neg (show ¬ (false = true) by decide)] at H; exact H
      clear H
      have H := H1
      clear H1
      replace H := Option.bind_eq_some_iff.mp H
      obtain ⟨⟨t355, t356⟩, A700, H⟩ := H
      replace H : ((laws_heldMoveS.f kj50 t356 1).bind fun t357 => (if t357 < 0 then (some false) else (if t357 = t355 then ((laws_toPuzzle.f kj50 l0_0 a0_1 a0_2 a0_3 a0_4 a0_5).bind fun bt358 => ((laws_toWater.f kj50 a1_0 a1_1 a1_2 a1_3).bind fun bt366 => ((impl_WayTo.f kj50 bt358.1 bt358.2.1 bt358.2.2.1 bt358.2.2.2.1 bt358.2.2.2.2.1 bt358.2.2.2.2.2 bt366.1 bt366.2.1 bt366.2.2.1 bt366.2.2.2).bind fun bt370 => ((laws_eqMoveS.f kj50 bt370.1 t321).bind fun t374 => (if t374 = true then (laws_FnExactWayTo.j2 kj50 t356 t355 (bt370.2 != t324)) else (laws_FnExactWayTo.j2 kj50 t356 t355 true)))))) else (some false)))) = some r := H
      have A70 := zb.mk A700
      clear A700
      replace H := Option.bind_eq_some_iff.mp H
      obtain ⟨t357, A710, H⟩ := H
      replace H : (if t357 < 0 then (some false) else (if t357 = t355 then ((laws_toPuzzle.f kj50 l0_0 a0_1 a0_2 a0_3 a0_4 a0_5).bind fun bt358 => ((laws_toWater.f kj50 a1_0 a1_1 a1_2 a1_3).bind fun bt366 => ((impl_WayTo.f kj50 bt358.1 bt358.2.1 bt358.2.2.1 bt358.2.2.2.1 bt358.2.2.2.2.1 bt358.2.2.2.2.2 bt366.1 bt366.2.1 bt366.2.2.1 bt366.2.2.2).bind fun bt370 => ((laws_eqMoveS.f kj50 bt370.1 t321).bind fun t374 => (if t374 = true then (laws_FnExactWayTo.j2 kj50 t356 t355 (bt370.2 != t324)) else (laws_FnExactWayTo.j2 kj50 t356 t355 true)))))) else (some false))) = some r := H
      have A71 := zb.mk A710
      clear A710
      by_cases c72 : t357 < 0
      ·rw [if_pos c72] at H
       have c72b0 : decide (t357 < 0) = true := decide_eq_true c72
       clear c72
       obtain rfl := Option.some.inj H
       obtain ⟨Ao73, co73, eo73⟩ := Kd.R_slice HO_9.out
       subst eo73
       go_wp2_with (first | ((with_reducible refine zt (f := 43) rfl ?_); refine gz (some 70) Try.func43 #[.slice Ao73 t338.length co73, .int .i64 1] rfl rfl ?_; (with_reducible refine (laws_markMoveS.calls kj50 (fun k_ => some k_ = (.slice Ao73 t338.length co73 : Value).ownBlock) (.slice Ao73 t338.length co73) t338 1 t355 t356 w _ ?side1 ?side2 A70.out).mono ?_); (case side1 => repeat (first | (with_reducible first | exact HB.out | apply zj | apply zf | apply zi | refine zk ?_ GE306.out | refine zk ?_ GE307.out | refine zk ?_ GE333.out) | exact HB.out)); (case side2 => exact Kd.R_tight rfl HO_9.out); rintro e w74 ⟨rfl, hy0, hb, hkp⟩; refine ⟨_, rfl, ?_⟩; replace HO_6 := zb.mk (Kd.R_mono (ok' := fun k_ => some k_ ≠ (.slice Ao73 t338.length co73 : Value).ownBlock) (Kd.R_keptB (HO_6.out) hkp (fun k_ hk_ hs_ => (hk_) hs_)) (fun k_ hk_ => hk_.1)); replace HO_334000 := zb.mk (Kd.R_mono (ok' := fun k_ => True) (Kd.R_keptB ((Kd.R_apart' HO_334000.out (Kd.R_typed HO_9.out) (by decide))) hkp (fun k_ hk_ hs_ => (hk_.2) hs_)) (fun k_ hk_ => trivial)); replace BK306 := zb.mk (zfb (uK BK306) hkp (fun hs_ => (fun e_ => (Kd.R_ne HO_9.out BK306.out (by decide)) e_) hs_)); replace BK307 := zb.mk (zfb (uK BK307) hkp (fun hs_ => (fun e_ => (Kd.R_ne HO_9.out BK307.out (by decide)) e_) hs_)); replace BK333 := zb.mk (zfb (uK BK333) hkp (fun hs_ => (fun e_ => (Kd.R_ne HO_9.out BK333.out (by decide)) e_) hs_)); replace HO_9 := zb.mk (Kd.R_reok rfl hy0 (fun k_ e_ => HO_9.out.1 k_ e_)); replace HB := zb.mk hb; (try clear hb); (try clear hkp); (try clear hy0)) | ((with_reducible refine zt (f := 44) rfl ?_); refine zua (some 73) rfl rfl Try.func44 (by kernel_rfl) rfl #[.slice Ao73 t356.length co73, .int .i64 1] rfl (by (try simp only [List.map_toArray, List.map_cons, List.map_nil]); first | done | (rw [show t356.length = t338.length from (Kd.R_reads' HO_9.out).1.symm] <;> rfl) | rfl | (simp only [List.length_drop, List.length_take]; rfl)) ?_; (with_reducible refine (laws_heldMoveS.calls kj50 _ _ t356 1 t357 _ ?side1 ?side2 A71.out).mono ?_); (case side1 => exact uQ HO_9); (case side2 => rw [show t356.length = t338.length from (Kd.R_reads' HO_9.out).1.symm]; exact (Kd.R_reads' HO_9.out).2.1); rintro e w' ⟨rfl, ⟨nd, rfl⟩⟩; refine ⟨_, rfl, ?_⟩))
       go_ret
       exact ⟨by first | rfl | (simp [zn, zo] <;> rfl) | (simp [*, zn, zo] <;> rfl), sB⟩
      rw [if_neg c72] at H
      have c72b0 : decide (t357 < 0) = false := decide_eq_false c72
      clear c72
      by_cases c75 : t357 = t355
      ·rw [if_pos c75] at H
       have c75b0 : (t357 == t355) = true := beq_iff_eq.mpr c75
       have c75b1 : (t357 != t355) = false := bne_eq_false_iff_eq.mpr c75
       clear c75
       replace H := Option.bind_eq_some_iff.mp H
       obtain ⟨⟨t358, t361, t362, t363, t364, t365⟩, A760, H⟩ := H
       replace H : ((laws_toWater.f kj50 a1_0 a1_1 a1_2 a1_3).bind fun bt366 => ((impl_WayTo.f kj50 t358 t361 t362 t363 t364 t365 bt366.1 bt366.2.1 bt366.2.2.1 bt366.2.2.2).bind fun bt370 => ((laws_eqMoveS.f kj50 bt370.1 t321).bind fun t374 => (if t374 = true then (laws_FnExactWayTo.j2 kj50 t356 t355 (bt370.2 != t324)) else (laws_FnExactWayTo.j2 kj50 t356 t355 true))))) = some r := H
       have A76 := zb.mk A760
       clear A760
       replace H := Option.bind_eq_some_iff.mp H
       obtain ⟨⟨t366, t367, t368, t369⟩, A770, H⟩ := H
       replace H : ((impl_WayTo.f kj50 t358 t361 t362 t363 t364 t365 t366 t367 t368 t369).bind fun bt370 => ((laws_eqMoveS.f kj50 bt370.1 t321).bind fun t374 => (if t374 = true then (laws_FnExactWayTo.j2 kj50 t356 t355 (bt370.2 != t324)) else (laws_FnExactWayTo.j2 kj50 t356 t355 true)))) = some r := H
       have A77 := zb.mk A770
       clear A770
       replace H := Option.bind_eq_some_iff.mp H
       obtain ⟨⟨t370, t373⟩, A780, H⟩ := H
       replace H : ((laws_eqMoveS.f kj50 t370 t321).bind fun t374 => (if t374 = true then (laws_FnExactWayTo.j2 kj50 t356 t355 (t373 != t324)) else (laws_FnExactWayTo.j2 kj50 t356 t355 true))) = some r := H
       have A78 := zb.mk A780
       clear A780
       have HC79 := zb.mk H
       clear H
       obtain ⟨Ao80, co80, eo80⟩ := Kd.R_slice HO_9.out
       subst eo80
       try go_wp2_with (first | ((with_reducible refine zt (f := 43) rfl ?_); refine gz (some 70) Try.func43 #[.slice Ao80 t338.length co80, .int .i64 1] rfl rfl ?_; (with_reducible refine (laws_markMoveS.calls kj50 (fun k_ => some k_ = (.slice Ao80 t338.length co80 : Value).ownBlock) (.slice Ao80 t338.length co80) t338 1 t355 t356 w _ ?side1 ?side2 A70.out).mono ?_); (case side1 => repeat (first | (with_reducible first | exact HB.out | apply zj | apply zf | apply zi | refine zk ?_ GE306.out | refine zk ?_ GE307.out | refine zk ?_ GE333.out) | exact HB.out)); (case side2 => exact Kd.R_tight rfl HO_9.out); rintro e w81 ⟨rfl, hy0, hb, hkp⟩; refine ⟨_, rfl, ?_⟩; replace HO_6 := zb.mk (Kd.R_mono (ok' := fun k_ => some k_ ≠ (.slice Ao80 t338.length co80 : Value).ownBlock) (Kd.R_keptB (HO_6.out) hkp (fun k_ hk_ hs_ => (hk_) hs_)) (fun k_ hk_ => hk_.1)); replace HO_334000 := zb.mk (Kd.R_mono (ok' := fun k_ => True) (Kd.R_keptB ((Kd.R_apart' HO_334000.out (Kd.R_typed HO_9.out) (by decide))) hkp (fun k_ hk_ hs_ => (hk_.2) hs_)) (fun k_ hk_ => trivial)); replace BK306 := zb.mk (zfb (uK BK306) hkp (fun hs_ => (fun e_ => (Kd.R_ne HO_9.out BK306.out (by decide)) e_) hs_)); replace BK307 := zb.mk (zfb (uK BK307) hkp (fun hs_ => (fun e_ => (Kd.R_ne HO_9.out BK307.out (by decide)) e_) hs_)); replace BK333 := zb.mk (zfb (uK BK333) hkp (fun hs_ => (fun e_ => (Kd.R_ne HO_9.out BK333.out (by decide)) e_) hs_)); replace HO_9 := zb.mk (Kd.R_reok rfl hy0 (fun k_ e_ => HO_9.out.1 k_ e_)); replace HB := zb.mk hb; (try clear hb); (try clear hkp); (try clear hy0)) | ((with_reducible refine zt (f := 44) rfl ?_); refine zua (some 73) rfl rfl Try.func44 (by kernel_rfl) rfl #[.slice Ao80 t356.length co80, .int .i64 1] rfl (by (try simp only [List.map_toArray, List.map_cons, List.map_nil]); first | done | (rw [show t356.length = t338.length from (Kd.R_reads' HO_9.out).1.symm] <;> rfl) | rfl | (simp only [List.length_drop, List.length_take]; rfl)) ?_; (with_reducible refine (laws_heldMoveS.calls kj50 _ _ t356 1 t357 _ ?side1 ?side2 A71.out).mono ?_); (case side1 => exact uQ HO_9); (case side2 => rw [show t356.length = t338.length from (Kd.R_reads' HO_9.out).1.symm]; exact (Kd.R_reads' HO_9.out).2.1); rintro e w' ⟨rfl, ⟨nd, rfl⟩⟩; refine ⟨_, rfl, ?_⟩))
       (try (rw [drewN_self w81]; generalize hq_ : World.drewN w81 _ = w81; have n0_ : zb (Kd.R (Kd.int .i16) 25 w81 w.heap.size (fun _ => True) (.slice Ao30 t353.length co30) t353) := ⟨by rw [← hq_]; exact (uR HO_334000)⟩; have n1_ : zb (Kd.R k80 80 w81 w.heap.size (fun k_ => some k_ ≠ (.slice Ao80 t338.length co80 : Value).ownBlock) v322 t321) := ⟨by rw [← hq_]; exact (uR HO_6)⟩; have n2_ : zb (Kd.R k80 80 w81 w.heap.size (fun k_ => some k_ ≠ (v322 : Value).ownBlock) (.slice Ao80 t338.length co80) t356) := ⟨by rw [← hq_]; exact (uR HO_9)⟩; have n3_ : zb (w81.heap[gb306]? = some (.cells #[.slice A0_0 l0_0.length c0_0, .int .i16 a0_1, .int .i16 a0_2, .int .i16 a0_3, .int .i16 a0_4, .bool a0_5] 53 (0, 0))) := ⟨by rw [← hq_]; exact (uK BK306)⟩; have n4_ : zb (w81.heap[gb307]? = some (.cells #[.int .i16 a1_0, .int .i16 a1_1, .int .i16 a1_2, .int .i16 a1_3] 26 (0, 0))) := ⟨by rw [← hq_]; exact (uK BK307)⟩; have n5_ : zb (w81.heap[gb333]? = some (.cells #[.slice Ao30 t353.length co30, .int .i16 t328, .int .i16 t329, .int .i16 t330, .int .i16 t331, .bool t332] 29 (0, 0))) := ⟨by rw [← hq_]; exact (uK BK333)⟩; have n6_ : zb (Below w.heap.size w w81) := ⟨by rw [← hq_]; exact sB⟩; clear HO_334000 HO_6 HO_9 BK306 BK307 BK333 HB hq_; have HO_334000 := n0_; have HO_6 := n1_; have HO_9 := n2_; have BK306 := n3_; have BK307 := n4_; have BK333 := n5_; have HB := n6_; clear n0_ n1_ n2_ n3_ n4_ n5_ n6_))
       have n0_ := zb.mk (Kd.R_drew HO_6.out)
       have n1_ := zb.mk (Kd.R_drew HO_9.out)
       have n2_ := zb.mk (Kd.R_drew HO_334000.out)
       have n3_ := zb.mk (zh BK306.out)
       have n4_ := zb.mk (zh BK307.out)
       have n5_ := zb.mk (zh BK333.out)
       have n6_ := zb.mk (zi HB.out)
       clear HO_6
       clear HO_9
       clear HO_334000
       clear BK306
       clear BK307
       clear BK333
       clear HB
       have HO_6 := n0_
       have HO_9 := n1_
       have HO_334000 := n2_
       have BK306 := n3_
       have BK307 := n4_
       have BK333 := n5_
       have HB := n6_
       clear n0_ n1_ n2_ n3_ n4_ n5_ n6_
       refine zcc (n := 10) (S := fun w' => w'.cell? ⟨gb306, 0, none⟩ = some (.slice A0_0 l0_0.length c0_0) ∧ w'.cell? ⟨gb306, 1, none⟩ = some (.int .i16 a0_1) ∧ w'.cell? ⟨gb306, 2, none⟩ = some (.int .i16 a0_2) ∧ w'.cell? ⟨gb306, 3, none⟩ = some (.int .i16 a0_3) ∧ w'.cell? ⟨gb306, 4, none⟩ = some (.int .i16 a0_4) ∧ w'.cell? ⟨gb306, 5, none⟩ = some (.bool a0_5) ∧ w'.cell? ⟨gb307, 0, none⟩ = some (.int .i16 a1_0) ∧ w'.cell? ⟨gb307, 1, none⟩ = some (.int .i16 a1_1) ∧ w'.cell? ⟨gb307, 2, none⟩ = some (.int .i16 a1_2) ∧ w'.cell? ⟨gb307, 3, none⟩ = some (.int .i16 a1_3)) (ds := []) #[false, false, false, false, false, false, false, false, false, false] (by kernel_rfl) rfl rfl ⟨(za BK306.out 0).trans rfl, (za BK306.out 1).trans rfl, (za BK306.out 2).trans rfl, (za BK306.out 3).trans rfl, (za BK306.out 4).trans rfl, (za BK306.out 5).trans rfl, (za BK307.out 0).trans rfl, (za BK307.out 1).trans rfl, (za BK307.out 2).trans rfl, (za BK307.out 3).trans rfl⟩ (fun hHeld => ?_); refine zab laws_FnExactWayTo.tab24 laws_FnExactWayTo.bits24 (fun HT_ HW_ => ?_)
       generalize w81.drew = w82 at HO_6 HO_9 HO_334000 BK306 BK307 BK333 HB hHeld ⊢
       refine take_ (i := 0) (N := some 80) (v := ?_) (a' := ?_) #[true, false, false, false, false, false, false, false, false, false] rfl rfl (zqa HT_.out HW_.out (by kernel_rfl)) (fun _ _ _ h => h) (Or.inl ⟨by rfl, ?_⟩) hHeld ?_ ?_
       rotate_left
       ·rintro w' ⟨s0, s1, s2, s3, s4, s5, s6, s7, s8, s9⟩
        go_simp
        with_reducible rfl
       rotate_left
       ·simp only [Act.put, List.setIfInBounds_toArray, List.set_cons_zero, List.set_cons_succ, zaa, zz]
        rfl
       refine take_ (i := 2) (N := some 82) (v := ?_) (a' := ?_) #[true, false, true, false, false, false, false, false, false, false] rfl rfl (zqa HT_.out HW_.out (by kernel_rfl)) (fun _ _ _ h => h) (Or.inl ⟨by rfl, ?_⟩) hHeld ?_ ?_
       rotate_left
       ·rintro w' ⟨s0, s1, s2, s3, s4, s5, s6, s7, s8, s9⟩
        go_simp
        with_reducible rfl
       rotate_left
       ·simp only [Act.put, List.setIfInBounds_toArray, List.set_cons_zero, List.set_cons_succ, zaa, zz]
        rfl
       refine one_ (i := 1) (N := some 81) #[true, true, true, false, false, false, false, false, false, false] rfl rfl (zbb HT_.out (by kernel_rfl)) (by decide) (fun K hK => ?_)
       refine zkc Try.func34 (by kernel_rfl) rfl #[.agg #[.slice A0_0 l0_0.length c0_0, .int .i16 a0_1, .int .i16 a0_2, .int .i16 a0_3, .int .i16 a0_4, .bool a0_5]] (by rfl) rfl rfl (by (try simp only [List.map_toArray, List.map_cons, List.map_nil]); first | done | rfl | (simp only [List.length_drop, List.length_take]; rfl)) ?_
       with_reducible refine (laws_toPuzzle.calls kj50 _ _ l0_0 a0_1 a0_2 a0_3 a0_4 a0_5 t358 t361 t362 t363 t364 t365 _ ?side1 ?side2 A76.out).mono ?_
       (case side1 => exact uC HR0_0 HB)
       (case side2 => exact HC0_0.out)
       rintro e w83 ⟨v359, rfl, ho0, hb⟩
       refine ⟨_, rfl, ?_⟩
       have n0_ := dR HO_6 hb
       have n1_ := dR HO_9 hb
       have n2_ := zb.mk (Kd.R_elder' (uR HO_334000) (Kd.R_base ho0) hb)
       have n3_ := zb.mk (Kd.R_lower (Kd.R_new' ho0 (Kd.R_lt (uR HO_334000))) (zq sB))
       have n4_ := dK BK306 hb
       have n5_ := dK BK307 hb
       have n6_ := dK BK333 hb
       have n7_ := zb.mk (zm sB hb)
       clear HO_6
       clear HO_9
       clear HO_334000
       clear BK306
       clear BK307
       clear BK333
       clear HB
       have HO_6 := n0_
       have HO_9 := n1_
       have HO_334000 := n2_
       have HO360 := n3_
       have BK306 := n4_
       have BK307 := n5_
       have BK333 := n6_
       have HB := n7_
       clear n0_ n1_ n2_ n3_ n4_ n5_ n6_ n7_
       (try clear hb)
       (try clear hb2)
       (try clear hk)
       (try clear hi)
       (try clear ho0)
       refine hK.out _ _ ⟨(za BK306.out 0).trans rfl, (za BK306.out 1).trans rfl, (za BK306.out 2).trans rfl, (za BK306.out 3).trans rfl, (za BK306.out 4).trans rfl, (za BK306.out 5).trans rfl, (za BK307.out 0).trans rfl, (za BK307.out 1).trans rfl, (za BK307.out 2).trans rfl, (za BK307.out 3).trans rfl⟩ (fun hHeld => ?_)
       clear hK K
       refine zra (a' := ?_) ?_ ?_
       rotate_left
       ·show Act.put _ (some 81) _ = _
        simp only [Act.put, List.setIfInBounds_toArray, List.set_cons_zero, List.set_cons_succ, zaa, zz]
        rfl
       refine one_ (i := 3) (N := some 83) #[true, true, true, true, false, false, false, false, false, false] rfl rfl (zbb HT_.out (by kernel_rfl)) (by decide) (fun K hK => ?_)
       refine zkc Try.func41 (by kernel_rfl) rfl #[.agg #[.int .i16 a1_0, .int .i16 a1_1, .int .i16 a1_2, .int .i16 a1_3]] (by rfl) rfl rfl (by (try simp only [List.map_toArray, List.map_cons, List.map_nil]); first | done | rfl | (simp only [List.length_drop, List.length_take]; rfl)) ?_
       with_reducible refine (laws_toWater.calls kj50 a1_0 a1_1 a1_2 a1_3 t366 t367 t368 t369 _ A77.out).mono ?_
       rintro e w84 ⟨rfl, hb⟩
       refine ⟨_, rfl, ?_⟩
       have n0_ := dR HO_6 hb
       have n1_ := dR HO_9 hb
       have n2_ := dR HO_334000 hb
       have n3_ := dR HO360 hb
       have n4_ := dK BK306 hb
       have n5_ := dK BK307 hb
       have n6_ := dK BK333 hb
       have n7_ := zb.mk (zm sB hb)
       clear HO_6
       clear HO_9
       clear HO_334000
       clear HO360
       clear BK306
       clear BK307
       clear BK333
       clear HB
       have HO_6 := n0_
       have HO_9 := n1_
       have HO_334000 := n2_
       have HO360 := n3_
       have BK306 := n4_
       have BK307 := n5_
       have BK333 := n6_
       have HB := n7_
       clear n0_ n1_ n2_ n3_ n4_ n5_ n6_ n7_
       (try clear hb)
       (try clear hb2)
       (try clear hk)
       (try clear hi)
       obtain ⟨Ao85, co85, eo85⟩ := Kd.R_slice HO360.out
       (first | subst eo85 | (injection eo85 with f1_ f2_ f3_; have f4_ := f1_.symm; have f5_ := f3_.symm; clear f1_ f2_ f3_; subst f4_; subst f5_))
       refine hK.out _ _ ⟨(za BK306.out 0).trans rfl, (za BK306.out 1).trans rfl, (za BK306.out 2).trans rfl, (za BK306.out 3).trans rfl, (za BK306.out 4).trans rfl, (za BK306.out 5).trans rfl, (za BK307.out 0).trans rfl, (za BK307.out 1).trans rfl, (za BK307.out 2).trans rfl, (za BK307.out 3).trans rfl⟩ (fun hHeld => ?_)
       clear hK K
       refine zra (a' := ?_) ?_ ?_
       rotate_left
       ·show Act.put _ (some 83) _ = _
        simp only [Act.put, List.setIfInBounds_toArray, List.set_cons_zero, List.set_cons_succ, zaa, zz]
        rfl
       refine one_ (i := 4) (N := some 84) #[true, true, true, true, true, false, false, false, false, false] rfl rfl (zbb HT_.out (by kernel_rfl)) (by decide) (fun K hK => ?_)
       refine zkc Try.func19 (by kernel_rfl) rfl #[.agg #[.slice Ao85 t358.length co85, .int .i16 t361, .int .i16 t362, .int .i16 t363, .int .i16 t364, .bool t365], .agg #[.int .i16 t366, .int .i16 t367, .int .i16 t368, .int .i16 t369]] (by rfl) rfl rfl (by (try simp only [List.map_toArray, List.map_cons, List.map_nil]); first | done | rfl | (simp only [List.length_drop, List.length_take]; rfl)) ?_
       with_reducible refine (impl_WayTo.calls kj50 _ _ t358 t361 t362 t363 t364 t365 t366 t367 t368 t369 t370 t373 _ ?side1 ?side2 A78.out).mono ?_
       (case side1 => exact uQ HO360)
       (case side2 => exact (Kd.R_reads' HO360.out).2.1)
       rintro e w86 ⟨v371, rfl, ho0, hb⟩
       refine ⟨_, rfl, ?_⟩
       have n0_ := zb.mk (Kd.R_elder' (uR HO_6) (Kd.R_base ho0) hb)
       have n1_ := zb.mk (Kd.R_elder' (uR HO_9) (Kd.R_base ho0) hb)
       have n2_ := dR HO_334000 hb
       have n3_ := dR HO360 hb
       have n4_ := zb.mk (Kd.R_lower (Kd.R_new' (Kd.R_new' ho0 (Kd.R_lt (uR HO_6))) (Kd.R_lt (uR HO_9))) (zq sB))
       have n5_ := dK BK306 hb
       have n6_ := dK BK307 hb
       have n7_ := dK BK333 hb
       have n8_ := zb.mk (zm sB hb)
       clear HO_6
       clear HO_9
       clear HO_334000
       clear HO360
       clear BK306
       clear BK307
       clear BK333
       clear HB
       have HO_6 := n0_
       have HO_9 := n1_
       have HO_334000 := n2_
       have HO360 := n3_
       have HO372 := n4_
       have BK306 := n5_
       have BK307 := n6_
       have BK333 := n7_
       have HB := n8_
       clear n0_ n1_ n2_ n3_ n4_ n5_ n6_ n7_ n8_
       (try clear hb)
       (try clear hb2)
       (try clear hk)
       (try clear hi)
       (try clear ho0)
       refine hK.out _ _ ⟨(za BK306.out 0).trans rfl, (za BK306.out 1).trans rfl, (za BK306.out 2).trans rfl, (za BK306.out 3).trans rfl, (za BK306.out 4).trans rfl, (za BK306.out 5).trans rfl, (za BK307.out 0).trans rfl, (za BK307.out 1).trans rfl, (za BK307.out 2).trans rfl, (za BK307.out 3).trans rfl⟩ (fun hHeld => ?_)
       clear hK K
       refine zra (a' := ?_) ?_ ?_
       rotate_left
       ·show Act.put _ (some 84) _ = _
        simp only [Act.put, List.setIfInBounds_toArray, List.set_cons_zero, List.set_cons_succ, zaa, zz]
        rfl
       refine zfa (i := 5) (N := some 79) (v := ?_) (a' := ?_) #[true, true, true, true, true, true, false, false, false, false] rfl rfl (zba HT_.out (by kernel_rfl)) (fun _ _ _ h => h) (Or.inl ⟨by rfl, ?_⟩) ?_ ?_
       rotate_left
       ·intro w'
        go_simp
        with_reducible rfl
       rotate_left
       ·simp only [Act.put, List.setIfInBounds_toArray, List.set_cons_zero, List.set_cons_succ, zaa, zz]
        rfl
       refine zfa (i := 6) (N := some 85) (v := ?_) (a' := ?_) #[true, true, true, true, true, true, true, false, false, false] rfl rfl (zba HT_.out (by kernel_rfl)) (fun _ _ _ h => h) (Or.inl ⟨by rfl, ?_⟩) ?_ ?_
       rotate_left
       ·intro w'
        go_simp
        with_reducible rfl
       rotate_left
       ·simp only [Act.put, List.setIfInBounds_toArray, List.set_cons_zero, List.set_cons_succ, zaa, zz]
        rfl
       refine zfa (i := 7) (N := some 86) (v := ?_) (a' := ?_) #[true, true, true, true, true, true, true, true, false, false] rfl rfl (zba HT_.out (by kernel_rfl)) (fun _ _ _ h => h) (Or.inl ⟨by rfl, ?_⟩) ?_ ?_
       rotate_left
       ·intro w'
        go_simp
        with_reducible rfl
       rotate_left
       ·simp only [Act.put, List.setIfInBounds_toArray, List.set_cons_zero, List.set_cons_succ, zaa, zz]
        rfl
       refine zfa (i := 8) (N := some 14) (v := ?_) (a' := ?_) #[true, true, true, true, true, true, true, true, true, false] rfl rfl (zba HT_.out (by kernel_rfl)) (fun _ _ _ h => h) (Or.inl ⟨by rfl, ?_⟩) ?_ ?_
       rotate_left
       ·intro w'
        go_simp
        with_reducible rfl
       rotate_left
       ·simp only [Act.put, List.setIfInBounds_toArray, List.set_cons_zero, List.set_cons_succ, zaa, zz]
        rfl
       refine zfa (i := 9) (N := some 15) (v := ?_) (a' := ?_) #[true, true, true, true, true, true, true, true, true, true] rfl rfl (zba HT_.out (by kernel_rfl)) (fun _ _ _ h => h) (Or.inl ⟨by rfl, ?_⟩) ?_ ?_
       rotate_left
       ·intro w'
        go_simp
        with_reducible rfl
       rotate_left
       ·simp only [Act.put, List.setIfInBounds_toArray, List.set_cons_zero, List.set_cons_succ, zaa, zz]
        rfl
       refine zxc (zwb HT_.out (by kernel_rfl)) ?_
       go_upto_region 25 with (fail)
       go_cut [95] (fun v95 wc => ∃ (kq : Nat) (x95_78 : Bool), v95 = .bool x95_78 ∧ zb (laws_FnExactWayTo.j2 kq t356 t355 x95_78 = some r) ∧ zb (kq ≤ kj50) ∧ zb (Kd.R k80 80 wc w.heap.size (fun _ => True) (.slice Ao80 t338.length co80) t356) ∧ zb (Kd.R (Kd.int .i16) 25 wc w.heap.size (fun _ => True) (.slice Ao30 t353.length co30) t353) ∧ zb (wc.heap[gb306]? = some (.cells #[(.slice A0_0 l0_0.length c0_0), .int .i16 a0_1, .int .i16 a0_2, .int .i16 a0_3, .int .i16 a0_4, .bool a0_5] 53 (0, 0))) ∧ zb (wc.heap[gb307]? = some (.cells #[.int .i16 a1_0, .int .i16 a1_1, .int .i16 a1_2, .int .i16 a1_3] 26 (0, 0))) ∧ zb (wc.heap[gb333]? = some (.cells #[(.slice Ao30 t353.length co30), .int .i16 t328, .int .i16 t329, .int .i16 t330, .int .i16 t331, .bool t332] 29 (0, 0))) ∧ zb (Below w.heap.size w wc))
       case first =>
        have H := HC79.out
        clear HC79
        replace H := Option.bind_eq_some_iff.mp H
        obtain ⟨t374, A870, H⟩ := H
        replace H : (if t374 = true then (laws_FnExactWayTo.j2 kj50 t356 t355 (t373 != t324)) else (laws_FnExactWayTo.j2 kj50 t356 t355 true)) = some r := H
        have A87 := zb.mk A870
        clear A870
        by_cases c88 : t374 = true
        ·subst c88
         have H1 : (laws_FnExactWayTo.j2 kj50 t356 t355 (t373 != t324)) = some r := by rw [if_pos rfl] at H; exact H
         clear H
         have H := H1
         clear H1
         have H' := zb.mk H
         clear H
         obtain ⟨Ao89, co89, eo89⟩ := Kd.R_slice HO372.out
         subst eo89
         obtain ⟨Ao90, co90, eo90⟩ := Kd.R_slice HO_6.out
         subst eo90
         go_wp2_with (first | ((with_reducible refine zt (f := 42) rfl ?_); refine gz (some 89) Try.func42 #[.slice Ao89 t370.length co89, .slice Ao90 t321.length co90] rfl rfl ?_; (with_reducible refine (laws_eqMoveS.calls kj50 _ _ t370 _ _ t321 true _ ?side1 ?side2 ?side3 ?side4 A87.out).mono ?_); (case side1 => exact uQ HO372); (case side2 => exact (Kd.R_reads' HO372.out).2.1); (case side3 => exact uQ HO_6); (case side4 => exact (Kd.R_reads' HO_6.out).2.1); rintro e w91 ⟨rfl, hb⟩; refine ⟨_, rfl, ?_⟩; replace HO_6 := dR HO_6 hb; replace HO_9 := dR HO_9 hb; replace HO_334000 := dR HO_334000 hb; replace HO360 := dR HO360 hb; replace HO372 := dR HO372 hb; replace BK306 := dK BK306 hb; replace BK307 := dK BK307 hb; replace BK333 := dK BK333 hb; replace HB := zb.mk (zm sB hb); try clear hb))
         go_meet
         case rel => exact ⟨_, ((t373 != t324)), (by first | rfl | (simp; done) | (simp [*]; done)), H', ⟨by have := HJ15.out; have := HJ50.out; first | omega | exact Nat.le_refl _⟩, ⟨by (try simp only [hl334000_50]); (with_reducible repeat (first | apply Kd.R_alloc | apply Kd.R_drewN | apply Kd.R_drew)); exact Kd.R_mono HO_9.out (fun _ hk => trivial)⟩, ⟨by (try simp only [hl334000_50]); (with_reducible repeat (first | apply Kd.R_alloc | apply Kd.R_drewN | apply Kd.R_drew)); exact Kd.R_mono HO_334000.out (fun _ hk => trivial)⟩, ⟨by (try simp only [hl334000_50]); (with_reducible repeat (first | refine zg ?_ _ | refine zh ?_ | refine ze ?_ _)); exact BK306.out⟩, ⟨by (try simp only [hl334000_50]); (with_reducible repeat (first | refine zg ?_ _ | refine zh ?_ | refine ze ?_ _)); exact BK307.out⟩, ⟨by (try simp only [hl334000_50]); (with_reducible repeat (first | refine zg ?_ _ | refine zh ?_ | refine ze ?_ _)); exact BK333.out⟩, ⟨sB⟩⟩
        replace c88 := Bool.eq_false_iff.mpr c88
        subst c88
        have H1 : (laws_FnExactWayTo.j2 kj50 t356 t355 true) = some r := by rw [if_neg (show ¬ (false = true) by decide)] at H; exact H
        clear H
        have H := H1
        clear H1
        have H' := zb.mk H
        clear H
        obtain ⟨Ao92, co92, eo92⟩ := Kd.R_slice HO372.out
        subst eo92
        obtain ⟨Ao93, co93, eo93⟩ := Kd.R_slice HO_6.out
        subst eo93
        go_wp2_with (first | ((with_reducible refine zt (f := 42) rfl ?_); refine gz (some 89) Try.func42 #[.slice Ao92 t370.length co92, .slice Ao93 t321.length co93] rfl rfl ?_; (with_reducible refine (laws_eqMoveS.calls kj50 _ _ t370 _ _ t321 false _ ?side1 ?side2 ?side3 ?side4 A87.out).mono ?_); (case side1 => exact uQ HO372); (case side2 => exact (Kd.R_reads' HO372.out).2.1); (case side3 => exact uQ HO_6); (case side4 => exact (Kd.R_reads' HO_6.out).2.1); rintro e w94 ⟨rfl, hb⟩; refine ⟨_, rfl, ?_⟩; replace HO_6 := dR HO_6 hb; replace HO_9 := dR HO_9 hb; replace HO_334000 := dR HO_334000 hb; replace HO360 := dR HO360 hb; replace HO372 := dR HO372 hb; replace BK306 := dK BK306 hb; replace BK307 := dK BK307 hb; replace BK333 := dK BK333 hb; replace HB := zb.mk (zm sB hb); try clear hb))
        go_meet
        case rel => exact ⟨_, (true), (by first | rfl | (simp; done) | (simp [*]; done)), H', ⟨by have := HJ15.out; have := HJ50.out; first | omega | exact Nat.le_refl _⟩, ⟨by (try simp only [hl334000_50]); (with_reducible repeat (first | apply Kd.R_alloc | apply Kd.R_drewN | apply Kd.R_drew)); exact Kd.R_mono HO_9.out (fun _ hk => trivial)⟩, ⟨by (try simp only [hl334000_50]); (with_reducible repeat (first | apply Kd.R_alloc | apply Kd.R_drewN | apply Kd.R_drew)); exact Kd.R_mono HO_334000.out (fun _ hk => trivial)⟩, ⟨by (try simp only [hl334000_50]); (with_reducible repeat (first | refine zg ?_ _ | refine zh ?_ | refine ze ?_ _)); exact BK306.out⟩, ⟨by (try simp only [hl334000_50]); (with_reducible repeat (first | refine zg ?_ _ | refine zh ?_ | refine ze ?_ _)); exact BK307.out⟩, ⟨by (try simp only [hl334000_50]); (with_reducible repeat (first | refine zg ?_ _ | refine zh ?_ | refine ze ?_ _)); exact BK333.out⟩, ⟨sB⟩⟩
       case rest =>
        clear HC79
        try clear c1
        try clear c2
        try clear p2
        try clear c3
        try clear c4
        try clear c4b0
        try clear c5
        try clear c6
        try clear c7
        try clear c8
        try clear c19
        try clear c20
        try clear c31
        try clear c32
        try clear c34
        try clear c35
        try clear c38
        try clear c39
        try clear c41
        try clear c42
        try clear c43
        try clear c44
        try clear c46
        try clear c49
        try clear c56
        try clear c57
        try clear c60
        try clear c60b0
        try clear c62
        try clear c69
        try clear c72
        try clear c72b0
        try clear c75
        try clear c75b0
        try clear c75b1
        try clear c88
        try clear hcz20_0 hcz20_1 hcz20_2 hcz20_3 hcz20_4 hcz20_5
        try clear hcz27_0 hcz27_1 hcz27_2 hcz27_3 hcz27_4 hcz27_5
        try clear hcz33_0 hcz33_1 hcz33_2 hcz33_3 hcz33_4 hcz33_5
        try clear hcz58_0 hcz58_1 hcz58_2 hcz58_3 hcz58_4 hcz58_5
        try clear hcz8_0 hcz8_1 hcz8_2 hcz8_3 hcz8_4 hcz8_5
        try clear hfz20_0 hfz20_1 hfz20_2 hfz20_3 hfz20_4 hfz20_5
        try clear hfz27_0 hfz27_1 hfz27_2 hfz27_3 hfz27_4 hfz27_5
        try clear hfz33_0 hfz33_1 hfz33_2 hfz33_3 hfz33_4 hfz33_5
        try clear hfz58_0 hfz58_1 hfz58_2 hfz58_3 hfz58_4 hfz58_5
        try clear hfz8_0 hfz8_1 hfz8_2 hfz8_3 hfz8_4 hfz8_5
        try clear p2
        obtain ⟨kq, x95_78, rfl, HA, HJ78, HO_9, HO_334000, BK306, BK307, BK333, HB⟩ := hcut
        have hl9_78 := (Kd.R_reads' HO_9.out).1
        rw [hl9_78] at HO_9
        (try simp only [hl9_78])
        (try simp only [hl9_78] at BK306)
        (try simp only [hl9_78] at BK307)
        (try simp only [hl9_78] at BK333)
        (try simp only [hl9_78] at HO_334000)
        cases kq with
        | zero => exact absurd HA.out (by simp [laws_FnExactWayTo.j2])
        | succ kj78 =>
         have H := HA.out
         clear HA
         simp only [laws_FnExactWayTo.j2] at H
         by_cases c95 : x95_78 = true
         ·subst c95
          have H1 : (some false) = some r := by rw [if_pos rfl] at H; exact H
          clear H
          have H := H1
          clear H1
          obtain rfl := Option.some.inj H
          go_wp2
          go_ret
          exact ⟨by first | rfl | (simp [zn, zo] <;> rfl) | (simp [*, zn, zo] <;> rfl), sB⟩
         replace c95 := Bool.eq_false_iff.mpr c95
         subst c95
         have H1 : ((laws_heldMoveS.f kj78 t356 1).bind fun t375 => (if t375 < 0 then (some false) else (if t375 = t355 then (some true) else (some false)))) = some r := by rw [if_neg (show ¬ (false = true) by decide)] at H; exact H
         clear H
         have H := H1
         clear H1
         replace H := Option.bind_eq_some_iff.mp H
         obtain ⟨t375, A960, H⟩ := H
         replace H : (if t375 < 0 then (some false) else (if t375 = t355 then (some true) else (some false))) = some r := H
         have A96 := zb.mk A960
         clear A960
         by_cases c97 : t375 < 0
         ·rw [if_pos c97] at H
          have c97b0 : decide (t375 < 0) = true := decide_eq_true c97
          clear c97
          obtain rfl := Option.some.inj H
          go_wp2_with (first | ((with_reducible refine zt (f := 44) rfl ?_); refine gz (some 98) Try.func44 #[.slice Ao80 t356.length co80, .int .i64 1] rfl rfl ?_; (with_reducible refine (laws_heldMoveS.calls kj78 _ _ t356 1 t375 _ ?side1 ?side2 A96.out).mono ?_); (case side1 => exact uQ HO_9); (case side2 => exact (Kd.R_reads' HO_9.out).2.1); rintro e w' ⟨rfl, ⟨nd, rfl⟩⟩; refine ⟨_, rfl, ?_⟩))
          go_ret
          exact ⟨by first | rfl | (simp [zn, zo] <;> rfl) | (simp [*, zn, zo] <;> rfl), sB⟩
         rw [if_neg c97] at H
         have c97b0 : decide (t375 < 0) = false := decide_eq_false c97
         clear c97
         by_cases c98 : t375 = t355
         ·rw [if_pos c98] at H
          have c98b0 : (t375 == t355) = true := beq_iff_eq.mpr c98
          have c98b1 : (t375 != t355) = false := bne_eq_false_iff_eq.mpr c98
          clear c98
          obtain rfl := Option.some.inj H
          go_wp2_with (first | ((with_reducible refine zt (f := 44) rfl ?_); refine gz (some 98) Try.func44 #[.slice Ao80 t356.length co80, .int .i64 1] rfl rfl ?_; (with_reducible refine (laws_heldMoveS.calls kj78 _ _ t356 1 t375 _ ?side1 ?side2 A96.out).mono ?_); (case side1 => exact uQ HO_9); (case side2 => exact (Kd.R_reads' HO_9.out).2.1); rintro e w' ⟨rfl, ⟨nd, rfl⟩⟩; refine ⟨_, rfl, ?_⟩))
          go_ret
          exact ⟨by first | rfl | (simp [zn, zo] <;> rfl) | (simp [*, zn, zo] <;> rfl), sB⟩
         rw [if_neg c98] at H
         have c98b0 : (t375 == t355) = false := beq_eq_false_iff_ne.mpr c98
         have c98b1 : (t375 != t355) = true := bne_iff_ne.mpr c98
         obtain rfl := Option.some.inj H
         go_wp2_with (first | ((with_reducible refine zt (f := 44) rfl ?_); refine gz (some 98) Try.func44 #[.slice Ao80 t356.length co80, .int .i64 1] rfl rfl ?_; (with_reducible refine (laws_heldMoveS.calls kj78 _ _ t356 1 t375 _ ?side1 ?side2 A96.out).mono ?_); (case side1 => exact uQ HO_9); (case side2 => exact (Kd.R_reads' HO_9.out).2.1); rintro e w' ⟨rfl, ⟨nd, rfl⟩⟩; refine ⟨_, rfl, ?_⟩))
         go_ret
         exact ⟨by first | rfl | (simp [zn, zo] <;> rfl) | (simp [*, zn, zo] <;> rfl), sB⟩
      rw [if_neg c75] at H
      have c75b0 : (t357 == t355) = false := beq_eq_false_iff_ne.mpr c75
      have c75b1 : (t357 != t355) = true := bne_iff_ne.mpr c75
      obtain rfl := Option.some.inj H
      obtain ⟨Ao99, co99, eo99⟩ := Kd.R_slice HO_9.out
      subst eo99
      go_wp2_with (first | ((with_reducible refine zt (f := 43) rfl ?_); refine gz (some 70) Try.func43 #[.slice Ao99 t338.length co99, .int .i64 1] rfl rfl ?_; (with_reducible refine (laws_markMoveS.calls kj50 (fun k_ => some k_ = (.slice Ao99 t338.length co99 : Value).ownBlock) (.slice Ao99 t338.length co99) t338 1 t355 t356 w _ ?side1 ?side2 A70.out).mono ?_); (case side1 => repeat (first | (with_reducible first | exact HB.out | apply zj | apply zf | apply zi | refine zk ?_ GE306.out | refine zk ?_ GE307.out | refine zk ?_ GE333.out) | exact HB.out)); (case side2 => exact Kd.R_tight rfl HO_9.out); rintro e w100 ⟨rfl, hy0, hb, hkp⟩; refine ⟨_, rfl, ?_⟩; replace HO_6 := zb.mk (Kd.R_mono (ok' := fun k_ => some k_ ≠ (.slice Ao99 t338.length co99 : Value).ownBlock) (Kd.R_keptB (HO_6.out) hkp (fun k_ hk_ hs_ => (hk_) hs_)) (fun k_ hk_ => hk_.1)); replace HO_334000 := zb.mk (Kd.R_mono (ok' := fun k_ => True) (Kd.R_keptB ((Kd.R_apart' HO_334000.out (Kd.R_typed HO_9.out) (by decide))) hkp (fun k_ hk_ hs_ => (hk_.2) hs_)) (fun k_ hk_ => trivial)); replace BK306 := zb.mk (zfb (uK BK306) hkp (fun hs_ => (fun e_ => (Kd.R_ne HO_9.out BK306.out (by decide)) e_) hs_)); replace BK307 := zb.mk (zfb (uK BK307) hkp (fun hs_ => (fun e_ => (Kd.R_ne HO_9.out BK307.out (by decide)) e_) hs_)); replace BK333 := zb.mk (zfb (uK BK333) hkp (fun hs_ => (fun e_ => (Kd.R_ne HO_9.out BK333.out (by decide)) e_) hs_)); replace HO_9 := zb.mk (Kd.R_reok rfl hy0 (fun k_ e_ => HO_9.out.1 k_ e_)); replace HB := zb.mk hb; (try clear hb); (try clear hkp); (try clear hy0)) | ((with_reducible refine zt (f := 44) rfl ?_); refine zua (some 73) rfl rfl Try.func44 (by kernel_rfl) rfl #[.slice Ao99 t356.length co99, .int .i64 1] rfl (by (try simp only [List.map_toArray, List.map_cons, List.map_nil]); first | done | (rw [show t356.length = t338.length from (Kd.R_reads' HO_9.out).1.symm] <;> rfl) | rfl | (simp only [List.length_drop, List.length_take]; rfl)) ?_; (with_reducible refine (laws_heldMoveS.calls kj50 _ _ t356 1 t357 _ ?side1 ?side2 A71.out).mono ?_); (case side1 => exact uQ HO_9); (case side2 => rw [show t356.length = t338.length from (Kd.R_reads' HO_9.out).1.symm]; exact (Kd.R_reads' HO_9.out).2.1); rintro e w' ⟨rfl, ⟨nd, rfl⟩⟩; refine ⟨_, rfl, ?_⟩))
      go_ret
      exact ⟨by first | rfl | (simp [zn, zo] <;> rfl) | (simp [*, zn, zo] <;> rfl), sB⟩
   replace c49 := Bool.eq_false_iff.mpr c49
   subst c49
   have H1 : (some false) = some r := by rw [if_neg (show ¬ (false = true) by decide)] at H; exact H
   clear H
   have H := H1
   clear H1
   obtain rfl := Option.some.inj H
   try go_wp2
   have n0_ := zb.mk (Kd.R_drew HO_6.out)
   have n1_ := zb.mk (Kd.R_drew HO_9.out)
   have n2_ := zb.mk (Kd.R_drew HO_334000.out)
   have n3_ := zb.mk (zh BK306.out)
   have n4_ := zb.mk (zh BK307.out)
   have n5_ := zb.mk (zh BK333.out)
   have n6_ := zb.mk (zi HB.out)
   clear HO_6
   clear HO_9
   clear HO_334000
   clear BK306
   clear BK307
   clear BK333
   clear HB
   have HO_6 := n0_
   have HO_9 := n1_
   have HO_334000 := n2_
   have BK306 := n3_
   have BK307 := n4_
   have BK333 := n5_
   have HB := n6_
   clear n0_ n1_ n2_ n3_ n4_ n5_ n6_
   refine zcc (n := 5) (S := fun w' => w'.cell? ⟨gb333, 0, none⟩ = some (.slice Ao30 t325.length co30) ∧ w'.cell? ⟨gb333, 1, none⟩ = some (.int .i16 t328) ∧ w'.cell? ⟨gb333, 2, none⟩ = some (.int .i16 t329) ∧ w'.cell? ⟨gb333, 3, none⟩ = some (.int .i16 t330) ∧ w'.cell? ⟨gb333, 4, none⟩ = some (.int .i16 t331) ∧ w'.cell? ⟨gb333, 5, none⟩ = some (.bool t332) ∧ w'.cell? ⟨gb306, 0, none⟩ = some (.slice A0_0 l0_0.length c0_0) ∧ w'.cell? ⟨gb306, 1, none⟩ = some (.int .i16 a0_1) ∧ w'.cell? ⟨gb306, 2, none⟩ = some (.int .i16 a0_2) ∧ w'.cell? ⟨gb306, 3, none⟩ = some (.int .i16 a0_3) ∧ w'.cell? ⟨gb306, 4, none⟩ = some (.int .i16 a0_4) ∧ w'.cell? ⟨gb306, 5, none⟩ = some (.bool a0_5)) (ds := []) #[false, false, false, false, false] (by kernel_rfl) rfl rfl ⟨(za BK333.out 0).trans rfl, (za BK333.out 1).trans rfl, (za BK333.out 2).trans rfl, (za BK333.out 3).trans rfl, (za BK333.out 4).trans rfl, (za BK333.out 5).trans rfl, (za BK306.out 0).trans rfl, (za BK306.out 1).trans rfl, (za BK306.out 2).trans rfl, (za BK306.out 3).trans rfl, (za BK306.out 4).trans rfl, (za BK306.out 5).trans rfl⟩ (fun hHeld => ?_)
   generalize wc.drew = w101 at HO_6 HO_9 HO_334000 BK306 BK307 BK333 HB hHeld ⊢
   refine take_ (i := 0) (N := some 47) (v := ?_) (a' := ?_) #[true, false, false, false, false] rfl rfl (by kernel_rfl) (fun _ _ _ h => h) (Or.inl ⟨by rfl, ?_⟩) hHeld ?_ ?_
   rotate_left
   ·rintro w' ⟨s0, s1, s2, s3, s4, s5, s6, s7, s8, s9, s10, s11⟩
    go_simp
    with_reducible rfl
   rotate_left
   ·simp only [Act.put, List.setIfInBounds_toArray, List.set_cons_zero, List.set_cons_succ, zaa, zz]
    rfl
   refine take_ (i := 1) (N := some 48) (v := ?_) (a' := ?_) #[true, true, false, false, false] rfl rfl (by kernel_rfl) (fun _ _ _ h => h) (Or.inl ⟨by rfl, ?_⟩) hHeld ?_ ?_
   rotate_left
   ·rintro w' ⟨s0, s1, s2, s3, s4, s5, s6, s7, s8, s9, s10, s11⟩
    go_simp
    with_reducible rfl
   rotate_left
   ·simp only [Act.put, List.setIfInBounds_toArray, List.set_cons_zero, List.set_cons_succ, zaa, zz]
    rfl
   refine one_ (i := 2) (N := some 49) #[true, true, true, false, false] rfl rfl (by kernel_rfl) (by decide) (fun K hK => ?_)
   refine zkc Try.func34 (by kernel_rfl) rfl #[.agg #[.slice A0_0 l0_0.length c0_0, .int .i16 a0_1, .int .i16 a0_2, .int .i16 a0_3, .int .i16 a0_4, .bool a0_5]] (by rfl) rfl rfl (by (try simp only [List.map_toArray, List.map_cons, List.map_nil]); first | done | rfl | (simp only [List.length_drop, List.length_take]; rfl)) ?_
   with_reducible refine (laws_toPuzzle.calls kj15 _ _ l0_0 a0_1 a0_2 a0_3 a0_4 a0_5 t343 t346 t347 t348 t349 t350 _ ?side1 ?side2 A47.out).mono ?_
   (case side1 => exact uC HR0_0 HB)
   (case side2 => exact HC0_0.out)
   rintro e w102 ⟨v344, rfl, ho0, hb⟩
   refine ⟨_, rfl, ?_⟩
   have n0_ := dR HO_6 hb
   have n1_ := dR HO_9 hb
   have n2_ := zb.mk (Kd.R_elder' (uR HO_334000) (Kd.R_base ho0) hb)
   have n3_ := zb.mk (Kd.R_lower (Kd.R_new' ho0 (Kd.R_lt (uR HO_334000))) (zq sB))
   have n4_ := dK BK306 hb
   have n5_ := dK BK307 hb
   have n6_ := dK BK333 hb
   have n7_ := zb.mk (zm sB hb)
   clear HO_6
   clear HO_9
   clear HO_334000
   clear BK306
   clear BK307
   clear BK333
   clear HB
   have HO_6 := n0_
   have HO_9 := n1_
   have HO_334000 := n2_
   have HO345 := n3_
   have BK306 := n4_
   have BK307 := n5_
   have BK333 := n6_
   have HB := n7_
   clear n0_ n1_ n2_ n3_ n4_ n5_ n6_ n7_
   (try clear hb)
   (try clear hb2)
   (try clear hk)
   (try clear hi)
   (try clear ho0)
   obtain ⟨Ao103, co103, eo103⟩ := Kd.R_slice HO345.out
   (first | subst eo103 | (injection eo103 with f1_ f2_ f3_; have f4_ := f1_.symm; have f5_ := f3_.symm; clear f1_ f2_ f3_; subst f4_; subst f5_))
   refine hK.out _ _ ⟨(za BK333.out 0).trans rfl, (za BK333.out 1).trans rfl, (za BK333.out 2).trans rfl, (za BK333.out 3).trans rfl, (za BK333.out 4).trans rfl, (za BK333.out 5).trans rfl, (za BK306.out 0).trans rfl, (za BK306.out 1).trans rfl, (za BK306.out 2).trans rfl, (za BK306.out 3).trans rfl, (za BK306.out 4).trans rfl, (za BK306.out 5).trans rfl⟩ (fun hHeld => ?_)
   clear hK K
   refine zra (a' := ?_) ?_ ?_
   rotate_left
   ·show Act.put _ (some 49) _ = _
    simp only [Act.put, List.setIfInBounds_toArray, List.set_cons_zero, List.set_cons_succ, zaa, zz]
    rfl
   refine one_ (i := 3) (N := some 50) #[true, true, true, true, false] rfl rfl (by kernel_rfl) (by decide) (fun K hK => ?_)
   refine zkc Try.func35 (by kernel_rfl) rfl #[.agg #[.slice Ao30 t325.length co30, .int .i16 t328, .int .i16 t329, .int .i16 t330, .int .i16 t331, .bool t332], .agg #[.slice Ao103 t343.length co103, .int .i16 t346, .int .i16 t347, .int .i16 t348, .int .i16 t349, .bool t350]] (by rfl) rfl rfl (by (try simp only [List.map_toArray, List.map_cons, List.map_nil]); first | done | rfl | (simp only [List.length_drop, List.length_take]; rfl)) ?_
   with_reducible refine (laws_eqPuzzle.calls kj15 _ _ t325 t328 t329 t330 t331 t332 _ _ t343 t346 t347 t348 t349 t350 false _ ?side1 ?side2 ?side3 ?side4 A48.out).mono ?_
   (case side1 => exact uQ HO_334000)
   (case side2 => exact (Kd.R_reads' HO_334000.out).2.1)
   (case side3 => exact uQ HO345)
   (case side4 => exact (Kd.R_reads' HO345.out).2.1)
   rintro e w104 ⟨rfl, hb⟩
   refine ⟨_, rfl, ?_⟩
   have n0_ := dR HO_6 hb
   have n1_ := dR HO_9 hb
   have n2_ := dR HO_334000 hb
   have n3_ := dR HO345 hb
   have n4_ := dK BK306 hb
   have n5_ := dK BK307 hb
   have n6_ := dK BK333 hb
   have n7_ := zb.mk (zm sB hb)
   clear HO_6
   clear HO_9
   clear HO_334000
   clear HO345
   clear BK306
   clear BK307
   clear BK333
   clear HB
   have HO_6 := n0_
   have HO_9 := n1_
   have HO_334000 := n2_
   have HO345 := n3_
   have BK306 := n4_
   have BK307 := n5_
   have BK333 := n6_
   have HB := n7_
   clear n0_ n1_ n2_ n3_ n4_ n5_ n6_ n7_
   (try clear hb)
   (try clear hb2)
   (try clear hk)
   (try clear hi)
   refine hK.out _ _ ⟨(za BK333.out 0).trans rfl, (za BK333.out 1).trans rfl, (za BK333.out 2).trans rfl, (za BK333.out 3).trans rfl, (za BK333.out 4).trans rfl, (za BK333.out 5).trans rfl, (za BK306.out 0).trans rfl, (za BK306.out 1).trans rfl, (za BK306.out 2).trans rfl, (za BK306.out 3).trans rfl, (za BK306.out 4).trans rfl, (za BK306.out 5).trans rfl⟩ (fun hHeld => ?_)
   clear hK K
   refine zra (a' := ?_) ?_ ?_
   rotate_left
   ·show Act.put _ (some 50) _ = _
    simp only [Act.put, List.setIfInBounds_toArray, List.set_cons_zero, List.set_cons_succ, zaa, zz]
    rfl
   refine zfa (i := 4) (N := some 51) (v := ?_) (a' := ?_) #[true, true, true, true, true] rfl rfl (by kernel_rfl) (fun _ _ _ h => h) (Or.inl ⟨by rfl, ?_⟩) ?_ ?_
   rotate_left
   ·intro w'
    go_simp
    with_reducible rfl
   rotate_left
   ·simp only [Act.put, List.setIfInBounds_toArray, List.set_cons_zero, List.set_cons_succ, zaa, zz]
    rfl
   refine zxc (by kernel_rfl) ?_
   try go_wp2
   go_ret
   exact ⟨by first | rfl | (simp [zn, zo] <;> rfl) | (simp [*, zn, zo] <;> rfl), sB⟩
end Go.Proofs.Yteciomagemjjaaa.J
