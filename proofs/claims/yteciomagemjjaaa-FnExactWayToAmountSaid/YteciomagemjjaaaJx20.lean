/- The law of WayToAmount. -/
import Derived.Test.YteciomagemjjaaaJx6
import Derived.Test.YteciomagemjjaaaJx13
import Derived.Test.YteciomagemjjaaaJx14
import Derived.Test.YteciomagemjjaaaJx15
import Derived.Test.YteciomagemjjaaaLMrkJ
import Derived.Test.YteciomagemjjaaaLMvqJ
import Derived.Test.YteciomagemjjaaaLWtaJ
import Derived.Test.YteciomagemjjaaaLWasJ
namespace Go.Proofs.Yteciomagemjjaaa.J
open Go.RowKit Go.Proofs.YteciomagemjjaaaW.PrintWords Go.Proofs.YteciomagemjjaaaW.PrintLast Go.Proofs.YteciomagemjjaaaW.PrintMore
attribute [local go_sem] zna zka zra zsa zga zha zla zma   -- for this text's walks alone
set_option linter.unusedVariables false
set_option linter.unusedSimpArgs false
/-! ### laws_FnExactWayToAmount: function 8 -/
mutual
def laws_FnExactWayToAmount.j0 : Nat → Int → List (S80) → Int → List (S80) → Int → Bool → List Int → Int → Int → Int → Int → Bool → List Int → Int → Int → Int → Int → Bool → Option (Bool)
 | 0, _, _, _, _, _, _, _, _, _, _, _, _, _, _, _, _, _, _ => none
 | k + 1, x1, x6, x7, x9, x10, x44, x308000, x308001, x308002, x308003, x308004, x308005, x330000, x330001, x330002, x330003, x330004, x330005 => if x44 = true then (some false) else ((laws_toPuzzle.f k x308000 x308001 x308002 x308003 x308004 x308005).bind fun bt335 => ((laws_eqPuzzle.f k x330000 x330001 x330002 x330003 x330004 x330005 bt335.1 bt335.2.1 bt335.2.2.1 bt335.2.2.2.1 bt335.2.2.2.2.1 bt335.2.2.2.2.2).bind fun t343 => (if t343 = true then ((laws_markPuzzle.f k x330000 x330001 x330002 x330003 x330004 x330005 1).bind fun bt344 => (if bt344.1 < 0 then (laws_FnExactWayToAmount.j1 k x1 x6 x7 x9 true x308000 x308001 x308002 x308003 x308004 x308005) else ((laws_eqMoveS.f k x9 x6).bind fun t346 => (if t346 = true then (laws_FnExactWayToAmount.j1 k x1 x6 x7 x9 (x10 != x7) x308000 x308001 x308002 x308003 x308004 x308005) else (laws_FnExactWayToAmount.j1 k x1 x6 x7 x9 true x308000 x308001 x308002 x308003 x308004 x308005))))) else (some false))))
def laws_FnExactWayToAmount.j1 : Nat → Int → List (S80) → Int → List (S80) → Bool → List Int → Int → Int → Int → Int → Bool → Option (Bool)
 | 0, _, _, _, _, _, _, _, _, _, _, _ => none
 | k + 1, x1, x6, x7, x9, x65, x308000, x308001, x308002, x308003, x308004, x308005 => if x65 = true then (some false) else ((laws_markMoveS.f k x9 1).bind fun bt347 => ((laws_heldMoveS.f k bt347.2 1).bind fun t349 => (if t349 < 0 then (some false) else (if t349 = bt347.1 then ((laws_toPuzzle.f k x308000 x308001 x308002 x308003 x308004 x308005).bind fun bt350 => ((impl_WayToAmount.f k bt350.1 bt350.2.1 bt350.2.2.1 bt350.2.2.2.1 bt350.2.2.2.2.1 bt350.2.2.2.2.2 x1).bind fun bt358 => ((laws_eqMoveS.f k bt358.1 x6).bind fun t362 => (if t362 = true then (laws_FnExactWayToAmount.j2 k bt347.2 bt347.1 (bt358.2 != x7)) else (laws_FnExactWayToAmount.j2 k bt347.2 bt347.1 true))))) else (some false)))))
def laws_FnExactWayToAmount.j2 : Nat → List (S80) → Int → Bool → Option (Bool)
 | 0, _, _, _ => none
 | k + 1, x9, x12, x92 => if x92 = true then (some false) else ((laws_heldMoveS.f k x9 1).bind fun t363 => (if t363 < 0 then (some false) else (if t363 = x12 then (some true) else (some false))))
end
def laws_FnExactWayToAmount.f (k : Nat) (l0_0 : List Int) (a0_1 : Int) (a0_2 : Int) (a0_3 : Int) (a0_4 : Int) (a0_5 : Bool) (a1 : Int) : Option (Bool) := (laws_szPuzzle.f l0_0 a0_1 a0_2 a0_3 a0_4 a0_5 1048576).bind fun t308 => (if t308 < 0 then (some true) else ((laws_toPuzzle.f k l0_0 a0_1 a0_2 a0_3 a0_4 a0_5).bind fun bt309 => ((spec_WayToAmount.f k bt309.1 bt309.2.1 bt309.2.2.1 bt309.2.2.2.1 bt309.2.2.2.2.1 bt309.2.2.2.2.2 a1).bind fun bt317 => ((laws_toPuzzle.f k l0_0 a0_1 a0_2 a0_3 a0_4 a0_5).bind fun bt321 => ((impl_WayToAmount.f k bt321.1 bt321.2.1 bt321.2.2.1 bt321.2.2.2.1 bt321.2.2.2.2.1 bt321.2.2.2.2.2 a1).bind fun bt330 => ((laws_eqMoveS.f k bt330.1 bt317.1).bind fun t334 => (if t334 = true then (laws_FnExactWayToAmount.j0 k a1 bt317.1 bt317.2 bt330.1 bt330.2 (bt330.2 != bt317.2) l0_0 a0_1 a0_2 a0_3 a0_4 a0_5 bt321.1 bt321.2.1 bt321.2.2.1 bt321.2.2.2.1 bt321.2.2.2.2.1 bt321.2.2.2.2.2) else (laws_FnExactWayToAmount.j0 k a1 bt317.1 bt317.2 bt330.1 bt330.2 true l0_0 a0_1 a0_2 a0_3 a0_4 a0_5 bt321.1 bt321.2.1 bt321.2.2.1 bt321.2.2.2.1 bt321.2.2.2.2.1 bt321.2.2.2.2.2))))))))
set_option maxHeartbeats 8000000 in
set_option maxRecDepth 100000 in
theorem laws_FnExactWayToAmount.calls (k : Nat) (A0_0 : Option Addr) (c0_0 : Nat) (l0_0 : List Int) (a0_1 : Int) (a0_2 : Int) (a0_3 : Int) (a0_4 : Int) (a0_5 : Bool) (a1 : Int) (r : Bool) (w : World) (hr0_0 : Kd.C (Kd.int .i16) w A0_0 l0_0.length l0_0) (hc0_0 : l0_0.length ≤ c0_0) (h : laws_FnExactWayToAmount.f k l0_0 a0_1 a0_2 a0_3 a0_4 a0_5 a1 = some r) :
  Calls Try.prog 8 #[.agg #[.slice A0_0 l0_0.length c0_0, .int .i16 a0_1, .int .i16 a0_2, .int .i16 a0_3, .int .i16 a0_4, .bool a0_5], .int .i64 a1] w fun e w' => e = .returned (.bool r) ∧ Below w.heap.size w w' := by
 have hu53 := Try.underlying53
 have hu29 := Try.underlying29
 have HR0_0 := za.mk hr0_0
 have HC0_0 := za.mk hc0_0
 clear hr0_0 hc0_0
 have HB := za.mk (Below.refl w.heap.size w)
 have H : ((laws_szPuzzle.f l0_0 a0_1 a0_2 a0_3 a0_4 a0_5 1048576).bind fun t308 => (if t308 < 0 then (some true) else ((laws_toPuzzle.f k l0_0 a0_1 a0_2 a0_3 a0_4 a0_5).bind fun bt309 => ((spec_WayToAmount.f k bt309.1 bt309.2.1 bt309.2.2.1 bt309.2.2.2.1 bt309.2.2.2.2.1 bt309.2.2.2.2.2 a1).bind fun bt317 => ((laws_toPuzzle.f k l0_0 a0_1 a0_2 a0_3 a0_4 a0_5).bind fun bt321 => ((impl_WayToAmount.f k bt321.1 bt321.2.1 bt321.2.2.1 bt321.2.2.2.1 bt321.2.2.2.2.1 bt321.2.2.2.2.2 a1).bind fun bt330 => ((laws_eqMoveS.f k bt330.1 bt317.1).bind fun t334 => (if t334 = true then (laws_FnExactWayToAmount.j0 k a1 bt317.1 bt317.2 bt330.1 bt330.2 (bt330.2 != bt317.2) l0_0 a0_1 a0_2 a0_3 a0_4 a0_5 bt321.1 bt321.2.1 bt321.2.2.1 bt321.2.2.2.1 bt321.2.2.2.2.1 bt321.2.2.2.2.2) else (laws_FnExactWayToAmount.j0 k a1 bt317.1 bt317.2 bt330.1 bt330.2 true l0_0 a0_1 a0_2 a0_3 a0_4 a0_5 bt321.1 bt321.2.1 bt321.2.2.1 bt321.2.2.2.1 bt321.2.2.2.2.1 bt321.2.2.2.2.2))))))))) = some r := h
 clear h
 replace H := Option.bind_eq_some_iff.mp H
 obtain ⟨t308, A30, H⟩ := H
 replace H : (if t308 < 0 then (some true) else ((laws_toPuzzle.f k l0_0 a0_1 a0_2 a0_3 a0_4 a0_5).bind fun bt309 => ((spec_WayToAmount.f k bt309.1 bt309.2.1 bt309.2.2.1 bt309.2.2.2.1 bt309.2.2.2.2.1 bt309.2.2.2.2.2 a1).bind fun bt317 => ((laws_toPuzzle.f k l0_0 a0_1 a0_2 a0_3 a0_4 a0_5).bind fun bt321 => ((impl_WayToAmount.f k bt321.1 bt321.2.1 bt321.2.2.1 bt321.2.2.2.1 bt321.2.2.2.2.1 bt321.2.2.2.2.2 a1).bind fun bt330 => ((laws_eqMoveS.f k bt330.1 bt317.1).bind fun t334 => (if t334 = true then (laws_FnExactWayToAmount.j0 k a1 bt317.1 bt317.2 bt330.1 bt330.2 (bt330.2 != bt317.2) l0_0 a0_1 a0_2 a0_3 a0_4 a0_5 bt321.1 bt321.2.1 bt321.2.2.1 bt321.2.2.2.1 bt321.2.2.2.2.1 bt321.2.2.2.2.2) else (laws_FnExactWayToAmount.j0 k a1 bt317.1 bt317.2 bt330.1 bt330.2 true l0_0 a0_1 a0_2 a0_3 a0_4 a0_5 bt321.1 bt321.2.1 bt321.2.2.1 bt321.2.2.2.1 bt321.2.2.2.2.1 bt321.2.2.2.2.2)))))))) = some r := H
 have A3 := za.mk A30
 clear A30
 by_cases c4 : t308 < 0
 ·rw [if_pos c4] at H
  have c4b0 : decide (t308 < 0) = true := decide_eq_true c4
  clear c4
  obtain rfl := Option.some.inj H
  go_enter Try.func8, Try.ntmps8
  go_wp2_with (first | ((with_reducible refine zu (N := 2) rfl ?_); refine bx (N := 2) #[.slice A0_0 l0_0.length c0_0, .int .i16 a0_1, .int .i16 a0_2, .int .i16 a0_3, .int .i16 a0_4, .bool a0_5] 53 rfl ?_; intro gb307 hg w5 hbox hb; have BK307 := za.mk hbox; have GW307 := gB hg; have GE307 := gB hg; replace HB := za.mk (zi sB hb); clear hb hbox hg; obtain ⟨hcz6_0, hcz6_1, hcz6_2, hcz6_3, hcz6_4, hcz6_5⟩ := xc6 BK307; obtain ⟨hfz6_0, hfz6_1, hfz6_2, hfz6_3, hfz6_4, hfz6_5⟩ := xf6 BK307) | ((with_reducible refine zl (f := 32) rfl ?_); refine gz (some 18) Try.func32 #[.agg #[.slice A0_0 l0_0.length c0_0, .int .i16 a0_1, .int .i16 a0_2, .int .i16 a0_3, .int .i16 a0_4, .bool a0_5], .int .i64 1048576] rfl rfl ?_; (with_reducible refine (laws_szPuzzle.calls _ _ l0_0 a0_1 a0_2 a0_3 a0_4 a0_5 1048576 t308 _ ?side1 ?side2 A3.out).mono ?_); (case side1 => exact uC HR0_0 HB); (case side2 => exact HC0_0.out); rintro e w7 ⟨rfl, hb⟩; refine ⟨_, rfl, ?_⟩; replace BK307 := dK BK307 hb; replace HB := za.mk (zi sB hb); try clear hb))
  go_ret
  exact ⟨by first | rfl | (simp [zj, zk] <;> rfl) | (simp [*, zj, zk] <;> rfl), sB⟩
 ·rw [if_neg c4] at H
  have c4b0 : decide (t308 < 0) = false := decide_eq_false c4
  clear c4
  replace H := Option.bind_eq_some_iff.mp H
  obtain ⟨⟨t309, t312, t313, t314, t315, t316⟩, A80, H⟩ := H
  replace H : ((spec_WayToAmount.f k t309 t312 t313 t314 t315 t316 a1).bind fun bt317 => ((laws_toPuzzle.f k l0_0 a0_1 a0_2 a0_3 a0_4 a0_5).bind fun bt321 => ((impl_WayToAmount.f k bt321.1 bt321.2.1 bt321.2.2.1 bt321.2.2.2.1 bt321.2.2.2.2.1 bt321.2.2.2.2.2 a1).bind fun bt330 => ((laws_eqMoveS.f k bt330.1 bt317.1).bind fun t334 => (if t334 = true then (laws_FnExactWayToAmount.j0 k a1 bt317.1 bt317.2 bt330.1 bt330.2 (bt330.2 != bt317.2) l0_0 a0_1 a0_2 a0_3 a0_4 a0_5 bt321.1 bt321.2.1 bt321.2.2.1 bt321.2.2.2.1 bt321.2.2.2.2.1 bt321.2.2.2.2.2) else (laws_FnExactWayToAmount.j0 k a1 bt317.1 bt317.2 bt330.1 bt330.2 true l0_0 a0_1 a0_2 a0_3 a0_4 a0_5 bt321.1 bt321.2.1 bt321.2.2.1 bt321.2.2.2.1 bt321.2.2.2.2.1 bt321.2.2.2.2.2)))))) = some r := H
  have A8 := za.mk A80
  clear A80
  replace H := Option.bind_eq_some_iff.mp H
  obtain ⟨⟨t317, t320⟩, A90, H⟩ := H
  replace H : ((laws_toPuzzle.f k l0_0 a0_1 a0_2 a0_3 a0_4 a0_5).bind fun bt321 => ((impl_WayToAmount.f k bt321.1 bt321.2.1 bt321.2.2.1 bt321.2.2.2.1 bt321.2.2.2.2.1 bt321.2.2.2.2.2 a1).bind fun bt330 => ((laws_eqMoveS.f k bt330.1 t317).bind fun t334 => (if t334 = true then (laws_FnExactWayToAmount.j0 k a1 t317 t320 bt330.1 bt330.2 (bt330.2 != t320) l0_0 a0_1 a0_2 a0_3 a0_4 a0_5 bt321.1 bt321.2.1 bt321.2.2.1 bt321.2.2.2.1 bt321.2.2.2.2.1 bt321.2.2.2.2.2) else (laws_FnExactWayToAmount.j0 k a1 t317 t320 bt330.1 bt330.2 true l0_0 a0_1 a0_2 a0_3 a0_4 a0_5 bt321.1 bt321.2.1 bt321.2.2.1 bt321.2.2.2.1 bt321.2.2.2.2.1 bt321.2.2.2.2.2))))) = some r := H
  have A9 := za.mk A90
  clear A90
  replace H := Option.bind_eq_some_iff.mp H
  obtain ⟨⟨t321, t324, t325, t326, t327, t328⟩, A100, H⟩ := H
  replace H : ((impl_WayToAmount.f k t321 t324 t325 t326 t327 t328 a1).bind fun bt330 => ((laws_eqMoveS.f k bt330.1 t317).bind fun t334 => (if t334 = true then (laws_FnExactWayToAmount.j0 k a1 t317 t320 bt330.1 bt330.2 (bt330.2 != t320) l0_0 a0_1 a0_2 a0_3 a0_4 a0_5 t321 t324 t325 t326 t327 t328) else (laws_FnExactWayToAmount.j0 k a1 t317 t320 bt330.1 bt330.2 true l0_0 a0_1 a0_2 a0_3 a0_4 a0_5 t321 t324 t325 t326 t327 t328)))) = some r := H
  have A10 := za.mk A100
  clear A100
  replace H := Option.bind_eq_some_iff.mp H
  obtain ⟨⟨t330, t333⟩, A110, H⟩ := H
  replace H : ((laws_eqMoveS.f k t330 t317).bind fun t334 => (if t334 = true then (laws_FnExactWayToAmount.j0 k a1 t317 t320 t330 t333 (t333 != t320) l0_0 a0_1 a0_2 a0_3 a0_4 a0_5 t321 t324 t325 t326 t327 t328) else (laws_FnExactWayToAmount.j0 k a1 t317 t320 t330 t333 true l0_0 a0_1 a0_2 a0_3 a0_4 a0_5 t321 t324 t325 t326 t327 t328))) = some r := H
  have A11 := za.mk A110
  clear A110
  have HC12 := za.mk H
  clear H
  go_enter Try.func8, Try.ntmps8
  go_upto_region 8 with (first | ((with_reducible refine zu (N := 2) rfl ?_); refine bx (N := 2) #[.slice A0_0 l0_0.length c0_0, .int .i16 a0_1, .int .i16 a0_2, .int .i16 a0_3, .int .i16 a0_4, .bool a0_5] 53 rfl ?_; intro gb307 hg w13 hbox hb; have BK307 := za.mk hbox; have GW307 := gB hg; have GE307 := gB hg; replace HB := za.mk (zi sB hb); clear hb hbox hg; obtain ⟨hcz14_0, hcz14_1, hcz14_2, hcz14_3, hcz14_4, hcz14_5⟩ := xc6 BK307; obtain ⟨hfz14_0, hfz14_1, hfz14_2, hfz14_3, hfz14_4, hfz14_5⟩ := xf6 BK307) | ((with_reducible refine zl (f := 32) rfl ?_); refine gz (some 18) Try.func32 #[.agg #[.slice A0_0 l0_0.length c0_0, .int .i16 a0_1, .int .i16 a0_2, .int .i16 a0_3, .int .i16 a0_4, .bool a0_5], .int .i64 1048576] rfl rfl ?_; (with_reducible refine (laws_szPuzzle.calls _ _ l0_0 a0_1 a0_2 a0_3 a0_4 a0_5 1048576 t308 _ ?side1 ?side2 A3.out).mono ?_); (case side1 => exact uC HR0_0 HB); (case side2 => exact HC0_0.out); rintro e w15 ⟨rfl, hb⟩; refine ⟨_, rfl, ?_⟩; replace BK307 := dK BK307 hb; replace HB := za.mk (zi sB hb); try clear hb; obtain ⟨hcz16_0, hcz16_1, hcz16_2, hcz16_3, hcz16_4, hcz16_5⟩ := xc6 BK307; obtain ⟨hfz16_0, hfz16_1, hfz16_2, hfz16_3, hfz16_4, hfz16_5⟩ := xf6 BK307) | ((with_reducible refine zl (f := 34) rfl ?_); refine gz (some 23) Try.func34 #[.agg #[.slice A0_0 l0_0.length c0_0, .int .i16 a0_1, .int .i16 a0_2, .int .i16 a0_3, .int .i16 a0_4, .bool a0_5]] rfl rfl ?_; (with_reducible refine (laws_toPuzzle.calls k _ _ l0_0 a0_1 a0_2 a0_3 a0_4 a0_5 t309 t312 t313 t314 t315 t316 _ ?side1 ?side2 A8.out).mono ?_); (case side1 => exact uC HR0_0 HB); (case side2 => exact HC0_0.out); rintro e w17 ⟨v310, rfl, ho0, hb⟩; refine ⟨_, rfl, ?_⟩; have HO311 := za.mk (Kd.R_lower ho0 (zz sB)); replace BK307 := dK BK307 hb; replace HB := za.mk (zi sB hb); try clear hb; obtain ⟨Ao18, co18, eo18⟩ := Kd.R_slice HO311.out; subst eo18) | ((with_reducible refine zl (f := 25) rfl ?_); refine gz (some 25) Try.func25 #[.agg #[.slice Ao18 t309.length co18, .int .i16 t312, .int .i16 t313, .int .i16 t314, .int .i16 t315, .bool t316], .int .i64 a1] rfl rfl ?_; (with_reducible refine (spec_WayToAmount.calls k _ _ t309 t312 t313 t314 t315 t316 a1 t317 t320 _ ?side1 ?side2 A9.out).mono ?_); (case side1 => exact uQ HO311); (case side2 => exact (Kd.R_reads' HO311.out).2.1); rintro e w19 ⟨v318, rfl, ho0, hb⟩; refine ⟨_, rfl, ?_⟩; have HO319 := za.mk (Kd.R_lower ho0 (zz sB)); replace HO311 := dR HO311 hb; replace BK307 := dK BK307 hb; replace HB := za.mk (zi sB hb); try clear hb; obtain ⟨hcz20_0, hcz20_1, hcz20_2, hcz20_3, hcz20_4, hcz20_5⟩ := xc6 BK307; obtain ⟨hfz20_0, hfz20_1, hfz20_2, hfz20_3, hfz20_4, hfz20_5⟩ := xf6 BK307) | ((with_reducible refine zl (f := 34) rfl ?_); refine gz (some 29) Try.func34 #[.agg #[.slice A0_0 l0_0.length c0_0, .int .i16 a0_1, .int .i16 a0_2, .int .i16 a0_3, .int .i16 a0_4, .bool a0_5]] rfl rfl ?_; (with_reducible refine (laws_toPuzzle.calls k _ _ l0_0 a0_1 a0_2 a0_3 a0_4 a0_5 t321 t324 t325 t326 t327 t328 _ ?side1 ?side2 A10.out).mono ?_); (case side1 => exact uC HR0_0 HB); (case side2 => exact HC0_0.out); rintro e w21 ⟨v322, rfl, ho0, hb⟩; refine ⟨_, rfl, ?_⟩; have HO323 := za.mk (Kd.R_lower (Kd.R_new' ho0 (Kd.R_lt (uR HO311))) (zz sB)); replace HO311 := za.mk (Kd.R_elder' (uR HO311) (Kd.R_base ho0) hb); replace HO319 := dR HO319 hb; replace BK307 := dK BK307 hb; replace HB := za.mk (zi sB hb); try clear hb) | ((with_reducible refine zu (N := 8) rfl ?_); refine bx (N := 8) #[.slice none 0 0, .int .i16 0, .int .i16 0, .int .i16 0, .int .i16 0, .bool false] 29 rfl ?_; intro gb329 hg w22 hbox hb; have BK329 := za.mk hbox; have GW329 := gB hg; have GE329 := gB hg; have NB307_329 := nK hg BK307; have NB329_307 := za.mk (nK hg BK307).out.symm; replace HO311 := dR HO311 hb; replace HO319 := dR HO319 hb; replace HO323 := dR HO323 hb; replace BK307 := dK BK307 hb; replace HB := za.mk (zi sB hb); clear hb hbox hg; obtain ⟨Ao23, co23, eo23⟩ := Kd.R_slice HO323.out; subst eo23; have hnb24 := NB329_307.out; have hnc24 := NB307_329.out; obtain ⟨hcz25_0, hcz25_1, hcz25_2, hcz25_3, hcz25_4, hcz25_5⟩ := xc6 BK329; obtain ⟨hfz25_0, hfz25_1, hfz25_2, hfz25_3, hfz25_4, hfz25_5⟩ := xf6 BK329) | ((with_reducible refine zl (f := 24) rfl ?_); refine gz (some 33) Try.func24 #[.agg #[.slice Ao23 t321.length co23, .int .i16 t324, .int .i16 t325, .int .i16 t326, .int .i16 t327, .bool t328], .int .i64 a1] rfl rfl ?_; (with_reducible refine (impl_WayToAmount.calls k _ _ t321 t324 t325 t326 t327 t328 a1 t330 t333 _ ?side1 ?side2 A11.out).mono ?_); (case side1 => refine (Kd.R_reads' (e := 25) (base := w.heap.size) (ok := fun k_ => (True ∧ some k_ ≠ (.slice Ao18 t309.length co18 : Value).ownBlock)) (n := t321.length) (c := co23) ?_).2.2; exact (by (with_reducible repeat (first | apply Kd.R_alloc | apply Kd.R_drewN | apply Kd.R_drew)); exact (Kd.R_mono (Kd.R_far (p := ⟨gb329, 5, none⟩) (Kd.R_far (p := ⟨gb329, 4, none⟩) (Kd.R_far (p := ⟨gb329, 3, none⟩) (Kd.R_far (p := ⟨gb329, 2, none⟩) (Kd.R_far (p := ⟨gb329, 1, none⟩) (Kd.R_far (p := ⟨gb329, 0, none⟩) (Kd.R_types HO323.out BK329.out (by decide)) (fun _ hk => hk.2) (.slice Ao23 t321.length co23)) (fun _ hk => hk.2) (.int .i16 t324)) (fun _ hk => hk.2) (.int .i16 t325)) (fun _ hk => hk.2) (.int .i16 t326)) (fun _ hk => hk.2) (.int .i16 t327)) (fun _ hk => hk.2) (.bool t328)) (fun _ h_ => h_.1)))); (case side2 => exact (Kd.R_reads' HO323.out).2.1); rintro e w26 ⟨v331, rfl, ho0, hb⟩; refine ⟨_, rfl, ?_⟩; have n0_ := za.mk (Kd.R_below (by (with_reducible repeat (first | apply Kd.R_alloc | apply Kd.R_drewN | apply Kd.R_drew)); exact (Kd.R_mono (Kd.R_far (p := ⟨gb329, 5, none⟩) (Kd.R_far (p := ⟨gb329, 4, none⟩) (Kd.R_far (p := ⟨gb329, 3, none⟩) (Kd.R_far (p := ⟨gb329, 2, none⟩) (Kd.R_far (p := ⟨gb329, 1, none⟩) (Kd.R_far (p := ⟨gb329, 0, none⟩) (Kd.R_types HO311.out BK329.out (by decide)) (fun _ hk => hk.2) (.slice Ao23 t321.length co23)) (fun _ hk => hk.2) (.int .i16 t324)) (fun _ hk => hk.2) (.int .i16 t325)) (fun _ hk => hk.2) (.int .i16 t326)) (fun _ hk => hk.2) (.int .i16 t327)) (fun _ hk => hk.2) (.bool t328)) (fun _ h_ => h_.1))) hb); have n1_ := za.mk (Kd.R_elder' (by (with_reducible repeat (first | apply Kd.R_alloc | apply Kd.R_drewN | apply Kd.R_drew)); exact (Kd.R_mono (Kd.R_far (p := ⟨gb329, 5, none⟩) (Kd.R_far (p := ⟨gb329, 4, none⟩) (Kd.R_far (p := ⟨gb329, 3, none⟩) (Kd.R_far (p := ⟨gb329, 2, none⟩) (Kd.R_far (p := ⟨gb329, 1, none⟩) (Kd.R_far (p := ⟨gb329, 0, none⟩) (Kd.R_types HO319.out BK329.out (by decide)) (fun _ hk => hk.2) (.slice Ao23 t321.length co23)) (fun _ hk => hk.2) (.int .i16 t324)) (fun _ hk => hk.2) (.int .i16 t325)) (fun _ hk => hk.2) (.int .i16 t326)) (fun _ hk => hk.2) (.int .i16 t327)) (fun _ hk => hk.2) (.bool t328)) (fun _ h_ => h_.1))) (Kd.R_base ho0) hb); have n2_ := za.mk (Kd.R_below (by (with_reducible repeat (first | apply Kd.R_alloc | apply Kd.R_drewN | apply Kd.R_drew)); exact (Kd.R_mono (Kd.R_far (p := ⟨gb329, 5, none⟩) (Kd.R_far (p := ⟨gb329, 4, none⟩) (Kd.R_far (p := ⟨gb329, 3, none⟩) (Kd.R_far (p := ⟨gb329, 2, none⟩) (Kd.R_far (p := ⟨gb329, 1, none⟩) (Kd.R_far (p := ⟨gb329, 0, none⟩) (Kd.R_types HO323.out BK329.out (by decide)) (fun _ hk => hk.2) (.slice Ao23 t321.length co23)) (fun _ hk => hk.2) (.int .i16 t324)) (fun _ hk => hk.2) (.int .i16 t325)) (fun _ hk => hk.2) (.int .i16 t326)) (fun _ hk => hk.2) (.int .i16 t327)) (fun _ hk => hk.2) (.bool t328)) (fun _ h_ => h_.1))) hb); have n3_ := za.mk (Kd.R_lower (Kd.R_new' ho0 (Kd.R_lt (by (with_reducible repeat (first | apply Kd.R_alloc | apply Kd.R_drewN | apply Kd.R_drew)); exact (Kd.R_mono (Kd.R_far (p := ⟨gb329, 5, none⟩) (Kd.R_far (p := ⟨gb329, 4, none⟩) (Kd.R_far (p := ⟨gb329, 3, none⟩) (Kd.R_far (p := ⟨gb329, 2, none⟩) (Kd.R_far (p := ⟨gb329, 1, none⟩) (Kd.R_far (p := ⟨gb329, 0, none⟩) (Kd.R_types HO319.out BK329.out (by decide)) (fun _ hk => hk.2) (.slice Ao23 t321.length co23)) (fun _ hk => hk.2) (.int .i16 t324)) (fun _ hk => hk.2) (.int .i16 t325)) (fun _ hk => hk.2) (.int .i16 t326)) (fun _ hk => hk.2) (.int .i16 t327)) (fun _ hk => hk.2) (.bool t328)) (fun _ h_ => h_.1))))) (zz sB)); have n4_ := za.mk (zaa (g := gb307) (o := .cells #[.slice A0_0 l0_0.length c0_0, .int .i16 a0_1, .int .i16 a0_2, .int .i16 a0_3, .int .i16 a0_4, .bool a0_5] 53 (0, 0)) (by (with_reducible repeat (first | refine ze ?_ _ | refine zf ?_ | refine zc ?_ _)); refine zn ?_ NB307_329.out _; (with_reducible repeat (first | refine ze ?_ _ | refine zf ?_ | refine zc ?_ _)); refine zn ?_ NB307_329.out _; (with_reducible repeat (first | refine ze ?_ _ | refine zf ?_ | refine zc ?_ _)); refine zn ?_ NB307_329.out _; (with_reducible repeat (first | refine ze ?_ _ | refine zf ?_ | refine zc ?_ _)); refine zn ?_ NB307_329.out _; (with_reducible repeat (first | refine ze ?_ _ | refine zf ?_ | refine zc ?_ _)); refine zn ?_ NB307_329.out _; (with_reducible repeat (first | refine ze ?_ _ | refine zf ?_ | refine zc ?_ _)); refine zn ?_ NB307_329.out _; (with_reducible repeat (first | refine ze ?_ _ | refine zf ?_ | refine zc ?_ _)); exact BK307.out) hb); have n5_ := za.mk (zaa (g := gb329) (o := .cells #[.slice Ao23 t321.length co23, .int .i16 t324, .int .i16 t325, .int .i16 t326, .int .i16 t327, .bool t328] 29 (0, 0)) (by (with_reducible repeat (first | refine ze ?_ _ | refine zf ?_ | refine zc ?_ _)); refine zda (cs := #[.slice Ao23 t321.length co23, .int .i16 t324, .int .i16 t325, .int .i16 t326, .int .i16 t327, .bool false]) ?_ 5 _ rfl; (with_reducible repeat (first | refine ze ?_ _ | refine zf ?_ | refine zc ?_ _)); refine zda (cs := #[.slice Ao23 t321.length co23, .int .i16 t324, .int .i16 t325, .int .i16 t326, .int .i16 0, .bool false]) ?_ 4 _ rfl; (with_reducible repeat (first | refine ze ?_ _ | refine zf ?_ | refine zc ?_ _)); refine zda (cs := #[.slice Ao23 t321.length co23, .int .i16 t324, .int .i16 t325, .int .i16 0, .int .i16 0, .bool false]) ?_ 3 _ rfl; (with_reducible repeat (first | refine ze ?_ _ | refine zf ?_ | refine zc ?_ _)); refine zda (cs := #[.slice Ao23 t321.length co23, .int .i16 t324, .int .i16 0, .int .i16 0, .int .i16 0, .bool false]) ?_ 2 _ rfl; (with_reducible repeat (first | refine ze ?_ _ | refine zf ?_ | refine zc ?_ _)); refine zda (cs := #[.slice Ao23 t321.length co23, .int .i16 0, .int .i16 0, .int .i16 0, .int .i16 0, .bool false]) ?_ 1 _ rfl; (with_reducible repeat (first | refine ze ?_ _ | refine zf ?_ | refine zc ?_ _)); refine zda (cs := #[.slice none 0 0, .int .i16 0, .int .i16 0, .int .i16 0, .int .i16 0, .bool false]) ?_ 0 _ rfl; (with_reducible repeat (first | refine ze ?_ _ | refine zf ?_ | refine zc ?_ _)); exact BK329.out) hb); have n6_ := za.mk (zi sB hb); clear HO311; clear HO319; clear HO323; clear BK307; clear BK329; clear HB; have HO311 := n0_; have HO319 := n1_; have HO323 := n2_; have HO332 := n3_; have BK307 := n4_; have BK329 := n5_; have HB := n6_; clear n0_ n1_ n2_ n3_ n4_ n5_ n6_; try clear hb))
  (try simp only [Act.put, List.setIfInBounds_toArray, List.set_cons_zero, List.set_cons_succ])
  go_cut [44] (fun v44 wc => ∃ (kq : Nat) (x44_11 : Bool), v44 = .bool x44_11 ∧ za (laws_FnExactWayToAmount.j0 kq a1 t317 t320 t330 t333 x44_11 l0_0 a0_1 a0_2 a0_3 a0_4 a0_5 t321 t324 t325 t326 t327 t328 = some r) ∧ za (kq ≤ k) ∧ za (Kd.R k80 80 wc w.heap.size (fun k_ => some k_ ≠ (v331 : Value).ownBlock) v318 t317) ∧ za (Kd.R k80 80 wc w.heap.size (fun k_ => some k_ ≠ (v318 : Value).ownBlock) v331 t330) ∧ za (Kd.R (Kd.int .i16) 25 wc w.heap.size (fun _ => True) (.slice Ao23 t321.length co23) t321) ∧ za (wc.heap[gb307]? = some (.cells #[(.slice A0_0 l0_0.length c0_0), .int .i16 a0_1, .int .i16 a0_2, .int .i16 a0_3, .int .i16 a0_4, .bool a0_5] 53 (0, 0))) ∧ za (wc.heap[gb329]? = some (.cells #[(.slice Ao23 t321.length co23), .int .i16 t324, .int .i16 t325, .int .i16 t326, .int .i16 t327, .bool t328] 29 (0, 0))) ∧ za (Below w.heap.size w wc))
  case first =>
   have H := HC12.out
   clear HC12
   replace H := Option.bind_eq_some_iff.mp H
   obtain ⟨t334, A270, H⟩ := H
   replace H : (if t334 = true then (laws_FnExactWayToAmount.j0 k a1 t317 t320 t330 t333 (t333 != t320) l0_0 a0_1 a0_2 a0_3 a0_4 a0_5 t321 t324 t325 t326 t327 t328) else (laws_FnExactWayToAmount.j0 k a1 t317 t320 t330 t333 true l0_0 a0_1 a0_2 a0_3 a0_4 a0_5 t321 t324 t325 t326 t327 t328)) = some r := H
   have A27 := za.mk A270
   clear A270
   by_cases c28 : t334 = true
   ·subst c28
    have H1 : (laws_FnExactWayToAmount.j0 k a1 t317 t320 t330 t333 (t333 != t320) l0_0 a0_1 a0_2 a0_3 a0_4 a0_5 t321 t324 t325 t326 t327 t328) = some r := by rw [if_pos rfl] at H; exact H
    clear H
    have H := H1
    clear H1
    have H' := za.mk H
    clear H
    obtain ⟨Ao29, co29, eo29⟩ := Kd.R_slice HO332.out
    subst eo29
    obtain ⟨Ao30, co30, eo30⟩ := Kd.R_slice HO319.out
    subst eo30
    go_wp2_with (first | ((with_reducible refine zl (f := 42) rfl ?_); refine gz (some 38) Try.func42 #[.slice Ao29 t330.length co29, .slice Ao30 t317.length co30] rfl rfl ?_; (with_reducible refine (laws_eqMoveS.calls k _ _ t330 _ _ t317 true _ ?side1 ?side2 ?side3 ?side4 A27.out).mono ?_); (case side1 => exact uQ HO332); (case side2 => exact (Kd.R_reads' HO332.out).2.1); (case side3 => exact uQ HO319); (case side4 => exact (Kd.R_reads' HO319.out).2.1); rintro e w31 ⟨rfl, hb⟩; refine ⟨_, rfl, ?_⟩; replace HO311 := dR HO311 hb; replace HO319 := dR HO319 hb; replace HO323 := dR HO323 hb; replace HO332 := dR HO332 hb; replace BK307 := dK BK307 hb; replace BK329 := dK BK329 hb; replace HB := za.mk (zi sB hb); try clear hb))
    go_meet
    case rel => exact ⟨_, ((t333 != t320)), (by first | rfl | (simp; done) | (simp [*]; done)), H', ⟨by first | omega | exact Nat.le_refl _⟩, ⟨uR' (Kd.R_mono HO319.out (fun _ hk => hk.2))⟩, ⟨uR' (Kd.R_mono HO332.out (fun _ hk => hk.2))⟩, ⟨uR' (Kd.R_mono HO323.out (fun _ hk => trivial))⟩, ⟨uK BK307⟩, ⟨uK BK329⟩, ⟨sB⟩⟩
   ·replace c28 := Bool.eq_false_iff.mpr c28
    subst c28
    have H1 : (laws_FnExactWayToAmount.j0 k a1 t317 t320 t330 t333 true l0_0 a0_1 a0_2 a0_3 a0_4 a0_5 t321 t324 t325 t326 t327 t328) = some r := by rw [if_neg (show ¬ (false = true) by decide)] at H; exact H
    clear H
    have H := H1
    clear H1
    have H' := za.mk H
    clear H
    obtain ⟨Ao32, co32, eo32⟩ := Kd.R_slice HO332.out
    subst eo32
    obtain ⟨Ao33, co33, eo33⟩ := Kd.R_slice HO319.out
    subst eo33
    go_wp2_with (first | ((with_reducible refine zl (f := 42) rfl ?_); refine gz (some 38) Try.func42 #[.slice Ao32 t330.length co32, .slice Ao33 t317.length co33] rfl rfl ?_; (with_reducible refine (laws_eqMoveS.calls k _ _ t330 _ _ t317 false _ ?side1 ?side2 ?side3 ?side4 A27.out).mono ?_); (case side1 => exact uQ HO332); (case side2 => exact (Kd.R_reads' HO332.out).2.1); (case side3 => exact uQ HO319); (case side4 => exact (Kd.R_reads' HO319.out).2.1); rintro e w34 ⟨rfl, hb⟩; refine ⟨_, rfl, ?_⟩; replace HO311 := dR HO311 hb; replace HO319 := dR HO319 hb; replace HO323 := dR HO323 hb; replace HO332 := dR HO332 hb; replace BK307 := dK BK307 hb; replace BK329 := dK BK329 hb; replace HB := za.mk (zi sB hb); try clear hb))
    go_meet
    case rel => exact ⟨_, (true), (by first | rfl | (simp; done) | (simp [*]; done)), H', ⟨by first | omega | exact Nat.le_refl _⟩, ⟨uR' (Kd.R_mono HO319.out (fun _ hk => hk.2))⟩, ⟨uR' (Kd.R_mono HO332.out (fun _ hk => hk.2))⟩, ⟨uR' (Kd.R_mono HO323.out (fun _ hk => trivial))⟩, ⟨uK BK307⟩, ⟨uK BK329⟩, ⟨sB⟩⟩
  case rest =>
   clear HC12
   try clear c2
   try clear p2
   try clear c3
   try clear c4
   try clear c4b0
   try clear c8
   try clear c24
   try clear c25
   try clear c28
   try clear c32
   try clear c34
   try clear hcz14_0
   try clear hcz14_1
   try clear hcz14_2
   try clear hcz14_3
   try clear hcz14_4
   try clear hcz14_5
   try clear hcz16_0
   try clear hcz16_1
   try clear hcz16_2
   try clear hcz16_3
   try clear hcz16_4
   try clear hcz16_5
   try clear hcz20_0
   try clear hcz20_1
   try clear hcz20_2
   try clear hcz20_3
   try clear hcz20_4
   try clear hcz20_5
   try clear hcz25_0
   try clear hcz25_1
   try clear hcz25_2
   try clear hcz25_3
   try clear hcz25_4
   try clear hcz25_5
   try clear hcz6_0
   try clear hcz6_1
   try clear hcz6_2
   try clear hcz6_3
   try clear hcz6_4
   try clear hcz6_5
   try clear hfz14_0
   try clear hfz14_1
   try clear hfz14_2
   try clear hfz14_3
   try clear hfz14_4
   try clear hfz14_5
   try clear hfz16_0
   try clear hfz16_1
   try clear hfz16_2
   try clear hfz16_3
   try clear hfz16_4
   try clear hfz16_5
   try clear hfz20_0
   try clear hfz20_1
   try clear hfz20_2
   try clear hfz20_3
   try clear hfz20_4
   try clear hfz20_5
   try clear hfz25_0
   try clear hfz25_1
   try clear hfz25_2
   try clear hfz25_3
   try clear hfz25_4
   try clear hfz25_5
   try clear hfz6_0
   try clear hfz6_1
   try clear hfz6_2
   try clear hfz6_3
   try clear hfz6_4
   try clear hfz6_5
   obtain ⟨kq, x44_11, rfl, HA, HJ11, HO_6, HO_9, HO_330000, BK307, BK329, HB⟩ := hcut
   cases kq with
   | zero => exact absurd HA.out (by simp [laws_FnExactWayToAmount.j0])
   | succ kj11 =>
    have H := HA.out
    clear HA
    simp only [laws_FnExactWayToAmount.j0] at H
    by_cases c35 : x44_11 = true
    ·subst c35
     have H1 : (some false) = some r := by rw [if_pos rfl] at H; exact H
     clear H
     have H := H1
     clear H1
     obtain rfl := Option.some.inj H
     go_wp2
     go_ret
     exact ⟨by first | rfl | (simp [zj, zk] <;> rfl) | (simp [*, zj, zk] <;> rfl), sB⟩
    ·replace c35 := Bool.eq_false_iff.mpr c35
     subst c35
     have H1 : ((laws_toPuzzle.f kj11 l0_0 a0_1 a0_2 a0_3 a0_4 a0_5).bind fun bt335 => ((laws_eqPuzzle.f kj11 t321 t324 t325 t326 t327 t328 bt335.1 bt335.2.1 bt335.2.2.1 bt335.2.2.2.1 bt335.2.2.2.2.1 bt335.2.2.2.2.2).bind fun t343 => (if t343 = true then ((laws_markPuzzle.f kj11 t321 t324 t325 t326 t327 t328 1).bind fun bt344 => (if bt344.1 < 0 then (laws_FnExactWayToAmount.j1 kj11 a1 t317 t320 t330 true l0_0 a0_1 a0_2 a0_3 a0_4 a0_5) else ((laws_eqMoveS.f kj11 t330 t317).bind fun t346 => (if t346 = true then (laws_FnExactWayToAmount.j1 kj11 a1 t317 t320 t330 (t333 != t320) l0_0 a0_1 a0_2 a0_3 a0_4 a0_5) else (laws_FnExactWayToAmount.j1 kj11 a1 t317 t320 t330 true l0_0 a0_1 a0_2 a0_3 a0_4 a0_5))))) else (some false)))) = some r := by rw [if_neg (show ¬ (false = true) by decide)] at H; exact H
     clear H
     have H := H1
     clear H1
     replace H := Option.bind_eq_some_iff.mp H
     obtain ⟨⟨t335, t338, t339, t340, t341, t342⟩, A360, H⟩ := H
     replace H : ((laws_eqPuzzle.f kj11 t321 t324 t325 t326 t327 t328 t335 t338 t339 t340 t341 t342).bind fun t343 => (if t343 = true then ((laws_markPuzzle.f kj11 t321 t324 t325 t326 t327 t328 1).bind fun bt344 => (if bt344.1 < 0 then (laws_FnExactWayToAmount.j1 kj11 a1 t317 t320 t330 true l0_0 a0_1 a0_2 a0_3 a0_4 a0_5) else ((laws_eqMoveS.f kj11 t330 t317).bind fun t346 => (if t346 = true then (laws_FnExactWayToAmount.j1 kj11 a1 t317 t320 t330 (t333 != t320) l0_0 a0_1 a0_2 a0_3 a0_4 a0_5) else (laws_FnExactWayToAmount.j1 kj11 a1 t317 t320 t330 true l0_0 a0_1 a0_2 a0_3 a0_4 a0_5))))) else (some false))) = some r := H
     have A36 := za.mk A360
     clear A360
     replace H := Option.bind_eq_some_iff.mp H
     obtain ⟨t343, A370, H⟩ := H
     replace H : (if t343 = true then ((laws_markPuzzle.f kj11 t321 t324 t325 t326 t327 t328 1).bind fun bt344 => (if bt344.1 < 0 then (laws_FnExactWayToAmount.j1 kj11 a1 t317 t320 t330 true l0_0 a0_1 a0_2 a0_3 a0_4 a0_5) else ((laws_eqMoveS.f kj11 t330 t317).bind fun t346 => (if t346 = true then (laws_FnExactWayToAmount.j1 kj11 a1 t317 t320 t330 (t333 != t320) l0_0 a0_1 a0_2 a0_3 a0_4 a0_5) else (laws_FnExactWayToAmount.j1 kj11 a1 t317 t320 t330 true l0_0 a0_1 a0_2 a0_3 a0_4 a0_5))))) else (some false)) = some r := H
     have A37 := za.mk A370
     clear A370
     by_cases c38 : t343 = true
     ·subst c38
      have H1 : ((laws_markPuzzle.f kj11 t321 t324 t325 t326 t327 t328 1).bind fun bt344 => (if bt344.1 < 0 then (laws_FnExactWayToAmount.j1 kj11 a1 t317 t320 t330 true l0_0 a0_1 a0_2 a0_3 a0_4 a0_5) else ((laws_eqMoveS.f kj11 t330 t317).bind fun t346 => (if t346 = true then (laws_FnExactWayToAmount.j1 kj11 a1 t317 t320 t330 (t333 != t320) l0_0 a0_1 a0_2 a0_3 a0_4 a0_5) else (laws_FnExactWayToAmount.j1 kj11 a1 t317 t320 t330 true l0_0 a0_1 a0_2 a0_3 a0_4 a0_5))))) = some r := by rw [if_pos rfl] at H; exact H
      clear H
      have H := H1
      clear H1
      replace H := Option.bind_eq_some_iff.mp H
      obtain ⟨⟨t344, t345⟩, A390, H⟩ := H
      replace H : (if t344 < 0 then (laws_FnExactWayToAmount.j1 kj11 a1 t317 t320 t330 true l0_0 a0_1 a0_2 a0_3 a0_4 a0_5) else ((laws_eqMoveS.f kj11 t330 t317).bind fun t346 => (if t346 = true then (laws_FnExactWayToAmount.j1 kj11 a1 t317 t320 t330 (t333 != t320) l0_0 a0_1 a0_2 a0_3 a0_4 a0_5) else (laws_FnExactWayToAmount.j1 kj11 a1 t317 t320 t330 true l0_0 a0_1 a0_2 a0_3 a0_4 a0_5)))) = some r := H
      have A39 := za.mk A390
      clear A390
      have HC40 := za.mk H
      clear H
      try go_wp2
      have n0_ := za.mk (Kd.R_drew HO_6.out)
      have n1_ := za.mk (Kd.R_drew HO_9.out)
      have n2_ := za.mk (Kd.R_drew HO_330000.out)
      have n3_ := za.mk (zf BK307.out)
      have n4_ := za.mk (zf BK329.out)
      have n5_ := za.mk (zv HB.out)
      clear HO_6
      clear HO_9
      clear HO_330000
      clear BK307
      clear BK329
      clear HB
      have HO_6 := n0_
      have HO_9 := n1_
      have HO_330000 := n2_
      have BK307 := n3_
      have BK329 := n4_
      have HB := n5_
      clear n0_ n1_ n2_ n3_ n4_ n5_
      refine zic (n := 5) (S := fun w' => w'.cell? ⟨gb329, 0, none⟩ = some (.slice Ao23 t321.length co23) ∧ w'.cell? ⟨gb329, 1, none⟩ = some (.int .i16 t324) ∧ w'.cell? ⟨gb329, 2, none⟩ = some (.int .i16 t325) ∧ w'.cell? ⟨gb329, 3, none⟩ = some (.int .i16 t326) ∧ w'.cell? ⟨gb329, 4, none⟩ = some (.int .i16 t327) ∧ w'.cell? ⟨gb329, 5, none⟩ = some (.bool t328) ∧ w'.cell? ⟨gb307, 0, none⟩ = some (.slice A0_0 l0_0.length c0_0) ∧ w'.cell? ⟨gb307, 1, none⟩ = some (.int .i16 a0_1) ∧ w'.cell? ⟨gb307, 2, none⟩ = some (.int .i16 a0_2) ∧ w'.cell? ⟨gb307, 3, none⟩ = some (.int .i16 a0_3) ∧ w'.cell? ⟨gb307, 4, none⟩ = some (.int .i16 a0_4) ∧ w'.cell? ⟨gb307, 5, none⟩ = some (.bool a0_5)) (ds := []) #[false, false, false, false, false] (by kernel_rfl) rfl rfl ⟨(zb BK329.out 0).trans rfl, (zb BK329.out 1).trans rfl, (zb BK329.out 2).trans rfl, (zb BK329.out 3).trans rfl, (zb BK329.out 4).trans rfl, (zb BK329.out 5).trans rfl, (zb BK307.out 0).trans rfl, (zb BK307.out 1).trans rfl, (zb BK307.out 2).trans rfl, (zb BK307.out 3).trans rfl, (zb BK307.out 4).trans rfl, (zb BK307.out 5).trans rfl⟩ (fun hHeld => ?_)
      generalize wc.drew = w41 at HO_6 HO_9 HO_330000 BK307 BK329 HB hHeld ⊢
      refine take_ (i := 0) (N := some 45) (v := ?_) (a' := ?_) #[true, false, false, false, false] rfl rfl (by kernel_rfl) (fun _ _ _ h => h) (Or.inl ⟨by rfl, ?_⟩) hHeld ?_ ?_
      rotate_left
      ·rintro w' ⟨s0, s1, s2, s3, s4, s5, s6, s7, s8, s9, s10, s11⟩
       go_simp
       with_reducible rfl
      rotate_left
      ·simp only [Act.put, List.setIfInBounds_toArray, List.set_cons_zero, List.set_cons_succ, zw, zx]
       rfl
      refine take_ (i := 1) (N := some 46) (v := ?_) (a' := ?_) #[true, true, false, false, false] rfl rfl (by kernel_rfl) (fun _ _ _ h => h) (Or.inl ⟨by rfl, ?_⟩) hHeld ?_ ?_
      rotate_left
      ·rintro w' ⟨s0, s1, s2, s3, s4, s5, s6, s7, s8, s9, s10, s11⟩
       go_simp
       with_reducible rfl
      rotate_left
      ·simp only [Act.put, List.setIfInBounds_toArray, List.set_cons_zero, List.set_cons_succ, zw, zx]
       rfl
      refine one_ (i := 2) (N := some 47) #[true, true, true, false, false] rfl rfl (by kernel_rfl) (by decide) (fun K hK => ?_)
      refine zgd Try.func34 (by kernel_rfl) rfl #[.agg #[.slice A0_0 l0_0.length c0_0, .int .i16 a0_1, .int .i16 a0_2, .int .i16 a0_3, .int .i16 a0_4, .bool a0_5]] (by rfl) rfl rfl (by (try simp only [List.map_toArray, List.map_cons, List.map_nil]); first | done | rfl | (simp only [List.length_drop, List.length_take]; rfl)) ?_
      with_reducible refine (laws_toPuzzle.calls kj11 _ _ l0_0 a0_1 a0_2 a0_3 a0_4 a0_5 t335 t338 t339 t340 t341 t342 _ ?side1 ?side2 A36.out).mono ?_
      (case side1 => exact uC HR0_0 HB)
      (case side2 => exact HC0_0.out)
      rintro e w42 ⟨v336, rfl, ho0, hb⟩
      refine ⟨_, rfl, ?_⟩
      have n0_ := dR HO_6 hb
      have n1_ := dR HO_9 hb
      have n2_ := za.mk (Kd.R_elder' (uR HO_330000) (Kd.R_base ho0) hb)
      have n3_ := za.mk (Kd.R_lower (Kd.R_new' ho0 (Kd.R_lt (uR HO_330000))) (zz sB))
      have n4_ := dK BK307 hb
      have n5_ := dK BK329 hb
      have n6_ := za.mk (zi sB hb)
      clear HO_6
      clear HO_9
      clear HO_330000
      clear BK307
      clear BK329
      clear HB
      have HO_6 := n0_
      have HO_9 := n1_
      have HO_330000 := n2_
      have HO337 := n3_
      have BK307 := n4_
      have BK329 := n5_
      have HB := n6_
      clear n0_ n1_ n2_ n3_ n4_ n5_ n6_
      (try clear hb)
      (try clear hb2)
      (try clear hk)
      (try clear hi)
      (try clear ho0)
      obtain ⟨Ao43, co43, eo43⟩ := Kd.R_slice HO337.out
      (first | subst eo43 | (injection eo43 with f1_ f2_ f3_; have f4_ := f1_.symm; have f5_ := f3_.symm; clear f1_ f2_ f3_; subst f4_; subst f5_))
      refine hK.out _ _ ⟨(zb BK329.out 0).trans rfl, (zb BK329.out 1).trans rfl, (zb BK329.out 2).trans rfl, (zb BK329.out 3).trans rfl, (zb BK329.out 4).trans rfl, (zb BK329.out 5).trans rfl, (zb BK307.out 0).trans rfl, (zb BK307.out 1).trans rfl, (zb BK307.out 2).trans rfl, (zb BK307.out 3).trans rfl, (zb BK307.out 4).trans rfl, (zb BK307.out 5).trans rfl⟩ (fun hHeld => ?_)
      clear hK K
      refine zqa (a' := ?_) ?_ ?_
      rotate_left
      ·show Act.put _ (some 47) _ = _
       simp only [Act.put, List.setIfInBounds_toArray, List.set_cons_zero, List.set_cons_succ, zw, zx]
       rfl
      refine one_ (i := 3) (N := some 48) #[true, true, true, true, false] rfl rfl (by kernel_rfl) (by decide) (fun K hK => ?_)
      refine zgd Try.func35 (by kernel_rfl) rfl #[.agg #[.slice Ao23 t321.length co23, .int .i16 t324, .int .i16 t325, .int .i16 t326, .int .i16 t327, .bool t328], .agg #[.slice Ao43 t335.length co43, .int .i16 t338, .int .i16 t339, .int .i16 t340, .int .i16 t341, .bool t342]] (by rfl) rfl rfl (by (try simp only [List.map_toArray, List.map_cons, List.map_nil]); first | done | rfl | (simp only [List.length_drop, List.length_take]; rfl)) ?_
      with_reducible refine (laws_eqPuzzle.calls kj11 _ _ t321 t324 t325 t326 t327 t328 _ _ t335 t338 t339 t340 t341 t342 true _ ?side1 ?side2 ?side3 ?side4 A37.out).mono ?_
      (case side1 => exact uQ HO_330000)
      (case side2 => exact (Kd.R_reads' HO_330000.out).2.1)
      (case side3 => exact uQ HO337)
      (case side4 => exact (Kd.R_reads' HO337.out).2.1)
      rintro e w44 ⟨rfl, hb⟩
      refine ⟨_, rfl, ?_⟩
      have n0_ := dR HO_6 hb
      have n1_ := dR HO_9 hb
      have n2_ := dR HO_330000 hb
      have n3_ := dR HO337 hb
      have n4_ := dK BK307 hb
      have n5_ := dK BK329 hb
      have n6_ := za.mk (zi sB hb)
      clear HO_6
      clear HO_9
      clear HO_330000
      clear HO337
      clear BK307
      clear BK329
      clear HB
      have HO_6 := n0_
      have HO_9 := n1_
      have HO_330000 := n2_
      have HO337 := n3_
      have BK307 := n4_
      have BK329 := n5_
      have HB := n6_
      clear n0_ n1_ n2_ n3_ n4_ n5_ n6_
      (try clear hb)
      (try clear hb2)
      (try clear hk)
      (try clear hi)
      refine hK.out _ _ ⟨(zb BK329.out 0).trans rfl, (zb BK329.out 1).trans rfl, (zb BK329.out 2).trans rfl, (zb BK329.out 3).trans rfl, (zb BK329.out 4).trans rfl, (zb BK329.out 5).trans rfl, (zb BK307.out 0).trans rfl, (zb BK307.out 1).trans rfl, (zb BK307.out 2).trans rfl, (zb BK307.out 3).trans rfl, (zb BK307.out 4).trans rfl, (zb BK307.out 5).trans rfl⟩ (fun hHeld => ?_)
      clear hK K
      refine zqa (a' := ?_) ?_ ?_
      rotate_left
      ·show Act.put _ (some 48) _ = _
       simp only [Act.put, List.setIfInBounds_toArray, List.set_cons_zero, List.set_cons_succ, zw, zx]
       rfl
      refine zea (i := 4) (N := some 49) (v := ?_) (a' := ?_) #[true, true, true, true, true] rfl rfl (by kernel_rfl) (fun _ _ _ h => h) (Or.inl ⟨by rfl, ?_⟩) ?_ ?_
      rotate_left
      ·intro w'
       go_simp
       with_reducible rfl
      rotate_left
      ·simp only [Act.put, List.setIfInBounds_toArray, List.set_cons_zero, List.set_cons_succ, zw, zx]
       rfl
      refine zxc (by kernel_rfl) ?_
      have hnb45 := NB329_307.out
      have hnc45 := NB307_329.out
      obtain ⟨hcz46_0, hcz46_1, hcz46_2, hcz46_3, hcz46_4, hcz46_5⟩ := xc6 BK329
      obtain ⟨hfz46_0, hfz46_1, hfz46_2, hfz46_3, hfz46_4, hfz46_5⟩ := xf6 BK329
      go_upto_region 14 with (first | ((with_reducible refine zl (f := 38) rfl ?_); refine gz (some 52) Try.func38 #[.agg #[.slice Ao23 t321.length co23, .int .i16 t324, .int .i16 t325, .int .i16 t326, .int .i16 t327, .bool t328], .int .i64 1] rfl rfl ?_; (with_reducible refine (laws_markPuzzle.calls kj11 (fun k_ => some k_ = (.slice Ao23 t321.length co23 : Value).ownBlock) (.slice Ao23 t321.length co23) t321 t324 t325 t326 t327 t328 1 t344 t345 w _ ?side1 ?side2 A39.out).mono ?_); (case side1 => repeat (first | (with_reducible first | exact HB.out | apply zy | apply zm | apply zv | refine zt ?_ GE307.out | refine zt ?_ GE329.out) | exact HB.out)); (case side2 => exact Kd.R_tight rfl HO_330000.out); rintro e w47 ⟨rfl, hy0, hb, hkp⟩; refine ⟨_, rfl, ?_⟩; replace HO_6 := za.mk (Kd.R_mono (ok' := fun k_ => some k_ ≠ (v331 : Value).ownBlock) (Kd.R_keptB ((Kd.R_apart' HO_6.out (Kd.R_typed HO_330000.out) (by decide))) hkp (fun k_ hk_ hs_ => (hk_.2) hs_)) (fun k_ hk_ => hk_.1.1)); replace HO_9 := za.mk (Kd.R_mono (ok' := fun k_ => some k_ ≠ (v318 : Value).ownBlock) (Kd.R_keptB ((Kd.R_apart' HO_9.out (Kd.R_typed HO_330000.out) (by decide))) hkp (fun k_ hk_ hs_ => (hk_.2) hs_)) (fun k_ hk_ => hk_.1.1)); replace BK307 := za.mk (zub (uK BK307) hkp (fun hs_ => (fun e_ => (Kd.R_ne HO_330000.out BK307.out (by decide)) e_) hs_)); replace BK329 := za.mk (zub (uK BK329) hkp (fun hs_ => (fun e_ => (Kd.R_ne HO_330000.out BK329.out (by decide)) e_) hs_)); replace HO_330000 := za.mk (Kd.R_reok rfl hy0 (fun k_ e_ => HO_330000.out.1 k_ e_)); replace HO337 := za.mk (Kd.R_mono (ok' := fun k_ => some k_ ≠ (.slice Ao23 t321.length co23 : Value).ownBlock) (Kd.R_keptB (HO337.out) hkp (fun k_ hk_ hs_ => (hk_.2) hs_)) (fun k_ hk_ => hk_.1.2)); replace HB := za.mk hb; (try clear hb); (try clear hkp); (try clear hy0)))
      (try simp only [Act.put, List.setIfInBounds_toArray, List.set_cons_zero, List.set_cons_succ])
      go_cut [65] (fun v65 wc => ∃ (kq : Nat) (x65_39 : Bool), v65 = .bool x65_39 ∧ za (laws_FnExactWayToAmount.j1 kq a1 t317 t320 t330 x65_39 l0_0 a0_1 a0_2 a0_3 a0_4 a0_5 = some r) ∧ za (kq ≤ kj11) ∧ za (Kd.R k80 80 wc w.heap.size (fun k_ => some k_ ≠ (v331 : Value).ownBlock) v318 t317) ∧ za (Kd.R k80 80 wc w.heap.size (fun k_ => some k_ ≠ (v318 : Value).ownBlock) v331 t330) ∧ za (Kd.R (Kd.int .i16) 25 wc w.heap.size (fun _ => True) (.slice Ao23 t321.length co23) t345) ∧ za (wc.heap[gb307]? = some (.cells #[(.slice A0_0 l0_0.length c0_0), .int .i16 a0_1, .int .i16 a0_2, .int .i16 a0_3, .int .i16 a0_4, .bool a0_5] 53 (0, 0))) ∧ za (wc.heap[gb329]? = some (.cells #[(.slice Ao23 t321.length co23), .int .i16 t324, .int .i16 t325, .int .i16 t326, .int .i16 t327, .bool t328] 29 (0, 0))) ∧ za (Below w.heap.size w wc))
      case first =>
       have H := HC40.out
       clear HC40
       by_cases c48 : t344 < 0
       ·rw [if_pos c48] at H
        have c48b0 : decide (t344 < 0) = true := decide_eq_true c48
        clear c48
        (first | rw [c48b0] | (simp only [zw, zx]; rw [c48b0]) | skip)
        have H' := za.mk H
        clear H
        go_wp2
        go_meet
        case rel => exact ⟨_, (true), (by first | rfl | (simp; done) | (simp [*]; done)), H', ⟨by have := HJ11.out; first | omega | exact Nat.le_refl _⟩, ⟨uR HO_6⟩, ⟨uR HO_9⟩, ⟨uR' (Kd.R_mono HO_330000.out (fun _ hk => trivial))⟩, ⟨uK BK307⟩, ⟨uK BK329⟩, ⟨sB⟩⟩
       ·rw [if_neg c48] at H
        have c48b0 : decide (t344 < 0) = false := decide_eq_false c48
        clear c48
        (first | rw [c48b0] | (simp only [zw, zx]; rw [c48b0]) | skip)
        replace H := Option.bind_eq_some_iff.mp H
        obtain ⟨t346, A490, H⟩ := H
        replace H : (if t346 = true then (laws_FnExactWayToAmount.j1 kj11 a1 t317 t320 t330 (t333 != t320) l0_0 a0_1 a0_2 a0_3 a0_4 a0_5) else (laws_FnExactWayToAmount.j1 kj11 a1 t317 t320 t330 true l0_0 a0_1 a0_2 a0_3 a0_4 a0_5)) = some r := H
        have A49 := za.mk A490
        clear A490
        by_cases c50 : t346 = true
        ·subst c50
         have H1 : (laws_FnExactWayToAmount.j1 kj11 a1 t317 t320 t330 (t333 != t320) l0_0 a0_1 a0_2 a0_3 a0_4 a0_5) = some r := by rw [if_pos rfl] at H; exact H
         clear H
         have H := H1
         clear H1
         have H' := za.mk H
         clear H
         obtain ⟨Ao51, co51, eo51⟩ := Kd.R_slice HO_9.out
         subst eo51
         obtain ⟨Ao52, co52, eo52⟩ := Kd.R_slice HO_6.out
         subst eo52
         go_wp2_with (first | (go_at_call 42; (with_reducible refine (laws_eqMoveS.calls kj11 _ _ t330 _ _ t317 true _ ?side1 ?side2 ?side3 ?side4 A49.out).mono ?_); (case side1 => exact uQ HO_9); (case side2 => exact (Kd.R_reads' HO_9.out).2.1); (case side3 => exact uQ HO_6); (case side4 => exact (Kd.R_reads' HO_6.out).2.1); rintro e w53 ⟨rfl, hb⟩; replace HO_6 := dR HO_6 hb; replace HO_9 := dR HO_9 hb; replace HO_330000 := dR HO_330000 hb; replace HO337 := dR HO337 hb; replace BK307 := dK BK307 hb; replace BK329 := dK BK329 hb; replace HB := za.mk (zi sB hb); try clear hb))
         go_meet
         case rel => exact ⟨_, ((t333 != t320)), (by first | rfl | (simp; done) | (simp [*]; done)), H', ⟨by have := HJ11.out; first | omega | exact Nat.le_refl _⟩, ⟨uR HO_6⟩, ⟨uR HO_9⟩, ⟨uR' (Kd.R_mono HO_330000.out (fun _ hk => trivial))⟩, ⟨uK BK307⟩, ⟨uK BK329⟩, ⟨sB⟩⟩
        ·replace c50 := Bool.eq_false_iff.mpr c50
         subst c50
         have H1 : (laws_FnExactWayToAmount.j1 kj11 a1 t317 t320 t330 true l0_0 a0_1 a0_2 a0_3 a0_4 a0_5) = some r := by rw [if_neg (show ¬ (false = true) by decide)] at H; exact H
         clear H
         have H := H1
         clear H1
         have H' := za.mk H
         clear H
         obtain ⟨Ao54, co54, eo54⟩ := Kd.R_slice HO_9.out
         subst eo54
         obtain ⟨Ao55, co55, eo55⟩ := Kd.R_slice HO_6.out
         subst eo55
         go_wp2_with (first | (go_at_call 42; (with_reducible refine (laws_eqMoveS.calls kj11 _ _ t330 _ _ t317 false _ ?side1 ?side2 ?side3 ?side4 A49.out).mono ?_); (case side1 => exact uQ HO_9); (case side2 => exact (Kd.R_reads' HO_9.out).2.1); (case side3 => exact uQ HO_6); (case side4 => exact (Kd.R_reads' HO_6.out).2.1); rintro e w56 ⟨rfl, hb⟩; replace HO_6 := dR HO_6 hb; replace HO_9 := dR HO_9 hb; replace HO_330000 := dR HO_330000 hb; replace HO337 := dR HO337 hb; replace BK307 := dK BK307 hb; replace BK329 := dK BK329 hb; replace HB := za.mk (zi sB hb); try clear hb))
         go_meet
         case rel => exact ⟨_, (true), (by first | rfl | (simp; done) | (simp [*]; done)), H', ⟨by have := HJ11.out; first | omega | exact Nat.le_refl _⟩, ⟨uR HO_6⟩, ⟨uR HO_9⟩, ⟨uR' (Kd.R_mono HO_330000.out (fun _ hk => trivial))⟩, ⟨uK BK307⟩, ⟨uK BK329⟩, ⟨sB⟩⟩
      case rest =>
       clear HC40
       try clear c2
       try clear p2
       try clear c3
       try clear c4
       try clear c4b0
       try clear c5
       try clear c8
       try clear c24
       try clear c25
       try clear c28
       try clear c32
       try clear c34
       try clear c35
       try clear c38
       try clear c42
       try clear c45
       try clear c48
       try clear c48b0
       try clear c50
       try clear hcz14_0
       try clear hcz14_1
       try clear hcz14_2
       try clear hcz14_3
       try clear hcz14_4
       try clear hcz14_5
       try clear hcz16_0
       try clear hcz16_1
       try clear hcz16_2
       try clear hcz16_3
       try clear hcz16_4
       try clear hcz16_5
       try clear hcz20_0
       try clear hcz20_1
       try clear hcz20_2
       try clear hcz20_3
       try clear hcz20_4
       try clear hcz20_5
       try clear hcz25_0
       try clear hcz25_1
       try clear hcz25_2
       try clear hcz25_3
       try clear hcz25_4
       try clear hcz25_5
       try clear hcz46_0
       try clear hcz46_1
       try clear hcz46_2
       try clear hcz46_3
       try clear hcz46_4
       try clear hcz46_5
       try clear hcz6_0
       try clear hcz6_1
       try clear hcz6_2
       try clear hcz6_3
       try clear hcz6_4
       try clear hcz6_5
       try clear hfz14_0
       try clear hfz14_1
       try clear hfz14_2
       try clear hfz14_3
       try clear hfz14_4
       try clear hfz14_5
       try clear hfz16_0
       try clear hfz16_1
       try clear hfz16_2
       try clear hfz16_3
       try clear hfz16_4
       try clear hfz16_5
       try clear hfz20_0
       try clear hfz20_1
       try clear hfz20_2
       try clear hfz20_3
       try clear hfz20_4
       try clear hfz20_5
       try clear hfz25_0
       try clear hfz25_1
       try clear hfz25_2
       try clear hfz25_3
       try clear hfz25_4
       try clear hfz25_5
       try clear hfz46_0
       try clear hfz46_1
       try clear hfz46_2
       try clear hfz46_3
       try clear hfz46_4
       try clear hfz46_5
       try clear hfz6_0
       try clear hfz6_1
       try clear hfz6_2
       try clear hfz6_3
       try clear hfz6_4
       try clear hfz6_5
       try clear p2
       obtain ⟨kq, x65_39, rfl, HA, HJ39, HO_6, HO_9, HO_330000, BK307, BK329, HB⟩ := hcut
       have hl330000_39 := (Kd.R_reads' HO_330000.out).1
       rw [hl330000_39] at HO_330000
       (try simp only [hl330000_39])
       (try simp only [hl330000_39] at BK307)
       (try simp only [hl330000_39] at BK329)
       (try simp only [hl330000_39] at HO_6)
       (try simp only [hl330000_39] at HO_9)
       cases kq with
       | zero => exact absurd HA.out (by simp [laws_FnExactWayToAmount.j1])
       | succ kj39 =>
        have H := HA.out
        clear HA
        simp only [laws_FnExactWayToAmount.j1] at H
        by_cases c57 : x65_39 = true
        ·subst c57
         have H1 : (some false) = some r := by rw [if_pos rfl] at H; exact H
         clear H
         have H := H1
         clear H1
         obtain rfl := Option.some.inj H
         go_wp2
         go_ret
         exact ⟨by first | rfl | (simp [zj, zk] <;> rfl) | (simp [*, zj, zk] <;> rfl), sB⟩
        ·replace c57 := Bool.eq_false_iff.mpr c57
         subst c57
         have H1 : ((laws_markMoveS.f kj39 t330 1).bind fun bt347 => ((laws_heldMoveS.f kj39 bt347.2 1).bind fun t349 => (if t349 < 0 then (some false) else (if t349 = bt347.1 then ((laws_toPuzzle.f kj39 l0_0 a0_1 a0_2 a0_3 a0_4 a0_5).bind fun bt350 => ((impl_WayToAmount.f kj39 bt350.1 bt350.2.1 bt350.2.2.1 bt350.2.2.2.1 bt350.2.2.2.2.1 bt350.2.2.2.2.2 a1).bind fun bt358 => ((laws_eqMoveS.f kj39 bt358.1 t317).bind fun t362 => (if t362 = true then (laws_FnExactWayToAmount.j2 kj39 bt347.2 bt347.1 (bt358.2 != t320)) else (laws_FnExactWayToAmount.j2 kj39 bt347.2 bt347.1 true))))) else (some false))))) = some r := by rw [if_neg (show ¬ (false = true) by decide)] at H; exact H
         clear H
         have H := H1
         clear H1
         replace H := Option.bind_eq_some_iff.mp H
         obtain ⟨⟨t347, t348⟩, A580, H⟩ := H
         replace H : ((laws_heldMoveS.f kj39 t348 1).bind fun t349 => (if t349 < 0 then (some false) else (if t349 = t347 then ((laws_toPuzzle.f kj39 l0_0 a0_1 a0_2 a0_3 a0_4 a0_5).bind fun bt350 => ((impl_WayToAmount.f kj39 bt350.1 bt350.2.1 bt350.2.2.1 bt350.2.2.2.1 bt350.2.2.2.2.1 bt350.2.2.2.2.2 a1).bind fun bt358 => ((laws_eqMoveS.f kj39 bt358.1 t317).bind fun t362 => (if t362 = true then (laws_FnExactWayToAmount.j2 kj39 t348 t347 (bt358.2 != t320)) else (laws_FnExactWayToAmount.j2 kj39 t348 t347 true))))) else (some false)))) = some r := H
         have A58 := za.mk A580
         clear A580
         replace H := Option.bind_eq_some_iff.mp H
         obtain ⟨t349, A590, H⟩ := H
         replace H : (if t349 < 0 then (some false) else (if t349 = t347 then ((laws_toPuzzle.f kj39 l0_0 a0_1 a0_2 a0_3 a0_4 a0_5).bind fun bt350 => ((impl_WayToAmount.f kj39 bt350.1 bt350.2.1 bt350.2.2.1 bt350.2.2.2.1 bt350.2.2.2.2.1 bt350.2.2.2.2.2 a1).bind fun bt358 => ((laws_eqMoveS.f kj39 bt358.1 t317).bind fun t362 => (if t362 = true then (laws_FnExactWayToAmount.j2 kj39 t348 t347 (bt358.2 != t320)) else (laws_FnExactWayToAmount.j2 kj39 t348 t347 true))))) else (some false))) = some r := H
         have A59 := za.mk A590
         clear A590
         by_cases c60 : t349 < 0
         ·rw [if_pos c60] at H
          have c60b0 : decide (t349 < 0) = true := decide_eq_true c60
          clear c60
          obtain rfl := Option.some.inj H
          obtain ⟨Ao61, co61, eo61⟩ := Kd.R_slice HO_9.out
          subst eo61
          go_wp2_with (first | ((with_reducible refine zl (f := 43) rfl ?_); refine gz (some 68) Try.func43 #[.slice Ao61 t330.length co61, .int .i64 1] rfl rfl ?_; (with_reducible refine (laws_markMoveS.calls kj39 (fun k_ => some k_ = (.slice Ao61 t330.length co61 : Value).ownBlock) (.slice Ao61 t330.length co61) t330 1 t347 t348 w _ ?side1 ?side2 A58.out).mono ?_); (case side1 => repeat (first | (with_reducible first | exact HB.out | apply zy | apply zm | apply zv | refine zt ?_ GE307.out | refine zt ?_ GE329.out) | exact HB.out)); (case side2 => exact Kd.R_tight rfl HO_9.out); rintro e w62 ⟨rfl, hy0, hb, hkp⟩; refine ⟨_, rfl, ?_⟩; replace HO_6 := za.mk (Kd.R_mono (ok' := fun k_ => some k_ ≠ (.slice Ao61 t330.length co61 : Value).ownBlock) (Kd.R_keptB (HO_6.out) hkp (fun k_ hk_ hs_ => (hk_) hs_)) (fun k_ hk_ => hk_.1)); replace HO_330000 := za.mk (Kd.R_mono (ok' := fun k_ => True) (Kd.R_keptB ((Kd.R_apart' HO_330000.out (Kd.R_typed HO_9.out) (by decide))) hkp (fun k_ hk_ hs_ => (hk_.2) hs_)) (fun k_ hk_ => trivial)); replace BK307 := za.mk (zub (uK BK307) hkp (fun hs_ => (fun e_ => (Kd.R_ne HO_9.out BK307.out (by decide)) e_) hs_)); replace BK329 := za.mk (zub (uK BK329) hkp (fun hs_ => (fun e_ => (Kd.R_ne HO_9.out BK329.out (by decide)) e_) hs_)); replace HO_9 := za.mk (Kd.R_reok rfl hy0 (fun k_ e_ => HO_9.out.1 k_ e_)); replace HB := za.mk hb; (try clear hb); (try clear hkp); (try clear hy0)) | ((with_reducible refine zl (f := 44) rfl ?_); refine goesL_ (some 71) rfl rfl Try.func44 (by kernel_rfl) rfl #[.slice Ao61 t348.length co61, .int .i64 1] rfl (by (try simp only [List.map_toArray, List.map_cons, List.map_nil]); first | done | (rw [show t348.length = t330.length from (Kd.R_reads' HO_9.out).1.symm] <;> rfl) | rfl | (simp only [List.length_drop, List.length_take]; rfl)) ?_; (with_reducible refine (laws_heldMoveS.calls kj39 _ _ t348 1 t349 _ ?side1 ?side2 A59.out).mono ?_); (case side1 => exact uQ HO_9); (case side2 => rw [show t348.length = t330.length from (Kd.R_reads' HO_9.out).1.symm]; exact (Kd.R_reads' HO_9.out).2.1); rintro e w' ⟨rfl, ⟨nd, rfl⟩⟩; refine ⟨_, rfl, ?_⟩))
          go_ret
          exact ⟨by first | rfl | (simp [zj, zk] <;> rfl) | (simp [*, zj, zk] <;> rfl), sB⟩
         ·rw [if_neg c60] at H
          have c60b0 : decide (t349 < 0) = false := decide_eq_false c60
          clear c60
          by_cases c63 : t349 = t347
          ·rw [if_pos c63] at H
           have c63b0 : (t349 == t347) = true := beq_iff_eq.mpr c63
           have c63b1 : (t349 != t347) = false := bne_eq_false_iff_eq.mpr c63
           clear c63
           replace H := Option.bind_eq_some_iff.mp H
           obtain ⟨⟨t350, t353, t354, t355, t356, t357⟩, A640, H⟩ := H
           replace H : ((impl_WayToAmount.f kj39 t350 t353 t354 t355 t356 t357 a1).bind fun bt358 => ((laws_eqMoveS.f kj39 bt358.1 t317).bind fun t362 => (if t362 = true then (laws_FnExactWayToAmount.j2 kj39 t348 t347 (bt358.2 != t320)) else (laws_FnExactWayToAmount.j2 kj39 t348 t347 true)))) = some r := H
           have A64 := za.mk A640
           clear A640
           replace H := Option.bind_eq_some_iff.mp H
           obtain ⟨⟨t358, t361⟩, A650, H⟩ := H
           replace H : ((laws_eqMoveS.f kj39 t358 t317).bind fun t362 => (if t362 = true then (laws_FnExactWayToAmount.j2 kj39 t348 t347 (t361 != t320)) else (laws_FnExactWayToAmount.j2 kj39 t348 t347 true))) = some r := H
           have A65 := za.mk A650
           clear A650
           have HC66 := za.mk H
           clear H
           obtain ⟨Ao67, co67, eo67⟩ := Kd.R_slice HO_9.out
           subst eo67
           go_upto_region 25 with (first | ((with_reducible refine zl (f := 43) rfl ?_); refine gz (some 68) Try.func43 #[.slice Ao67 t330.length co67, .int .i64 1] rfl rfl ?_; (with_reducible refine (laws_markMoveS.calls kj39 (fun k_ => some k_ = (.slice Ao67 t330.length co67 : Value).ownBlock) (.slice Ao67 t330.length co67) t330 1 t347 t348 w _ ?side1 ?side2 A58.out).mono ?_); (case side1 => repeat (first | (with_reducible first | exact HB.out | apply zy | apply zm | apply zv | refine zt ?_ GE307.out | refine zt ?_ GE329.out) | exact HB.out)); (case side2 => exact Kd.R_tight rfl HO_9.out); rintro e w68 ⟨rfl, hy0, hb, hkp⟩; refine ⟨_, rfl, ?_⟩; replace HO_6 := za.mk (Kd.R_mono (ok' := fun k_ => some k_ ≠ (.slice Ao67 t330.length co67 : Value).ownBlock) (Kd.R_keptB (HO_6.out) hkp (fun k_ hk_ hs_ => (hk_) hs_)) (fun k_ hk_ => hk_.1)); replace HO_330000 := za.mk (Kd.R_mono (ok' := fun k_ => True) (Kd.R_keptB ((Kd.R_apart' HO_330000.out (Kd.R_typed HO_9.out) (by decide))) hkp (fun k_ hk_ hs_ => (hk_.2) hs_)) (fun k_ hk_ => trivial)); replace BK307 := za.mk (zub (uK BK307) hkp (fun hs_ => (fun e_ => (Kd.R_ne HO_9.out BK307.out (by decide)) e_) hs_)); replace BK329 := za.mk (zub (uK BK329) hkp (fun hs_ => (fun e_ => (Kd.R_ne HO_9.out BK329.out (by decide)) e_) hs_)); replace HO_9 := za.mk (Kd.R_reok rfl hy0 (fun k_ e_ => HO_9.out.1 k_ e_)); replace HB := za.mk hb; (try clear hb); (try clear hkp); (try clear hy0)) | ((with_reducible refine zl (f := 44) rfl ?_); refine goesL_ (some 71) rfl rfl Try.func44 (by kernel_rfl) rfl #[.slice Ao67 t348.length co67, .int .i64 1] rfl (by (try simp only [List.map_toArray, List.map_cons, List.map_nil]); first | done | (rw [show t348.length = t330.length from (Kd.R_reads' HO_9.out).1.symm] <;> rfl) | rfl | (simp only [List.length_drop, List.length_take]; rfl)) ?_; (with_reducible refine (laws_heldMoveS.calls kj39 _ _ t348 1 t349 _ ?side1 ?side2 A59.out).mono ?_); (case side1 => exact uQ HO_9); (case side2 => rw [show t348.length = t330.length from (Kd.R_reads' HO_9.out).1.symm]; exact (Kd.R_reads' HO_9.out).2.1); rintro e w' ⟨rfl, ⟨nd, rfl⟩⟩; refine ⟨_, rfl, ?_⟩; have hnb69 := NB307_329.out; have hnc69 := NB329_307.out; obtain ⟨hcz70_0, hcz70_1, hcz70_2, hcz70_3, hcz70_4, hcz70_5⟩ := xc6 BK307; obtain ⟨hfz70_0, hfz70_1, hfz70_2, hfz70_3, hfz70_4, hfz70_5⟩ := xf6 BK307) | ((with_reducible refine zl (f := 34) rfl ?_); refine gz (some 79) Try.func34 #[.agg #[.slice A0_0 l0_0.length c0_0, .int .i16 a0_1, .int .i16 a0_2, .int .i16 a0_3, .int .i16 a0_4, .bool a0_5]] rfl rfl ?_; (with_reducible refine (laws_toPuzzle.calls kj39 _ _ l0_0 a0_1 a0_2 a0_3 a0_4 a0_5 t350 t353 t354 t355 t356 t357 _ ?side1 ?side2 A64.out).mono ?_); (case side1 => repeat (first | exact (Kd.C_below HR0_0.out sB) | (with_reducible refine Kd.C_alloc ?_ _) | (with_reducible refine Kd.C_drewN ?_ _) | (with_reducible refine Kd.C_drew ?_))); (case side2 => exact HC0_0.out); rintro e w71 ⟨v351, rfl, ho0, hb⟩; refine ⟨_, rfl, ?_⟩; have HO352 := za.mk (Kd.R_lower (Kd.R_new' ho0 (Kd.R_lt (uR HO_330000))) (zz sB)); replace HO_6 := dR HO_6 hb; replace HO_9 := dR HO_9 hb; replace HO_330000 := za.mk (Kd.R_elder' (uR HO_330000) (Kd.R_base ho0) hb); replace BK307 := dK BK307 hb; replace BK329 := dK BK329 hb; replace HB := za.mk (zi sB hb); try clear hb; obtain ⟨Ao72, co72, eo72⟩ := Kd.R_slice HO352.out; subst eo72) | ((with_reducible refine zl (f := 24) rfl ?_); refine gz (some 81) Try.func24 #[.agg #[.slice Ao72 t350.length co72, .int .i16 t353, .int .i16 t354, .int .i16 t355, .int .i16 t356, .bool t357], .int .i64 a1] rfl rfl ?_; (with_reducible refine (impl_WayToAmount.calls kj39 _ _ t350 t353 t354 t355 t356 t357 a1 t358 t361 _ ?side1 ?side2 A65.out).mono ?_); (case side1 => exact uQ HO352); (case side2 => exact (Kd.R_reads' HO352.out).2.1); rintro e w73 ⟨v359, rfl, ho0, hb⟩; refine ⟨_, rfl, ?_⟩; have HO360 := za.mk (Kd.R_lower (Kd.R_new' (Kd.R_new' ho0 (Kd.R_lt (uR HO_6))) (Kd.R_lt (uR HO_9))) (zz sB)); replace HO_6 := za.mk (Kd.R_elder' (uR HO_6) (Kd.R_base ho0) hb); replace HO_9 := za.mk (Kd.R_elder' (uR HO_9) (Kd.R_base ho0) hb); replace HO_330000 := dR HO_330000 hb; replace HO352 := dR HO352 hb; replace BK307 := dK BK307 hb; replace BK329 := dK BK329 hb; replace HB := za.mk (zi sB hb); try clear hb))
           (try simp only [Act.put, List.setIfInBounds_toArray, List.set_cons_zero, List.set_cons_succ])
           go_cut [92] (fun v92 wc => ∃ (kq : Nat) (x92_65 : Bool), v92 = .bool x92_65 ∧ za (laws_FnExactWayToAmount.j2 kq t348 t347 x92_65 = some r) ∧ za (kq ≤ kj39) ∧ za (Kd.R k80 80 wc w.heap.size (fun _ => True) (.slice Ao67 t330.length co67) t348) ∧ za (Kd.R (Kd.int .i16) 25 wc w.heap.size (fun _ => True) (.slice Ao23 t345.length co23) t345) ∧ za (wc.heap[gb307]? = some (.cells #[(.slice A0_0 l0_0.length c0_0), .int .i16 a0_1, .int .i16 a0_2, .int .i16 a0_3, .int .i16 a0_4, .bool a0_5] 53 (0, 0))) ∧ za (wc.heap[gb329]? = some (.cells #[(.slice Ao23 t345.length co23), .int .i16 t324, .int .i16 t325, .int .i16 t326, .int .i16 t327, .bool t328] 29 (0, 0))) ∧ za (Below w.heap.size w wc))
           case first =>
            have H := HC66.out
            clear HC66
            replace H := Option.bind_eq_some_iff.mp H
            obtain ⟨t362, A740, H⟩ := H
            replace H : (if t362 = true then (laws_FnExactWayToAmount.j2 kj39 t348 t347 (t361 != t320)) else (laws_FnExactWayToAmount.j2 kj39 t348 t347 true)) = some r := H
            have A74 := za.mk A740
            clear A740
            by_cases c75 : t362 = true
            ·subst c75
             have H1 : (laws_FnExactWayToAmount.j2 kj39 t348 t347 (t361 != t320)) = some r := by rw [if_pos rfl] at H; exact H
             clear H
             have H := H1
             clear H1
             have H' := za.mk H
             clear H
             obtain ⟨Ao76, co76, eo76⟩ := Kd.R_slice HO360.out
             subst eo76
             obtain ⟨Ao77, co77, eo77⟩ := Kd.R_slice HO_6.out
             subst eo77
             go_wp2_with (first | ((with_reducible refine zl (f := 42) rfl ?_); refine gz (some 86) Try.func42 #[.slice Ao76 t358.length co76, .slice Ao77 t317.length co77] rfl rfl ?_; (with_reducible refine (laws_eqMoveS.calls kj39 _ _ t358 _ _ t317 true _ ?side1 ?side2 ?side3 ?side4 A74.out).mono ?_); (case side1 => exact uQ HO360); (case side2 => exact (Kd.R_reads' HO360.out).2.1); (case side3 => exact uQ HO_6); (case side4 => exact (Kd.R_reads' HO_6.out).2.1); rintro e w78 ⟨rfl, hb⟩; refine ⟨_, rfl, ?_⟩; replace HO_6 := dR HO_6 hb; replace HO_9 := dR HO_9 hb; replace HO_330000 := dR HO_330000 hb; replace HO352 := dR HO352 hb; replace HO360 := dR HO360 hb; replace BK307 := dK BK307 hb; replace BK329 := dK BK329 hb; replace HB := za.mk (zi sB hb); try clear hb))
             go_meet
             case rel => exact ⟨_, ((t361 != t320)), (by first | rfl | (simp; done) | (simp [*]; done)), H', ⟨by have := HJ11.out; have := HJ39.out; first | omega | exact Nat.le_refl _⟩, ⟨by (try simp only [hl330000_39]); (with_reducible repeat (first | apply Kd.R_alloc | apply Kd.R_drewN | apply Kd.R_drew)); exact Kd.R_mono HO_9.out (fun _ hk => trivial)⟩, ⟨by (try simp only [hl330000_39]); (with_reducible repeat (first | apply Kd.R_alloc | apply Kd.R_drewN | apply Kd.R_drew)); exact Kd.R_mono HO_330000.out (fun _ hk => trivial)⟩, ⟨by (try simp only [hl330000_39]); (with_reducible repeat (first | refine ze ?_ _ | refine zf ?_ | refine zc ?_ _)); exact BK307.out⟩, ⟨by (try simp only [hl330000_39]); (with_reducible repeat (first | refine ze ?_ _ | refine zf ?_ | refine zc ?_ _)); exact BK329.out⟩, ⟨sB⟩⟩
            ·replace c75 := Bool.eq_false_iff.mpr c75
             subst c75
             have H1 : (laws_FnExactWayToAmount.j2 kj39 t348 t347 true) = some r := by rw [if_neg (show ¬ (false = true) by decide)] at H; exact H
             clear H
             have H := H1
             clear H1
             have H' := za.mk H
             clear H
             obtain ⟨Ao79, co79, eo79⟩ := Kd.R_slice HO360.out
             subst eo79
             obtain ⟨Ao80, co80, eo80⟩ := Kd.R_slice HO_6.out
             subst eo80
             go_wp2_with (first | ((with_reducible refine zl (f := 42) rfl ?_); refine gz (some 86) Try.func42 #[.slice Ao79 t358.length co79, .slice Ao80 t317.length co80] rfl rfl ?_; (with_reducible refine (laws_eqMoveS.calls kj39 _ _ t358 _ _ t317 false _ ?side1 ?side2 ?side3 ?side4 A74.out).mono ?_); (case side1 => exact uQ HO360); (case side2 => exact (Kd.R_reads' HO360.out).2.1); (case side3 => exact uQ HO_6); (case side4 => exact (Kd.R_reads' HO_6.out).2.1); rintro e w81 ⟨rfl, hb⟩; refine ⟨_, rfl, ?_⟩; replace HO_6 := dR HO_6 hb; replace HO_9 := dR HO_9 hb; replace HO_330000 := dR HO_330000 hb; replace HO352 := dR HO352 hb; replace HO360 := dR HO360 hb; replace BK307 := dK BK307 hb; replace BK329 := dK BK329 hb; replace HB := za.mk (zi sB hb); try clear hb))
             go_meet
             case rel => exact ⟨_, (true), (by first | rfl | (simp; done) | (simp [*]; done)), H', ⟨by have := HJ11.out; have := HJ39.out; first | omega | exact Nat.le_refl _⟩, ⟨by (try simp only [hl330000_39]); (with_reducible repeat (first | apply Kd.R_alloc | apply Kd.R_drewN | apply Kd.R_drew)); exact Kd.R_mono HO_9.out (fun _ hk => trivial)⟩, ⟨by (try simp only [hl330000_39]); (with_reducible repeat (first | apply Kd.R_alloc | apply Kd.R_drewN | apply Kd.R_drew)); exact Kd.R_mono HO_330000.out (fun _ hk => trivial)⟩, ⟨by (try simp only [hl330000_39]); (with_reducible repeat (first | refine ze ?_ _ | refine zf ?_ | refine zc ?_ _)); exact BK307.out⟩, ⟨by (try simp only [hl330000_39]); (with_reducible repeat (first | refine ze ?_ _ | refine zf ?_ | refine zc ?_ _)); exact BK329.out⟩, ⟨sB⟩⟩
           case rest =>
            clear HC66
            try clear c2
            try clear p2
            try clear c3
            try clear c4
            try clear c4b0
            try clear c5
            try clear c6
            try clear c7
            try clear c8
            try clear c24
            try clear c25
            try clear c28
            try clear c32
            try clear c34
            try clear c35
            try clear c38
            try clear c42
            try clear c43
            try clear c44
            try clear c45
            try clear c48
            try clear c48b0
            try clear c50
            try clear c57
            try clear c60
            try clear c60b0
            try clear c63
            try clear c63b0
            try clear c63b1
            try clear c69
            try clear c75
            try clear hcz14_0
            try clear hcz14_1
            try clear hcz14_2
            try clear hcz14_3
            try clear hcz14_4
            try clear hcz14_5
            try clear hcz16_0
            try clear hcz16_1
            try clear hcz16_2
            try clear hcz16_3
            try clear hcz16_4
            try clear hcz16_5
            try clear hcz20_0
            try clear hcz20_1
            try clear hcz20_2
            try clear hcz20_3
            try clear hcz20_4
            try clear hcz20_5
            try clear hcz25_0
            try clear hcz25_1
            try clear hcz25_2
            try clear hcz25_3
            try clear hcz25_4
            try clear hcz25_5
            try clear hcz46_0
            try clear hcz46_1
            try clear hcz46_2
            try clear hcz46_3
            try clear hcz46_4
            try clear hcz46_5
            try clear hcz6_0
            try clear hcz6_1
            try clear hcz6_2
            try clear hcz6_3
            try clear hcz6_4
            try clear hcz6_5
            try clear hcz70_0
            try clear hcz70_1
            try clear hcz70_2
            try clear hcz70_3
            try clear hcz70_4
            try clear hcz70_5
            try clear hfz14_0
            try clear hfz14_1
            try clear hfz14_2
            try clear hfz14_3
            try clear hfz14_4
            try clear hfz14_5
            try clear hfz16_0
            try clear hfz16_1
            try clear hfz16_2
            try clear hfz16_3
            try clear hfz16_4
            try clear hfz16_5
            try clear hfz20_0
            try clear hfz20_1
            try clear hfz20_2
            try clear hfz20_3
            try clear hfz20_4
            try clear hfz20_5
            try clear hfz25_0
            try clear hfz25_1
            try clear hfz25_2
            try clear hfz25_3
            try clear hfz25_4
            try clear hfz25_5
            try clear hfz46_0
            try clear hfz46_1
            try clear hfz46_2
            try clear hfz46_3
            try clear hfz46_4
            try clear hfz46_5
            try clear hfz6_0
            try clear hfz6_1
            try clear hfz6_2
            try clear hfz6_3
            try clear hfz6_4
            try clear hfz6_5
            try clear hfz70_0
            try clear hfz70_1
            try clear hfz70_2
            try clear hfz70_3
            try clear hfz70_4
            try clear hfz70_5
            try clear p2
            obtain ⟨kq, x92_65, rfl, HA, HJ65, HO_9, HO_330000, BK307, BK329, HB⟩ := hcut
            have hl9_65 := (Kd.R_reads' HO_9.out).1
            rw [hl9_65] at HO_9
            (try simp only [hl9_65])
            (try simp only [hl9_65] at BK307)
            (try simp only [hl9_65] at BK329)
            (try simp only [hl9_65] at HO_330000)
            cases kq with
            | zero => exact absurd HA.out (by simp [laws_FnExactWayToAmount.j2])
            | succ kj65 =>
             have H := HA.out
             clear HA
             simp only [laws_FnExactWayToAmount.j2] at H
             by_cases c82 : x92_65 = true
             ·subst c82
              have H1 : (some false) = some r := by rw [if_pos rfl] at H; exact H
              clear H
              have H := H1
              clear H1
              obtain rfl := Option.some.inj H
              go_wp2
              go_ret
              exact ⟨by first | rfl | (simp [zj, zk] <;> rfl) | (simp [*, zj, zk] <;> rfl), sB⟩
             ·replace c82 := Bool.eq_false_iff.mpr c82
              subst c82
              have H1 : ((laws_heldMoveS.f kj65 t348 1).bind fun t363 => (if t363 < 0 then (some false) else (if t363 = t347 then (some true) else (some false)))) = some r := by rw [if_neg (show ¬ (false = true) by decide)] at H; exact H
              clear H
              have H := H1
              clear H1
              replace H := Option.bind_eq_some_iff.mp H
              obtain ⟨t363, A830, H⟩ := H
              replace H : (if t363 < 0 then (some false) else (if t363 = t347 then (some true) else (some false))) = some r := H
              have A83 := za.mk A830
              clear A830
              by_cases c84 : t363 < 0
              ·rw [if_pos c84] at H
               have c84b0 : decide (t363 < 0) = true := decide_eq_true c84
               clear c84
               obtain rfl := Option.some.inj H
               go_wp2_with (first | ((with_reducible refine zl (f := 44) rfl ?_); refine gz (some 95) Try.func44 #[.slice Ao67 t348.length co67, .int .i64 1] rfl rfl ?_; (with_reducible refine (laws_heldMoveS.calls kj65 _ _ t348 1 t363 _ ?side1 ?side2 A83.out).mono ?_); (case side1 => exact uQ HO_9); (case side2 => exact (Kd.R_reads' HO_9.out).2.1); rintro e w' ⟨rfl, ⟨nd, rfl⟩⟩; refine ⟨_, rfl, ?_⟩))
               go_ret
               exact ⟨by first | rfl | (simp [zj, zk] <;> rfl) | (simp [*, zj, zk] <;> rfl), sB⟩
              ·rw [if_neg c84] at H
               have c84b0 : decide (t363 < 0) = false := decide_eq_false c84
               clear c84
               by_cases c85 : t363 = t347
               ·rw [if_pos c85] at H
                have c85b0 : (t363 == t347) = true := beq_iff_eq.mpr c85
                have c85b1 : (t363 != t347) = false := bne_eq_false_iff_eq.mpr c85
                clear c85
                obtain rfl := Option.some.inj H
                go_wp2_with (first | ((with_reducible refine zl (f := 44) rfl ?_); refine gz (some 95) Try.func44 #[.slice Ao67 t348.length co67, .int .i64 1] rfl rfl ?_; (with_reducible refine (laws_heldMoveS.calls kj65 _ _ t348 1 t363 _ ?side1 ?side2 A83.out).mono ?_); (case side1 => exact uQ HO_9); (case side2 => exact (Kd.R_reads' HO_9.out).2.1); rintro e w' ⟨rfl, ⟨nd, rfl⟩⟩; refine ⟨_, rfl, ?_⟩))
                go_ret
                exact ⟨by first | rfl | (simp [zj, zk] <;> rfl) | (simp [*, zj, zk] <;> rfl), sB⟩
               ·rw [if_neg c85] at H
                have c85b0 : (t363 == t347) = false := beq_eq_false_iff_ne.mpr c85
                have c85b1 : (t363 != t347) = true := bne_iff_ne.mpr c85
                obtain rfl := Option.some.inj H
                go_wp2_with (first | ((with_reducible refine zl (f := 44) rfl ?_); refine gz (some 95) Try.func44 #[.slice Ao67 t348.length co67, .int .i64 1] rfl rfl ?_; (with_reducible refine (laws_heldMoveS.calls kj65 _ _ t348 1 t363 _ ?side1 ?side2 A83.out).mono ?_); (case side1 => exact uQ HO_9); (case side2 => exact (Kd.R_reads' HO_9.out).2.1); rintro e w' ⟨rfl, ⟨nd, rfl⟩⟩; refine ⟨_, rfl, ?_⟩))
                go_ret
                exact ⟨by first | rfl | (simp [zj, zk] <;> rfl) | (simp [*, zj, zk] <;> rfl), sB⟩
          ·rw [if_neg c63] at H
           have c63b0 : (t349 == t347) = false := beq_eq_false_iff_ne.mpr c63
           have c63b1 : (t349 != t347) = true := bne_iff_ne.mpr c63
           obtain rfl := Option.some.inj H
           obtain ⟨Ao86, co86, eo86⟩ := Kd.R_slice HO_9.out
           subst eo86
           go_wp2_with (first | ((with_reducible refine zl (f := 43) rfl ?_); refine gz (some 68) Try.func43 #[.slice Ao86 t330.length co86, .int .i64 1] rfl rfl ?_; (with_reducible refine (laws_markMoveS.calls kj39 (fun k_ => some k_ = (.slice Ao86 t330.length co86 : Value).ownBlock) (.slice Ao86 t330.length co86) t330 1 t347 t348 w _ ?side1 ?side2 A58.out).mono ?_); (case side1 => repeat (first | (with_reducible first | exact HB.out | apply zy | apply zm | apply zv | refine zt ?_ GE307.out | refine zt ?_ GE329.out) | exact HB.out)); (case side2 => exact Kd.R_tight rfl HO_9.out); rintro e w87 ⟨rfl, hy0, hb, hkp⟩; refine ⟨_, rfl, ?_⟩; replace HO_6 := za.mk (Kd.R_mono (ok' := fun k_ => some k_ ≠ (.slice Ao86 t330.length co86 : Value).ownBlock) (Kd.R_keptB (HO_6.out) hkp (fun k_ hk_ hs_ => (hk_) hs_)) (fun k_ hk_ => hk_.1)); replace HO_330000 := za.mk (Kd.R_mono (ok' := fun k_ => True) (Kd.R_keptB ((Kd.R_apart' HO_330000.out (Kd.R_typed HO_9.out) (by decide))) hkp (fun k_ hk_ hs_ => (hk_.2) hs_)) (fun k_ hk_ => trivial)); replace BK307 := za.mk (zub (uK BK307) hkp (fun hs_ => (fun e_ => (Kd.R_ne HO_9.out BK307.out (by decide)) e_) hs_)); replace BK329 := za.mk (zub (uK BK329) hkp (fun hs_ => (fun e_ => (Kd.R_ne HO_9.out BK329.out (by decide)) e_) hs_)); replace HO_9 := za.mk (Kd.R_reok rfl hy0 (fun k_ e_ => HO_9.out.1 k_ e_)); replace HB := za.mk hb; (try clear hb); (try clear hkp); (try clear hy0)) | ((with_reducible refine zl (f := 44) rfl ?_); refine goesL_ (some 71) rfl rfl Try.func44 (by kernel_rfl) rfl #[.slice Ao86 t348.length co86, .int .i64 1] rfl (by (try simp only [List.map_toArray, List.map_cons, List.map_nil]); first | done | (rw [show t348.length = t330.length from (Kd.R_reads' HO_9.out).1.symm] <;> rfl) | rfl | (simp only [List.length_drop, List.length_take]; rfl)) ?_; (with_reducible refine (laws_heldMoveS.calls kj39 _ _ t348 1 t349 _ ?side1 ?side2 A59.out).mono ?_); (case side1 => exact uQ HO_9); (case side2 => rw [show t348.length = t330.length from (Kd.R_reads' HO_9.out).1.symm]; exact (Kd.R_reads' HO_9.out).2.1); rintro e w' ⟨rfl, ⟨nd, rfl⟩⟩; refine ⟨_, rfl, ?_⟩))
           go_ret
           exact ⟨by first | rfl | (simp [zj, zk] <;> rfl) | (simp [*, zj, zk] <;> rfl), sB⟩
     ·replace c38 := Bool.eq_false_iff.mpr c38
      subst c38
      have H1 : (some false) = some r := by rw [if_neg (show ¬ (false = true) by decide)] at H; exact H
      clear H
      have H := H1
      clear H1
      obtain rfl := Option.some.inj H
      try go_wp2
      have n0_ := za.mk (Kd.R_drew HO_6.out)
      have n1_ := za.mk (Kd.R_drew HO_9.out)
      have n2_ := za.mk (Kd.R_drew HO_330000.out)
      have n3_ := za.mk (zf BK307.out)
      have n4_ := za.mk (zf BK329.out)
      have n5_ := za.mk (zv HB.out)
      clear HO_6
      clear HO_9
      clear HO_330000
      clear BK307
      clear BK329
      clear HB
      have HO_6 := n0_
      have HO_9 := n1_
      have HO_330000 := n2_
      have BK307 := n3_
      have BK329 := n4_
      have HB := n5_
      clear n0_ n1_ n2_ n3_ n4_ n5_
      refine zic (n := 5) (S := fun w' => w'.cell? ⟨gb329, 0, none⟩ = some (.slice Ao23 t321.length co23) ∧ w'.cell? ⟨gb329, 1, none⟩ = some (.int .i16 t324) ∧ w'.cell? ⟨gb329, 2, none⟩ = some (.int .i16 t325) ∧ w'.cell? ⟨gb329, 3, none⟩ = some (.int .i16 t326) ∧ w'.cell? ⟨gb329, 4, none⟩ = some (.int .i16 t327) ∧ w'.cell? ⟨gb329, 5, none⟩ = some (.bool t328) ∧ w'.cell? ⟨gb307, 0, none⟩ = some (.slice A0_0 l0_0.length c0_0) ∧ w'.cell? ⟨gb307, 1, none⟩ = some (.int .i16 a0_1) ∧ w'.cell? ⟨gb307, 2, none⟩ = some (.int .i16 a0_2) ∧ w'.cell? ⟨gb307, 3, none⟩ = some (.int .i16 a0_3) ∧ w'.cell? ⟨gb307, 4, none⟩ = some (.int .i16 a0_4) ∧ w'.cell? ⟨gb307, 5, none⟩ = some (.bool a0_5)) (ds := []) #[false, false, false, false, false] (by kernel_rfl) rfl rfl ⟨(zb BK329.out 0).trans rfl, (zb BK329.out 1).trans rfl, (zb BK329.out 2).trans rfl, (zb BK329.out 3).trans rfl, (zb BK329.out 4).trans rfl, (zb BK329.out 5).trans rfl, (zb BK307.out 0).trans rfl, (zb BK307.out 1).trans rfl, (zb BK307.out 2).trans rfl, (zb BK307.out 3).trans rfl, (zb BK307.out 4).trans rfl, (zb BK307.out 5).trans rfl⟩ (fun hHeld => ?_)
      generalize wc.drew = w88 at HO_6 HO_9 HO_330000 BK307 BK329 HB hHeld ⊢
      refine take_ (i := 0) (N := some 45) (v := ?_) (a' := ?_) #[true, false, false, false, false] rfl rfl (by kernel_rfl) (fun _ _ _ h => h) (Or.inl ⟨by rfl, ?_⟩) hHeld ?_ ?_
      rotate_left
      ·rintro w' ⟨s0, s1, s2, s3, s4, s5, s6, s7, s8, s9, s10, s11⟩
       go_simp
       with_reducible rfl
      rotate_left
      ·simp only [Act.put, List.setIfInBounds_toArray, List.set_cons_zero, List.set_cons_succ, zw, zx]
       rfl
      refine take_ (i := 1) (N := some 46) (v := ?_) (a' := ?_) #[true, true, false, false, false] rfl rfl (by kernel_rfl) (fun _ _ _ h => h) (Or.inl ⟨by rfl, ?_⟩) hHeld ?_ ?_
      rotate_left
      ·rintro w' ⟨s0, s1, s2, s3, s4, s5, s6, s7, s8, s9, s10, s11⟩
       go_simp
       with_reducible rfl
      rotate_left
      ·simp only [Act.put, List.setIfInBounds_toArray, List.set_cons_zero, List.set_cons_succ, zw, zx]
       rfl
      refine one_ (i := 2) (N := some 47) #[true, true, true, false, false] rfl rfl (by kernel_rfl) (by decide) (fun K hK => ?_)
      refine zgd Try.func34 (by kernel_rfl) rfl #[.agg #[.slice A0_0 l0_0.length c0_0, .int .i16 a0_1, .int .i16 a0_2, .int .i16 a0_3, .int .i16 a0_4, .bool a0_5]] (by rfl) rfl rfl (by (try simp only [List.map_toArray, List.map_cons, List.map_nil]); first | done | rfl | (simp only [List.length_drop, List.length_take]; rfl)) ?_
      with_reducible refine (laws_toPuzzle.calls kj11 _ _ l0_0 a0_1 a0_2 a0_3 a0_4 a0_5 t335 t338 t339 t340 t341 t342 _ ?side1 ?side2 A36.out).mono ?_
      (case side1 => exact uC HR0_0 HB)
      (case side2 => exact HC0_0.out)
      rintro e w89 ⟨v336, rfl, ho0, hb⟩
      refine ⟨_, rfl, ?_⟩
      have n0_ := dR HO_6 hb
      have n1_ := dR HO_9 hb
      have n2_ := za.mk (Kd.R_elder' (uR HO_330000) (Kd.R_base ho0) hb)
      have n3_ := za.mk (Kd.R_lower (Kd.R_new' ho0 (Kd.R_lt (uR HO_330000))) (zz sB))
      have n4_ := dK BK307 hb
      have n5_ := dK BK329 hb
      have n6_ := za.mk (zi sB hb)
      clear HO_6
      clear HO_9
      clear HO_330000
      clear BK307
      clear BK329
      clear HB
      have HO_6 := n0_
      have HO_9 := n1_
      have HO_330000 := n2_
      have HO337 := n3_
      have BK307 := n4_
      have BK329 := n5_
      have HB := n6_
      clear n0_ n1_ n2_ n3_ n4_ n5_ n6_
      (try clear hb)
      (try clear hb2)
      (try clear hk)
      (try clear hi)
      (try clear ho0)
      obtain ⟨Ao90, co90, eo90⟩ := Kd.R_slice HO337.out
      (first | subst eo90 | (injection eo90 with f1_ f2_ f3_; have f4_ := f1_.symm; have f5_ := f3_.symm; clear f1_ f2_ f3_; subst f4_; subst f5_))
      refine hK.out _ _ ⟨(zb BK329.out 0).trans rfl, (zb BK329.out 1).trans rfl, (zb BK329.out 2).trans rfl, (zb BK329.out 3).trans rfl, (zb BK329.out 4).trans rfl, (zb BK329.out 5).trans rfl, (zb BK307.out 0).trans rfl, (zb BK307.out 1).trans rfl, (zb BK307.out 2).trans rfl, (zb BK307.out 3).trans rfl, (zb BK307.out 4).trans rfl, (zb BK307.out 5).trans rfl⟩ (fun hHeld => ?_)
      clear hK K
      refine zqa (a' := ?_) ?_ ?_
      rotate_left
      ·show Act.put _ (some 47) _ = _
       simp only [Act.put, List.setIfInBounds_toArray, List.set_cons_zero, List.set_cons_succ, zw, zx]
       rfl
      refine one_ (i := 3) (N := some 48) #[true, true, true, true, false] rfl rfl (by kernel_rfl) (by decide) (fun K hK => ?_)
      refine zgd Try.func35 (by kernel_rfl) rfl #[.agg #[.slice Ao23 t321.length co23, .int .i16 t324, .int .i16 t325, .int .i16 t326, .int .i16 t327, .bool t328], .agg #[.slice Ao90 t335.length co90, .int .i16 t338, .int .i16 t339, .int .i16 t340, .int .i16 t341, .bool t342]] (by rfl) rfl rfl (by (try simp only [List.map_toArray, List.map_cons, List.map_nil]); first | done | rfl | (simp only [List.length_drop, List.length_take]; rfl)) ?_
      with_reducible refine (laws_eqPuzzle.calls kj11 _ _ t321 t324 t325 t326 t327 t328 _ _ t335 t338 t339 t340 t341 t342 false _ ?side1 ?side2 ?side3 ?side4 A37.out).mono ?_
      (case side1 => exact uQ HO_330000)
      (case side2 => exact (Kd.R_reads' HO_330000.out).2.1)
      (case side3 => exact uQ HO337)
      (case side4 => exact (Kd.R_reads' HO337.out).2.1)
      rintro e w91 ⟨rfl, hb⟩
      refine ⟨_, rfl, ?_⟩
      have n0_ := dR HO_6 hb
      have n1_ := dR HO_9 hb
      have n2_ := dR HO_330000 hb
      have n3_ := dR HO337 hb
      have n4_ := dK BK307 hb
      have n5_ := dK BK329 hb
      have n6_ := za.mk (zi sB hb)
      clear HO_6
      clear HO_9
      clear HO_330000
      clear HO337
      clear BK307
      clear BK329
      clear HB
      have HO_6 := n0_
      have HO_9 := n1_
      have HO_330000 := n2_
      have HO337 := n3_
      have BK307 := n4_
      have BK329 := n5_
      have HB := n6_
      clear n0_ n1_ n2_ n3_ n4_ n5_ n6_
      (try clear hb)
      (try clear hb2)
      (try clear hk)
      (try clear hi)
      refine hK.out _ _ ⟨(zb BK329.out 0).trans rfl, (zb BK329.out 1).trans rfl, (zb BK329.out 2).trans rfl, (zb BK329.out 3).trans rfl, (zb BK329.out 4).trans rfl, (zb BK329.out 5).trans rfl, (zb BK307.out 0).trans rfl, (zb BK307.out 1).trans rfl, (zb BK307.out 2).trans rfl, (zb BK307.out 3).trans rfl, (zb BK307.out 4).trans rfl, (zb BK307.out 5).trans rfl⟩ (fun hHeld => ?_)
      clear hK K
      refine zqa (a' := ?_) ?_ ?_
      rotate_left
      ·show Act.put _ (some 48) _ = _
       simp only [Act.put, List.setIfInBounds_toArray, List.set_cons_zero, List.set_cons_succ, zw, zx]
       rfl
      refine zea (i := 4) (N := some 49) (v := ?_) (a' := ?_) #[true, true, true, true, true] rfl rfl (by kernel_rfl) (fun _ _ _ h => h) (Or.inl ⟨by rfl, ?_⟩) ?_ ?_
      rotate_left
      ·intro w'
       go_simp
       with_reducible rfl
      rotate_left
      ·simp only [Act.put, List.setIfInBounds_toArray, List.set_cons_zero, List.set_cons_succ, zw, zx]
       rfl
      refine zxc (by kernel_rfl) ?_
      try go_wp2
      go_ret
      exact ⟨by first | rfl | (simp [zj, zk] <;> rfl) | (simp [*, zj, zk] <;> rfl), sB⟩
end Go.Proofs.Yteciomagemjjaaa.J
