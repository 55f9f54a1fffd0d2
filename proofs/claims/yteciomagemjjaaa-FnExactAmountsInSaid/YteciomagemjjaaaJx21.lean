/- The law of AmountsIn. -/
import Derived.Test.YteciomagemjjaaaJx6
import Derived.Test.YteciomagemjjaaaJx13
import Derived.Test.YteciomagemjjaaaJx14
import Derived.Test.YteciomagemjjaaaJx15
import Derived.Test.YteciomagemjjaaaLMrkJ
import Derived.Test.YteciomagemjjaaaLM64J
import Derived.Test.YteciomagemjjaaaLAmiJ
import Derived.Test.YteciomagemjjaaaLAmsJ
namespace Go.Proofs.Yteciomagemjjaaa.J
open Go.RowKit Go.Proofs.YteciomagemjjaaaW.PrintWords Go.Proofs.YteciomagemjjaaaW.PrintLast Go.Proofs.YteciomagemjjaaaW.PrintMore
attribute [local go_sem] zna zpa zua zva zia zja zqa zoa   -- for this text's walks alone
set_option linter.unusedVariables false
set_option linter.unusedSimpArgs false
/-! ### laws_FnExactAmountsIn: function 9 -/
mutual
def laws_FnExactAmountsIn.j0 : Nat → List Int → Int → List Int → Int → Bool → List Int → Int → Int → Int → Int → Bool → List Int → Int → Int → Int → Int → Bool → Option (Bool)
 | 0, _, _, _, _, _, _, _, _, _, _, _, _, _, _, _, _, _ => none
 | k + 1, x4, x5, x7, x8, x40, x381000, x381001, x381002, x381003, x381004, x381005, x403000, x403001, x403002, x403003, x403004, x403005 => if x40 = true then (some false) else ((laws_toPuzzle.f k x381000 x381001 x381002 x381003 x381004 x381005).bind fun bt408 => ((laws_eqPuzzle.f k x403000 x403001 x403002 x403003 x403004 x403005 bt408.1 bt408.2.1 bt408.2.2.1 bt408.2.2.2.1 bt408.2.2.2.2.1 bt408.2.2.2.2.2).bind fun t416 => (if t416 = true then ((laws_markPuzzle.f k x403000 x403001 x403002 x403003 x403004 x403005 1).bind fun bt417 => (if bt417.1 < 0 then (laws_FnExactAmountsIn.j1 k x4 x5 x7 true x381000 x381001 x381002 x381003 x381004 x381005) else ((laws_eqInt64S.f k x7 x4).bind fun t419 => (if t419 = true then (laws_FnExactAmountsIn.j1 k x4 x5 x7 (x8 != x5) x381000 x381001 x381002 x381003 x381004 x381005) else (laws_FnExactAmountsIn.j1 k x4 x5 x7 true x381000 x381001 x381002 x381003 x381004 x381005))))) else (some false))))
def laws_FnExactAmountsIn.j1 : Nat → List Int → Int → List Int → Bool → List Int → Int → Int → Int → Int → Bool → Option (Bool)
 | 0, _, _, _, _, _, _, _, _, _, _ => none
 | k + 1, x4, x5, x7, x61, x381000, x381001, x381002, x381003, x381004, x381005 => if x61 = true then (some false) else ((laws_markInt64S.f k x7 1).bind fun bt420 => ((laws_heldInt64S.f k bt420.2 1).bind fun t422 => (if t422 < 0 then (some false) else (if t422 = bt420.1 then ((laws_toPuzzle.f k x381000 x381001 x381002 x381003 x381004 x381005).bind fun bt423 => ((impl_AmountsIn.f k bt423.1 bt423.2.1 bt423.2.2.1 bt423.2.2.2.1 bt423.2.2.2.2.1 bt423.2.2.2.2.2).bind fun bt431 => ((laws_eqInt64S.f k bt431.1 x4).bind fun t435 => (if t435 = true then (laws_FnExactAmountsIn.j2 k bt420.2 bt420.1 (bt431.2 != x5)) else (laws_FnExactAmountsIn.j2 k bt420.2 bt420.1 true))))) else (some false)))))
def laws_FnExactAmountsIn.j2 : Nat → List Int → Int → Bool → Option (Bool)
 | 0, _, _, _ => none
 | k + 1, x7, x10, x87 => if x87 = true then (some false) else ((laws_heldInt64S.f k x7 1).bind fun t436 => (if t436 < 0 then (some false) else (if t436 = x10 then (some true) else (some false))))
end
def laws_FnExactAmountsIn.f (k : Nat) (l0_0 : List Int) (a0_1 : Int) (a0_2 : Int) (a0_3 : Int) (a0_4 : Int) (a0_5 : Bool) : Option (Bool) := (laws_szPuzzle.f l0_0 a0_1 a0_2 a0_3 a0_4 a0_5 1048576).bind fun t381 => (if t381 < 0 then (some true) else ((laws_toPuzzle.f k l0_0 a0_1 a0_2 a0_3 a0_4 a0_5).bind fun bt382 => ((spec_AmountsIn.f k bt382.1 bt382.2.1 bt382.2.2.1 bt382.2.2.2.1 bt382.2.2.2.2.1 bt382.2.2.2.2.2).bind fun bt390 => ((laws_toPuzzle.f k l0_0 a0_1 a0_2 a0_3 a0_4 a0_5).bind fun bt394 => ((impl_AmountsIn.f k bt394.1 bt394.2.1 bt394.2.2.1 bt394.2.2.2.1 bt394.2.2.2.2.1 bt394.2.2.2.2.2).bind fun bt403 => ((laws_eqInt64S.f k bt403.1 bt390.1).bind fun t407 => (if t407 = true then (laws_FnExactAmountsIn.j0 k bt390.1 bt390.2 bt403.1 bt403.2 (bt403.2 != bt390.2) l0_0 a0_1 a0_2 a0_3 a0_4 a0_5 bt394.1 bt394.2.1 bt394.2.2.1 bt394.2.2.2.1 bt394.2.2.2.2.1 bt394.2.2.2.2.2) else (laws_FnExactAmountsIn.j0 k bt390.1 bt390.2 bt403.1 bt403.2 true l0_0 a0_1 a0_2 a0_3 a0_4 a0_5 bt394.1 bt394.2.1 bt394.2.2.1 bt394.2.2.2.1 bt394.2.2.2.2.1 bt394.2.2.2.2.2))))))))
set_option maxHeartbeats 8000000 in
set_option maxRecDepth 100000 in
theorem laws_FnExactAmountsIn.calls (k : Nat) (A0_0 : Option Addr) (c0_0 : Nat) (l0_0 : List Int) (a0_1 : Int) (a0_2 : Int) (a0_3 : Int) (a0_4 : Int) (a0_5 : Bool) (r : Bool) (w : World) (hr0_0 : Kd.C (Kd.int .i16) w A0_0 l0_0.length l0_0) (hc0_0 : l0_0.length ≤ c0_0) (h : laws_FnExactAmountsIn.f k l0_0 a0_1 a0_2 a0_3 a0_4 a0_5 = some r) :
  Calls Try.prog 9 #[.agg #[.slice A0_0 l0_0.length c0_0, .int .i16 a0_1, .int .i16 a0_2, .int .i16 a0_3, .int .i16 a0_4, .bool a0_5]] w fun e w' => e = .returned (.bool r) ∧ Below w.heap.size w w' := by
 have hu53 := Try.underlying53
 have hu29 := Try.underlying29
 have HR0_0 := za.mk hr0_0
 have HC0_0 := za.mk hc0_0
 clear hr0_0 hc0_0
 have HB := za.mk (Below.refl w.heap.size w)
 have H : ((laws_szPuzzle.f l0_0 a0_1 a0_2 a0_3 a0_4 a0_5 1048576).bind fun t381 => (if t381 < 0 then (some true) else ((laws_toPuzzle.f k l0_0 a0_1 a0_2 a0_3 a0_4 a0_5).bind fun bt382 => ((spec_AmountsIn.f k bt382.1 bt382.2.1 bt382.2.2.1 bt382.2.2.2.1 bt382.2.2.2.2.1 bt382.2.2.2.2.2).bind fun bt390 => ((laws_toPuzzle.f k l0_0 a0_1 a0_2 a0_3 a0_4 a0_5).bind fun bt394 => ((impl_AmountsIn.f k bt394.1 bt394.2.1 bt394.2.2.1 bt394.2.2.2.1 bt394.2.2.2.2.1 bt394.2.2.2.2.2).bind fun bt403 => ((laws_eqInt64S.f k bt403.1 bt390.1).bind fun t407 => (if t407 = true then (laws_FnExactAmountsIn.j0 k bt390.1 bt390.2 bt403.1 bt403.2 (bt403.2 != bt390.2) l0_0 a0_1 a0_2 a0_3 a0_4 a0_5 bt394.1 bt394.2.1 bt394.2.2.1 bt394.2.2.2.1 bt394.2.2.2.2.1 bt394.2.2.2.2.2) else (laws_FnExactAmountsIn.j0 k bt390.1 bt390.2 bt403.1 bt403.2 true l0_0 a0_1 a0_2 a0_3 a0_4 a0_5 bt394.1 bt394.2.1 bt394.2.2.1 bt394.2.2.2.1 bt394.2.2.2.2.1 bt394.2.2.2.2.2))))))))) = some r := h
 clear h
 replace H := Option.bind_eq_some_iff.mp H
 obtain ⟨t381, A20, H⟩ := H
 replace H : (if t381 < 0 then (some true) else ((laws_toPuzzle.f k l0_0 a0_1 a0_2 a0_3 a0_4 a0_5).bind fun bt382 => ((spec_AmountsIn.f k bt382.1 bt382.2.1 bt382.2.2.1 bt382.2.2.2.1 bt382.2.2.2.2.1 bt382.2.2.2.2.2).bind fun bt390 => ((laws_toPuzzle.f k l0_0 a0_1 a0_2 a0_3 a0_4 a0_5).bind fun bt394 => ((impl_AmountsIn.f k bt394.1 bt394.2.1 bt394.2.2.1 bt394.2.2.2.1 bt394.2.2.2.2.1 bt394.2.2.2.2.2).bind fun bt403 => ((laws_eqInt64S.f k bt403.1 bt390.1).bind fun t407 => (if t407 = true then (laws_FnExactAmountsIn.j0 k bt390.1 bt390.2 bt403.1 bt403.2 (bt403.2 != bt390.2) l0_0 a0_1 a0_2 a0_3 a0_4 a0_5 bt394.1 bt394.2.1 bt394.2.2.1 bt394.2.2.2.1 bt394.2.2.2.2.1 bt394.2.2.2.2.2) else (laws_FnExactAmountsIn.j0 k bt390.1 bt390.2 bt403.1 bt403.2 true l0_0 a0_1 a0_2 a0_3 a0_4 a0_5 bt394.1 bt394.2.1 bt394.2.2.1 bt394.2.2.2.1 bt394.2.2.2.2.1 bt394.2.2.2.2.2)))))))) = some r := H
 have A2 := za.mk A20
 clear A20
 by_cases c3 : t381 < 0
 ·rw [if_pos c3] at H
  have c3b0 : decide (t381 < 0) = true := decide_eq_true c3
  clear c3
  obtain rfl := Option.some.inj H
  go_enter Try.func9, Try.ntmps9
  go_wp2_with (first | ((with_reducible refine zu (N := 1) rfl ?_); refine bx (N := 1) #[.slice A0_0 l0_0.length c0_0, .int .i16 a0_1, .int .i16 a0_2, .int .i16 a0_3, .int .i16 a0_4, .bool a0_5] 53 rfl ?_; intro gb380 hg w4 hbox hb; have BK380 := za.mk hbox; have GW380 := gB hg; have GE380 := gB hg; replace HB := za.mk (zh sB hb); clear hb hbox hg; obtain ⟨hcz5_0, hcz5_1, hcz5_2, hcz5_3, hcz5_4, hcz5_5⟩ := xc6 BK380; obtain ⟨hfz5_0, hfz5_1, hfz5_2, hfz5_3, hfz5_4, hfz5_5⟩ := xf6 BK380) | ((with_reducible refine zn (f := 32) rfl ?_); refine gz (some 16) Try.func32 #[.agg #[.slice A0_0 l0_0.length c0_0, .int .i16 a0_1, .int .i16 a0_2, .int .i16 a0_3, .int .i16 a0_4, .bool a0_5], .int .i64 1048576] rfl rfl ?_; (with_reducible refine (laws_szPuzzle.calls _ _ l0_0 a0_1 a0_2 a0_3 a0_4 a0_5 1048576 t381 _ ?side1 ?side2 A2.out).mono ?_); (case side1 => exact uC HR0_0 HB); (case side2 => exact HC0_0.out); rintro e w6 ⟨rfl, hb⟩; refine ⟨_, rfl, ?_⟩; replace BK380 := dK BK380 hb; replace HB := za.mk (zh sB hb); try clear hb))
  go_ret
  exact ⟨by first | rfl | (simp [zj, zk] <;> rfl) | (simp [*, zj, zk] <;> rfl), sB⟩
 ·rw [if_neg c3] at H
  have c3b0 : decide (t381 < 0) = false := decide_eq_false c3
  clear c3
  replace H := Option.bind_eq_some_iff.mp H
  obtain ⟨⟨t382, t385, t386, t387, t388, t389⟩, A70, H⟩ := H
  replace H : ((spec_AmountsIn.f k t382 t385 t386 t387 t388 t389).bind fun bt390 => ((laws_toPuzzle.f k l0_0 a0_1 a0_2 a0_3 a0_4 a0_5).bind fun bt394 => ((impl_AmountsIn.f k bt394.1 bt394.2.1 bt394.2.2.1 bt394.2.2.2.1 bt394.2.2.2.2.1 bt394.2.2.2.2.2).bind fun bt403 => ((laws_eqInt64S.f k bt403.1 bt390.1).bind fun t407 => (if t407 = true then (laws_FnExactAmountsIn.j0 k bt390.1 bt390.2 bt403.1 bt403.2 (bt403.2 != bt390.2) l0_0 a0_1 a0_2 a0_3 a0_4 a0_5 bt394.1 bt394.2.1 bt394.2.2.1 bt394.2.2.2.1 bt394.2.2.2.2.1 bt394.2.2.2.2.2) else (laws_FnExactAmountsIn.j0 k bt390.1 bt390.2 bt403.1 bt403.2 true l0_0 a0_1 a0_2 a0_3 a0_4 a0_5 bt394.1 bt394.2.1 bt394.2.2.1 bt394.2.2.2.1 bt394.2.2.2.2.1 bt394.2.2.2.2.2)))))) = some r := H
  have A7 := za.mk A70
  clear A70
  replace H := Option.bind_eq_some_iff.mp H
  obtain ⟨⟨t390, t393⟩, A80, H⟩ := H
  replace H : ((laws_toPuzzle.f k l0_0 a0_1 a0_2 a0_3 a0_4 a0_5).bind fun bt394 => ((impl_AmountsIn.f k bt394.1 bt394.2.1 bt394.2.2.1 bt394.2.2.2.1 bt394.2.2.2.2.1 bt394.2.2.2.2.2).bind fun bt403 => ((laws_eqInt64S.f k bt403.1 t390).bind fun t407 => (if t407 = true then (laws_FnExactAmountsIn.j0 k t390 t393 bt403.1 bt403.2 (bt403.2 != t393) l0_0 a0_1 a0_2 a0_3 a0_4 a0_5 bt394.1 bt394.2.1 bt394.2.2.1 bt394.2.2.2.1 bt394.2.2.2.2.1 bt394.2.2.2.2.2) else (laws_FnExactAmountsIn.j0 k t390 t393 bt403.1 bt403.2 true l0_0 a0_1 a0_2 a0_3 a0_4 a0_5 bt394.1 bt394.2.1 bt394.2.2.1 bt394.2.2.2.1 bt394.2.2.2.2.1 bt394.2.2.2.2.2))))) = some r := H
  have A8 := za.mk A80
  clear A80
  replace H := Option.bind_eq_some_iff.mp H
  obtain ⟨⟨t394, t397, t398, t399, t400, t401⟩, A90, H⟩ := H
  replace H : ((impl_AmountsIn.f k t394 t397 t398 t399 t400 t401).bind fun bt403 => ((laws_eqInt64S.f k bt403.1 t390).bind fun t407 => (if t407 = true then (laws_FnExactAmountsIn.j0 k t390 t393 bt403.1 bt403.2 (bt403.2 != t393) l0_0 a0_1 a0_2 a0_3 a0_4 a0_5 t394 t397 t398 t399 t400 t401) else (laws_FnExactAmountsIn.j0 k t390 t393 bt403.1 bt403.2 true l0_0 a0_1 a0_2 a0_3 a0_4 a0_5 t394 t397 t398 t399 t400 t401)))) = some r := H
  have A9 := za.mk A90
  clear A90
  replace H := Option.bind_eq_some_iff.mp H
  obtain ⟨⟨t403, t406⟩, A100, H⟩ := H
  replace H : ((laws_eqInt64S.f k t403 t390).bind fun t407 => (if t407 = true then (laws_FnExactAmountsIn.j0 k t390 t393 t403 t406 (t406 != t393) l0_0 a0_1 a0_2 a0_3 a0_4 a0_5 t394 t397 t398 t399 t400 t401) else (laws_FnExactAmountsIn.j0 k t390 t393 t403 t406 true l0_0 a0_1 a0_2 a0_3 a0_4 a0_5 t394 t397 t398 t399 t400 t401))) = some r := H
  have A10 := za.mk A100
  clear A100
  have HC11 := za.mk H
  clear H
  go_enter Try.func9, Try.ntmps9
  go_upto_region 8 with (first | ((with_reducible refine zu (N := 1) rfl ?_); refine bx (N := 1) #[.slice A0_0 l0_0.length c0_0, .int .i16 a0_1, .int .i16 a0_2, .int .i16 a0_3, .int .i16 a0_4, .bool a0_5] 53 rfl ?_; intro gb380 hg w12 hbox hb; have BK380 := za.mk hbox; have GW380 := gB hg; have GE380 := gB hg; replace HB := za.mk (zh sB hb); clear hb hbox hg; obtain ⟨hcz13_0, hcz13_1, hcz13_2, hcz13_3, hcz13_4, hcz13_5⟩ := xc6 BK380; obtain ⟨hfz13_0, hfz13_1, hfz13_2, hfz13_3, hfz13_4, hfz13_5⟩ := xf6 BK380) | ((with_reducible refine zn (f := 32) rfl ?_); refine gz (some 16) Try.func32 #[.agg #[.slice A0_0 l0_0.length c0_0, .int .i16 a0_1, .int .i16 a0_2, .int .i16 a0_3, .int .i16 a0_4, .bool a0_5], .int .i64 1048576] rfl rfl ?_; (with_reducible refine (laws_szPuzzle.calls _ _ l0_0 a0_1 a0_2 a0_3 a0_4 a0_5 1048576 t381 _ ?side1 ?side2 A2.out).mono ?_); (case side1 => exact uC HR0_0 HB); (case side2 => exact HC0_0.out); rintro e w14 ⟨rfl, hb⟩; refine ⟨_, rfl, ?_⟩; replace BK380 := dK BK380 hb; replace HB := za.mk (zh sB hb); try clear hb; obtain ⟨hcz15_0, hcz15_1, hcz15_2, hcz15_3, hcz15_4, hcz15_5⟩ := xc6 BK380; obtain ⟨hfz15_0, hfz15_1, hfz15_2, hfz15_3, hfz15_4, hfz15_5⟩ := xf6 BK380) | ((with_reducible refine zn (f := 34) rfl ?_); refine gz (some 21) Try.func34 #[.agg #[.slice A0_0 l0_0.length c0_0, .int .i16 a0_1, .int .i16 a0_2, .int .i16 a0_3, .int .i16 a0_4, .bool a0_5]] rfl rfl ?_; (with_reducible refine (laws_toPuzzle.calls k _ _ l0_0 a0_1 a0_2 a0_3 a0_4 a0_5 t382 t385 t386 t387 t388 t389 _ ?side1 ?side2 A7.out).mono ?_); (case side1 => exact uC HR0_0 HB); (case side2 => exact HC0_0.out); rintro e w16 ⟨v383, rfl, ho0, hb⟩; refine ⟨_, rfl, ?_⟩; have HO384 := za.mk (Kd.R_lower ho0 (zaa sB)); replace BK380 := dK BK380 hb; replace HB := za.mk (zh sB hb); try clear hb; obtain ⟨Ao17, co17, eo17⟩ := Kd.R_slice HO384.out; subst eo17) | ((with_reducible refine zn (f := 45) rfl ?_); refine gz (some 22) Try.func45 #[.agg #[.slice Ao17 t382.length co17, .int .i16 t385, .int .i16 t386, .int .i16 t387, .int .i16 t388, .bool t389]] rfl rfl ?_; (with_reducible refine (spec_AmountsIn.calls k _ _ t382 t385 t386 t387 t388 t389 t390 t393 _ ?side1 ?side2 A8.out).mono ?_); (case side1 => exact uQ HO384); (case side2 => exact (Kd.R_reads' HO384.out).2.1); rintro e w18 ⟨v391, rfl, ho0, hb⟩; refine ⟨_, rfl, ?_⟩; have HO392 := za.mk (Kd.R_lower ho0 (zaa sB)); replace HO384 := dR HO384 hb; replace BK380 := dK BK380 hb; replace HB := za.mk (zh sB hb); try clear hb; obtain ⟨hcz19_0, hcz19_1, hcz19_2, hcz19_3, hcz19_4, hcz19_5⟩ := xc6 BK380; obtain ⟨hfz19_0, hfz19_1, hfz19_2, hfz19_3, hfz19_4, hfz19_5⟩ := xf6 BK380) | ((with_reducible refine zn (f := 34) rfl ?_); refine gz (some 26) Try.func34 #[.agg #[.slice A0_0 l0_0.length c0_0, .int .i16 a0_1, .int .i16 a0_2, .int .i16 a0_3, .int .i16 a0_4, .bool a0_5]] rfl rfl ?_; (with_reducible refine (laws_toPuzzle.calls k _ _ l0_0 a0_1 a0_2 a0_3 a0_4 a0_5 t394 t397 t398 t399 t400 t401 _ ?side1 ?side2 A9.out).mono ?_); (case side1 => exact uC HR0_0 HB); (case side2 => exact HC0_0.out); rintro e w20 ⟨v395, rfl, ho0, hb⟩; refine ⟨_, rfl, ?_⟩; have HO396 := za.mk (Kd.R_lower (Kd.R_new' ho0 (Kd.R_lt (uR HO384))) (zaa sB)); replace HO384 := za.mk (Kd.R_elder' (uR HO384) (Kd.R_base ho0) hb); replace HO392 := dR HO392 hb; replace BK380 := dK BK380 hb; replace HB := za.mk (zh sB hb); try clear hb) | ((with_reducible refine zu (N := 6) rfl ?_); refine bx (N := 6) #[.slice none 0 0, .int .i16 0, .int .i16 0, .int .i16 0, .int .i16 0, .bool false] 29 rfl ?_; intro gb402 hg w21 hbox hb; have BK402 := za.mk hbox; have GW402 := gB hg; have GE402 := gB hg; have NB380_402 := nK hg BK380; have NB402_380 := za.mk (nK hg BK380).out.symm; replace HO384 := dR HO384 hb; replace HO392 := dR HO392 hb; replace HO396 := dR HO396 hb; replace BK380 := dK BK380 hb; replace HB := za.mk (zh sB hb); clear hb hbox hg; obtain ⟨Ao22, co22, eo22⟩ := Kd.R_slice HO396.out; subst eo22; have hnb23 := NB402_380.out; have hnc23 := NB380_402.out; obtain ⟨hcz24_0, hcz24_1, hcz24_2, hcz24_3, hcz24_4, hcz24_5⟩ := xc6 BK402; obtain ⟨hfz24_0, hfz24_1, hfz24_2, hfz24_3, hfz24_4, hfz24_5⟩ := xf6 BK402) | ((with_reducible refine zn (f := 46) rfl ?_); refine gz (some 29) Try.func46 #[.agg #[.slice Ao22 t394.length co22, .int .i16 t397, .int .i16 t398, .int .i16 t399, .int .i16 t400, .bool t401]] rfl rfl ?_; (with_reducible refine (impl_AmountsIn.calls k _ _ t394 t397 t398 t399 t400 t401 t403 t406 _ ?side1 ?side2 A10.out).mono ?_); (case side1 => refine (Kd.R_reads' (e := 25) (base := w.heap.size) (ok := fun k_ => (True ∧ some k_ ≠ (.slice Ao17 t382.length co17 : Value).ownBlock)) (n := t394.length) (c := co22) ?_).2.2; exact (by (with_reducible repeat (first | apply Kd.R_alloc | apply Kd.R_drewN | apply Kd.R_drew)); exact (Kd.R_mono (Kd.R_far (p := ⟨gb402, 5, none⟩) (Kd.R_far (p := ⟨gb402, 4, none⟩) (Kd.R_far (p := ⟨gb402, 3, none⟩) (Kd.R_far (p := ⟨gb402, 2, none⟩) (Kd.R_far (p := ⟨gb402, 1, none⟩) (Kd.R_far (p := ⟨gb402, 0, none⟩) (Kd.R_types HO396.out BK402.out (by decide)) (fun _ hk => hk.2) (.slice Ao22 t394.length co22)) (fun _ hk => hk.2) (.int .i16 t397)) (fun _ hk => hk.2) (.int .i16 t398)) (fun _ hk => hk.2) (.int .i16 t399)) (fun _ hk => hk.2) (.int .i16 t400)) (fun _ hk => hk.2) (.bool t401)) (fun _ h_ => h_.1)))); (case side2 => exact (Kd.R_reads' HO396.out).2.1); rintro e w25 ⟨v404, rfl, ho0, hb⟩; refine ⟨_, rfl, ?_⟩; have n0_ := za.mk (Kd.R_below (by (with_reducible repeat (first | apply Kd.R_alloc | apply Kd.R_drewN | apply Kd.R_drew)); exact (Kd.R_mono (Kd.R_far (p := ⟨gb402, 5, none⟩) (Kd.R_far (p := ⟨gb402, 4, none⟩) (Kd.R_far (p := ⟨gb402, 3, none⟩) (Kd.R_far (p := ⟨gb402, 2, none⟩) (Kd.R_far (p := ⟨gb402, 1, none⟩) (Kd.R_far (p := ⟨gb402, 0, none⟩) (Kd.R_types HO384.out BK402.out (by decide)) (fun _ hk => hk.2) (.slice Ao22 t394.length co22)) (fun _ hk => hk.2) (.int .i16 t397)) (fun _ hk => hk.2) (.int .i16 t398)) (fun _ hk => hk.2) (.int .i16 t399)) (fun _ hk => hk.2) (.int .i16 t400)) (fun _ hk => hk.2) (.bool t401)) (fun _ h_ => h_.1))) hb); have n1_ := za.mk (Kd.R_elder' (by (with_reducible repeat (first | apply Kd.R_alloc | apply Kd.R_drewN | apply Kd.R_drew)); exact (Kd.R_mono (Kd.R_far (p := ⟨gb402, 5, none⟩) (Kd.R_far (p := ⟨gb402, 4, none⟩) (Kd.R_far (p := ⟨gb402, 3, none⟩) (Kd.R_far (p := ⟨gb402, 2, none⟩) (Kd.R_far (p := ⟨gb402, 1, none⟩) (Kd.R_far (p := ⟨gb402, 0, none⟩) (Kd.R_types HO392.out BK402.out (by decide)) (fun _ hk => hk.2) (.slice Ao22 t394.length co22)) (fun _ hk => hk.2) (.int .i16 t397)) (fun _ hk => hk.2) (.int .i16 t398)) (fun _ hk => hk.2) (.int .i16 t399)) (fun _ hk => hk.2) (.int .i16 t400)) (fun _ hk => hk.2) (.bool t401)) (fun _ h_ => h_.1))) (Kd.R_base ho0) hb); have n2_ := za.mk (Kd.R_below (by (with_reducible repeat (first | apply Kd.R_alloc | apply Kd.R_drewN | apply Kd.R_drew)); exact (Kd.R_mono (Kd.R_far (p := ⟨gb402, 5, none⟩) (Kd.R_far (p := ⟨gb402, 4, none⟩) (Kd.R_far (p := ⟨gb402, 3, none⟩) (Kd.R_far (p := ⟨gb402, 2, none⟩) (Kd.R_far (p := ⟨gb402, 1, none⟩) (Kd.R_far (p := ⟨gb402, 0, none⟩) (Kd.R_types HO396.out BK402.out (by decide)) (fun _ hk => hk.2) (.slice Ao22 t394.length co22)) (fun _ hk => hk.2) (.int .i16 t397)) (fun _ hk => hk.2) (.int .i16 t398)) (fun _ hk => hk.2) (.int .i16 t399)) (fun _ hk => hk.2) (.int .i16 t400)) (fun _ hk => hk.2) (.bool t401)) (fun _ h_ => h_.1))) hb); have n3_ := za.mk (Kd.R_lower (Kd.R_new' ho0 (Kd.R_lt (by (with_reducible repeat (first | apply Kd.R_alloc | apply Kd.R_drewN | apply Kd.R_drew)); exact (Kd.R_mono (Kd.R_far (p := ⟨gb402, 5, none⟩) (Kd.R_far (p := ⟨gb402, 4, none⟩) (Kd.R_far (p := ⟨gb402, 3, none⟩) (Kd.R_far (p := ⟨gb402, 2, none⟩) (Kd.R_far (p := ⟨gb402, 1, none⟩) (Kd.R_far (p := ⟨gb402, 0, none⟩) (Kd.R_types HO392.out BK402.out (by decide)) (fun _ hk => hk.2) (.slice Ao22 t394.length co22)) (fun _ hk => hk.2) (.int .i16 t397)) (fun _ hk => hk.2) (.int .i16 t398)) (fun _ hk => hk.2) (.int .i16 t399)) (fun _ hk => hk.2) (.int .i16 t400)) (fun _ hk => hk.2) (.bool t401)) (fun _ h_ => h_.1))))) (zaa sB)); have n4_ := za.mk (zca (g := gb380) (o := .cells #[.slice A0_0 l0_0.length c0_0, .int .i16 a0_1, .int .i16 a0_2, .int .i16 a0_3, .int .i16 a0_4, .bool a0_5] 53 (0, 0)) (by (with_reducible repeat (first | refine ze ?_ _ | refine zf ?_ | refine zc ?_ _)); refine zm ?_ NB380_402.out _; (with_reducible repeat (first | refine ze ?_ _ | refine zf ?_ | refine zc ?_ _)); refine zm ?_ NB380_402.out _; (with_reducible repeat (first | refine ze ?_ _ | refine zf ?_ | refine zc ?_ _)); refine zm ?_ NB380_402.out _; (with_reducible repeat (first | refine ze ?_ _ | refine zf ?_ | refine zc ?_ _)); refine zm ?_ NB380_402.out _; (with_reducible repeat (first | refine ze ?_ _ | refine zf ?_ | refine zc ?_ _)); refine zm ?_ NB380_402.out _; (with_reducible repeat (first | refine ze ?_ _ | refine zf ?_ | refine zc ?_ _)); refine zm ?_ NB380_402.out _; (with_reducible repeat (first | refine ze ?_ _ | refine zf ?_ | refine zc ?_ _)); exact BK380.out) hb); have n5_ := za.mk (zca (g := gb402) (o := .cells #[.slice Ao22 t394.length co22, .int .i16 t397, .int .i16 t398, .int .i16 t399, .int .i16 t400, .bool t401] 29 (0, 0)) (by (with_reducible repeat (first | refine ze ?_ _ | refine zf ?_ | refine zc ?_ _)); refine zx (cs := #[.slice Ao22 t394.length co22, .int .i16 t397, .int .i16 t398, .int .i16 t399, .int .i16 t400, .bool false]) ?_ 5 _ rfl; (with_reducible repeat (first | refine ze ?_ _ | refine zf ?_ | refine zc ?_ _)); refine zx (cs := #[.slice Ao22 t394.length co22, .int .i16 t397, .int .i16 t398, .int .i16 t399, .int .i16 0, .bool false]) ?_ 4 _ rfl; (with_reducible repeat (first | refine ze ?_ _ | refine zf ?_ | refine zc ?_ _)); refine zx (cs := #[.slice Ao22 t394.length co22, .int .i16 t397, .int .i16 t398, .int .i16 0, .int .i16 0, .bool false]) ?_ 3 _ rfl; (with_reducible repeat (first | refine ze ?_ _ | refine zf ?_ | refine zc ?_ _)); refine zx (cs := #[.slice Ao22 t394.length co22, .int .i16 t397, .int .i16 0, .int .i16 0, .int .i16 0, .bool false]) ?_ 2 _ rfl; (with_reducible repeat (first | refine ze ?_ _ | refine zf ?_ | refine zc ?_ _)); refine zx (cs := #[.slice Ao22 t394.length co22, .int .i16 0, .int .i16 0, .int .i16 0, .int .i16 0, .bool false]) ?_ 1 _ rfl; (with_reducible repeat (first | refine ze ?_ _ | refine zf ?_ | refine zc ?_ _)); refine zx (cs := #[.slice none 0 0, .int .i16 0, .int .i16 0, .int .i16 0, .int .i16 0, .bool false]) ?_ 0 _ rfl; (with_reducible repeat (first | refine ze ?_ _ | refine zf ?_ | refine zc ?_ _)); exact BK402.out) hb); have n6_ := za.mk (zh sB hb); clear HO384; clear HO392; clear HO396; clear BK380; clear BK402; clear HB; have HO384 := n0_; have HO392 := n1_; have HO396 := n2_; have HO405 := n3_; have BK380 := n4_; have BK402 := n5_; have HB := n6_; clear n0_ n1_ n2_ n3_ n4_ n5_ n6_; try clear hb))
  (try simp only [Act.put, List.setIfInBounds_toArray, List.set_cons_zero, List.set_cons_succ])
  go_cut [40] (fun v40 wc => ∃ (kq : Nat) (x40_10 : Bool), v40 = .bool x40_10 ∧ za (laws_FnExactAmountsIn.j0 kq t390 t393 t403 t406 x40_10 l0_0 a0_1 a0_2 a0_3 a0_4 a0_5 t394 t397 t398 t399 t400 t401 = some r) ∧ za (kq ≤ k) ∧ za (Kd.R (Kd.int .i64) 2 wc w.heap.size (fun k_ => some k_ ≠ (v404 : Value).ownBlock) v391 t390) ∧ za (Kd.R (Kd.int .i64) 2 wc w.heap.size (fun k_ => some k_ ≠ (v391 : Value).ownBlock) v404 t403) ∧ za (Kd.R (Kd.int .i16) 25 wc w.heap.size (fun _ => True) (.slice Ao22 t394.length co22) t394) ∧ za (wc.heap[gb380]? = some (.cells #[(.slice A0_0 l0_0.length c0_0), .int .i16 a0_1, .int .i16 a0_2, .int .i16 a0_3, .int .i16 a0_4, .bool a0_5] 53 (0, 0))) ∧ za (wc.heap[gb402]? = some (.cells #[(.slice Ao22 t394.length co22), .int .i16 t397, .int .i16 t398, .int .i16 t399, .int .i16 t400, .bool t401] 29 (0, 0))) ∧ za (Below w.heap.size w wc))
  case first =>
   have H := HC11.out
   clear HC11
   replace H := Option.bind_eq_some_iff.mp H
   obtain ⟨t407, A260, H⟩ := H
   replace H : (if t407 = true then (laws_FnExactAmountsIn.j0 k t390 t393 t403 t406 (t406 != t393) l0_0 a0_1 a0_2 a0_3 a0_4 a0_5 t394 t397 t398 t399 t400 t401) else (laws_FnExactAmountsIn.j0 k t390 t393 t403 t406 true l0_0 a0_1 a0_2 a0_3 a0_4 a0_5 t394 t397 t398 t399 t400 t401)) = some r := H
   have A26 := za.mk A260
   clear A260
   by_cases c27 : t407 = true
   ·subst c27
    have H1 : (laws_FnExactAmountsIn.j0 k t390 t393 t403 t406 (t406 != t393) l0_0 a0_1 a0_2 a0_3 a0_4 a0_5 t394 t397 t398 t399 t400 t401) = some r := by rw [if_pos rfl] at H; exact H
    clear H
    have H := H1
    clear H1
    have H' := za.mk H
    clear H
    obtain ⟨Ao28, co28, eo28⟩ := Kd.R_slice HO405.out
    subst eo28
    obtain ⟨Ao29, co29, eo29⟩ := Kd.R_slice HO392.out
    subst eo29
    go_wp2_with (first | ((with_reducible refine zn (f := 47) rfl ?_); refine gz (some 34) Try.func47 #[.slice Ao28 t403.length co28, .slice Ao29 t390.length co29] rfl rfl ?_; (with_reducible refine (laws_eqInt64S.calls k _ _ t403 _ _ t390 true _ ?side1 ?side2 ?side3 ?side4 A26.out).mono ?_); (case side1 => exact uQ HO405); (case side2 => exact (Kd.R_reads' HO405.out).2.1); (case side3 => exact uQ HO392); (case side4 => exact (Kd.R_reads' HO392.out).2.1); rintro e w' ⟨rfl, ⟨nd, rfl⟩⟩; refine ⟨_, rfl, ?_⟩))
    go_meet
    case rel => exact ⟨_, ((t406 != t393)), (by first | rfl | (simp; done) | (simp [*]; done)), H', ⟨by first | omega | exact Nat.le_refl _⟩, ⟨uR' (Kd.R_mono HO392.out (fun _ hk => hk.2))⟩, ⟨uR' (Kd.R_mono HO405.out (fun _ hk => hk.2))⟩, ⟨uR' (Kd.R_mono HO396.out (fun _ hk => trivial))⟩, ⟨uK BK380⟩, ⟨uK BK402⟩, ⟨sB⟩⟩
   ·replace c27 := Bool.eq_false_iff.mpr c27
    subst c27
    have H1 : (laws_FnExactAmountsIn.j0 k t390 t393 t403 t406 true l0_0 a0_1 a0_2 a0_3 a0_4 a0_5 t394 t397 t398 t399 t400 t401) = some r := by rw [if_neg (show ¬ (false = true) by decide)] at H; exact H
    clear H
    have H := H1
    clear H1
    have H' := za.mk H
    clear H
    obtain ⟨Ao30, co30, eo30⟩ := Kd.R_slice HO405.out
    subst eo30
    obtain ⟨Ao31, co31, eo31⟩ := Kd.R_slice HO392.out
    subst eo31
    go_wp2_with (first | ((with_reducible refine zn (f := 47) rfl ?_); refine gz (some 34) Try.func47 #[.slice Ao30 t403.length co30, .slice Ao31 t390.length co31] rfl rfl ?_; (with_reducible refine (laws_eqInt64S.calls k _ _ t403 _ _ t390 false _ ?side1 ?side2 ?side3 ?side4 A26.out).mono ?_); (case side1 => exact uQ HO405); (case side2 => exact (Kd.R_reads' HO405.out).2.1); (case side3 => exact uQ HO392); (case side4 => exact (Kd.R_reads' HO392.out).2.1); rintro e w' ⟨rfl, ⟨nd, rfl⟩⟩; refine ⟨_, rfl, ?_⟩))
    go_meet
    case rel => exact ⟨_, (true), (by first | rfl | (simp; done) | (simp [*]; done)), H', ⟨by first | omega | exact Nat.le_refl _⟩, ⟨uR' (Kd.R_mono HO392.out (fun _ hk => hk.2))⟩, ⟨uR' (Kd.R_mono HO405.out (fun _ hk => hk.2))⟩, ⟨uR' (Kd.R_mono HO396.out (fun _ hk => trivial))⟩, ⟨uK BK380⟩, ⟨uK BK402⟩, ⟨sB⟩⟩
  case rest =>
   clear HC11
   try clear c2
   try clear p2
   try clear c3
   try clear c3b0
   try clear c4
   try clear c9
   try clear c23
   try clear c27
   try clear hcz13_0
   try clear hcz13_1
   try clear hcz13_2
   try clear hcz13_3
   try clear hcz13_4
   try clear hcz13_5
   try clear hcz15_0
   try clear hcz15_1
   try clear hcz15_2
   try clear hcz15_3
   try clear hcz15_4
   try clear hcz15_5
   try clear hcz19_0
   try clear hcz19_1
   try clear hcz19_2
   try clear hcz19_3
   try clear hcz19_4
   try clear hcz19_5
   try clear hcz24_0
   try clear hcz24_1
   try clear hcz24_2
   try clear hcz24_3
   try clear hcz24_4
   try clear hcz24_5
   try clear hcz5_0
   try clear hcz5_1
   try clear hcz5_2
   try clear hcz5_3
   try clear hcz5_4
   try clear hcz5_5
   try clear hfz13_0
   try clear hfz13_1
   try clear hfz13_2
   try clear hfz13_3
   try clear hfz13_4
   try clear hfz13_5
   try clear hfz15_0
   try clear hfz15_1
   try clear hfz15_2
   try clear hfz15_3
   try clear hfz15_4
   try clear hfz15_5
   try clear hfz19_0
   try clear hfz19_1
   try clear hfz19_2
   try clear hfz19_3
   try clear hfz19_4
   try clear hfz19_5
   try clear hfz24_0
   try clear hfz24_1
   try clear hfz24_2
   try clear hfz24_3
   try clear hfz24_4
   try clear hfz24_5
   try clear hfz5_0
   try clear hfz5_1
   try clear hfz5_2
   try clear hfz5_3
   try clear hfz5_4
   try clear hfz5_5
   obtain ⟨kq, x40_10, rfl, HA, HJ10, HO_4, HO_7, HO_403000, BK380, BK402, HB⟩ := hcut
   cases kq with
   | zero => exact absurd HA.out (by simp [laws_FnExactAmountsIn.j0])
   | succ kj10 =>
    have H := HA.out
    clear HA
    simp only [laws_FnExactAmountsIn.j0] at H
    by_cases c32 : x40_10 = true
    ·subst c32
     have H1 : (some false) = some r := by rw [if_pos rfl] at H; exact H
     clear H
     have H := H1
     clear H1
     obtain rfl := Option.some.inj H
     go_wp2
     go_ret
     exact ⟨by first | rfl | (simp [zj, zk] <;> rfl) | (simp [*, zj, zk] <;> rfl), sB⟩
    ·replace c32 := Bool.eq_false_iff.mpr c32
     subst c32
     have H1 : ((laws_toPuzzle.f kj10 l0_0 a0_1 a0_2 a0_3 a0_4 a0_5).bind fun bt408 => ((laws_eqPuzzle.f kj10 t394 t397 t398 t399 t400 t401 bt408.1 bt408.2.1 bt408.2.2.1 bt408.2.2.2.1 bt408.2.2.2.2.1 bt408.2.2.2.2.2).bind fun t416 => (if t416 = true then ((laws_markPuzzle.f kj10 t394 t397 t398 t399 t400 t401 1).bind fun bt417 => (if bt417.1 < 0 then (laws_FnExactAmountsIn.j1 kj10 t390 t393 t403 true l0_0 a0_1 a0_2 a0_3 a0_4 a0_5) else ((laws_eqInt64S.f kj10 t403 t390).bind fun t419 => (if t419 = true then (laws_FnExactAmountsIn.j1 kj10 t390 t393 t403 (t406 != t393) l0_0 a0_1 a0_2 a0_3 a0_4 a0_5) else (laws_FnExactAmountsIn.j1 kj10 t390 t393 t403 true l0_0 a0_1 a0_2 a0_3 a0_4 a0_5))))) else (some false)))) = some r := by rw [if_neg (show ¬ (false = true) by decide)] at H; exact H
     clear H
     have H := H1
     clear H1
     replace H := Option.bind_eq_some_iff.mp H
     obtain ⟨⟨t408, t411, t412, t413, t414, t415⟩, A330, H⟩ := H
     replace H : ((laws_eqPuzzle.f kj10 t394 t397 t398 t399 t400 t401 t408 t411 t412 t413 t414 t415).bind fun t416 => (if t416 = true then ((laws_markPuzzle.f kj10 t394 t397 t398 t399 t400 t401 1).bind fun bt417 => (if bt417.1 < 0 then (laws_FnExactAmountsIn.j1 kj10 t390 t393 t403 true l0_0 a0_1 a0_2 a0_3 a0_4 a0_5) else ((laws_eqInt64S.f kj10 t403 t390).bind fun t419 => (if t419 = true then (laws_FnExactAmountsIn.j1 kj10 t390 t393 t403 (t406 != t393) l0_0 a0_1 a0_2 a0_3 a0_4 a0_5) else (laws_FnExactAmountsIn.j1 kj10 t390 t393 t403 true l0_0 a0_1 a0_2 a0_3 a0_4 a0_5))))) else (some false))) = some r := H
     have A33 := za.mk A330
     clear A330
     replace H := Option.bind_eq_some_iff.mp H
     obtain ⟨t416, A340, H⟩ := H
     replace H : (if t416 = true then ((laws_markPuzzle.f kj10 t394 t397 t398 t399 t400 t401 1).bind fun bt417 => (if bt417.1 < 0 then (laws_FnExactAmountsIn.j1 kj10 t390 t393 t403 true l0_0 a0_1 a0_2 a0_3 a0_4 a0_5) else ((laws_eqInt64S.f kj10 t403 t390).bind fun t419 => (if t419 = true then (laws_FnExactAmountsIn.j1 kj10 t390 t393 t403 (t406 != t393) l0_0 a0_1 a0_2 a0_3 a0_4 a0_5) else (laws_FnExactAmountsIn.j1 kj10 t390 t393 t403 true l0_0 a0_1 a0_2 a0_3 a0_4 a0_5))))) else (some false)) = some r := H
     have A34 := za.mk A340
     clear A340
     by_cases c35 : t416 = true
     ·subst c35
      have H1 : ((laws_markPuzzle.f kj10 t394 t397 t398 t399 t400 t401 1).bind fun bt417 => (if bt417.1 < 0 then (laws_FnExactAmountsIn.j1 kj10 t390 t393 t403 true l0_0 a0_1 a0_2 a0_3 a0_4 a0_5) else ((laws_eqInt64S.f kj10 t403 t390).bind fun t419 => (if t419 = true then (laws_FnExactAmountsIn.j1 kj10 t390 t393 t403 (t406 != t393) l0_0 a0_1 a0_2 a0_3 a0_4 a0_5) else (laws_FnExactAmountsIn.j1 kj10 t390 t393 t403 true l0_0 a0_1 a0_2 a0_3 a0_4 a0_5))))) = some r := by rw [if_pos rfl] at H; exact H
      clear H
      have H := H1
      clear H1
      replace H := Option.bind_eq_some_iff.mp H
      obtain ⟨⟨t417, t418⟩, A360, H⟩ := H
      replace H : (if t417 < 0 then (laws_FnExactAmountsIn.j1 kj10 t390 t393 t403 true l0_0 a0_1 a0_2 a0_3 a0_4 a0_5) else ((laws_eqInt64S.f kj10 t403 t390).bind fun t419 => (if t419 = true then (laws_FnExactAmountsIn.j1 kj10 t390 t393 t403 (t406 != t393) l0_0 a0_1 a0_2 a0_3 a0_4 a0_5) else (laws_FnExactAmountsIn.j1 kj10 t390 t393 t403 true l0_0 a0_1 a0_2 a0_3 a0_4 a0_5)))) = some r := H
      have A36 := za.mk A360
      clear A360
      have HC37 := za.mk H
      clear H
      try go_wp2
      have n0_ := za.mk (Kd.R_drew HO_4.out)
      have n1_ := za.mk (Kd.R_drew HO_7.out)
      have n2_ := za.mk (Kd.R_drew HO_403000.out)
      have n3_ := za.mk (zf BK380.out)
      have n4_ := za.mk (zf BK402.out)
      have n5_ := za.mk (zv HB.out)
      clear HO_4
      clear HO_7
      clear HO_403000
      clear BK380
      clear BK402
      clear HB
      have HO_4 := n0_
      have HO_7 := n1_
      have HO_403000 := n2_
      have BK380 := n3_
      have BK402 := n4_
      have HB := n5_
      clear n0_ n1_ n2_ n3_ n4_ n5_
      refine zlc (n := 5) (S := fun w' => w'.cell? ⟨gb402, 0, none⟩ = some (.slice Ao22 t394.length co22) ∧ w'.cell? ⟨gb402, 1, none⟩ = some (.int .i16 t397) ∧ w'.cell? ⟨gb402, 2, none⟩ = some (.int .i16 t398) ∧ w'.cell? ⟨gb402, 3, none⟩ = some (.int .i16 t399) ∧ w'.cell? ⟨gb402, 4, none⟩ = some (.int .i16 t400) ∧ w'.cell? ⟨gb402, 5, none⟩ = some (.bool t401) ∧ w'.cell? ⟨gb380, 0, none⟩ = some (.slice A0_0 l0_0.length c0_0) ∧ w'.cell? ⟨gb380, 1, none⟩ = some (.int .i16 a0_1) ∧ w'.cell? ⟨gb380, 2, none⟩ = some (.int .i16 a0_2) ∧ w'.cell? ⟨gb380, 3, none⟩ = some (.int .i16 a0_3) ∧ w'.cell? ⟨gb380, 4, none⟩ = some (.int .i16 a0_4) ∧ w'.cell? ⟨gb380, 5, none⟩ = some (.bool a0_5)) (ds := []) #[false, false, false, false, false] (by kernel_rfl) rfl rfl ⟨(zb BK402.out 0).trans rfl, (zb BK402.out 1).trans rfl, (zb BK402.out 2).trans rfl, (zb BK402.out 3).trans rfl, (zb BK402.out 4).trans rfl, (zb BK402.out 5).trans rfl, (zb BK380.out 0).trans rfl, (zb BK380.out 1).trans rfl, (zb BK380.out 2).trans rfl, (zb BK380.out 3).trans rfl, (zb BK380.out 4).trans rfl, (zb BK380.out 5).trans rfl⟩ (fun hHeld => ?_)
      generalize wc.drew = w38 at HO_4 HO_7 HO_403000 BK380 BK402 HB hHeld ⊢
      refine take_ (i := 0) (N := some 41) (v := ?_) (a' := ?_) #[true, false, false, false, false] rfl rfl (by kernel_rfl) (fun _ _ _ h => h) (Or.inl ⟨by rfl, ?_⟩) hHeld ?_ ?_
      rotate_left
      ·rintro w' ⟨s0, s1, s2, s3, s4, s5, s6, s7, s8, s9, s10, s11⟩
       go_simp
       with_reducible rfl
      rotate_left
      ·simp only [Act.put, List.setIfInBounds_toArray, List.set_cons_zero, List.set_cons_succ, zz, zy]
       rfl
      refine take_ (i := 1) (N := some 42) (v := ?_) (a' := ?_) #[true, true, false, false, false] rfl rfl (by kernel_rfl) (fun _ _ _ h => h) (Or.inl ⟨by rfl, ?_⟩) hHeld ?_ ?_
      rotate_left
      ·rintro w' ⟨s0, s1, s2, s3, s4, s5, s6, s7, s8, s9, s10, s11⟩
       go_simp
       with_reducible rfl
      rotate_left
      ·simp only [Act.put, List.setIfInBounds_toArray, List.set_cons_zero, List.set_cons_succ, zz, zy]
       rfl
      refine one_ (i := 2) (N := some 43) #[true, true, true, false, false] rfl rfl (by kernel_rfl) (by decide) (fun K hK => ?_)
      refine zyd Try.func34 (by kernel_rfl) rfl #[.agg #[.slice A0_0 l0_0.length c0_0, .int .i16 a0_1, .int .i16 a0_2, .int .i16 a0_3, .int .i16 a0_4, .bool a0_5]] (by rfl) rfl rfl (by (try simp only [List.map_toArray, List.map_cons, List.map_nil]); first | done | rfl | (simp only [List.length_drop, List.length_take]; rfl)) ?_
      with_reducible refine (laws_toPuzzle.calls kj10 _ _ l0_0 a0_1 a0_2 a0_3 a0_4 a0_5 t408 t411 t412 t413 t414 t415 _ ?side1 ?side2 A33.out).mono ?_
      (case side1 => exact uC HR0_0 HB)
      (case side2 => exact HC0_0.out)
      rintro e w39 ⟨v409, rfl, ho0, hb⟩
      refine ⟨_, rfl, ?_⟩
      have n0_ := dR HO_4 hb
      have n1_ := dR HO_7 hb
      have n2_ := za.mk (Kd.R_elder' (uR HO_403000) (Kd.R_base ho0) hb)
      have n3_ := za.mk (Kd.R_lower (Kd.R_new' ho0 (Kd.R_lt (uR HO_403000))) (zaa sB))
      have n4_ := dK BK380 hb
      have n5_ := dK BK402 hb
      have n6_ := za.mk (zh sB hb)
      clear HO_4
      clear HO_7
      clear HO_403000
      clear BK380
      clear BK402
      clear HB
      have HO_4 := n0_
      have HO_7 := n1_
      have HO_403000 := n2_
      have HO410 := n3_
      have BK380 := n4_
      have BK402 := n5_
      have HB := n6_
      clear n0_ n1_ n2_ n3_ n4_ n5_ n6_
      (try clear hb)
      (try clear hb2)
      (try clear hk)
      (try clear hi)
      (try clear ho0)
      obtain ⟨Ao40, co40, eo40⟩ := Kd.R_slice HO410.out
      (first | subst eo40 | (injection eo40 with f1_ f2_ f3_; have f4_ := f1_.symm; have f5_ := f3_.symm; clear f1_ f2_ f3_; subst f4_; subst f5_))
      refine hK.out _ _ ⟨(zb BK402.out 0).trans rfl, (zb BK402.out 1).trans rfl, (zb BK402.out 2).trans rfl, (zb BK402.out 3).trans rfl, (zb BK402.out 4).trans rfl, (zb BK402.out 5).trans rfl, (zb BK380.out 0).trans rfl, (zb BK380.out 1).trans rfl, (zb BK380.out 2).trans rfl, (zb BK380.out 3).trans rfl, (zb BK380.out 4).trans rfl, (zb BK380.out 5).trans rfl⟩ (fun hHeld => ?_)
      clear hK K
      refine zma (a' := ?_) ?_ ?_
      rotate_left
      ·show Act.put _ (some 43) _ = _
       simp only [Act.put, List.setIfInBounds_toArray, List.set_cons_zero, List.set_cons_succ, zz, zy]
       rfl
      refine one_ (i := 3) (N := some 44) #[true, true, true, true, false] rfl rfl (by kernel_rfl) (by decide) (fun K hK => ?_)
      refine zyd Try.func35 (by kernel_rfl) rfl #[.agg #[.slice Ao22 t394.length co22, .int .i16 t397, .int .i16 t398, .int .i16 t399, .int .i16 t400, .bool t401], .agg #[.slice Ao40 t408.length co40, .int .i16 t411, .int .i16 t412, .int .i16 t413, .int .i16 t414, .bool t415]] (by rfl) rfl rfl (by (try simp only [List.map_toArray, List.map_cons, List.map_nil]); first | done | rfl | (simp only [List.length_drop, List.length_take]; rfl)) ?_
      with_reducible refine (laws_eqPuzzle.calls kj10 _ _ t394 t397 t398 t399 t400 t401 _ _ t408 t411 t412 t413 t414 t415 true _ ?side1 ?side2 ?side3 ?side4 A34.out).mono ?_
      (case side1 => exact uQ HO_403000)
      (case side2 => exact (Kd.R_reads' HO_403000.out).2.1)
      (case side3 => exact uQ HO410)
      (case side4 => exact (Kd.R_reads' HO410.out).2.1)
      rintro e w41 ⟨rfl, hb⟩
      refine ⟨_, rfl, ?_⟩
      have n0_ := dR HO_4 hb
      have n1_ := dR HO_7 hb
      have n2_ := dR HO_403000 hb
      have n3_ := dR HO410 hb
      have n4_ := dK BK380 hb
      have n5_ := dK BK402 hb
      have n6_ := za.mk (zh sB hb)
      clear HO_4
      clear HO_7
      clear HO_403000
      clear HO410
      clear BK380
      clear BK402
      clear HB
      have HO_4 := n0_
      have HO_7 := n1_
      have HO_403000 := n2_
      have HO410 := n3_
      have BK380 := n4_
      have BK402 := n5_
      have HB := n6_
      clear n0_ n1_ n2_ n3_ n4_ n5_ n6_
      (try clear hb)
      (try clear hb2)
      (try clear hk)
      (try clear hi)
      refine hK.out _ _ ⟨(zb BK402.out 0).trans rfl, (zb BK402.out 1).trans rfl, (zb BK402.out 2).trans rfl, (zb BK402.out 3).trans rfl, (zb BK402.out 4).trans rfl, (zb BK402.out 5).trans rfl, (zb BK380.out 0).trans rfl, (zb BK380.out 1).trans rfl, (zb BK380.out 2).trans rfl, (zb BK380.out 3).trans rfl, (zb BK380.out 4).trans rfl, (zb BK380.out 5).trans rfl⟩ (fun hHeld => ?_)
      clear hK K
      refine zma (a' := ?_) ?_ ?_
      rotate_left
      ·show Act.put _ (some 44) _ = _
       simp only [Act.put, List.setIfInBounds_toArray, List.set_cons_zero, List.set_cons_succ, zz, zy]
       rfl
      refine zfa (i := 4) (N := some 45) (v := ?_) (a' := ?_) #[true, true, true, true, true] rfl rfl (by kernel_rfl) (fun _ _ _ h => h) (Or.inl ⟨by rfl, ?_⟩) ?_ ?_
      rotate_left
      ·intro w'
       go_simp
       with_reducible rfl
      rotate_left
      ·simp only [Act.put, List.setIfInBounds_toArray, List.set_cons_zero, List.set_cons_succ, zz, zy]
       rfl
      refine zae (by kernel_rfl) ?_
      have hnb42 := NB402_380.out
      have hnc42 := NB380_402.out
      obtain ⟨hcz43_0, hcz43_1, hcz43_2, hcz43_3, hcz43_4, hcz43_5⟩ := xc6 BK402
      obtain ⟨hfz43_0, hfz43_1, hfz43_2, hfz43_3, hfz43_4, hfz43_5⟩ := xf6 BK402
      go_upto_region 14 with (first | ((with_reducible refine zn (f := 38) rfl ?_); refine gz (some 48) Try.func38 #[.agg #[.slice Ao22 t394.length co22, .int .i16 t397, .int .i16 t398, .int .i16 t399, .int .i16 t400, .bool t401], .int .i64 1] rfl rfl ?_; (with_reducible refine (laws_markPuzzle.calls kj10 (fun k_ => some k_ = (.slice Ao22 t394.length co22 : Value).ownBlock) (.slice Ao22 t394.length co22) t394 t397 t398 t399 t400 t401 1 t417 t418 w _ ?side1 ?side2 A36.out).mono ?_); (case side1 => repeat (first | (with_reducible first | exact HB.out | apply zw | apply zo | apply zv | refine zt ?_ GE380.out | refine zt ?_ GE402.out) | exact HB.out)); (case side2 => exact Kd.R_tight rfl HO_403000.out); rintro e w44 ⟨rfl, hy0, hb, hkp⟩; refine ⟨_, rfl, ?_⟩; replace HO_4 := za.mk (Kd.R_mono (ok' := fun k_ => some k_ ≠ (v404 : Value).ownBlock) (Kd.R_keptB ((Kd.R_apart' HO_4.out (Kd.R_typed HO_403000.out) (by decide))) hkp (fun k_ hk_ hs_ => (hk_.2) hs_)) (fun k_ hk_ => hk_.1.1)); replace HO_7 := za.mk (Kd.R_mono (ok' := fun k_ => some k_ ≠ (v391 : Value).ownBlock) (Kd.R_keptB ((Kd.R_apart' HO_7.out (Kd.R_typed HO_403000.out) (by decide))) hkp (fun k_ hk_ hs_ => (hk_.2) hs_)) (fun k_ hk_ => hk_.1.1)); replace BK380 := za.mk (zzb (uK BK380) hkp (fun hs_ => (fun e_ => (Kd.R_ne HO_403000.out BK380.out (by decide)) e_) hs_)); replace BK402 := za.mk (zzb (uK BK402) hkp (fun hs_ => (fun e_ => (Kd.R_ne HO_403000.out BK402.out (by decide)) e_) hs_)); replace HO_403000 := za.mk (Kd.R_reok rfl hy0 (fun k_ e_ => HO_403000.out.1 k_ e_)); replace HO410 := za.mk (Kd.R_mono (ok' := fun k_ => some k_ ≠ (.slice Ao22 t394.length co22 : Value).ownBlock) (Kd.R_keptB (HO410.out) hkp (fun k_ hk_ hs_ => (hk_.2) hs_)) (fun k_ hk_ => hk_.1.2)); replace HB := za.mk hb; (try clear hb); (try clear hkp); (try clear hy0)))
      (try simp only [Act.put, List.setIfInBounds_toArray, List.set_cons_zero, List.set_cons_succ])
      go_cut [61] (fun v61 wc => ∃ (kq : Nat) (x61_36 : Bool), v61 = .bool x61_36 ∧ za (laws_FnExactAmountsIn.j1 kq t390 t393 t403 x61_36 l0_0 a0_1 a0_2 a0_3 a0_4 a0_5 = some r) ∧ za (kq ≤ kj10) ∧ za (Kd.R (Kd.int .i64) 2 wc w.heap.size (fun k_ => some k_ ≠ (v404 : Value).ownBlock) v391 t390) ∧ za (Kd.R (Kd.int .i64) 2 wc w.heap.size (fun k_ => some k_ ≠ (v391 : Value).ownBlock) v404 t403) ∧ za (Kd.R (Kd.int .i16) 25 wc w.heap.size (fun _ => True) (.slice Ao22 t394.length co22) t418) ∧ za (wc.heap[gb380]? = some (.cells #[(.slice A0_0 l0_0.length c0_0), .int .i16 a0_1, .int .i16 a0_2, .int .i16 a0_3, .int .i16 a0_4, .bool a0_5] 53 (0, 0))) ∧ za (wc.heap[gb402]? = some (.cells #[(.slice Ao22 t394.length co22), .int .i16 t397, .int .i16 t398, .int .i16 t399, .int .i16 t400, .bool t401] 29 (0, 0))) ∧ za (Below w.heap.size w wc))
      case first =>
       have H := HC37.out
       clear HC37
       by_cases c45 : t417 < 0
       ·rw [if_pos c45] at H
        have c45b0 : decide (t417 < 0) = true := decide_eq_true c45
        clear c45
        (first | rw [c45b0] | (simp only [zz, zy]; rw [c45b0]) | skip)
        have H' := za.mk H
        clear H
        go_wp2
        go_meet
        case rel => exact ⟨_, (true), (by first | rfl | (simp; done) | (simp [*]; done)), H', ⟨by have := HJ10.out; first | omega | exact Nat.le_refl _⟩, ⟨uR HO_4⟩, ⟨uR HO_7⟩, ⟨uR' (Kd.R_mono HO_403000.out (fun _ hk => trivial))⟩, ⟨uK BK380⟩, ⟨uK BK402⟩, ⟨sB⟩⟩
       ·rw [if_neg c45] at H
        have c45b0 : decide (t417 < 0) = false := decide_eq_false c45
        clear c45
        (first | rw [c45b0] | (simp only [zz, zy]; rw [c45b0]) | skip)
        replace H := Option.bind_eq_some_iff.mp H
        obtain ⟨t419, A460, H⟩ := H
        replace H : (if t419 = true then (laws_FnExactAmountsIn.j1 kj10 t390 t393 t403 (t406 != t393) l0_0 a0_1 a0_2 a0_3 a0_4 a0_5) else (laws_FnExactAmountsIn.j1 kj10 t390 t393 t403 true l0_0 a0_1 a0_2 a0_3 a0_4 a0_5)) = some r := H
        have A46 := za.mk A460
        clear A460
        by_cases c47 : t419 = true
        ·subst c47
         have H1 : (laws_FnExactAmountsIn.j1 kj10 t390 t393 t403 (t406 != t393) l0_0 a0_1 a0_2 a0_3 a0_4 a0_5) = some r := by rw [if_pos rfl] at H; exact H
         clear H
         have H := H1
         clear H1
         have H' := za.mk H
         clear H
         obtain ⟨Ao48, co48, eo48⟩ := Kd.R_slice HO_7.out
         subst eo48
         obtain ⟨Ao49, co49, eo49⟩ := Kd.R_slice HO_4.out
         subst eo49
         go_wp2_with (first | (go_at_call 47; (with_reducible refine (laws_eqInt64S.calls kj10 _ _ t403 _ _ t390 true _ ?side1 ?side2 ?side3 ?side4 A46.out).mono ?_); (case side1 => exact uQ HO_7); (case side2 => exact (Kd.R_reads' HO_7.out).2.1); (case side3 => exact uQ HO_4); (case side4 => exact (Kd.R_reads' HO_4.out).2.1); rintro e w' ⟨rfl, ⟨nd, rfl⟩⟩))
         go_meet
         case rel => exact ⟨_, ((t406 != t393)), (by first | rfl | (simp; done) | (simp [*]; done)), H', ⟨by have := HJ10.out; first | omega | exact Nat.le_refl _⟩, ⟨uR HO_4⟩, ⟨uR HO_7⟩, ⟨uR' (Kd.R_mono HO_403000.out (fun _ hk => trivial))⟩, ⟨uK BK380⟩, ⟨uK BK402⟩, ⟨sB⟩⟩
        ·replace c47 := Bool.eq_false_iff.mpr c47
         subst c47
         have H1 : (laws_FnExactAmountsIn.j1 kj10 t390 t393 t403 true l0_0 a0_1 a0_2 a0_3 a0_4 a0_5) = some r := by rw [if_neg (show ¬ (false = true) by decide)] at H; exact H
         clear H
         have H := H1
         clear H1
         have H' := za.mk H
         clear H
         obtain ⟨Ao50, co50, eo50⟩ := Kd.R_slice HO_7.out
         subst eo50
         obtain ⟨Ao51, co51, eo51⟩ := Kd.R_slice HO_4.out
         subst eo51
         go_wp2_with (first | (go_at_call 47; (with_reducible refine (laws_eqInt64S.calls kj10 _ _ t403 _ _ t390 false _ ?side1 ?side2 ?side3 ?side4 A46.out).mono ?_); (case side1 => exact uQ HO_7); (case side2 => exact (Kd.R_reads' HO_7.out).2.1); (case side3 => exact uQ HO_4); (case side4 => exact (Kd.R_reads' HO_4.out).2.1); rintro e w' ⟨rfl, ⟨nd, rfl⟩⟩))
         go_meet
         case rel => exact ⟨_, (true), (by first | rfl | (simp; done) | (simp [*]; done)), H', ⟨by have := HJ10.out; first | omega | exact Nat.le_refl _⟩, ⟨uR HO_4⟩, ⟨uR HO_7⟩, ⟨uR' (Kd.R_mono HO_403000.out (fun _ hk => trivial))⟩, ⟨uK BK380⟩, ⟨uK BK402⟩, ⟨sB⟩⟩
      case rest =>
       clear HC37
       try clear c2
       try clear p2
       try clear c3
       try clear c3b0
       try clear c4
       try clear c9
       try clear c23
       try clear c27
       try clear c32
       try clear c34
       try clear c35
       try clear c38
       try clear c42
       try clear c45
       try clear c45b0
       try clear c46
       try clear c47
       try clear hcz13_0
       try clear hcz13_1
       try clear hcz13_2
       try clear hcz13_3
       try clear hcz13_4
       try clear hcz13_5
       try clear hcz15_0
       try clear hcz15_1
       try clear hcz15_2
       try clear hcz15_3
       try clear hcz15_4
       try clear hcz15_5
       try clear hcz19_0
       try clear hcz19_1
       try clear hcz19_2
       try clear hcz19_3
       try clear hcz19_4
       try clear hcz19_5
       try clear hcz24_0
       try clear hcz24_1
       try clear hcz24_2
       try clear hcz24_3
       try clear hcz24_4
       try clear hcz24_5
       try clear hcz43_0
       try clear hcz43_1
       try clear hcz43_2
       try clear hcz43_3
       try clear hcz43_4
       try clear hcz43_5
       try clear hcz5_0
       try clear hcz5_1
       try clear hcz5_2
       try clear hcz5_3
       try clear hcz5_4
       try clear hcz5_5
       try clear hfz13_0
       try clear hfz13_1
       try clear hfz13_2
       try clear hfz13_3
       try clear hfz13_4
       try clear hfz13_5
       try clear hfz15_0
       try clear hfz15_1
       try clear hfz15_2
       try clear hfz15_3
       try clear hfz15_4
       try clear hfz15_5
       try clear hfz19_0
       try clear hfz19_1
       try clear hfz19_2
       try clear hfz19_3
       try clear hfz19_4
       try clear hfz19_5
       try clear hfz24_0
       try clear hfz24_1
       try clear hfz24_2
       try clear hfz24_3
       try clear hfz24_4
       try clear hfz24_5
       try clear hfz43_0
       try clear hfz43_1
       try clear hfz43_2
       try clear hfz43_3
       try clear hfz43_4
       try clear hfz43_5
       try clear hfz5_0
       try clear hfz5_1
       try clear hfz5_2
       try clear hfz5_3
       try clear hfz5_4
       try clear hfz5_5
       try clear p2
       obtain ⟨kq, x61_36, rfl, HA, HJ36, HO_4, HO_7, HO_403000, BK380, BK402, HB⟩ := hcut
       have hl403000_36 := (Kd.R_reads' HO_403000.out).1
       rw [hl403000_36] at HO_403000
       (try simp only [hl403000_36])
       (try simp only [hl403000_36] at BK380)
       (try simp only [hl403000_36] at BK402)
       (try simp only [hl403000_36] at HO_4)
       (try simp only [hl403000_36] at HO_7)
       cases kq with
       | zero => exact absurd HA.out (by simp [laws_FnExactAmountsIn.j1])
       | succ kj36 =>
        have H := HA.out
        clear HA
        simp only [laws_FnExactAmountsIn.j1] at H
        by_cases c52 : x61_36 = true
        ·subst c52
         have H1 : (some false) = some r := by rw [if_pos rfl] at H; exact H
         clear H
         have H := H1
         clear H1
         obtain rfl := Option.some.inj H
         go_wp2
         go_ret
         exact ⟨by first | rfl | (simp [zj, zk] <;> rfl) | (simp [*, zj, zk] <;> rfl), sB⟩
        ·replace c52 := Bool.eq_false_iff.mpr c52
         subst c52
         have H1 : ((laws_markInt64S.f kj36 t403 1).bind fun bt420 => ((laws_heldInt64S.f kj36 bt420.2 1).bind fun t422 => (if t422 < 0 then (some false) else (if t422 = bt420.1 then ((laws_toPuzzle.f kj36 l0_0 a0_1 a0_2 a0_3 a0_4 a0_5).bind fun bt423 => ((impl_AmountsIn.f kj36 bt423.1 bt423.2.1 bt423.2.2.1 bt423.2.2.2.1 bt423.2.2.2.2.1 bt423.2.2.2.2.2).bind fun bt431 => ((laws_eqInt64S.f kj36 bt431.1 t390).bind fun t435 => (if t435 = true then (laws_FnExactAmountsIn.j2 kj36 bt420.2 bt420.1 (bt431.2 != t393)) else (laws_FnExactAmountsIn.j2 kj36 bt420.2 bt420.1 true))))) else (some false))))) = some r := by rw [if_neg (show ¬ (false = true) by decide)] at H; exact H
         clear H
         have H := H1
         clear H1
         replace H := Option.bind_eq_some_iff.mp H
         obtain ⟨⟨t420, t421⟩, A530, H⟩ := H
         replace H : ((laws_heldInt64S.f kj36 t421 1).bind fun t422 => (if t422 < 0 then (some false) else (if t422 = t420 then ((laws_toPuzzle.f kj36 l0_0 a0_1 a0_2 a0_3 a0_4 a0_5).bind fun bt423 => ((impl_AmountsIn.f kj36 bt423.1 bt423.2.1 bt423.2.2.1 bt423.2.2.2.1 bt423.2.2.2.2.1 bt423.2.2.2.2.2).bind fun bt431 => ((laws_eqInt64S.f kj36 bt431.1 t390).bind fun t435 => (if t435 = true then (laws_FnExactAmountsIn.j2 kj36 t421 t420 (bt431.2 != t393)) else (laws_FnExactAmountsIn.j2 kj36 t421 t420 true))))) else (some false)))) = some r := H
         have A53 := za.mk A530
         clear A530
         replace H := Option.bind_eq_some_iff.mp H
         obtain ⟨t422, A540, H⟩ := H
         replace H : (if t422 < 0 then (some false) else (if t422 = t420 then ((laws_toPuzzle.f kj36 l0_0 a0_1 a0_2 a0_3 a0_4 a0_5).bind fun bt423 => ((impl_AmountsIn.f kj36 bt423.1 bt423.2.1 bt423.2.2.1 bt423.2.2.2.1 bt423.2.2.2.2.1 bt423.2.2.2.2.2).bind fun bt431 => ((laws_eqInt64S.f kj36 bt431.1 t390).bind fun t435 => (if t435 = true then (laws_FnExactAmountsIn.j2 kj36 t421 t420 (bt431.2 != t393)) else (laws_FnExactAmountsIn.j2 kj36 t421 t420 true))))) else (some false))) = some r := H
         have A54 := za.mk A540
         clear A540
         by_cases c55 : t422 < 0
         ·rw [if_pos c55] at H
          have c55b0 : decide (t422 < 0) = true := decide_eq_true c55
          clear c55
          obtain rfl := Option.some.inj H
          obtain ⟨Ao56, co56, eo56⟩ := Kd.R_slice HO_7.out
          subst eo56
          go_wp2_with (first | ((with_reducible refine zn (f := 48) rfl ?_); refine gz (some 64) Try.func48 #[.slice Ao56 t403.length co56, .int .i64 1] rfl rfl ?_; (with_reducible refine (laws_markInt64S.calls kj36 (fun k_ => some k_ = (.slice Ao56 t403.length co56 : Value).ownBlock) (.slice Ao56 t403.length co56) t403 1 t420 t421 w _ ?side1 ?side2 A53.out).mono ?_); (case side1 => repeat (first | (with_reducible first | exact HB.out | apply zw | apply zo | apply zv | refine zt ?_ GE380.out | refine zt ?_ GE402.out) | exact HB.out)); (case side2 => exact Kd.R_tight rfl HO_7.out); rintro e w57 ⟨rfl, hy0, hb, hkp⟩; refine ⟨_, rfl, ?_⟩; replace HO_4 := za.mk (Kd.R_mono (ok' := fun k_ => some k_ ≠ (.slice Ao56 t403.length co56 : Value).ownBlock) (Kd.R_keptB (HO_4.out) hkp (fun k_ hk_ hs_ => (hk_) hs_)) (fun k_ hk_ => hk_.1)); replace HO_403000 := za.mk (Kd.R_mono (ok' := fun k_ => True) (Kd.R_keptB ((Kd.R_apart' HO_403000.out (Kd.R_typed HO_7.out) (by decide))) hkp (fun k_ hk_ hs_ => (hk_.2) hs_)) (fun k_ hk_ => trivial)); replace BK380 := za.mk (zzb (uK BK380) hkp (fun hs_ => (fun e_ => (Kd.R_ne HO_7.out BK380.out (by decide)) e_) hs_)); replace BK402 := za.mk (zzb (uK BK402) hkp (fun hs_ => (fun e_ => (Kd.R_ne HO_7.out BK402.out (by decide)) e_) hs_)); replace HO_7 := za.mk (Kd.R_reok rfl hy0 (fun k_ e_ => HO_7.out.1 k_ e_)); replace HB := za.mk hb; (try clear hb); (try clear hkp); (try clear hy0)) | ((with_reducible refine zn (f := 49) rfl ?_); refine goesL_ (some 67) rfl rfl Try.func49 (by kernel_rfl) rfl #[.slice Ao56 t421.length co56, .int .i64 1] rfl (by (try simp only [List.map_toArray, List.map_cons, List.map_nil]); first | done | (rw [show t421.length = t403.length from (Kd.R_reads' HO_7.out).1.symm] <;> rfl) | rfl | (simp only [List.length_drop, List.length_take]; rfl)) ?_; (with_reducible refine (laws_heldInt64S.calls kj36 _ _ t421 1 t422 _ ?side1 ?side2 A54.out).mono ?_); (case side1 => exact uQ HO_7); (case side2 => rw [show t421.length = t403.length from (Kd.R_reads' HO_7.out).1.symm]; exact (Kd.R_reads' HO_7.out).2.1); rintro e w' ⟨rfl, ⟨nd, rfl⟩⟩; refine ⟨_, rfl, ?_⟩))
          go_ret
          exact ⟨by first | rfl | (simp [zj, zk] <;> rfl) | (simp [*, zj, zk] <;> rfl), sB⟩
         ·rw [if_neg c55] at H
          have c55b0 : decide (t422 < 0) = false := decide_eq_false c55
          clear c55
          by_cases c58 : t422 = t420
          ·rw [if_pos c58] at H
           have c58b0 : (t422 == t420) = true := beq_iff_eq.mpr c58
           have c58b1 : (t422 != t420) = false := bne_eq_false_iff_eq.mpr c58
           clear c58
           replace H := Option.bind_eq_some_iff.mp H
           obtain ⟨⟨t423, t426, t427, t428, t429, t430⟩, A590, H⟩ := H
           replace H : ((impl_AmountsIn.f kj36 t423 t426 t427 t428 t429 t430).bind fun bt431 => ((laws_eqInt64S.f kj36 bt431.1 t390).bind fun t435 => (if t435 = true then (laws_FnExactAmountsIn.j2 kj36 t421 t420 (bt431.2 != t393)) else (laws_FnExactAmountsIn.j2 kj36 t421 t420 true)))) = some r := H
           have A59 := za.mk A590
           clear A590
           replace H := Option.bind_eq_some_iff.mp H
           obtain ⟨⟨t431, t434⟩, A600, H⟩ := H
           replace H : ((laws_eqInt64S.f kj36 t431 t390).bind fun t435 => (if t435 = true then (laws_FnExactAmountsIn.j2 kj36 t421 t420 (t434 != t393)) else (laws_FnExactAmountsIn.j2 kj36 t421 t420 true))) = some r := H
           have A60 := za.mk A600
           clear A600
           have HC61 := za.mk H
           clear H
           obtain ⟨Ao62, co62, eo62⟩ := Kd.R_slice HO_7.out
           subst eo62
           go_upto_region 25 with (first | ((with_reducible refine zn (f := 48) rfl ?_); refine gz (some 64) Try.func48 #[.slice Ao62 t403.length co62, .int .i64 1] rfl rfl ?_; (with_reducible refine (laws_markInt64S.calls kj36 (fun k_ => some k_ = (.slice Ao62 t403.length co62 : Value).ownBlock) (.slice Ao62 t403.length co62) t403 1 t420 t421 w _ ?side1 ?side2 A53.out).mono ?_); (case side1 => repeat (first | (with_reducible first | exact HB.out | apply zw | apply zo | apply zv | refine zt ?_ GE380.out | refine zt ?_ GE402.out) | exact HB.out)); (case side2 => exact Kd.R_tight rfl HO_7.out); rintro e w63 ⟨rfl, hy0, hb, hkp⟩; refine ⟨_, rfl, ?_⟩; replace HO_4 := za.mk (Kd.R_mono (ok' := fun k_ => some k_ ≠ (.slice Ao62 t403.length co62 : Value).ownBlock) (Kd.R_keptB (HO_4.out) hkp (fun k_ hk_ hs_ => (hk_) hs_)) (fun k_ hk_ => hk_.1)); replace HO_403000 := za.mk (Kd.R_mono (ok' := fun k_ => True) (Kd.R_keptB ((Kd.R_apart' HO_403000.out (Kd.R_typed HO_7.out) (by decide))) hkp (fun k_ hk_ hs_ => (hk_.2) hs_)) (fun k_ hk_ => trivial)); replace BK380 := za.mk (zzb (uK BK380) hkp (fun hs_ => (fun e_ => (Kd.R_ne HO_7.out BK380.out (by decide)) e_) hs_)); replace BK402 := za.mk (zzb (uK BK402) hkp (fun hs_ => (fun e_ => (Kd.R_ne HO_7.out BK402.out (by decide)) e_) hs_)); replace HO_7 := za.mk (Kd.R_reok rfl hy0 (fun k_ e_ => HO_7.out.1 k_ e_)); replace HB := za.mk hb; (try clear hb); (try clear hkp); (try clear hy0)) | ((with_reducible refine zn (f := 49) rfl ?_); refine goesL_ (some 67) rfl rfl Try.func49 (by kernel_rfl) rfl #[.slice Ao62 t421.length co62, .int .i64 1] rfl (by (try simp only [List.map_toArray, List.map_cons, List.map_nil]); first | done | (rw [show t421.length = t403.length from (Kd.R_reads' HO_7.out).1.symm] <;> rfl) | rfl | (simp only [List.length_drop, List.length_take]; rfl)) ?_; (with_reducible refine (laws_heldInt64S.calls kj36 _ _ t421 1 t422 _ ?side1 ?side2 A54.out).mono ?_); (case side1 => exact uQ HO_7); (case side2 => rw [show t421.length = t403.length from (Kd.R_reads' HO_7.out).1.symm]; exact (Kd.R_reads' HO_7.out).2.1); rintro e w' ⟨rfl, ⟨nd, rfl⟩⟩; refine ⟨_, rfl, ?_⟩; have hnb64 := NB380_402.out; have hnc64 := NB402_380.out; obtain ⟨hcz65_0, hcz65_1, hcz65_2, hcz65_3, hcz65_4, hcz65_5⟩ := xc6 BK380; obtain ⟨hfz65_0, hfz65_1, hfz65_2, hfz65_3, hfz65_4, hfz65_5⟩ := xf6 BK380) | ((with_reducible refine zn (f := 34) rfl ?_); refine gz (some 75) Try.func34 #[.agg #[.slice A0_0 l0_0.length c0_0, .int .i16 a0_1, .int .i16 a0_2, .int .i16 a0_3, .int .i16 a0_4, .bool a0_5]] rfl rfl ?_; (with_reducible refine (laws_toPuzzle.calls kj36 _ _ l0_0 a0_1 a0_2 a0_3 a0_4 a0_5 t423 t426 t427 t428 t429 t430 _ ?side1 ?side2 A59.out).mono ?_); (case side1 => repeat (first | exact (Kd.C_below HR0_0.out sB) | (with_reducible refine Kd.C_alloc ?_ _) | (with_reducible refine Kd.C_drewN ?_ _) | (with_reducible refine Kd.C_drew ?_))); (case side2 => exact HC0_0.out); rintro e w66 ⟨v424, rfl, ho0, hb⟩; refine ⟨_, rfl, ?_⟩; have HO425 := za.mk (Kd.R_lower (Kd.R_new' ho0 (Kd.R_lt (uR HO_403000))) (zaa sB)); replace HO_4 := dR HO_4 hb; replace HO_7 := dR HO_7 hb; replace HO_403000 := za.mk (Kd.R_elder' (uR HO_403000) (Kd.R_base ho0) hb); replace BK380 := dK BK380 hb; replace BK402 := dK BK402 hb; replace HB := za.mk (zh sB hb); try clear hb; obtain ⟨Ao67, co67, eo67⟩ := Kd.R_slice HO425.out; subst eo67) | ((with_reducible refine zn (f := 46) rfl ?_); refine gz (some 76) Try.func46 #[.agg #[.slice Ao67 t423.length co67, .int .i16 t426, .int .i16 t427, .int .i16 t428, .int .i16 t429, .bool t430]] rfl rfl ?_; (with_reducible refine (impl_AmountsIn.calls kj36 _ _ t423 t426 t427 t428 t429 t430 t431 t434 _ ?side1 ?side2 A60.out).mono ?_); (case side1 => exact uQ HO425); (case side2 => exact (Kd.R_reads' HO425.out).2.1); rintro e w68 ⟨v432, rfl, ho0, hb⟩; refine ⟨_, rfl, ?_⟩; have HO433 := za.mk (Kd.R_lower (Kd.R_new' (Kd.R_new' ho0 (Kd.R_lt (uR HO_4))) (Kd.R_lt (uR HO_7))) (zaa sB)); replace HO_4 := za.mk (Kd.R_elder' (uR HO_4) (Kd.R_base ho0) hb); replace HO_7 := za.mk (Kd.R_elder' (uR HO_7) (Kd.R_base ho0) hb); replace HO_403000 := dR HO_403000 hb; replace HO425 := dR HO425 hb; replace BK380 := dK BK380 hb; replace BK402 := dK BK402 hb; replace HB := za.mk (zh sB hb); try clear hb))
           (try simp only [Act.put, List.setIfInBounds_toArray, List.set_cons_zero, List.set_cons_succ])
           go_cut [87] (fun v87 wc => ∃ (kq : Nat) (x87_60 : Bool), v87 = .bool x87_60 ∧ za (laws_FnExactAmountsIn.j2 kq t421 t420 x87_60 = some r) ∧ za (kq ≤ kj36) ∧ za (Kd.R (Kd.int .i64) 2 wc w.heap.size (fun _ => True) (.slice Ao62 t403.length co62) t421) ∧ za (Kd.R (Kd.int .i16) 25 wc w.heap.size (fun _ => True) (.slice Ao22 t418.length co22) t418) ∧ za (wc.heap[gb380]? = some (.cells #[(.slice A0_0 l0_0.length c0_0), .int .i16 a0_1, .int .i16 a0_2, .int .i16 a0_3, .int .i16 a0_4, .bool a0_5] 53 (0, 0))) ∧ za (wc.heap[gb402]? = some (.cells #[(.slice Ao22 t418.length co22), .int .i16 t397, .int .i16 t398, .int .i16 t399, .int .i16 t400, .bool t401] 29 (0, 0))) ∧ za (Below w.heap.size w wc))
           case first =>
            have H := HC61.out
            clear HC61
            replace H := Option.bind_eq_some_iff.mp H
            obtain ⟨t435, A690, H⟩ := H
            replace H : (if t435 = true then (laws_FnExactAmountsIn.j2 kj36 t421 t420 (t434 != t393)) else (laws_FnExactAmountsIn.j2 kj36 t421 t420 true)) = some r := H
            have A69 := za.mk A690
            clear A690
            by_cases c70 : t435 = true
            ·subst c70
             have H1 : (laws_FnExactAmountsIn.j2 kj36 t421 t420 (t434 != t393)) = some r := by rw [if_pos rfl] at H; exact H
             clear H
             have H := H1
             clear H1
             have H' := za.mk H
             clear H
             obtain ⟨Ao71, co71, eo71⟩ := Kd.R_slice HO433.out
             subst eo71
             obtain ⟨Ao72, co72, eo72⟩ := Kd.R_slice HO_4.out
             subst eo72
             go_wp2_with (first | ((with_reducible refine zn (f := 47) rfl ?_); refine gz (some 81) Try.func47 #[.slice Ao71 t431.length co71, .slice Ao72 t390.length co72] rfl rfl ?_; (with_reducible refine (laws_eqInt64S.calls kj36 _ _ t431 _ _ t390 true _ ?side1 ?side2 ?side3 ?side4 A69.out).mono ?_); (case side1 => exact uQ HO433); (case side2 => exact (Kd.R_reads' HO433.out).2.1); (case side3 => exact uQ HO_4); (case side4 => exact (Kd.R_reads' HO_4.out).2.1); rintro e w' ⟨rfl, ⟨nd, rfl⟩⟩; refine ⟨_, rfl, ?_⟩))
             go_meet
             case rel => exact ⟨_, ((t434 != t393)), (by first | rfl | (simp; done) | (simp [*]; done)), H', ⟨by have := HJ10.out; have := HJ36.out; first | omega | exact Nat.le_refl _⟩, ⟨by (try simp only [hl403000_36]); (with_reducible repeat (first | apply Kd.R_alloc | apply Kd.R_drewN | apply Kd.R_drew)); exact Kd.R_mono HO_7.out (fun _ hk => trivial)⟩, ⟨by (try simp only [hl403000_36]); (with_reducible repeat (first | apply Kd.R_alloc | apply Kd.R_drewN | apply Kd.R_drew)); exact Kd.R_mono HO_403000.out (fun _ hk => trivial)⟩, ⟨by (try simp only [hl403000_36]); (with_reducible repeat (first | refine ze ?_ _ | refine zf ?_ | refine zc ?_ _)); exact BK380.out⟩, ⟨by (try simp only [hl403000_36]); (with_reducible repeat (first | refine ze ?_ _ | refine zf ?_ | refine zc ?_ _)); exact BK402.out⟩, ⟨sB⟩⟩
            ·replace c70 := Bool.eq_false_iff.mpr c70
             subst c70
             have H1 : (laws_FnExactAmountsIn.j2 kj36 t421 t420 true) = some r := by rw [if_neg (show ¬ (false = true) by decide)] at H; exact H
             clear H
             have H := H1
             clear H1
             have H' := za.mk H
             clear H
             obtain ⟨Ao73, co73, eo73⟩ := Kd.R_slice HO433.out
             subst eo73
             obtain ⟨Ao74, co74, eo74⟩ := Kd.R_slice HO_4.out
             subst eo74
             go_wp2_with (first | ((with_reducible refine zn (f := 47) rfl ?_); refine gz (some 81) Try.func47 #[.slice Ao73 t431.length co73, .slice Ao74 t390.length co74] rfl rfl ?_; (with_reducible refine (laws_eqInt64S.calls kj36 _ _ t431 _ _ t390 false _ ?side1 ?side2 ?side3 ?side4 A69.out).mono ?_); (case side1 => exact uQ HO433); (case side2 => exact (Kd.R_reads' HO433.out).2.1); (case side3 => exact uQ HO_4); (case side4 => exact (Kd.R_reads' HO_4.out).2.1); rintro e w' ⟨rfl, ⟨nd, rfl⟩⟩; refine ⟨_, rfl, ?_⟩))
             go_meet
             case rel => exact ⟨_, (true), (by first | rfl | (simp; done) | (simp [*]; done)), H', ⟨by have := HJ10.out; have := HJ36.out; first | omega | exact Nat.le_refl _⟩, ⟨by (try simp only [hl403000_36]); (with_reducible repeat (first | apply Kd.R_alloc | apply Kd.R_drewN | apply Kd.R_drew)); exact Kd.R_mono HO_7.out (fun _ hk => trivial)⟩, ⟨by (try simp only [hl403000_36]); (with_reducible repeat (first | apply Kd.R_alloc | apply Kd.R_drewN | apply Kd.R_drew)); exact Kd.R_mono HO_403000.out (fun _ hk => trivial)⟩, ⟨by (try simp only [hl403000_36]); (with_reducible repeat (first | refine ze ?_ _ | refine zf ?_ | refine zc ?_ _)); exact BK380.out⟩, ⟨by (try simp only [hl403000_36]); (with_reducible repeat (first | refine ze ?_ _ | refine zf ?_ | refine zc ?_ _)); exact BK402.out⟩, ⟨sB⟩⟩
           case rest =>
            clear HC61
            try clear c2
            try clear p2
            try clear c3
            try clear c3b0
            try clear c4
            try clear c5
            try clear c6
            try clear c7
            try clear c9
            try clear c23
            try clear c27
            try clear c32
            try clear c34
            try clear c35
            try clear c38
            try clear c42
            try clear c45
            try clear c45b0
            try clear c46
            try clear c47
            try clear c48
            try clear c49
            try clear c52
            try clear c55
            try clear c55b0
            try clear c58
            try clear c58b0
            try clear c58b1
            try clear c64
            try clear c70
            try clear hcz13_0
            try clear hcz13_1
            try clear hcz13_2
            try clear hcz13_3
            try clear hcz13_4
            try clear hcz13_5
            try clear hcz15_0
            try clear hcz15_1
            try clear hcz15_2
            try clear hcz15_3
            try clear hcz15_4
            try clear hcz15_5
            try clear hcz19_0
            try clear hcz19_1
            try clear hcz19_2
            try clear hcz19_3
            try clear hcz19_4
            try clear hcz19_5
            try clear hcz24_0
            try clear hcz24_1
            try clear hcz24_2
            try clear hcz24_3
            try clear hcz24_4
            try clear hcz24_5
            try clear hcz43_0
            try clear hcz43_1
            try clear hcz43_2
            try clear hcz43_3
            try clear hcz43_4
            try clear hcz43_5
            try clear hcz5_0
            try clear hcz5_1
            try clear hcz5_2
            try clear hcz5_3
            try clear hcz5_4
            try clear hcz5_5
            try clear hcz65_0
            try clear hcz65_1
            try clear hcz65_2
            try clear hcz65_3
            try clear hcz65_4
            try clear hcz65_5
            try clear hfz13_0
            try clear hfz13_1
            try clear hfz13_2
            try clear hfz13_3
            try clear hfz13_4
            try clear hfz13_5
            try clear hfz15_0
            try clear hfz15_1
            try clear hfz15_2
            try clear hfz15_3
            try clear hfz15_4
            try clear hfz15_5
            try clear hfz19_0
            try clear hfz19_1
            try clear hfz19_2
            try clear hfz19_3
            try clear hfz19_4
            try clear hfz19_5
            try clear hfz24_0
            try clear hfz24_1
            try clear hfz24_2
            try clear hfz24_3
            try clear hfz24_4
            try clear hfz24_5
            try clear hfz43_0
            try clear hfz43_1
            try clear hfz43_2
            try clear hfz43_3
            try clear hfz43_4
            try clear hfz43_5
            try clear hfz5_0
            try clear hfz5_1
            try clear hfz5_2
            try clear hfz5_3
            try clear hfz5_4
            try clear hfz5_5
            try clear hfz65_0
            try clear hfz65_1
            try clear hfz65_2
            try clear hfz65_3
            try clear hfz65_4
            try clear hfz65_5
            try clear p2
            obtain ⟨kq, x87_60, rfl, HA, HJ60, HO_7, HO_403000, BK380, BK402, HB⟩ := hcut
            have hl7_60 := (Kd.R_reads' HO_7.out).1
            rw [hl7_60] at HO_7
            (try simp only [hl7_60])
            (try simp only [hl7_60] at BK380)
            (try simp only [hl7_60] at BK402)
            (try simp only [hl7_60] at HO_403000)
            cases kq with
            | zero => exact absurd HA.out (by simp [laws_FnExactAmountsIn.j2])
            | succ kj60 =>
             have H := HA.out
             clear HA
             simp only [laws_FnExactAmountsIn.j2] at H
             by_cases c75 : x87_60 = true
             ·subst c75
              have H1 : (some false) = some r := by rw [if_pos rfl] at H; exact H
              clear H
              have H := H1
              clear H1
              obtain rfl := Option.some.inj H
              go_wp2
              go_ret
              exact ⟨by first | rfl | (simp [zj, zk] <;> rfl) | (simp [*, zj, zk] <;> rfl), sB⟩
             ·replace c75 := Bool.eq_false_iff.mpr c75
              subst c75
              have H1 : ((laws_heldInt64S.f kj60 t421 1).bind fun t436 => (if t436 < 0 then (some false) else (if t436 = t420 then (some true) else (some false)))) = some r := by rw [if_neg (show ¬ (false = true) by decide)] at H; exact H
              clear H
              have H := H1
              clear H1
              replace H := Option.bind_eq_some_iff.mp H
              obtain ⟨t436, A760, H⟩ := H
              replace H : (if t436 < 0 then (some false) else (if t436 = t420 then (some true) else (some false))) = some r := H
              have A76 := za.mk A760
              clear A760
              by_cases c77 : t436 < 0
              ·rw [if_pos c77] at H
               have c77b0 : decide (t436 < 0) = true := decide_eq_true c77
               clear c77
               obtain rfl := Option.some.inj H
               go_wp2_with (first | ((with_reducible refine zn (f := 49) rfl ?_); refine gz (some 90) Try.func49 #[.slice Ao62 t421.length co62, .int .i64 1] rfl rfl ?_; (with_reducible refine (laws_heldInt64S.calls kj60 _ _ t421 1 t436 _ ?side1 ?side2 A76.out).mono ?_); (case side1 => exact uQ HO_7); (case side2 => exact (Kd.R_reads' HO_7.out).2.1); rintro e w' ⟨rfl, ⟨nd, rfl⟩⟩; refine ⟨_, rfl, ?_⟩))
               go_ret
               exact ⟨by first | rfl | (simp [zj, zk] <;> rfl) | (simp [*, zj, zk] <;> rfl), sB⟩
              ·rw [if_neg c77] at H
               have c77b0 : decide (t436 < 0) = false := decide_eq_false c77
               clear c77
               by_cases c78 : t436 = t420
               ·rw [if_pos c78] at H
                have c78b0 : (t436 == t420) = true := beq_iff_eq.mpr c78
                have c78b1 : (t436 != t420) = false := bne_eq_false_iff_eq.mpr c78
                clear c78
                obtain rfl := Option.some.inj H
                go_wp2_with (first | ((with_reducible refine zn (f := 49) rfl ?_); refine gz (some 90) Try.func49 #[.slice Ao62 t421.length co62, .int .i64 1] rfl rfl ?_; (with_reducible refine (laws_heldInt64S.calls kj60 _ _ t421 1 t436 _ ?side1 ?side2 A76.out).mono ?_); (case side1 => exact uQ HO_7); (case side2 => exact (Kd.R_reads' HO_7.out).2.1); rintro e w' ⟨rfl, ⟨nd, rfl⟩⟩; refine ⟨_, rfl, ?_⟩))
                go_ret
                exact ⟨by first | rfl | (simp [zj, zk] <;> rfl) | (simp [*, zj, zk] <;> rfl), sB⟩
               ·rw [if_neg c78] at H
                have c78b0 : (t436 == t420) = false := beq_eq_false_iff_ne.mpr c78
                have c78b1 : (t436 != t420) = true := bne_iff_ne.mpr c78
                obtain rfl := Option.some.inj H
                go_wp2_with (first | ((with_reducible refine zn (f := 49) rfl ?_); refine gz (some 90) Try.func49 #[.slice Ao62 t421.length co62, .int .i64 1] rfl rfl ?_; (with_reducible refine (laws_heldInt64S.calls kj60 _ _ t421 1 t436 _ ?side1 ?side2 A76.out).mono ?_); (case side1 => exact uQ HO_7); (case side2 => exact (Kd.R_reads' HO_7.out).2.1); rintro e w' ⟨rfl, ⟨nd, rfl⟩⟩; refine ⟨_, rfl, ?_⟩))
                go_ret
                exact ⟨by first | rfl | (simp [zj, zk] <;> rfl) | (simp [*, zj, zk] <;> rfl), sB⟩
          ·rw [if_neg c58] at H
           have c58b0 : (t422 == t420) = false := beq_eq_false_iff_ne.mpr c58
           have c58b1 : (t422 != t420) = true := bne_iff_ne.mpr c58
           obtain rfl := Option.some.inj H
           obtain ⟨Ao79, co79, eo79⟩ := Kd.R_slice HO_7.out
           subst eo79
           go_wp2_with (first | ((with_reducible refine zn (f := 48) rfl ?_); refine gz (some 64) Try.func48 #[.slice Ao79 t403.length co79, .int .i64 1] rfl rfl ?_; (with_reducible refine (laws_markInt64S.calls kj36 (fun k_ => some k_ = (.slice Ao79 t403.length co79 : Value).ownBlock) (.slice Ao79 t403.length co79) t403 1 t420 t421 w _ ?side1 ?side2 A53.out).mono ?_); (case side1 => repeat (first | (with_reducible first | exact HB.out | apply zw | apply zo | apply zv | refine zt ?_ GE380.out | refine zt ?_ GE402.out) | exact HB.out)); (case side2 => exact Kd.R_tight rfl HO_7.out); rintro e w80 ⟨rfl, hy0, hb, hkp⟩; refine ⟨_, rfl, ?_⟩; replace HO_4 := za.mk (Kd.R_mono (ok' := fun k_ => some k_ ≠ (.slice Ao79 t403.length co79 : Value).ownBlock) (Kd.R_keptB (HO_4.out) hkp (fun k_ hk_ hs_ => (hk_) hs_)) (fun k_ hk_ => hk_.1)); replace HO_403000 := za.mk (Kd.R_mono (ok' := fun k_ => True) (Kd.R_keptB ((Kd.R_apart' HO_403000.out (Kd.R_typed HO_7.out) (by decide))) hkp (fun k_ hk_ hs_ => (hk_.2) hs_)) (fun k_ hk_ => trivial)); replace BK380 := za.mk (zzb (uK BK380) hkp (fun hs_ => (fun e_ => (Kd.R_ne HO_7.out BK380.out (by decide)) e_) hs_)); replace BK402 := za.mk (zzb (uK BK402) hkp (fun hs_ => (fun e_ => (Kd.R_ne HO_7.out BK402.out (by decide)) e_) hs_)); replace HO_7 := za.mk (Kd.R_reok rfl hy0 (fun k_ e_ => HO_7.out.1 k_ e_)); replace HB := za.mk hb; (try clear hb); (try clear hkp); (try clear hy0)) | ((with_reducible refine zn (f := 49) rfl ?_); refine goesL_ (some 67) rfl rfl Try.func49 (by kernel_rfl) rfl #[.slice Ao79 t421.length co79, .int .i64 1] rfl (by (try simp only [List.map_toArray, List.map_cons, List.map_nil]); first | done | (rw [show t421.length = t403.length from (Kd.R_reads' HO_7.out).1.symm] <;> rfl) | rfl | (simp only [List.length_drop, List.length_take]; rfl)) ?_; (with_reducible refine (laws_heldInt64S.calls kj36 _ _ t421 1 t422 _ ?side1 ?side2 A54.out).mono ?_); (case side1 => exact uQ HO_7); (case side2 => rw [show t421.length = t403.length from (Kd.R_reads' HO_7.out).1.symm]; exact (Kd.R_reads' HO_7.out).2.1); rintro e w' ⟨rfl, ⟨nd, rfl⟩⟩; refine ⟨_, rfl, ?_⟩))
           go_ret
           exact ⟨by first | rfl | (simp [zj, zk] <;> rfl) | (simp [*, zj, zk] <;> rfl), sB⟩
     ·replace c35 := Bool.eq_false_iff.mpr c35
      subst c35
      have H1 : (some false) = some r := by rw [if_neg (show ¬ (false = true) by decide)] at H; exact H
      clear H
      have H := H1
      clear H1
      obtain rfl := Option.some.inj H
      try go_wp2
      have n0_ := za.mk (Kd.R_drew HO_4.out)
      have n1_ := za.mk (Kd.R_drew HO_7.out)
      have n2_ := za.mk (Kd.R_drew HO_403000.out)
      have n3_ := za.mk (zf BK380.out)
      have n4_ := za.mk (zf BK402.out)
      have n5_ := za.mk (zv HB.out)
      clear HO_4
      clear HO_7
      clear HO_403000
      clear BK380
      clear BK402
      clear HB
      have HO_4 := n0_
      have HO_7 := n1_
      have HO_403000 := n2_
      have BK380 := n3_
      have BK402 := n4_
      have HB := n5_
      clear n0_ n1_ n2_ n3_ n4_ n5_
      refine zlc (n := 5) (S := fun w' => w'.cell? ⟨gb402, 0, none⟩ = some (.slice Ao22 t394.length co22) ∧ w'.cell? ⟨gb402, 1, none⟩ = some (.int .i16 t397) ∧ w'.cell? ⟨gb402, 2, none⟩ = some (.int .i16 t398) ∧ w'.cell? ⟨gb402, 3, none⟩ = some (.int .i16 t399) ∧ w'.cell? ⟨gb402, 4, none⟩ = some (.int .i16 t400) ∧ w'.cell? ⟨gb402, 5, none⟩ = some (.bool t401) ∧ w'.cell? ⟨gb380, 0, none⟩ = some (.slice A0_0 l0_0.length c0_0) ∧ w'.cell? ⟨gb380, 1, none⟩ = some (.int .i16 a0_1) ∧ w'.cell? ⟨gb380, 2, none⟩ = some (.int .i16 a0_2) ∧ w'.cell? ⟨gb380, 3, none⟩ = some (.int .i16 a0_3) ∧ w'.cell? ⟨gb380, 4, none⟩ = some (.int .i16 a0_4) ∧ w'.cell? ⟨gb380, 5, none⟩ = some (.bool a0_5)) (ds := []) #[false, false, false, false, false] (by kernel_rfl) rfl rfl ⟨(zb BK402.out 0).trans rfl, (zb BK402.out 1).trans rfl, (zb BK402.out 2).trans rfl, (zb BK402.out 3).trans rfl, (zb BK402.out 4).trans rfl, (zb BK402.out 5).trans rfl, (zb BK380.out 0).trans rfl, (zb BK380.out 1).trans rfl, (zb BK380.out 2).trans rfl, (zb BK380.out 3).trans rfl, (zb BK380.out 4).trans rfl, (zb BK380.out 5).trans rfl⟩ (fun hHeld => ?_)
      generalize wc.drew = w81 at HO_4 HO_7 HO_403000 BK380 BK402 HB hHeld ⊢
      refine take_ (i := 0) (N := some 41) (v := ?_) (a' := ?_) #[true, false, false, false, false] rfl rfl (by kernel_rfl) (fun _ _ _ h => h) (Or.inl ⟨by rfl, ?_⟩) hHeld ?_ ?_
      rotate_left
      ·rintro w' ⟨s0, s1, s2, s3, s4, s5, s6, s7, s8, s9, s10, s11⟩
       go_simp
       with_reducible rfl
      rotate_left
      ·simp only [Act.put, List.setIfInBounds_toArray, List.set_cons_zero, List.set_cons_succ, zz, zy]
       rfl
      refine take_ (i := 1) (N := some 42) (v := ?_) (a' := ?_) #[true, true, false, false, false] rfl rfl (by kernel_rfl) (fun _ _ _ h => h) (Or.inl ⟨by rfl, ?_⟩) hHeld ?_ ?_
      rotate_left
      ·rintro w' ⟨s0, s1, s2, s3, s4, s5, s6, s7, s8, s9, s10, s11⟩
       go_simp
       with_reducible rfl
      rotate_left
      ·simp only [Act.put, List.setIfInBounds_toArray, List.set_cons_zero, List.set_cons_succ, zz, zy]
       rfl
      refine one_ (i := 2) (N := some 43) #[true, true, true, false, false] rfl rfl (by kernel_rfl) (by decide) (fun K hK => ?_)
      refine zyd Try.func34 (by kernel_rfl) rfl #[.agg #[.slice A0_0 l0_0.length c0_0, .int .i16 a0_1, .int .i16 a0_2, .int .i16 a0_3, .int .i16 a0_4, .bool a0_5]] (by rfl) rfl rfl (by (try simp only [List.map_toArray, List.map_cons, List.map_nil]); first | done | rfl | (simp only [List.length_drop, List.length_take]; rfl)) ?_
      with_reducible refine (laws_toPuzzle.calls kj10 _ _ l0_0 a0_1 a0_2 a0_3 a0_4 a0_5 t408 t411 t412 t413 t414 t415 _ ?side1 ?side2 A33.out).mono ?_
      (case side1 => exact uC HR0_0 HB)
      (case side2 => exact HC0_0.out)
      rintro e w82 ⟨v409, rfl, ho0, hb⟩
      refine ⟨_, rfl, ?_⟩
      have n0_ := dR HO_4 hb
      have n1_ := dR HO_7 hb
      have n2_ := za.mk (Kd.R_elder' (uR HO_403000) (Kd.R_base ho0) hb)
      have n3_ := za.mk (Kd.R_lower (Kd.R_new' ho0 (Kd.R_lt (uR HO_403000))) (zaa sB))
      have n4_ := dK BK380 hb
      have n5_ := dK BK402 hb
      have n6_ := za.mk (zh sB hb)
      clear HO_4
      clear HO_7
      clear HO_403000
      clear BK380
      clear BK402
      clear HB
      have HO_4 := n0_
      have HO_7 := n1_
      have HO_403000 := n2_
      have HO410 := n3_
      have BK380 := n4_
      have BK402 := n5_
      have HB := n6_
      clear n0_ n1_ n2_ n3_ n4_ n5_ n6_
      (try clear hb)
      (try clear hb2)
      (try clear hk)
      (try clear hi)
      (try clear ho0)
      obtain ⟨Ao83, co83, eo83⟩ := Kd.R_slice HO410.out
      (first | subst eo83 | (injection eo83 with f1_ f2_ f3_; have f4_ := f1_.symm; have f5_ := f3_.symm; clear f1_ f2_ f3_; subst f4_; subst f5_))
      refine hK.out _ _ ⟨(zb BK402.out 0).trans rfl, (zb BK402.out 1).trans rfl, (zb BK402.out 2).trans rfl, (zb BK402.out 3).trans rfl, (zb BK402.out 4).trans rfl, (zb BK402.out 5).trans rfl, (zb BK380.out 0).trans rfl, (zb BK380.out 1).trans rfl, (zb BK380.out 2).trans rfl, (zb BK380.out 3).trans rfl, (zb BK380.out 4).trans rfl, (zb BK380.out 5).trans rfl⟩ (fun hHeld => ?_)
      clear hK K
      refine zma (a' := ?_) ?_ ?_
      rotate_left
      ·show Act.put _ (some 43) _ = _
       simp only [Act.put, List.setIfInBounds_toArray, List.set_cons_zero, List.set_cons_succ, zz, zy]
       rfl
      refine one_ (i := 3) (N := some 44) #[true, true, true, true, false] rfl rfl (by kernel_rfl) (by decide) (fun K hK => ?_)
      refine zyd Try.func35 (by kernel_rfl) rfl #[.agg #[.slice Ao22 t394.length co22, .int .i16 t397, .int .i16 t398, .int .i16 t399, .int .i16 t400, .bool t401], .agg #[.slice Ao83 t408.length co83, .int .i16 t411, .int .i16 t412, .int .i16 t413, .int .i16 t414, .bool t415]] (by rfl) rfl rfl (by (try simp only [List.map_toArray, List.map_cons, List.map_nil]); first | done | rfl | (simp only [List.length_drop, List.length_take]; rfl)) ?_
      with_reducible refine (laws_eqPuzzle.calls kj10 _ _ t394 t397 t398 t399 t400 t401 _ _ t408 t411 t412 t413 t414 t415 false _ ?side1 ?side2 ?side3 ?side4 A34.out).mono ?_
      (case side1 => exact uQ HO_403000)
      (case side2 => exact (Kd.R_reads' HO_403000.out).2.1)
      (case side3 => exact uQ HO410)
      (case side4 => exact (Kd.R_reads' HO410.out).2.1)
      rintro e w84 ⟨rfl, hb⟩
      refine ⟨_, rfl, ?_⟩
      have n0_ := dR HO_4 hb
      have n1_ := dR HO_7 hb
      have n2_ := dR HO_403000 hb
      have n3_ := dR HO410 hb
      have n4_ := dK BK380 hb
      have n5_ := dK BK402 hb
      have n6_ := za.mk (zh sB hb)
      clear HO_4
      clear HO_7
      clear HO_403000
      clear HO410
      clear BK380
      clear BK402
      clear HB
      have HO_4 := n0_
      have HO_7 := n1_
      have HO_403000 := n2_
      have HO410 := n3_
      have BK380 := n4_
      have BK402 := n5_
      have HB := n6_
      clear n0_ n1_ n2_ n3_ n4_ n5_ n6_
      (try clear hb)
      (try clear hb2)
      (try clear hk)
      (try clear hi)
      refine hK.out _ _ ⟨(zb BK402.out 0).trans rfl, (zb BK402.out 1).trans rfl, (zb BK402.out 2).trans rfl, (zb BK402.out 3).trans rfl, (zb BK402.out 4).trans rfl, (zb BK402.out 5).trans rfl, (zb BK380.out 0).trans rfl, (zb BK380.out 1).trans rfl, (zb BK380.out 2).trans rfl, (zb BK380.out 3).trans rfl, (zb BK380.out 4).trans rfl, (zb BK380.out 5).trans rfl⟩ (fun hHeld => ?_)
      clear hK K
      refine zma (a' := ?_) ?_ ?_
      rotate_left
      ·show Act.put _ (some 44) _ = _
       simp only [Act.put, List.setIfInBounds_toArray, List.set_cons_zero, List.set_cons_succ, zz, zy]
       rfl
      refine zfa (i := 4) (N := some 45) (v := ?_) (a' := ?_) #[true, true, true, true, true] rfl rfl (by kernel_rfl) (fun _ _ _ h => h) (Or.inl ⟨by rfl, ?_⟩) ?_ ?_
      rotate_left
      ·intro w'
       go_simp
       with_reducible rfl
      rotate_left
      ·simp only [Act.put, List.setIfInBounds_toArray, List.set_cons_zero, List.set_cons_succ, zz, zy]
       rfl
      refine zae (by kernel_rfl) ?_
      try go_wp2
      go_ret
      exact ⟨by first | rfl | (simp [zj, zk] <;> rfl) | (simp [*, zj, zk] <;> rfl), sB⟩
end Go.Proofs.Yteciomagemjjaaa.J
