-- Written by wip/tools/myprint.py, a program of this session, by way of the kit's print.
import Derived.Test.YtgcbhknpfpgffaaCx0
import Derived.Test.YtgcbhknpfpgffaaCx4
import Derived.Test.YtgcbhknpfpgffaaLCanC
import Derived.Test.YtgcbhknpfpgffaaLPrC
namespace Go.Proofs.Ytgcbhknpfpgffaa.C
open Go.RowKit Go.Proofs.YtgcbhknpfpgffaaW.PrintWords Go.Proofs.YtgcbhknpfpgffaaW.PrintLast Go.Proofs.YtgcbhknpfpgffaaW.PrintMore
attribute [local go_sem] wl_0 wl_1 wl_2 wl_3 wl_4 zdb zcb zkb zjb zva zwa zbb zab   -- for this text's walks alone
set_option linter.unusedVariables false
set_option linter.unusedSimpArgs false

/-! ### laws_FnExactCanFindIn: function 3 -/
def laws_FnExactCanFindIn.f (k : Nat) (a0 : Int) (a1_0 : Int) (a1_1 : Int) (a1_2 : Int) (a1_3 : Int) (a2 : Int) : Option (Bool) := (laws_toState.f k a1_0 a1_1 a1_2 a1_3).bind fun bt154 => ((spec_CanFindIn.f a0 bt154.1 bt154.2.1 bt154.2.2.1 bt154.2.2.2 a2).bind fun bt158 => ((laws_toState.f k a1_0 a1_1 a1_2 a1_3).bind fun bt160 => ((impl_CanFindIn.f a0 bt160.1 bt160.2.1 bt160.2.2.1 bt160.2.2.2 a2).bind fun bt164 => (if (bt164.1 != bt158.1) = true then (some false) else (if bt164.2 = bt158.2 then (some true) else (some false))))))
set_option maxHeartbeats 8000000 in
set_option maxRecDepth 100000 in
theorem laws_FnExactCanFindIn.calls (k : Nat) (a0 : Int) (a1_0 : Int) (a1_1 : Int) (a1_2 : Int) (a1_3 : Int) (a2 : Int) (r : Bool) (w : World) (h : laws_FnExactCanFindIn.f k a0 a1_0 a1_1 a1_2 a1_3 a2 = some r) :
  Calls Try.prog 3 #[.int .i64 a0, .agg #[.int .i64 a1_0, .int .i64 a1_1, .int .i64 a1_2, .int .i64 a1_3], .int .i64 a2] w fun e w' => e = .returned (.bool r) ∧ Below w.heap.size w w' := by
 have hu22 := Try.underlying22
 have HB := zg.mk (Below.refl w.heap.size w)
 have H : ((laws_toState.f k a1_0 a1_1 a1_2 a1_3).bind fun bt154 => ((spec_CanFindIn.f a0 bt154.1 bt154.2.1 bt154.2.2.1 bt154.2.2.2 a2).bind fun bt158 => ((laws_toState.f k a1_0 a1_1 a1_2 a1_3).bind fun bt160 => ((impl_CanFindIn.f a0 bt160.1 bt160.2.1 bt160.2.2.1 bt160.2.2.2 a2).bind fun bt164 => (if (bt164.1 != bt158.1) = true then (some false) else (if bt164.2 = bt158.2 then (some true) else (some false))))))) = some r := h
 clear h
 replace H := Option.bind_eq_some_iff.mp H
 obtain ⟨⟨t154, t155, t156, t157⟩, A40, H⟩ := H
 replace H : ((spec_CanFindIn.f a0 t154 t155 t156 t157 a2).bind fun bt158 => ((laws_toState.f k a1_0 a1_1 a1_2 a1_3).bind fun bt160 => ((impl_CanFindIn.f a0 bt160.1 bt160.2.1 bt160.2.2.1 bt160.2.2.2 a2).bind fun bt164 => (if (bt164.1 != bt158.1) = true then (some false) else (if bt164.2 = bt158.2 then (some true) else (some false)))))) = some r := H
 have A4 := zg.mk A40
 clear A40
 replace H := Option.bind_eq_some_iff.mp H
 obtain ⟨⟨t158, t159⟩, A50, H⟩ := H
 replace H : ((laws_toState.f k a1_0 a1_1 a1_2 a1_3).bind fun bt160 => ((impl_CanFindIn.f a0 bt160.1 bt160.2.1 bt160.2.2.1 bt160.2.2.2 a2).bind fun bt164 => (if (bt164.1 != t158) = true then (some false) else (if bt164.2 = t159 then (some true) else (some false))))) = some r := H
 have A5 := zg.mk A50
 clear A50
 replace H := Option.bind_eq_some_iff.mp H
 obtain ⟨⟨t160, t161, t162, t163⟩, A60, H⟩ := H
 replace H : ((impl_CanFindIn.f a0 t160 t161 t162 t163 a2).bind fun bt164 => (if (bt164.1 != t158) = true then (some false) else (if bt164.2 = t159 then (some true) else (some false)))) = some r := H
 have A6 := zg.mk A60
 clear A60
 replace H := Option.bind_eq_some_iff.mp H
 obtain ⟨⟨t164, t165⟩, A70, H⟩ := H
 replace H : (if (t164 != t158) = true then (some false) else (if t165 = t159 then (some true) else (some false))) = some r := H
 have A7 := zg.mk A70
 clear A70
 by_cases c8 : (t164 != t158) = true
 ·rw [if_pos c8] at H
  have c8b0 : (t164 != t158) = true := c8
  (try (have c8b1 : decide (t164 = t158) = false := by simpa using c8))
  (try (have c8b2 : (t164 == t158) = false := by simpa using c8))
  (try (have c8b3 : ¬ (t164 = t158) := by simpa using c8))
  clear c8
  obtain rfl := Option.some.inj H
  go_enter Try.func3, Try.ntmps3
  go_wp2_with (first | ((with_reducible refine zga (N := 4) rfl ?_); refine bx (N := 4) #[.int .i64 a1_0, .int .i64 a1_1, .int .i64 a1_2, .int .i64 a1_3] 22 rfl ?_; intro gb153 hg w9 hbox hb; have BK153 := zg.mk hbox; have GW153 := gB hg; have GE153 := GW153; replace HB := zg.mk (zx sB hb); clear hb hbox hg; obtain ⟨hcz10_0, hcz10_1, hcz10_2, hcz10_3⟩ := xc4 BK153; obtain ⟨hfz10_0, hfz10_1, hfz10_2, hfz10_3⟩ := xf4 BK153) | ((with_reducible refine zha (f := 5) rfl ?_); refine gz (some 14) Try.func5 #[.agg #[.int .i64 a1_0, .int .i64 a1_1, .int .i64 a1_2, .int .i64 a1_3]] rfl rfl ?_; (with_reducible refine (laws_toState.calls k a1_0 a1_1 a1_2 a1_3 t154 t155 t156 t157 _ A4.out).mono ?_); rintro e w11 ⟨rfl, hb⟩; refine ⟨_, rfl, ?_⟩; replace BK153 := dK BK153 hb; replace HB := zg.mk (zx sB hb); try clear hb) | ((with_reducible refine zha (f := 4) rfl ?_); refine gz (some 16) Try.func4 #[.int .i64 a0, .agg #[.int .i64 t154, .int .i64 t155, .int .i64 t156, .int .i64 t157], .int .i64 a2] rfl rfl ?_; (with_reducible refine (spec_CanFindIn.calls a0 t154 t155 t156 t157 a2 t158 t159 _ A5.out).mono ?_); rintro e w12 ⟨rfl, hb⟩; refine ⟨_, rfl, ?_⟩; replace BK153 := dK BK153 hb; replace HB := zg.mk (zx sB hb); try clear hb; obtain ⟨hcz13_0, hcz13_1, hcz13_2, hcz13_3⟩ := xc4 BK153; obtain ⟨hfz13_0, hfz13_1, hfz13_2, hfz13_3⟩ := xf4 BK153) | ((with_reducible refine zha (f := 5) rfl ?_); refine gz (some 22) Try.func5 #[.agg #[.int .i64 a1_0, .int .i64 a1_1, .int .i64 a1_2, .int .i64 a1_3]] rfl rfl ?_; (with_reducible refine (laws_toState.calls k a1_0 a1_1 a1_2 a1_3 t160 t161 t162 t163 _ A6.out).mono ?_); rintro e w14 ⟨rfl, hb⟩; refine ⟨_, rfl, ?_⟩; replace BK153 := dK BK153 hb; replace HB := zg.mk (zx sB hb); try clear hb) | ((with_reducible refine zha (f := 6) rfl ?_); refine gz (some 24) Try.func6 #[.int .i64 a0, .agg #[.int .i64 t160, .int .i64 t161, .int .i64 t162, .int .i64 t163], .int .i64 a2] rfl rfl ?_; (with_reducible refine (impl_CanFindIn.calls a0 t160 t161 t162 t163 a2 t164 t165 _ A7.out).mono ?_); rintro e w15 ⟨rfl, hb⟩; refine ⟨_, rfl, ?_⟩; replace BK153 := dK BK153 hb; replace HB := zg.mk (zx sB hb); try clear hb))
  go_ret
  exact ⟨by first | rfl | (simp [zca, zda] <;> rfl) | (simp [*, zca, zda] <;> rfl), sB⟩
 rw [if_neg c8] at H
 have c8b0 : (t164 != t158) = false := by simpa using c8
 (try (have c8b1 : decide (t164 = t158) = true := by simpa using c8))
 (try (have c8b2 : (t164 == t158) = true := by simpa using c8))
 clear c8
 by_cases c16 : t165 = t159
 ·rw [if_pos c16] at H
  have c16b0 : (t165 == t159) = true := beq_iff_eq.mpr c16
  have c16b1 : (t165 != t159) = false := bne_eq_false_iff_eq.mpr c16
  clear c16
  obtain rfl := Option.some.inj H
  go_enter Try.func3, Try.ntmps3
  go_wp2_with (first | ((with_reducible refine zga (N := 4) rfl ?_); refine bx (N := 4) #[.int .i64 a1_0, .int .i64 a1_1, .int .i64 a1_2, .int .i64 a1_3] 22 rfl ?_; intro gb153 hg w17 hbox hb; have BK153 := zg.mk hbox; have GW153 := gB hg; have GE153 := GW153; replace HB := zg.mk (zx sB hb); clear hb hbox hg; obtain ⟨hcz18_0, hcz18_1, hcz18_2, hcz18_3⟩ := xc4 BK153; obtain ⟨hfz18_0, hfz18_1, hfz18_2, hfz18_3⟩ := xf4 BK153) | ((with_reducible refine zha (f := 5) rfl ?_); refine gz (some 14) Try.func5 #[.agg #[.int .i64 a1_0, .int .i64 a1_1, .int .i64 a1_2, .int .i64 a1_3]] rfl rfl ?_; (with_reducible refine (laws_toState.calls k a1_0 a1_1 a1_2 a1_3 t154 t155 t156 t157 _ A4.out).mono ?_); rintro e w19 ⟨rfl, hb⟩; refine ⟨_, rfl, ?_⟩; replace BK153 := dK BK153 hb; replace HB := zg.mk (zx sB hb); try clear hb) | ((with_reducible refine zha (f := 4) rfl ?_); refine gz (some 16) Try.func4 #[.int .i64 a0, .agg #[.int .i64 t154, .int .i64 t155, .int .i64 t156, .int .i64 t157], .int .i64 a2] rfl rfl ?_; (with_reducible refine (spec_CanFindIn.calls a0 t154 t155 t156 t157 a2 t158 t159 _ A5.out).mono ?_); rintro e w20 ⟨rfl, hb⟩; refine ⟨_, rfl, ?_⟩; replace BK153 := dK BK153 hb; replace HB := zg.mk (zx sB hb); try clear hb; obtain ⟨hcz21_0, hcz21_1, hcz21_2, hcz21_3⟩ := xc4 BK153; obtain ⟨hfz21_0, hfz21_1, hfz21_2, hfz21_3⟩ := xf4 BK153) | ((with_reducible refine zha (f := 5) rfl ?_); refine gz (some 22) Try.func5 #[.agg #[.int .i64 a1_0, .int .i64 a1_1, .int .i64 a1_2, .int .i64 a1_3]] rfl rfl ?_; (with_reducible refine (laws_toState.calls k a1_0 a1_1 a1_2 a1_3 t160 t161 t162 t163 _ A6.out).mono ?_); rintro e w22 ⟨rfl, hb⟩; refine ⟨_, rfl, ?_⟩; replace BK153 := dK BK153 hb; replace HB := zg.mk (zx sB hb); try clear hb) | ((with_reducible refine zha (f := 6) rfl ?_); refine gz (some 24) Try.func6 #[.int .i64 a0, .agg #[.int .i64 t160, .int .i64 t161, .int .i64 t162, .int .i64 t163], .int .i64 a2] rfl rfl ?_; (with_reducible refine (impl_CanFindIn.calls a0 t160 t161 t162 t163 a2 t164 t165 _ A7.out).mono ?_); rintro e w23 ⟨rfl, hb⟩; refine ⟨_, rfl, ?_⟩; replace BK153 := dK BK153 hb; replace HB := zg.mk (zx sB hb); try clear hb))
  go_ret
  exact ⟨by first | rfl | (simp [zca, zda] <;> rfl) | (simp [*, zca, zda] <;> rfl), sB⟩
 rw [if_neg c16] at H
 have c16b0 : (t165 == t159) = false := beq_eq_false_iff_ne.mpr c16
 have c16b1 : (t165 != t159) = true := bne_iff_ne.mpr c16
 obtain rfl := Option.some.inj H
 go_enter Try.func3, Try.ntmps3
 go_wp2_with (first | ((with_reducible refine zga (N := 4) rfl ?_); refine bx (N := 4) #[.int .i64 a1_0, .int .i64 a1_1, .int .i64 a1_2, .int .i64 a1_3] 22 rfl ?_; intro gb153 hg w24 hbox hb; have BK153 := zg.mk hbox; have GW153 := gB hg; have GE153 := GW153; replace HB := zg.mk (zx sB hb); clear hb hbox hg; obtain ⟨hcz25_0, hcz25_1, hcz25_2, hcz25_3⟩ := xc4 BK153; obtain ⟨hfz25_0, hfz25_1, hfz25_2, hfz25_3⟩ := xf4 BK153) | ((with_reducible refine zha (f := 5) rfl ?_); refine gz (some 14) Try.func5 #[.agg #[.int .i64 a1_0, .int .i64 a1_1, .int .i64 a1_2, .int .i64 a1_3]] rfl rfl ?_; (with_reducible refine (laws_toState.calls k a1_0 a1_1 a1_2 a1_3 t154 t155 t156 t157 _ A4.out).mono ?_); rintro e w26 ⟨rfl, hb⟩; refine ⟨_, rfl, ?_⟩; replace BK153 := dK BK153 hb; replace HB := zg.mk (zx sB hb); try clear hb) | ((with_reducible refine zha (f := 4) rfl ?_); refine gz (some 16) Try.func4 #[.int .i64 a0, .agg #[.int .i64 t154, .int .i64 t155, .int .i64 t156, .int .i64 t157], .int .i64 a2] rfl rfl ?_; (with_reducible refine (spec_CanFindIn.calls a0 t154 t155 t156 t157 a2 t158 t159 _ A5.out).mono ?_); rintro e w27 ⟨rfl, hb⟩; refine ⟨_, rfl, ?_⟩; replace BK153 := dK BK153 hb; replace HB := zg.mk (zx sB hb); try clear hb; obtain ⟨hcz28_0, hcz28_1, hcz28_2, hcz28_3⟩ := xc4 BK153; obtain ⟨hfz28_0, hfz28_1, hfz28_2, hfz28_3⟩ := xf4 BK153) | ((with_reducible refine zha (f := 5) rfl ?_); refine gz (some 22) Try.func5 #[.agg #[.int .i64 a1_0, .int .i64 a1_1, .int .i64 a1_2, .int .i64 a1_3]] rfl rfl ?_; (with_reducible refine (laws_toState.calls k a1_0 a1_1 a1_2 a1_3 t160 t161 t162 t163 _ A6.out).mono ?_); rintro e w29 ⟨rfl, hb⟩; refine ⟨_, rfl, ?_⟩; replace BK153 := dK BK153 hb; replace HB := zg.mk (zx sB hb); try clear hb) | ((with_reducible refine zha (f := 6) rfl ?_); refine gz (some 24) Try.func6 #[.int .i64 a0, .agg #[.int .i64 t160, .int .i64 t161, .int .i64 t162, .int .i64 t163], .int .i64 a2] rfl rfl ?_; (with_reducible refine (impl_CanFindIn.calls a0 t160 t161 t162 t163 a2 t164 t165 _ A7.out).mono ?_); rintro e w30 ⟨rfl, hb⟩; refine ⟨_, rfl, ?_⟩; replace BK153 := dK BK153 hb; replace HB := zg.mk (zx sB hb); try clear hb))
 go_ret
 exact ⟨by first | rfl | (simp [zca, zda] <;> rfl) | (simp [*, zca, zda] <;> rfl), sB⟩

end Go.Proofs.Ytgcbhknpfpgffaa.C
