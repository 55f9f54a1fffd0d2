-- Written by wip/tools/myprint.py, a program of this session, by way of the kit's print.
import Derived.Test.YteciomagemjjaaaJx0
import Derived.Test.YteciomagemjjaaaJx1
import Derived.Test.YteciomagemjjaaaLPrJ
namespace Go.Proofs.Yteciomagemjjaaa.J
open Go.RowKit Go.Proofs.YteciomagemjjaaaW.PrintWords Go.Proofs.YteciomagemjjaaaW.PrintLast Go.Proofs.YteciomagemjjaaaW.PrintMore
attribute [local go_sem] zna zpa zua zva zia zja zqa zoa   -- for this text's walks alone
set_option linter.unusedVariables false
set_option linter.unusedSimpArgs false

/-! ### impl_Puzzle_isMove: function 101 -/
def impl_Puzzle_isMove.f (l0_0 : List Int) (a0_1 : Int) (a0_2 : Int) (a0_3 : Int) (a0_4 : Int) (a0_5 : Bool) (a1_0 : Int) (a1_1 : Int) (a1_2 : Int) : Option (Bool) := (impl_size_int16.f l0_0).bind fun t123 => ((impl_within.f (wrap64 (a1_1)) 0 (wrap64 (t123 - 1))).bind fun t124 => (if t124 = true then (if a1_0 = 0 then ((impl_within.f (wrap64 (a1_2)) 0 (wrap64 (t123 - 1))).bind fun t125 => (some t125)) else (if a1_0 = 1 then (some (a1_2 == 0)) else (if a1_0 = 2 then (some (a1_2 == 0)) else (some false)))) else (some false)))
set_option maxHeartbeats 8000000 in
set_option maxRecDepth 100000 in
theorem impl_Puzzle_isMove.calls (A0_0 : Option Addr) (c0_0 : Nat) (l0_0 : List Int) (a0_1 : Int) (a0_2 : Int) (a0_3 : Int) (a0_4 : Int) (a0_5 : Bool) (a1_0 : Int) (a1_1 : Int) (a1_2 : Int) (r : Bool) (w : World) (hr0_0 : Kd.C (Kd.int .i16) w A0_0 l0_0.length l0_0) (hc0_0 : l0_0.length ≤ c0_0) (h : impl_Puzzle_isMove.f l0_0 a0_1 a0_2 a0_3 a0_4 a0_5 a1_0 a1_1 a1_2 = some r) :
  Calls Try.prog 101 #[.agg #[.slice A0_0 l0_0.length c0_0, .int .i16 a0_1, .int .i16 a0_2, .int .i16 a0_3, .int .i16 a0_4, .bool a0_5], .agg #[.int .i8 a1_0, .int .i8 a1_1, .int .i8 a1_2]] w fun e w' => e = .returned (.bool r) ∧ Below w.heap.size w w' := by
 have hu29 := Try.underlying29
 have hu80 := Try.underlying80
 have HR0_0 := za.mk hr0_0
 have HC0_0 := za.mk hc0_0
 clear hr0_0 hc0_0
 have HB := za.mk (Below.refl w.heap.size w)
 have H : ((impl_size_int16.f l0_0).bind fun t123 => ((impl_within.f (wrap64 (a1_1)) 0 (wrap64 (t123 - 1))).bind fun t124 => (if t124 = true then (if a1_0 = 0 then ((impl_within.f (wrap64 (a1_2)) 0 (wrap64 (t123 - 1))).bind fun t125 => (some t125)) else (if a1_0 = 1 then (some (a1_2 == 0)) else (if a1_0 = 2 then (some (a1_2 == 0)) else (some false)))) else (some false)))) = some r := h
 clear h
 replace H := Option.bind_eq_some_iff.mp H
 obtain ⟨t123, A30, H⟩ := H
 replace H : ((impl_within.f (wrap64 (a1_1)) 0 (wrap64 (t123 - 1))).bind fun t124 => (if t124 = true then (if a1_0 = 0 then ((impl_within.f (wrap64 (a1_2)) 0 (wrap64 (t123 - 1))).bind fun t125 => (some t125)) else (if a1_0 = 1 then (some (a1_2 == 0)) else (if a1_0 = 2 then (some (a1_2 == 0)) else (some false)))) else (some false))) = some r := H
 have A3 := za.mk A30
 clear A30
 replace H := Option.bind_eq_some_iff.mp H
 obtain ⟨t124, A40, H⟩ := H
 replace H : (if t124 = true then (if a1_0 = 0 then ((impl_within.f (wrap64 (a1_2)) 0 (wrap64 (t123 - 1))).bind fun t125 => (some t125)) else (if a1_0 = 1 then (some (a1_2 == 0)) else (if a1_0 = 2 then (some (a1_2 == 0)) else (some false)))) else (some false)) = some r := H
 have A4 := za.mk A40
 clear A40
 by_cases c5 : t124 = true
 ·subst c5
  have H1 : (if a1_0 = 0 then ((impl_within.f (wrap64 (a1_2)) 0 (wrap64 (t123 - 1))).bind fun t125 => (some t125)) else (if a1_0 = 1 then (some (a1_2 == 0)) else (if a1_0 = 2 then (some (a1_2 == 0)) else (some false)))) = some r := by rw [if_pos rfl] at H; exact H
  clear H
  have H := H1
  clear H1
  by_cases c6 : a1_0 = 0
  ·rw [if_pos c6] at H
   have c6b0 : (a1_0 == 0) = true := beq_iff_eq.mpr c6
   have c6b1 : (a1_0 != 0) = false := bne_eq_false_iff_eq.mpr c6
   clear c6
   replace H := Option.bind_eq_some_iff.mp H
   obtain ⟨t125, A70, H⟩ := H
   replace H : (some t125) = some r := H
   have A7 := za.mk A70
   clear A70
   obtain rfl := Option.some.inj H
   go_enter Try.func101, Try.ntmps101
   go_wp2_with (first | ((with_reducible refine zu (N := 2) rfl ?_); refine bx (N := 2) #[.slice A0_0 l0_0.length c0_0, .int .i16 a0_1, .int .i16 a0_2, .int .i16 a0_3, .int .i16 a0_4, .bool a0_5] 29 rfl ?_; intro gb121 hg w8 hbox hb; have BK121 := za.mk hbox; have GW121 := gB hg; have GE121 := GW121; replace HB := za.mk (zh sB hb); clear hb hbox hg) | ((with_reducible refine zu (N := 3) rfl ?_); refine bx (N := 3) #[.int .i8 a1_0, .int .i8 a1_1, .int .i8 a1_2] 80 rfl ?_; intro gb122 hg w9 hbox hb; have BK122 := za.mk hbox; have GW122 := gB hg; have GE122 := GW122; have NB121_122 := nK hg BK121; have NB122_121 := za.mk NB121_122.out.symm; replace BK121 := dK BK121 hb; replace HB := za.mk (zh sB hb); clear hb hbox hg; have hnb10 := NB121_122.out; have hnc10 := NB122_121.out; obtain ⟨hcz11_0, hcz11_1, hcz11_2, hcz11_3, hcz11_4, hcz11_5⟩ := xc6 BK121; obtain ⟨hfz11_0, hfz11_1, hfz11_2, hfz11_3, hfz11_4, hfz11_5⟩ := xf6 BK121) | ((with_reducible refine zn (f := 86) rfl ?_); refine gz (some 8) Try.func86 #[.slice A0_0 l0_0.length c0_0] rfl rfl ?_; (with_reducible refine (impl_size_int16.calls _ _ l0_0 t123 _ ?side1 ?side2 A3.out).mono ?_); (case side1 => exact uC HR0_0 HB); (case side2 => exact HC0_0.out); rintro e w' ⟨rfl, ⟨nd, rfl⟩⟩; refine ⟨_, rfl, ?_⟩; obtain ⟨hcz12_0, hcz12_1, hcz12_2⟩ := xc3 BK122; obtain ⟨hfz12_0, hfz12_1, hfz12_2⟩ := xf3 BK122) | ((with_reducible refine zn (f := 69) rfl ?_); refine gz (some 14) Try.func69 #[.int .i64 (wrap64 (a1_1)), .int .i64 0, .int .i64 (wrap64 (t123 - 1))] rfl rfl ?_; (with_reducible refine (impl_within.calls (wrap64 (a1_1)) 0 (wrap64 (t123 - 1)) true _ A4.out).mono ?_); rintro e w' ⟨rfl, ⟨nd, rfl⟩⟩; refine ⟨_, rfl, ?_⟩) | ((with_reducible refine zn (f := 69) rfl ?_); refine gz (some 24) Try.func69 #[.int .i64 (wrap64 (a1_2)), .int .i64 0, .int .i64 (wrap64 (t123 - 1))] rfl rfl ?_; (with_reducible refine (impl_within.calls (wrap64 (a1_2)) 0 (wrap64 (t123 - 1)) t125 _ A7.out).mono ?_); rintro e w' ⟨rfl, ⟨nd, rfl⟩⟩; refine ⟨_, rfl, ?_⟩))
   go_ret
   exact ⟨by first | rfl | (simp [zj, zk] <;> rfl) | (simp [*, zj, zk] <;> rfl), sB⟩
  rw [if_neg c6] at H
  have c6b0 : (a1_0 == 0) = false := beq_eq_false_iff_ne.mpr c6
  have c6b1 : (a1_0 != 0) = true := bne_iff_ne.mpr c6
  by_cases c13 : a1_0 = 1
  ·rw [if_pos c13] at H
   have c13b0 : (a1_0 == 1) = true := beq_iff_eq.mpr c13
   have c13b1 : (a1_0 != 1) = false := bne_eq_false_iff_eq.mpr c13
   clear c13
   obtain rfl := Option.some.inj H
   go_enter Try.func101, Try.ntmps101
   go_wp2_with (first | ((with_reducible refine zu (N := 2) rfl ?_); refine bx (N := 2) #[.slice A0_0 l0_0.length c0_0, .int .i16 a0_1, .int .i16 a0_2, .int .i16 a0_3, .int .i16 a0_4, .bool a0_5] 29 rfl ?_; intro gb121 hg w14 hbox hb; have BK121 := za.mk hbox; have GW121 := gB hg; have GE121 := GW121; replace HB := za.mk (zh sB hb); clear hb hbox hg) | ((with_reducible refine zu (N := 3) rfl ?_); refine bx (N := 3) #[.int .i8 a1_0, .int .i8 a1_1, .int .i8 a1_2] 80 rfl ?_; intro gb122 hg w15 hbox hb; have BK122 := za.mk hbox; have GW122 := gB hg; have GE122 := GW122; have NB121_122 := nK hg BK121; have NB122_121 := za.mk NB121_122.out.symm; replace BK121 := dK BK121 hb; replace HB := za.mk (zh sB hb); clear hb hbox hg; have hnb16 := NB121_122.out; have hnc16 := NB122_121.out; obtain ⟨hcz17_0, hcz17_1, hcz17_2, hcz17_3, hcz17_4, hcz17_5⟩ := xc6 BK121; obtain ⟨hfz17_0, hfz17_1, hfz17_2, hfz17_3, hfz17_4, hfz17_5⟩ := xf6 BK121) | ((with_reducible refine zn (f := 86) rfl ?_); refine gz (some 8) Try.func86 #[.slice A0_0 l0_0.length c0_0] rfl rfl ?_; (with_reducible refine (impl_size_int16.calls _ _ l0_0 t123 _ ?side1 ?side2 A3.out).mono ?_); (case side1 => exact uC HR0_0 HB); (case side2 => exact HC0_0.out); rintro e w' ⟨rfl, ⟨nd, rfl⟩⟩; refine ⟨_, rfl, ?_⟩; obtain ⟨hcz18_0, hcz18_1, hcz18_2⟩ := xc3 BK122; obtain ⟨hfz18_0, hfz18_1, hfz18_2⟩ := xf3 BK122) | ((with_reducible refine zn (f := 69) rfl ?_); refine gz (some 14) Try.func69 #[.int .i64 (wrap64 (a1_1)), .int .i64 0, .int .i64 (wrap64 (t123 - 1))] rfl rfl ?_; (with_reducible refine (impl_within.calls (wrap64 (a1_1)) 0 (wrap64 (t123 - 1)) true _ A4.out).mono ?_); rintro e w' ⟨rfl, ⟨nd, rfl⟩⟩; refine ⟨_, rfl, ?_⟩))
   go_ret
   exact ⟨by first | rfl | (simp [zj, zk] <;> rfl) | (simp [*, zj, zk] <;> rfl), sB⟩
  rw [if_neg c13] at H
  have c13b0 : (a1_0 == 1) = false := beq_eq_false_iff_ne.mpr c13
  have c13b1 : (a1_0 != 1) = true := bne_iff_ne.mpr c13
  by_cases c19 : a1_0 = 2
  ·rw [if_pos c19] at H
   have c19b0 : (a1_0 == 2) = true := beq_iff_eq.mpr c19
   have c19b1 : (a1_0 != 2) = false := bne_eq_false_iff_eq.mpr c19
   clear c19
   obtain rfl := Option.some.inj H
   go_enter Try.func101, Try.ntmps101
   go_wp2_with (first | ((with_reducible refine zu (N := 2) rfl ?_); refine bx (N := 2) #[.slice A0_0 l0_0.length c0_0, .int .i16 a0_1, .int .i16 a0_2, .int .i16 a0_3, .int .i16 a0_4, .bool a0_5] 29 rfl ?_; intro gb121 hg w20 hbox hb; have BK121 := za.mk hbox; have GW121 := gB hg; have GE121 := GW121; replace HB := za.mk (zh sB hb); clear hb hbox hg) | ((with_reducible refine zu (N := 3) rfl ?_); refine bx (N := 3) #[.int .i8 a1_0, .int .i8 a1_1, .int .i8 a1_2] 80 rfl ?_; intro gb122 hg w21 hbox hb; have BK122 := za.mk hbox; have GW122 := gB hg; have GE122 := GW122; have NB121_122 := nK hg BK121; have NB122_121 := za.mk NB121_122.out.symm; replace BK121 := dK BK121 hb; replace HB := za.mk (zh sB hb); clear hb hbox hg; have hnb22 := NB121_122.out; have hnc22 := NB122_121.out; obtain ⟨hcz23_0, hcz23_1, hcz23_2, hcz23_3, hcz23_4, hcz23_5⟩ := xc6 BK121; obtain ⟨hfz23_0, hfz23_1, hfz23_2, hfz23_3, hfz23_4, hfz23_5⟩ := xf6 BK121) | ((with_reducible refine zn (f := 86) rfl ?_); refine gz (some 8) Try.func86 #[.slice A0_0 l0_0.length c0_0] rfl rfl ?_; (with_reducible refine (impl_size_int16.calls _ _ l0_0 t123 _ ?side1 ?side2 A3.out).mono ?_); (case side1 => exact uC HR0_0 HB); (case side2 => exact HC0_0.out); rintro e w' ⟨rfl, ⟨nd, rfl⟩⟩; refine ⟨_, rfl, ?_⟩; obtain ⟨hcz24_0, hcz24_1, hcz24_2⟩ := xc3 BK122; obtain ⟨hfz24_0, hfz24_1, hfz24_2⟩ := xf3 BK122) | ((with_reducible refine zn (f := 69) rfl ?_); refine gz (some 14) Try.func69 #[.int .i64 (wrap64 (a1_1)), .int .i64 0, .int .i64 (wrap64 (t123 - 1))] rfl rfl ?_; (with_reducible refine (impl_within.calls (wrap64 (a1_1)) 0 (wrap64 (t123 - 1)) true _ A4.out).mono ?_); rintro e w' ⟨rfl, ⟨nd, rfl⟩⟩; refine ⟨_, rfl, ?_⟩))
   go_ret
   exact ⟨by first | rfl | (simp [zj, zk] <;> rfl) | (simp [*, zj, zk] <;> rfl), sB⟩
  rw [if_neg c19] at H
  have c19b0 : (a1_0 == 2) = false := beq_eq_false_iff_ne.mpr c19
  have c19b1 : (a1_0 != 2) = true := bne_iff_ne.mpr c19
  obtain rfl := Option.some.inj H
  go_enter Try.func101, Try.ntmps101
  go_wp2_with (first | ((with_reducible refine zu (N := 2) rfl ?_); refine bx (N := 2) #[.slice A0_0 l0_0.length c0_0, .int .i16 a0_1, .int .i16 a0_2, .int .i16 a0_3, .int .i16 a0_4, .bool a0_5] 29 rfl ?_; intro gb121 hg w25 hbox hb; have BK121 := za.mk hbox; have GW121 := gB hg; have GE121 := GW121; replace HB := za.mk (zh sB hb); clear hb hbox hg) | ((with_reducible refine zu (N := 3) rfl ?_); refine bx (N := 3) #[.int .i8 a1_0, .int .i8 a1_1, .int .i8 a1_2] 80 rfl ?_; intro gb122 hg w26 hbox hb; have BK122 := za.mk hbox; have GW122 := gB hg; have GE122 := GW122; have NB121_122 := nK hg BK121; have NB122_121 := za.mk NB121_122.out.symm; replace BK121 := dK BK121 hb; replace HB := za.mk (zh sB hb); clear hb hbox hg; have hnb27 := NB121_122.out; have hnc27 := NB122_121.out; obtain ⟨hcz28_0, hcz28_1, hcz28_2, hcz28_3, hcz28_4, hcz28_5⟩ := xc6 BK121; obtain ⟨hfz28_0, hfz28_1, hfz28_2, hfz28_3, hfz28_4, hfz28_5⟩ := xf6 BK121) | ((with_reducible refine zn (f := 86) rfl ?_); refine gz (some 8) Try.func86 #[.slice A0_0 l0_0.length c0_0] rfl rfl ?_; (with_reducible refine (impl_size_int16.calls _ _ l0_0 t123 _ ?side1 ?side2 A3.out).mono ?_); (case side1 => exact uC HR0_0 HB); (case side2 => exact HC0_0.out); rintro e w' ⟨rfl, ⟨nd, rfl⟩⟩; refine ⟨_, rfl, ?_⟩; obtain ⟨hcz29_0, hcz29_1, hcz29_2⟩ := xc3 BK122; obtain ⟨hfz29_0, hfz29_1, hfz29_2⟩ := xf3 BK122) | ((with_reducible refine zn (f := 69) rfl ?_); refine gz (some 14) Try.func69 #[.int .i64 (wrap64 (a1_1)), .int .i64 0, .int .i64 (wrap64 (t123 - 1))] rfl rfl ?_; (with_reducible refine (impl_within.calls (wrap64 (a1_1)) 0 (wrap64 (t123 - 1)) true _ A4.out).mono ?_); rintro e w' ⟨rfl, ⟨nd, rfl⟩⟩; refine ⟨_, rfl, ?_⟩))
  go_ret
  exact ⟨by first | rfl | (simp [zj, zk] <;> rfl) | (simp [*, zj, zk] <;> rfl), sB⟩
 replace c5 := Bool.eq_false_iff.mpr c5
 subst c5
 have H1 : (some false) = some r := by rw [if_neg (show ¬ (false = true) by decide)] at H; exact H
 clear H
 have H := H1
 clear H1
 obtain rfl := Option.some.inj H
 go_enter Try.func101, Try.ntmps101
 go_wp2_with (first | ((with_reducible refine zu (N := 2) rfl ?_); refine bx (N := 2) #[.slice A0_0 l0_0.length c0_0, .int .i16 a0_1, .int .i16 a0_2, .int .i16 a0_3, .int .i16 a0_4, .bool a0_5] 29 rfl ?_; intro gb121 hg w30 hbox hb; have BK121 := za.mk hbox; have GW121 := gB hg; have GE121 := GW121; replace HB := za.mk (zh sB hb); clear hb hbox hg) | ((with_reducible refine zu (N := 3) rfl ?_); refine bx (N := 3) #[.int .i8 a1_0, .int .i8 a1_1, .int .i8 a1_2] 80 rfl ?_; intro gb122 hg w31 hbox hb; have BK122 := za.mk hbox; have GW122 := gB hg; have GE122 := GW122; have NB121_122 := nK hg BK121; have NB122_121 := za.mk NB121_122.out.symm; replace BK121 := dK BK121 hb; replace HB := za.mk (zh sB hb); clear hb hbox hg; have hnb32 := NB121_122.out; have hnc32 := NB122_121.out; obtain ⟨hcz33_0, hcz33_1, hcz33_2, hcz33_3, hcz33_4, hcz33_5⟩ := xc6 BK121; obtain ⟨hfz33_0, hfz33_1, hfz33_2, hfz33_3, hfz33_4, hfz33_5⟩ := xf6 BK121) | ((with_reducible refine zn (f := 86) rfl ?_); refine gz (some 8) Try.func86 #[.slice A0_0 l0_0.length c0_0] rfl rfl ?_; (with_reducible refine (impl_size_int16.calls _ _ l0_0 t123 _ ?side1 ?side2 A3.out).mono ?_); (case side1 => exact uC HR0_0 HB); (case side2 => exact HC0_0.out); rintro e w' ⟨rfl, ⟨nd, rfl⟩⟩; refine ⟨_, rfl, ?_⟩; obtain ⟨hcz34_0, hcz34_1, hcz34_2⟩ := xc3 BK122; obtain ⟨hfz34_0, hfz34_1, hfz34_2⟩ := xf3 BK122) | ((with_reducible refine zn (f := 69) rfl ?_); refine gz (some 14) Try.func69 #[.int .i64 (wrap64 (a1_1)), .int .i64 0, .int .i64 (wrap64 (t123 - 1))] rfl rfl ?_; (with_reducible refine (impl_within.calls (wrap64 (a1_1)) 0 (wrap64 (t123 - 1)) false _ A4.out).mono ?_); rintro e w' ⟨rfl, ⟨nd, rfl⟩⟩; refine ⟨_, rfl, ?_⟩))
 go_ret
 exact ⟨by first | rfl | (simp [zj, zk] <;> rfl) | (simp [*, zj, zk] <;> rfl), sB⟩

end Go.Proofs.Yteciomagemjjaaa.J
