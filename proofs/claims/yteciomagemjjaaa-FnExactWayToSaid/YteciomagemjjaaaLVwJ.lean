/- A valid water. -/
import Derived.Test.YteciomagemjjaaaJx3
import Derived.Test.YteciomagemjjaaaLPrJ
namespace Go.Proofs.Yteciomagemjjaaa.J
open Go.RowKit Go.Proofs.YteciomagemjjaaaW.PrintWords Go.Proofs.YteciomagemjjaaaW.PrintLast Go.Proofs.YteciomagemjjaaaW.PrintMore
attribute [local go_sem] zma zna zxa zwa zia zja zoa zpa   -- for this text's walks alone
set_option linter.unusedVariables false
set_option linter.unusedSimpArgs false
/-! ### impl_ValidWater: function 64 -/
def impl_ValidWater.f (k : Nat) (l0_0 : List Int) (a0_1 : Int) (a0_2 : Int) (a0_3 : Int) (a0_4 : Int) (a0_5 : Bool) (a1_0 : Int) (a1_1 : Int) (a1_2 : Int) (a1_3 : Int) : Option (Bool) := (impl_ValidPuzzle.f k l0_0 a0_1 a0_2 a0_3 a0_4 a0_5).bind fun t118 => (if t118 = true then ((impl_Puzzle_holds.f k l0_0 a0_1 a0_2 a0_3 a0_4 a0_5 a1_0 a1_1 a1_2 a1_3).bind fun t119 => (some t119)) else (some false))
set_option maxHeartbeats 8000000 in
set_option maxRecDepth 100000 in
theorem impl_ValidWater.calls (k : Nat) (A0_0 : Option Addr) (c0_0 : Nat) (l0_0 : List Int) (a0_1 : Int) (a0_2 : Int) (a0_3 : Int) (a0_4 : Int) (a0_5 : Bool) (a1_0 : Int) (a1_1 : Int) (a1_2 : Int) (a1_3 : Int) (r : Bool) (w : World) (hr0_0 : Kd.C (Kd.int .i16) w A0_0 l0_0.length l0_0) (hc0_0 : l0_0.length ≤ c0_0) (h : impl_ValidWater.f k l0_0 a0_1 a0_2 a0_3 a0_4 a0_5 a1_0 a1_1 a1_2 a1_3 = some r) :
  Calls Try.prog 64 #[.agg #[.slice A0_0 l0_0.length c0_0, .int .i16 a0_1, .int .i16 a0_2, .int .i16 a0_3, .int .i16 a0_4, .bool a0_5], .agg #[.int .i16 a1_0, .int .i16 a1_1, .int .i16 a1_2, .int .i16 a1_3]] w fun e w' => e = .returned (.bool r) ∧ Below w.heap.size w w' := by
 have hu29 := Try.underlying29
 have hu27 := Try.underlying27
 have HR0_0 := zb.mk hr0_0
 have HC0_0 := zb.mk hc0_0
 clear hr0_0 hc0_0
 have HB := zb.mk (Below.refl w.heap.size w)
 have H : ((impl_ValidPuzzle.f k l0_0 a0_1 a0_2 a0_3 a0_4 a0_5).bind fun t118 => (if t118 = true then ((impl_Puzzle_holds.f k l0_0 a0_1 a0_2 a0_3 a0_4 a0_5 a1_0 a1_1 a1_2 a1_3).bind fun t119 => (some t119)) else (some false))) = some r := h
 clear h
 replace H := Option.bind_eq_some_iff.mp H
 obtain ⟨t118, A30, H⟩ := H
 replace H : (if t118 = true then ((impl_Puzzle_holds.f k l0_0 a0_1 a0_2 a0_3 a0_4 a0_5 a1_0 a1_1 a1_2 a1_3).bind fun t119 => (some t119)) else (some false)) = some r := H
 have A3 := zb.mk A30
 clear A30
 by_cases c4 : t118 = true
 ·subst c4
  have H1 : ((impl_Puzzle_holds.f k l0_0 a0_1 a0_2 a0_3 a0_4 a0_5 a1_0 a1_1 a1_2 a1_3).bind fun t119 => (some t119)) = some r := by rw [if_pos rfl] at H; exact H
  clear H
  have H := H1
  clear H1
  replace H := Option.bind_eq_some_iff.mp H
  obtain ⟨t119, A50, H⟩ := H
  replace H : (some t119) = some r := H
  have A5 := zb.mk A50
  clear A50
  obtain rfl := Option.some.inj H
  go_enter Try.func64, Try.ntmps64
  go_wp2_with (first | ((with_reducible refine zy (N := 2) rfl ?_); refine bx (N := 2) #[.slice A0_0 l0_0.length c0_0, .int .i16 a0_1, .int .i16 a0_2, .int .i16 a0_3, .int .i16 a0_4, .bool a0_5] 29 rfl ?_; intro gb116 hg w6 hbox hb; have BK116 := zb.mk hbox; have GW116 := gB hg; have GE116 := GW116; replace HB := zb.mk (zm sB hb); clear hb hbox hg) | ((with_reducible refine zy (N := 3) rfl ?_); refine bx (N := 3) #[.int .i16 a1_0, .int .i16 a1_1, .int .i16 a1_2, .int .i16 a1_3] 27 rfl ?_; intro gb117 hg w7 hbox hb; have BK117 := zb.mk hbox; have GW117 := gB hg; have GE117 := GW117; have NB116_117 := nK hg BK116; have NB117_116 := zb.mk NB116_117.out.symm; replace BK116 := dK BK116 hb; replace HB := zb.mk (zm sB hb); clear hb hbox hg; have hnb8 := NB116_117.out; have hnc8 := NB117_116.out; obtain ⟨hcz9_0, hcz9_1, hcz9_2, hcz9_3, hcz9_4, hcz9_5⟩ := xc6 BK116; obtain ⟨hfz9_0, hfz9_1, hfz9_2, hfz9_3, hfz9_4, hfz9_5⟩ := xf6 BK116) | ((with_reducible refine zt (f := 52) rfl ?_); refine gz (some 6) Try.func52 #[.agg #[.slice A0_0 l0_0.length c0_0, .int .i16 a0_1, .int .i16 a0_2, .int .i16 a0_3, .int .i16 a0_4, .bool a0_5]] rfl rfl ?_; (with_reducible refine (impl_ValidPuzzle.calls k _ _ l0_0 a0_1 a0_2 a0_3 a0_4 a0_5 true _ ?side1 ?side2 A3.out).mono ?_); (case side1 => exact uC HR0_0 HB); (case side2 => exact HC0_0.out); rintro e w10 ⟨rfl, hb⟩; refine ⟨_, rfl, ?_⟩; replace BK116 := dK BK116 hb; replace BK117 := dK BK117 hb; replace HB := zb.mk (zm sB hb); try clear hb; obtain ⟨hcz11_0, hcz11_1, hcz11_2, hcz11_3, hcz11_4, hcz11_5⟩ := xc6 BK116; obtain ⟨hfz11_0, hfz11_1, hfz11_2, hfz11_3, hfz11_4, hfz11_5⟩ := xf6 BK116; obtain ⟨hcz12_0, hcz12_1, hcz12_2, hcz12_3⟩ := xc4 BK117; obtain ⟨hfz12_0, hfz12_1, hfz12_2, hfz12_3⟩ := xf4 BK117) | (go_at_call 89; (with_reducible refine (impl_Puzzle_holds.calls k _ _ l0_0 a0_1 a0_2 a0_3 a0_4 a0_5 a1_0 a1_1 a1_2 a1_3 t119 _ ?side1 ?side2 A5.out).mono ?_); (case side1 => exact uC HR0_0 HB); (case side2 => exact HC0_0.out); rintro e w13 ⟨rfl, hb⟩; replace BK116 := dK BK116 hb; replace BK117 := dK BK117 hb; replace HB := zb.mk (zm sB hb); try clear hb))
  go_ret
  exact ⟨by first | rfl | (simp [zn, zo] <;> rfl) | (simp [*, zn, zo] <;> rfl), sB⟩
 replace c4 := Bool.eq_false_iff.mpr c4
 subst c4
 have H1 : (some false) = some r := by rw [if_neg (show ¬ (false = true) by decide)] at H; exact H
 clear H
 have H := H1
 clear H1
 obtain rfl := Option.some.inj H
 go_enter Try.func64, Try.ntmps64
 go_wp2_with (first | ((with_reducible refine zy (N := 2) rfl ?_); refine bx (N := 2) #[.slice A0_0 l0_0.length c0_0, .int .i16 a0_1, .int .i16 a0_2, .int .i16 a0_3, .int .i16 a0_4, .bool a0_5] 29 rfl ?_; intro gb116 hg w14 hbox hb; have BK116 := zb.mk hbox; have GW116 := gB hg; have GE116 := GW116; replace HB := zb.mk (zm sB hb); clear hb hbox hg) | ((with_reducible refine zy (N := 3) rfl ?_); refine bx (N := 3) #[.int .i16 a1_0, .int .i16 a1_1, .int .i16 a1_2, .int .i16 a1_3] 27 rfl ?_; intro gb117 hg w15 hbox hb; have BK117 := zb.mk hbox; have GW117 := gB hg; have GE117 := GW117; have NB116_117 := nK hg BK116; have NB117_116 := zb.mk NB116_117.out.symm; replace BK116 := dK BK116 hb; replace HB := zb.mk (zm sB hb); clear hb hbox hg; have hnb16 := NB116_117.out; have hnc16 := NB117_116.out; obtain ⟨hcz17_0, hcz17_1, hcz17_2, hcz17_3, hcz17_4, hcz17_5⟩ := xc6 BK116; obtain ⟨hfz17_0, hfz17_1, hfz17_2, hfz17_3, hfz17_4, hfz17_5⟩ := xf6 BK116) | ((with_reducible refine zt (f := 52) rfl ?_); refine gz (some 6) Try.func52 #[.agg #[.slice A0_0 l0_0.length c0_0, .int .i16 a0_1, .int .i16 a0_2, .int .i16 a0_3, .int .i16 a0_4, .bool a0_5]] rfl rfl ?_; (with_reducible refine (impl_ValidPuzzle.calls k _ _ l0_0 a0_1 a0_2 a0_3 a0_4 a0_5 false _ ?side1 ?side2 A3.out).mono ?_); (case side1 => exact uC HR0_0 HB); (case side2 => exact HC0_0.out); rintro e w18 ⟨rfl, hb⟩; refine ⟨_, rfl, ?_⟩; replace BK116 := dK BK116 hb; replace BK117 := dK BK117 hb; replace HB := zb.mk (zm sB hb); try clear hb))
 go_ret
 exact ⟨by first | rfl | (simp [zn, zo] <;> rfl) | (simp [*, zn, zo] <;> rfl), sB⟩
end Go.Proofs.Yteciomagemjjaaa.J
