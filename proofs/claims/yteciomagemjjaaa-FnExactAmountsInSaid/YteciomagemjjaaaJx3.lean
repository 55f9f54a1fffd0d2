-- Written by wip/tools/myprint.py, a program of this session, by way of the kit's print.
import Derived.Test.YteciomagemjjaaaJx0
import Derived.Test.YteciomagemjjaaaJx1
import Derived.Test.YteciomagemjjaaaJx2
import Derived.Test.YteciomagemjjaaaLPrJ
namespace Go.Proofs.Yteciomagemjjaaa.J
open Go.RowKit Go.Proofs.YteciomagemjjaaaW.PrintWords Go.Proofs.YteciomagemjjaaaW.PrintLast Go.Proofs.YteciomagemjjaaaW.PrintMore
attribute [local go_sem] zna zpa zua zva zia zja zqa zoa   -- for this text's walks alone
set_option linter.unusedVariables false
set_option linter.unusedSimpArgs false

/-! ### slices_IndexFunc_int16_int16_88: function 1107088 -/
def slices_IndexFunc_int16_int16_88.l0 : Nat → List Int → Int → Int → Option (Int)
 | 0, _, _, _ => none
 | k + 1, x0, x7, x8 => if x8 < x7 then (if 0 ≤ x8 then (if x8 < (x0.length : Int) then ((impl_ValidPuzzle_1.f (rd x0 x8)).bind fun t108 => (if t108 = true then (some x8) else (slices_IndexFunc_int16_int16_88.l0 k x0 x7 (wrap64 (x8 + 1))))) else (none)) else (none)) else (some (-1))
def slices_IndexFunc_int16_int16_88.f (k : Nat) (l0 : List Int)  : Option (Int) := slices_IndexFunc_int16_int16_88.l0 k l0 (l0.length : Int) 0
set_option maxHeartbeats 8000000 in
set_option maxRecDepth 100000 in
theorem slices_IndexFunc_int16_int16_88.calls (k : Nat) (A0 : Option Addr) (c0 : Nat) (l0 : List Int)  (r : Int) (w : World) (hr0 : Kd.C (Kd.int .i16) w A0 l0.length l0) (hc0 : l0.length ≤ c0) (h : slices_IndexFunc_int16_int16_88.f k l0 = some r) :
  Calls Try.prog 107 #[.slice A0 l0.length c0, .func (.func 88) #[] #[]] w fun e w' => e = .returned (.int .i64 r) ∧ zba w w' := by
 have HR0 := za.mk hr0
 have HC0 := za.mk hc0
 clear hr0 hc0
 have H : (slices_IndexFunc_int16_int16_88.l0 k l0 (l0.length : Int) 0) = some r := h
 clear h
 have H' := za.mk H
 clear H
 go_enter Try.func107, Try.ntmps107
 go_wp2
 go_loopg [8] k (fun kq v8 w' => ∃ (x8_1 : Int), v8 = .int .i64 x8_1 ∧ za (slices_IndexFunc_int16_int16_88.l0 kq l0 (l0.length : Int) x8_1 = some r) ∧ za (kq ≤ k) ∧ zba w w')
 case atStart => exact ⟨(0), (by first | rfl | (simp; done) | (simp [*]; done)), H', ⟨Nat.le_refl _⟩, by repeat (first | exact zba.refl _ | apply zba.step)⟩
 case round =>
  clear H'
  try clear c1
  try clear p2
  obtain ⟨x8_1, rfl, HA, HK1, ⟨m1, rfl⟩⟩ := hrel
  cases gk with
  | zero => exact absurd HA.out (by simp [slices_IndexFunc_int16_int16_88.l0])
  | succ k1 =>
   have H := HA.out
   clear HA
   simp only [slices_IndexFunc_int16_int16_88.l0] at H
   by_cases c3 : x8_1 < (l0.length : Int)
   ·rw [if_pos c3] at H
    have c3b0 : decide (x8_1 < (l0.length : Int)) = true := decide_eq_true c3
    clear c3
    by_cases c4 : 0 ≤ x8_1
    ·rw [if_pos c4] at H
     have c4b0 : decide (0 ≤ x8_1) = true := decide_eq_true c4
     clear c4
     by_cases c5 : x8_1 < (l0.length : Int)
     ·rw [if_pos c5] at H
      have c5b0 : decide (x8_1 < (l0.length : Int)) = true := decide_eq_true c5
      clear c5
      replace H := Option.bind_eq_some_iff.mp H
      obtain ⟨t108, A60, H⟩ := H
      replace H : (if t108 = true then (some x8_1) else (slices_IndexFunc_int16_int16_88.l0 k1 l0 (l0.length : Int) (wrap64 (x8_1 + 1)))) = some r := H
      have A6 := za.mk A60
      clear A60
      by_cases c7 : t108 = true
      ·subst c7
       have H1 : (some x8_1) = some r := by rw [if_pos rfl] at H; exact H
       clear H
       have H := H1
       clear H1
       obtain rfl := Option.some.inj H
       have p107 : 0 ≤ (x8_1 : Int) := of_decide_eq_true (by first | (with_reducible assumption) | assumption)
       have q107 : x8_1 < (l0.length : Int) := of_decide_eq_true (by first | (with_reducible assumption) | assumption)
       obtain ⟨ad107, e107, hx107_0⟩ := Kd.at_int HR0.out x8_1 p107 q107
       cases e107
       replace p107 := eq_true p107
       replace q107 := eq_true q107
       go_wp2_with (first | (go_at_call 88; (with_reducible refine (impl_ValidPuzzle_1.calls (rd l0 x8_1) true _ A6.out).mono ?_); rintro e w' ⟨rfl, ⟨nd, rfl⟩⟩))
       go_ret
       exact ⟨by first | rfl | (simp; done) | (simp [*]; done), by repeat (first | exact zba.refl _ | apply zba.step)⟩
      replace c7 := Bool.eq_false_iff.mpr c7
      subst c7
      have H1 : (slices_IndexFunc_int16_int16_88.l0 k1 l0 (l0.length : Int) (wrap64 (x8_1 + 1))) = some r := by rw [if_neg (show ¬ (false = true) by decide)] at H; exact H
      clear H
      have H := H1
      clear H1
      have H' := za.mk H
      clear H
      have p107 : 0 ≤ (x8_1 : Int) := of_decide_eq_true (by first | (with_reducible assumption) | assumption)
      have q107 : x8_1 < (l0.length : Int) := of_decide_eq_true (by first | (with_reducible assumption) | assumption)
      obtain ⟨ad107, e107, hx107_0⟩ := Kd.at_int HR0.out x8_1 p107 q107
      cases e107
      replace p107 := eq_true p107
      replace q107 := eq_true q107
      go_wp2_with (first | (go_at_call 88; (with_reducible refine (impl_ValidPuzzle_1.calls (rd l0 x8_1) false _ A6.out).mono ?_); rintro e w' ⟨rfl, ⟨nd, rfl⟩⟩))
      go_roundg k1
      case measure => have := HK1.out; omega
      case rel => exact ⟨(wrap64 (x8_1 + 1)), (by first | rfl | (simp; done) | (simp [*]; done)), H', ⟨by have := HK1.out; omega⟩, by repeat (first | exact zba.refl _ | apply zba.step)⟩
     rw [if_neg c5] at H
     exact absurd H (by simp)
    rw [if_neg c4] at H
    exact absurd H (by simp)
   rw [if_neg c3] at H
   have c3b0 : decide (x8_1 < (l0.length : Int)) = false := decide_eq_false c3
   clear c3
   obtain rfl := Option.some.inj H
   go_wp2
   go_ret
   exact ⟨by first | rfl | (simp; done) | (simp [*]; done), by repeat (first | exact zba.refl _ | apply zba.step)⟩

/-! ### slices_ContainsFunc_int16_int16_88: function 1087088 -/
def slices_ContainsFunc_int16_int16_88.f (k : Nat) (l0 : List Int)  : Option (Bool) := (slices_IndexFunc_int16_int16_88.f k l0).bind fun t109 => (some (decide (t109 ≥ 0)))
set_option maxHeartbeats 8000000 in
set_option maxRecDepth 100000 in
theorem slices_ContainsFunc_int16_int16_88.calls (k : Nat) (A0 : Option Addr) (c0 : Nat) (l0 : List Int)  (r : Bool) (w : World) (hr0 : Kd.C (Kd.int .i16) w A0 l0.length l0) (hc0 : l0.length ≤ c0) (h : slices_ContainsFunc_int16_int16_88.f k l0 = some r) :
  Calls Try.prog 87 #[.slice A0 l0.length c0, .func (.func 88) #[] #[]] w fun e w' => e = .returned (.bool r) ∧ zba w w' := by
 have HR0 := za.mk hr0
 have HC0 := za.mk hc0
 clear hr0 hc0
 have H : ((slices_IndexFunc_int16_int16_88.f k l0).bind fun t109 => (some (decide (t109 ≥ 0)))) = some r := h
 clear h
 replace H := Option.bind_eq_some_iff.mp H
 obtain ⟨t109, A30, H⟩ := H
 replace H : (some (decide (t109 ≥ 0))) = some r := H
 have A3 := za.mk A30
 clear A30
 obtain rfl := Option.some.inj H
 go_enter Try.func87, Try.ntmps87
 go_wp2_with (first | ((with_reducible refine zn (f := 107) rfl ?_); refine gz (some 7) Try.func107 #[.slice A0 l0.length c0, .func (.func 88) #[] #[]] rfl rfl ?_; (with_reducible refine (slices_IndexFunc_int16_int16_88.calls k _ _ l0  t109 _ ?side1 ?side2 A3.out).mono ?_); (case side1 => repeat (first | exact HR0.out | (with_reducible refine Kd.C_alloc ?_ _) | (with_reducible refine Kd.C_drewN ?_ _) | (with_reducible refine Kd.C_drew ?_))); (case side2 => exact HC0.out); rintro e w' ⟨rfl, ⟨nd, rfl⟩⟩; refine ⟨_, rfl, ?_⟩))
 go_ret
 exact ⟨by first | rfl | (simp; done) | (simp [*]; done), by repeat (first | exact zba.refl _ | apply zba.step)⟩

/-! ### impl_ValidPuzzle: function 52 -/
def impl_ValidPuzzle.f (k : Nat) (l0_0 : List Int) (a0_1 : Int) (a0_2 : Int) (a0_3 : Int) (a0_4 : Int) (a0_5 : Bool) : Option (Bool) := (impl_size_int16.f l0_0).bind fun t111 => ((impl_within.f t111 1 4).bind fun t112 => (if t112 = true then ((slices_ContainsFunc_int16_int16_88.f k l0_0).bind fun t113 => (if t113 = true then (some false) else ((impl_Puzzle_states.f k l0_0 a0_1 a0_2 a0_3 a0_4 a0_5).bind fun t114 => (if t114 ≤ 5000 then ((impl_Puzzle_holds.f k l0_0 a0_1 a0_2 a0_3 a0_4 a0_5 a0_1 a0_2 a0_3 a0_4).bind fun t115 => (some t115)) else (some false))))) else (some false)))
set_option maxHeartbeats 8000000 in
set_option maxRecDepth 100000 in
theorem impl_ValidPuzzle.calls (k : Nat) (A0_0 : Option Addr) (c0_0 : Nat) (l0_0 : List Int) (a0_1 : Int) (a0_2 : Int) (a0_3 : Int) (a0_4 : Int) (a0_5 : Bool) (r : Bool) (w : World) (hr0_0 : Kd.C (Kd.int .i16) w A0_0 l0_0.length l0_0) (hc0_0 : l0_0.length ≤ c0_0) (h : impl_ValidPuzzle.f k l0_0 a0_1 a0_2 a0_3 a0_4 a0_5 = some r) :
  Calls Try.prog 52 #[.agg #[.slice A0_0 l0_0.length c0_0, .int .i16 a0_1, .int .i16 a0_2, .int .i16 a0_3, .int .i16 a0_4, .bool a0_5]] w fun e w' => e = .returned (.bool r) ∧ Below w.heap.size w w' := by
 have hu29 := Try.underlying29
 have hu27 := Try.underlying27
 have HR0_0 := za.mk hr0_0
 have HC0_0 := za.mk hc0_0
 clear hr0_0 hc0_0
 have HB := za.mk (Below.refl w.heap.size w)
 have H : ((impl_size_int16.f l0_0).bind fun t111 => ((impl_within.f t111 1 4).bind fun t112 => (if t112 = true then ((slices_ContainsFunc_int16_int16_88.f k l0_0).bind fun t113 => (if t113 = true then (some false) else ((impl_Puzzle_states.f k l0_0 a0_1 a0_2 a0_3 a0_4 a0_5).bind fun t114 => (if t114 ≤ 5000 then ((impl_Puzzle_holds.f k l0_0 a0_1 a0_2 a0_3 a0_4 a0_5 a0_1 a0_2 a0_3 a0_4).bind fun t115 => (some t115)) else (some false))))) else (some false)))) = some r := h
 clear h
 replace H := Option.bind_eq_some_iff.mp H
 obtain ⟨t111, A20, H⟩ := H
 replace H : ((impl_within.f t111 1 4).bind fun t112 => (if t112 = true then ((slices_ContainsFunc_int16_int16_88.f k l0_0).bind fun t113 => (if t113 = true then (some false) else ((impl_Puzzle_states.f k l0_0 a0_1 a0_2 a0_3 a0_4 a0_5).bind fun t114 => (if t114 ≤ 5000 then ((impl_Puzzle_holds.f k l0_0 a0_1 a0_2 a0_3 a0_4 a0_5 a0_1 a0_2 a0_3 a0_4).bind fun t115 => (some t115)) else (some false))))) else (some false))) = some r := H
 have A2 := za.mk A20
 clear A20
 replace H := Option.bind_eq_some_iff.mp H
 obtain ⟨t112, A30, H⟩ := H
 replace H : (if t112 = true then ((slices_ContainsFunc_int16_int16_88.f k l0_0).bind fun t113 => (if t113 = true then (some false) else ((impl_Puzzle_states.f k l0_0 a0_1 a0_2 a0_3 a0_4 a0_5).bind fun t114 => (if t114 ≤ 5000 then ((impl_Puzzle_holds.f k l0_0 a0_1 a0_2 a0_3 a0_4 a0_5 a0_1 a0_2 a0_3 a0_4).bind fun t115 => (some t115)) else (some false))))) else (some false)) = some r := H
 have A3 := za.mk A30
 clear A30
 by_cases c4 : t112 = true
 ·subst c4
  have H1 : ((slices_ContainsFunc_int16_int16_88.f k l0_0).bind fun t113 => (if t113 = true then (some false) else ((impl_Puzzle_states.f k l0_0 a0_1 a0_2 a0_3 a0_4 a0_5).bind fun t114 => (if t114 ≤ 5000 then ((impl_Puzzle_holds.f k l0_0 a0_1 a0_2 a0_3 a0_4 a0_5 a0_1 a0_2 a0_3 a0_4).bind fun t115 => (some t115)) else (some false))))) = some r := by rw [if_pos rfl] at H; exact H
  clear H
  have H := H1
  clear H1
  replace H := Option.bind_eq_some_iff.mp H
  obtain ⟨t113, A50, H⟩ := H
  replace H : (if t113 = true then (some false) else ((impl_Puzzle_states.f k l0_0 a0_1 a0_2 a0_3 a0_4 a0_5).bind fun t114 => (if t114 ≤ 5000 then ((impl_Puzzle_holds.f k l0_0 a0_1 a0_2 a0_3 a0_4 a0_5 a0_1 a0_2 a0_3 a0_4).bind fun t115 => (some t115)) else (some false)))) = some r := H
  have A5 := za.mk A50
  clear A50
  by_cases c6 : t113 = true
  ·subst c6
   have H1 : (some false) = some r := by rw [if_pos rfl] at H; exact H
   clear H
   have H := H1
   clear H1
   obtain rfl := Option.some.inj H
   go_enter Try.func52, Try.ntmps52
   go_wp2_with (first | ((with_reducible refine zu (N := 1) rfl ?_); refine bx (N := 1) #[.slice A0_0 l0_0.length c0_0, .int .i16 a0_1, .int .i16 a0_2, .int .i16 a0_3, .int .i16 a0_4, .bool a0_5] 29 rfl ?_; intro gb110 hg w7 hbox hb; have BK110 := za.mk hbox; have GW110 := gB hg; have GE110 := GW110; replace HB := za.mk (zh sB hb); clear hb hbox hg; obtain ⟨hcz8_0, hcz8_1, hcz8_2, hcz8_3, hcz8_4, hcz8_5⟩ := xc6 BK110; obtain ⟨hfz8_0, hfz8_1, hfz8_2, hfz8_3, hfz8_4, hfz8_5⟩ := xf6 BK110) | ((with_reducible refine zn (f := 86) rfl ?_); refine gz (some 5) Try.func86 #[.slice A0_0 l0_0.length c0_0] rfl rfl ?_; (with_reducible refine (impl_size_int16.calls _ _ l0_0 t111 _ ?side1 ?side2 A2.out).mono ?_); (case side1 => exact uC HR0_0 HB); (case side2 => exact HC0_0.out); rintro e w' ⟨rfl, ⟨nd, rfl⟩⟩; refine ⟨_, rfl, ?_⟩) | ((with_reducible refine zn (f := 69) rfl ?_); refine gz (some 6) Try.func69 #[.int .i64 t111, .int .i64 1, .int .i64 4] rfl rfl ?_; (with_reducible refine (impl_within.calls t111 1 4 true _ A3.out).mono ?_); rintro e w' ⟨rfl, ⟨nd, rfl⟩⟩; refine ⟨_, rfl, ?_⟩) | (go_at_call 87; (with_reducible refine (slices_ContainsFunc_int16_int16_88.calls k _ _ l0_0  true _ ?side1 ?side2 A5.out).mono ?_); (case side1 => repeat (first | exact (Kd.C_below HR0_0.out sB) | (with_reducible refine Kd.C_alloc ?_ _) | (with_reducible refine Kd.C_drewN ?_ _) | (with_reducible refine Kd.C_drew ?_))); (case side2 => exact HC0_0.out); rintro e w' ⟨rfl, ⟨nd, rfl⟩⟩))
   go_ret
   exact ⟨by first | rfl | (simp [zj, zk] <;> rfl) | (simp [*, zj, zk] <;> rfl), sB⟩
  replace c6 := Bool.eq_false_iff.mpr c6
  subst c6
  have H1 : ((impl_Puzzle_states.f k l0_0 a0_1 a0_2 a0_3 a0_4 a0_5).bind fun t114 => (if t114 ≤ 5000 then ((impl_Puzzle_holds.f k l0_0 a0_1 a0_2 a0_3 a0_4 a0_5 a0_1 a0_2 a0_3 a0_4).bind fun t115 => (some t115)) else (some false))) = some r := by rw [if_neg (show ¬ (false = true) by decide)] at H; exact H
  clear H
  have H := H1
  clear H1
  replace H := Option.bind_eq_some_iff.mp H
  obtain ⟨t114, A90, H⟩ := H
  replace H : (if t114 ≤ 5000 then ((impl_Puzzle_holds.f k l0_0 a0_1 a0_2 a0_3 a0_4 a0_5 a0_1 a0_2 a0_3 a0_4).bind fun t115 => (some t115)) else (some false)) = some r := H
  have A9 := za.mk A90
  clear A90
  by_cases c10 : t114 ≤ 5000
  ·rw [if_pos c10] at H
   have c10b0 : decide (t114 ≤ 5000) = true := decide_eq_true c10
   clear c10
   replace H := Option.bind_eq_some_iff.mp H
   obtain ⟨t115, A110, H⟩ := H
   replace H : (some t115) = some r := H
   have A11 := za.mk A110
   clear A110
   obtain rfl := Option.some.inj H
   go_enter Try.func52, Try.ntmps52
   go_wp2_with (first | ((with_reducible refine zu (N := 1) rfl ?_); refine bx (N := 1) #[.slice A0_0 l0_0.length c0_0, .int .i16 a0_1, .int .i16 a0_2, .int .i16 a0_3, .int .i16 a0_4, .bool a0_5] 29 rfl ?_; intro gb110 hg w12 hbox hb; have BK110 := za.mk hbox; have GW110 := gB hg; have GE110 := GW110; replace HB := za.mk (zh sB hb); clear hb hbox hg; obtain ⟨hcz13_0, hcz13_1, hcz13_2, hcz13_3, hcz13_4, hcz13_5⟩ := xc6 BK110; obtain ⟨hfz13_0, hfz13_1, hfz13_2, hfz13_3, hfz13_4, hfz13_5⟩ := xf6 BK110) | ((with_reducible refine zn (f := 86) rfl ?_); refine gz (some 5) Try.func86 #[.slice A0_0 l0_0.length c0_0] rfl rfl ?_; (with_reducible refine (impl_size_int16.calls _ _ l0_0 t111 _ ?side1 ?side2 A2.out).mono ?_); (case side1 => exact uC HR0_0 HB); (case side2 => exact HC0_0.out); rintro e w' ⟨rfl, ⟨nd, rfl⟩⟩; refine ⟨_, rfl, ?_⟩) | ((with_reducible refine zn (f := 69) rfl ?_); refine gz (some 6) Try.func69 #[.int .i64 t111, .int .i64 1, .int .i64 4] rfl rfl ?_; (with_reducible refine (impl_within.calls t111 1 4 true _ A3.out).mono ?_); rintro e w' ⟨rfl, ⟨nd, rfl⟩⟩; refine ⟨_, rfl, ?_⟩) | (go_at_call 87; (with_reducible refine (slices_ContainsFunc_int16_int16_88.calls k _ _ l0_0  false _ ?side1 ?side2 A5.out).mono ?_); (case side1 => repeat (first | exact (Kd.C_below HR0_0.out sB) | (with_reducible refine Kd.C_alloc ?_ _) | (with_reducible refine Kd.C_drewN ?_ _) | (with_reducible refine Kd.C_drew ?_))); (case side2 => exact HC0_0.out); rintro e w' ⟨rfl, ⟨nd, rfl⟩⟩) | (go_at_call 54; (with_reducible refine (impl_Puzzle_states.calls k _ _ l0_0 a0_1 a0_2 a0_3 a0_4 a0_5 t114 _ ?side1 ?side2 A9.out).mono ?_); (case side1 => repeat (first | exact (Kd.C_below HR0_0.out sB) | (with_reducible refine Kd.C_alloc ?_ _) | (with_reducible refine Kd.C_drewN ?_ _) | (with_reducible refine Kd.C_drew ?_))); (case side2 => exact HC0_0.out); rintro e w14 ⟨rfl, hb⟩; replace BK110 := dK BK110 hb; replace HB := za.mk (zh sB hb); try clear hb; obtain ⟨hcz15_0, hcz15_1, hcz15_2, hcz15_3, hcz15_4, hcz15_5⟩ := xc6 BK110; obtain ⟨hfz15_0, hfz15_1, hfz15_2, hfz15_3, hfz15_4, hfz15_5⟩ := xf6 BK110) | (go_at_call 89; (with_reducible refine (impl_Puzzle_holds.calls k _ _ l0_0 a0_1 a0_2 a0_3 a0_4 a0_5 a0_1 a0_2 a0_3 a0_4 t115 _ ?side1 ?side2 A11.out).mono ?_); (case side1 => exact uC HR0_0 HB); (case side2 => exact HC0_0.out); rintro e w16 ⟨rfl, hb⟩; replace BK110 := dK BK110 hb; replace HB := za.mk (zh sB hb); try clear hb))
   go_ret
   exact ⟨by first | rfl | (simp [zj, zk] <;> rfl) | (simp [*, zj, zk] <;> rfl), sB⟩
  rw [if_neg c10] at H
  have c10b0 : decide (t114 ≤ 5000) = false := decide_eq_false c10
  clear c10
  obtain rfl := Option.some.inj H
  go_enter Try.func52, Try.ntmps52
  go_wp2_with (first | ((with_reducible refine zu (N := 1) rfl ?_); refine bx (N := 1) #[.slice A0_0 l0_0.length c0_0, .int .i16 a0_1, .int .i16 a0_2, .int .i16 a0_3, .int .i16 a0_4, .bool a0_5] 29 rfl ?_; intro gb110 hg w17 hbox hb; have BK110 := za.mk hbox; have GW110 := gB hg; have GE110 := GW110; replace HB := za.mk (zh sB hb); clear hb hbox hg; obtain ⟨hcz18_0, hcz18_1, hcz18_2, hcz18_3, hcz18_4, hcz18_5⟩ := xc6 BK110; obtain ⟨hfz18_0, hfz18_1, hfz18_2, hfz18_3, hfz18_4, hfz18_5⟩ := xf6 BK110) | ((with_reducible refine zn (f := 86) rfl ?_); refine gz (some 5) Try.func86 #[.slice A0_0 l0_0.length c0_0] rfl rfl ?_; (with_reducible refine (impl_size_int16.calls _ _ l0_0 t111 _ ?side1 ?side2 A2.out).mono ?_); (case side1 => exact uC HR0_0 HB); (case side2 => exact HC0_0.out); rintro e w' ⟨rfl, ⟨nd, rfl⟩⟩; refine ⟨_, rfl, ?_⟩) | ((with_reducible refine zn (f := 69) rfl ?_); refine gz (some 6) Try.func69 #[.int .i64 t111, .int .i64 1, .int .i64 4] rfl rfl ?_; (with_reducible refine (impl_within.calls t111 1 4 true _ A3.out).mono ?_); rintro e w' ⟨rfl, ⟨nd, rfl⟩⟩; refine ⟨_, rfl, ?_⟩) | (go_at_call 87; (with_reducible refine (slices_ContainsFunc_int16_int16_88.calls k _ _ l0_0  false _ ?side1 ?side2 A5.out).mono ?_); (case side1 => repeat (first | exact (Kd.C_below HR0_0.out sB) | (with_reducible refine Kd.C_alloc ?_ _) | (with_reducible refine Kd.C_drewN ?_ _) | (with_reducible refine Kd.C_drew ?_))); (case side2 => exact HC0_0.out); rintro e w' ⟨rfl, ⟨nd, rfl⟩⟩) | (go_at_call 54; (with_reducible refine (impl_Puzzle_states.calls k _ _ l0_0 a0_1 a0_2 a0_3 a0_4 a0_5 t114 _ ?side1 ?side2 A9.out).mono ?_); (case side1 => repeat (first | exact (Kd.C_below HR0_0.out sB) | (with_reducible refine Kd.C_alloc ?_ _) | (with_reducible refine Kd.C_drewN ?_ _) | (with_reducible refine Kd.C_drew ?_))); (case side2 => exact HC0_0.out); rintro e w19 ⟨rfl, hb⟩; replace BK110 := dK BK110 hb; replace HB := za.mk (zh sB hb); try clear hb))
  go_ret
  exact ⟨by first | rfl | (simp [zj, zk] <;> rfl) | (simp [*, zj, zk] <;> rfl), sB⟩
 replace c4 := Bool.eq_false_iff.mpr c4
 subst c4
 have H1 : (some false) = some r := by rw [if_neg (show ¬ (false = true) by decide)] at H; exact H
 clear H
 have H := H1
 clear H1
 obtain rfl := Option.some.inj H
 go_enter Try.func52, Try.ntmps52
 go_wp2_with (first | ((with_reducible refine zu (N := 1) rfl ?_); refine bx (N := 1) #[.slice A0_0 l0_0.length c0_0, .int .i16 a0_1, .int .i16 a0_2, .int .i16 a0_3, .int .i16 a0_4, .bool a0_5] 29 rfl ?_; intro gb110 hg w20 hbox hb; have BK110 := za.mk hbox; have GW110 := gB hg; have GE110 := GW110; replace HB := za.mk (zh sB hb); clear hb hbox hg; obtain ⟨hcz21_0, hcz21_1, hcz21_2, hcz21_3, hcz21_4, hcz21_5⟩ := xc6 BK110; obtain ⟨hfz21_0, hfz21_1, hfz21_2, hfz21_3, hfz21_4, hfz21_5⟩ := xf6 BK110) | ((with_reducible refine zn (f := 86) rfl ?_); refine gz (some 5) Try.func86 #[.slice A0_0 l0_0.length c0_0] rfl rfl ?_; (with_reducible refine (impl_size_int16.calls _ _ l0_0 t111 _ ?side1 ?side2 A2.out).mono ?_); (case side1 => exact uC HR0_0 HB); (case side2 => exact HC0_0.out); rintro e w' ⟨rfl, ⟨nd, rfl⟩⟩; refine ⟨_, rfl, ?_⟩) | ((with_reducible refine zn (f := 69) rfl ?_); refine gz (some 6) Try.func69 #[.int .i64 t111, .int .i64 1, .int .i64 4] rfl rfl ?_; (with_reducible refine (impl_within.calls t111 1 4 false _ A3.out).mono ?_); rintro e w' ⟨rfl, ⟨nd, rfl⟩⟩; refine ⟨_, rfl, ?_⟩))
 go_ret
 exact ⟨by first | rfl | (simp [zj, zk] <;> rfl) | (simp [*, zj, zk] <;> rfl), sB⟩

end Go.Proofs.Yteciomagemjjaaa.J
