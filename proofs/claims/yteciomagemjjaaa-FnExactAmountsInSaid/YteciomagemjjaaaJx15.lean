-- Written by wip/tools/myprint.py, a program of this session, by way of the kit's print.
import Derived.Test.YteciomagemjjaaaJx0
import Derived.Test.YteciomagemjjaaaJx14
import Derived.Test.YteciomagemjjaaaLPrJ
namespace Go.Proofs.Yteciomagemjjaaa.J
open Go.RowKit Go.Proofs.YteciomagemjjaaaW.PrintWords Go.Proofs.YteciomagemjjaaaW.PrintLast Go.Proofs.YteciomagemjjaaaW.PrintMore
attribute [local go_sem] zna zpa zua zva zia zja zqa zoa   -- for this text's walks alone
set_option linter.unusedVariables false
set_option linter.unusedSimpArgs false

/-! ### laws_eqInt16S: function 37 -/
def laws_eqInt16S.l0 : Nat → List Int → List Int → Int → Option (Bool)
 | 0, _, _, _ => none
 | k + 1, x0, x1, x5 => if x5 < (x0.length : Int) then (if 0 ≤ x5 then (if x5 < (x1.length : Int) then (if (rd x0 x5) = (rd x1 x5) then (laws_eqInt16S.l0 k x0 x1 (wrap64 (x5 + 1))) else (some false)) else (none)) else (none)) else (some true)
def laws_eqInt16S.f (k : Nat) (l0 : List Int) (l1 : List Int) : Option (Bool) := if (l0.length : Int) = (l1.length : Int) then (laws_eqInt16S.l0 k l0 l1 0) else (some false)
set_option maxHeartbeats 8000000 in
set_option maxRecDepth 100000 in
theorem laws_eqInt16S.calls (k : Nat) (A0 : Option Addr) (c0 : Nat) (l0 : List Int) (A1 : Option Addr) (c1 : Nat) (l1 : List Int) (r : Bool) (w : World) (hr0 : Kd.C (Kd.int .i16) w A0 l0.length l0) (hc0 : l0.length ≤ c0) (hr1 : Kd.C (Kd.int .i16) w A1 l1.length l1) (hc1 : l1.length ≤ c1) (h : laws_eqInt16S.f k l0 l1 = some r) :
  Calls Try.prog 37 #[.slice A0 l0.length c0, .slice A1 l1.length c1] w fun e w' => e = .returned (.bool r) ∧ zba w w' := by
 have HR0 := za.mk hr0
 have HC0 := za.mk hc0
 clear hr0 hc0
 have HR1 := za.mk hr1
 have HC1 := za.mk hc1
 clear hr1 hc1
 have H : (if (l0.length : Int) = (l1.length : Int) then (laws_eqInt16S.l0 k l0 l1 0) else (some false)) = some r := h
 clear h
 by_cases c3 : (l0.length : Int) = (l1.length : Int)
 ·rw [if_pos c3] at H
  have c3b0 : ((l0.length : Int) == (l1.length : Int)) = true := beq_iff_eq.mpr c3
  have c3b1 : ((l0.length : Int) != (l1.length : Int)) = false := bne_eq_false_iff_eq.mpr c3
  have c3b2 : (l0.length == l1.length) = true := by first | simpa using c3 | (simp at c3 ⊢; omega)
  clear c3
  have H' := za.mk H
  clear H
  go_enter Try.func37, Try.ntmps37
  go_wp2
  repeat (go_quiet (fail); try go_wp2)
  go_loopg [5] k (fun kq v5 w' => ∃ (x5_1 : Int), v5 = .int .i64 x5_1 ∧ za (laws_eqInt16S.l0 kq l0 l1 x5_1 = some r) ∧ za (kq ≤ k) ∧ zba w w')
  case atStart => exact ⟨(0), (by first | rfl | (simp; done) | (simp [*]; done)), H', ⟨Nat.le_refl _⟩, by repeat (first | exact zba.refl _ | apply zba.step)⟩
  case round =>
   clear H'
   try clear c1
   try clear p2
   try clear c3
   try clear c3b0
   try clear c3b1
   try clear c3b2
   obtain ⟨x5_1, rfl, HA, HK1, ⟨m1, rfl⟩⟩ := hrel
   cases gk with
   | zero => exact absurd HA.out (by simp [laws_eqInt16S.l0])
   | succ k1 =>
    have H := HA.out
    clear HA
    simp only [laws_eqInt16S.l0] at H
    by_cases c4 : x5_1 < (l0.length : Int)
    ·rw [if_pos c4] at H
     have c4b0 : decide (x5_1 < (l0.length : Int)) = true := decide_eq_true c4
     clear c4
     by_cases c5 : 0 ≤ x5_1
     ·rw [if_pos c5] at H
      have c5b0 : decide (0 ≤ x5_1) = true := decide_eq_true c5
      clear c5
      by_cases c6 : x5_1 < (l1.length : Int)
      ·rw [if_pos c6] at H
       have c6b0 : decide (x5_1 < (l1.length : Int)) = true := decide_eq_true c6
       clear c6
       by_cases c7 : (rd l0 x5_1) = (rd l1 x5_1)
       ·rw [if_pos c7] at H
        have c7b0 : ((rd l0 x5_1) == (rd l1 x5_1)) = true := beq_iff_eq.mpr c7
        have c7b1 : ((rd l0 x5_1) != (rd l1 x5_1)) = false := bne_eq_false_iff_eq.mpr c7
        clear c7
        have H' := za.mk H
        clear H
        have p247 : 0 ≤ (x5_1 : Int) := of_decide_eq_true (by first | (with_reducible assumption) | assumption)
        have q247 : x5_1 < (l0.length : Int) := of_decide_eq_true (by first | (with_reducible assumption) | assumption)
        obtain ⟨ad247, e247, hx247_0⟩ := Kd.at_int HR0.out x5_1 p247 q247
        cases e247
        replace p247 := eq_true p247
        replace q247 := eq_true q247
        have p248 : 0 ≤ (x5_1 : Int) := of_decide_eq_true (by first | (with_reducible assumption) | assumption)
        have q248 : x5_1 < (l1.length : Int) := of_decide_eq_true (by first | (with_reducible assumption) | assumption)
        obtain ⟨ad248, e248, hx248_0⟩ := Kd.at_int HR1.out x5_1 p248 q248
        cases e248
        replace p248 := eq_true p248
        replace q248 := eq_true q248
        go_wp2
        repeat (go_quiet (fail); try go_wp2)
        go_roundg k1
        case measure => have := HK1.out; omega
        case rel => exact ⟨(wrap64 (x5_1 + 1)), (by first | rfl | (simp; done) | (simp [*]; done)), H', ⟨by have := HK1.out; omega⟩, by repeat (first | exact zba.refl _ | apply zba.step)⟩
       rw [if_neg c7] at H
       have c7b0 : ((rd l0 x5_1) == (rd l1 x5_1)) = false := beq_eq_false_iff_ne.mpr c7
       have c7b1 : ((rd l0 x5_1) != (rd l1 x5_1)) = true := bne_iff_ne.mpr c7
       obtain rfl := Option.some.inj H
       have p247 : 0 ≤ (x5_1 : Int) := of_decide_eq_true (by first | (with_reducible assumption) | assumption)
       have q247 : x5_1 < (l0.length : Int) := of_decide_eq_true (by first | (with_reducible assumption) | assumption)
       obtain ⟨ad247, e247, hx247_0⟩ := Kd.at_int HR0.out x5_1 p247 q247
       cases e247
       replace p247 := eq_true p247
       replace q247 := eq_true q247
       have p248 : 0 ≤ (x5_1 : Int) := of_decide_eq_true (by first | (with_reducible assumption) | assumption)
       have q248 : x5_1 < (l1.length : Int) := of_decide_eq_true (by first | (with_reducible assumption) | assumption)
       obtain ⟨ad248, e248, hx248_0⟩ := Kd.at_int HR1.out x5_1 p248 q248
       cases e248
       replace p248 := eq_true p248
       replace q248 := eq_true q248
       go_wp2
       repeat (go_quiet (fail); try go_wp2)
       go_ret
       exact ⟨by first | rfl | (simp; done) | (simp [*]; done), by repeat (first | exact zba.refl _ | apply zba.step)⟩
      rw [if_neg c6] at H
      exact absurd H (by simp)
     rw [if_neg c5] at H
     exact absurd H (by simp)
    rw [if_neg c4] at H
    have c4b0 : decide (x5_1 < (l0.length : Int)) = false := decide_eq_false c4
    clear c4
    obtain rfl := Option.some.inj H
    go_wp2
    repeat (go_quiet (fail); try go_wp2)
    go_ret
    exact ⟨by first | rfl | (simp; done) | (simp [*]; done), by repeat (first | exact zba.refl _ | apply zba.step)⟩
 rw [if_neg c3] at H
 have c3b0 : ((l0.length : Int) == (l1.length : Int)) = false := beq_eq_false_iff_ne.mpr c3
 have c3b1 : ((l0.length : Int) != (l1.length : Int)) = true := bne_iff_ne.mpr c3
 have c3b2 : (l0.length == l1.length) = false := by first | simpa using c3 | (simp at c3 ⊢; omega)
 obtain rfl := Option.some.inj H
 go_enter Try.func37, Try.ntmps37
 go_wp2
 repeat (go_quiet (fail); try go_wp2)
 go_ret
 exact ⟨by first | rfl | (simp; done) | (simp [*]; done), by repeat (first | exact zba.refl _ | apply zba.step)⟩

/-! ### laws_eqPuzzle: function 35 -/
def laws_eqPuzzle.f (k : Nat) (l0_0 : List Int) (a0_1 : Int) (a0_2 : Int) (a0_3 : Int) (a0_4 : Int) (a0_5 : Bool) (l1_0 : List Int) (a1_1 : Int) (a1_2 : Int) (a1_3 : Int) (a1_4 : Int) (a1_5 : Bool) : Option (Bool) := (laws_eqInt16S.f k l0_0 l1_0).bind fun t251 => (if t251 = true then ((laws_eqWater.f k a0_1 a0_2 a0_3 a0_4 a1_1 a1_2 a1_3 a1_4).bind fun t252 => (if t252 = true then (if (a0_5 != a1_5) = true then (some false) else (some true)) else (some false))) else (some false))
set_option maxHeartbeats 8000000 in
set_option maxRecDepth 100000 in
theorem laws_eqPuzzle.calls (k : Nat) (A0_0 : Option Addr) (c0_0 : Nat) (l0_0 : List Int) (a0_1 : Int) (a0_2 : Int) (a0_3 : Int) (a0_4 : Int) (a0_5 : Bool) (A1_0 : Option Addr) (c1_0 : Nat) (l1_0 : List Int) (a1_1 : Int) (a1_2 : Int) (a1_3 : Int) (a1_4 : Int) (a1_5 : Bool) (r : Bool) (w : World) (hr0_0 : Kd.C (Kd.int .i16) w A0_0 l0_0.length l0_0) (hc0_0 : l0_0.length ≤ c0_0) (hr1_0 : Kd.C (Kd.int .i16) w A1_0 l1_0.length l1_0) (hc1_0 : l1_0.length ≤ c1_0) (h : laws_eqPuzzle.f k l0_0 a0_1 a0_2 a0_3 a0_4 a0_5 l1_0 a1_1 a1_2 a1_3 a1_4 a1_5 = some r) :
  Calls Try.prog 35 #[.agg #[.slice A0_0 l0_0.length c0_0, .int .i16 a0_1, .int .i16 a0_2, .int .i16 a0_3, .int .i16 a0_4, .bool a0_5], .agg #[.slice A1_0 l1_0.length c1_0, .int .i16 a1_1, .int .i16 a1_2, .int .i16 a1_3, .int .i16 a1_4, .bool a1_5]] w fun e w' => e = .returned (.bool r) ∧ Below w.heap.size w w' := by
 have hu29 := Try.underlying29
 have hu27 := Try.underlying27
 have HR0_0 := za.mk hr0_0
 have HC0_0 := za.mk hc0_0
 clear hr0_0 hc0_0
 have HR1_0 := za.mk hr1_0
 have HC1_0 := za.mk hc1_0
 clear hr1_0 hc1_0
 have HB := za.mk (Below.refl w.heap.size w)
 have H : ((laws_eqInt16S.f k l0_0 l1_0).bind fun t251 => (if t251 = true then ((laws_eqWater.f k a0_1 a0_2 a0_3 a0_4 a1_1 a1_2 a1_3 a1_4).bind fun t252 => (if t252 = true then (if (a0_5 != a1_5) = true then (some false) else (some true)) else (some false))) else (some false))) = some r := h
 clear h
 replace H := Option.bind_eq_some_iff.mp H
 obtain ⟨t251, A30, H⟩ := H
 replace H : (if t251 = true then ((laws_eqWater.f k a0_1 a0_2 a0_3 a0_4 a1_1 a1_2 a1_3 a1_4).bind fun t252 => (if t252 = true then (if (a0_5 != a1_5) = true then (some false) else (some true)) else (some false))) else (some false)) = some r := H
 have A3 := za.mk A30
 clear A30
 by_cases c4 : t251 = true
 ·subst c4
  have H1 : ((laws_eqWater.f k a0_1 a0_2 a0_3 a0_4 a1_1 a1_2 a1_3 a1_4).bind fun t252 => (if t252 = true then (if (a0_5 != a1_5) = true then (some false) else (some true)) else (some false))) = some r := by rw [if_pos rfl] at H; exact H
  clear H
  have H := H1
  clear H1
  replace H := Option.bind_eq_some_iff.mp H
  obtain ⟨t252, A50, H⟩ := H
  replace H : (if t252 = true then (if (a0_5 != a1_5) = true then (some false) else (some true)) else (some false)) = some r := H
  have A5 := za.mk A50
  clear A50
  by_cases c6 : t252 = true
  ·subst c6
   have H1 : (if (a0_5 != a1_5) = true then (some false) else (some true)) = some r := by rw [if_pos rfl] at H; exact H
   clear H
   have H := H1
   clear H1
   by_cases c7 : (a0_5 != a1_5) = true
   ·rw [if_pos c7] at H
    have c7b0 : (a0_5 != a1_5) = true := c7
    (try (have c7b1 : decide (a0_5 = a1_5) = false := by simpa using c7))
    (try (have c7b2 : (a0_5 == a1_5) = false := by simpa using c7))
    (try (have c7b3 : ¬ (a0_5 = a1_5) := by simpa using c7))
    clear c7
    obtain rfl := Option.some.inj H
    go_enter Try.func35, Try.ntmps35
    go_wp2_with (first | ((with_reducible refine zu (N := 2) rfl ?_); refine bx (N := 2) #[.slice A0_0 l0_0.length c0_0, .int .i16 a0_1, .int .i16 a0_2, .int .i16 a0_3, .int .i16 a0_4, .bool a0_5] 29 rfl ?_; intro gb249 hg w8 hbox hb; have BK249 := za.mk hbox; have GW249 := gB hg; have GE249 := GW249; replace HB := za.mk (zh sB hb); clear hb hbox hg) | ((with_reducible refine zu (N := 3) rfl ?_); refine bx (N := 3) #[.slice A1_0 l1_0.length c1_0, .int .i16 a1_1, .int .i16 a1_2, .int .i16 a1_3, .int .i16 a1_4, .bool a1_5] 29 rfl ?_; intro gb250 hg w9 hbox hb; have BK250 := za.mk hbox; have GW250 := gB hg; have GE250 := GW250; have NB249_250 := nK hg BK249; have NB250_249 := za.mk NB249_250.out.symm; replace BK249 := dK BK249 hb; replace HB := za.mk (zh sB hb); clear hb hbox hg; have hnb10 := NB249_250.out; have hnc10 := NB250_249.out; obtain ⟨hcz11_0, hcz11_1, hcz11_2, hcz11_3, hcz11_4, hcz11_5⟩ := xc6 BK249; obtain ⟨hfz11_0, hfz11_1, hfz11_2, hfz11_3, hfz11_4, hfz11_5⟩ := xf6 BK249; obtain ⟨hcz12_0, hcz12_1, hcz12_2, hcz12_3, hcz12_4, hcz12_5⟩ := xc6 BK250; obtain ⟨hfz12_0, hfz12_1, hfz12_2, hfz12_3, hfz12_4, hfz12_5⟩ := xf6 BK250) | ((with_reducible refine zn (f := 37) rfl ?_); refine gz (some 9) Try.func37 #[.slice A0_0 l0_0.length c0_0, .slice A1_0 l1_0.length c1_0] rfl rfl ?_; (with_reducible refine (laws_eqInt16S.calls k _ _ l0_0 _ _ l1_0 true _ ?side1 ?side2 ?side3 ?side4 A3.out).mono ?_); (case side1 => exact uC HR0_0 HB); (case side2 => exact HC0_0.out); (case side3 => exact uC HR1_0 HB); (case side4 => exact HC1_0.out); rintro e w' ⟨rfl, ⟨nd, rfl⟩⟩; refine ⟨_, rfl, ?_⟩) | ((with_reducible refine zn (f := 36) rfl ?_); refine gz (some 15) Try.func36 #[.agg #[.int .i16 a0_1, .int .i16 a0_2, .int .i16 a0_3, .int .i16 a0_4], .agg #[.int .i16 a1_1, .int .i16 a1_2, .int .i16 a1_3, .int .i16 a1_4]] rfl rfl ?_; (with_reducible refine (laws_eqWater.calls k a0_1 a0_2 a0_3 a0_4 a1_1 a1_2 a1_3 a1_4 true _ A5.out).mono ?_); rintro e w13 ⟨rfl, hb⟩; refine ⟨_, rfl, ?_⟩; replace BK249 := dK BK249 hb; replace BK250 := dK BK250 hb; replace HB := za.mk (zh sB hb); try clear hb; obtain ⟨hcz14_0, hcz14_1, hcz14_2, hcz14_3, hcz14_4, hcz14_5⟩ := xc6 BK249; obtain ⟨hfz14_0, hfz14_1, hfz14_2, hfz14_3, hfz14_4, hfz14_5⟩ := xf6 BK249; obtain ⟨hcz15_0, hcz15_1, hcz15_2, hcz15_3, hcz15_4, hcz15_5⟩ := xc6 BK250; obtain ⟨hfz15_0, hfz15_1, hfz15_2, hfz15_3, hfz15_4, hfz15_5⟩ := xf6 BK250))
    go_ret
    exact ⟨by first | rfl | (simp [zj, zk] <;> rfl) | (simp [*, zj, zk] <;> rfl), sB⟩
   rw [if_neg c7] at H
   have c7b0 : (a0_5 != a1_5) = false := by simpa using c7
   (try (have c7b1 : decide (a0_5 = a1_5) = true := by simpa using c7))
   (try (have c7b2 : (a0_5 == a1_5) = true := by simpa using c7))
   clear c7
   obtain rfl := Option.some.inj H
   go_enter Try.func35, Try.ntmps35
   go_wp2_with (first | ((with_reducible refine zu (N := 2) rfl ?_); refine bx (N := 2) #[.slice A0_0 l0_0.length c0_0, .int .i16 a0_1, .int .i16 a0_2, .int .i16 a0_3, .int .i16 a0_4, .bool a0_5] 29 rfl ?_; intro gb249 hg w16 hbox hb; have BK249 := za.mk hbox; have GW249 := gB hg; have GE249 := GW249; replace HB := za.mk (zh sB hb); clear hb hbox hg) | ((with_reducible refine zu (N := 3) rfl ?_); refine bx (N := 3) #[.slice A1_0 l1_0.length c1_0, .int .i16 a1_1, .int .i16 a1_2, .int .i16 a1_3, .int .i16 a1_4, .bool a1_5] 29 rfl ?_; intro gb250 hg w17 hbox hb; have BK250 := za.mk hbox; have GW250 := gB hg; have GE250 := GW250; have NB249_250 := nK hg BK249; have NB250_249 := za.mk NB249_250.out.symm; replace BK249 := dK BK249 hb; replace HB := za.mk (zh sB hb); clear hb hbox hg; have hnb18 := NB249_250.out; have hnc18 := NB250_249.out; obtain ⟨hcz19_0, hcz19_1, hcz19_2, hcz19_3, hcz19_4, hcz19_5⟩ := xc6 BK249; obtain ⟨hfz19_0, hfz19_1, hfz19_2, hfz19_3, hfz19_4, hfz19_5⟩ := xf6 BK249; obtain ⟨hcz20_0, hcz20_1, hcz20_2, hcz20_3, hcz20_4, hcz20_5⟩ := xc6 BK250; obtain ⟨hfz20_0, hfz20_1, hfz20_2, hfz20_3, hfz20_4, hfz20_5⟩ := xf6 BK250) | ((with_reducible refine zn (f := 37) rfl ?_); refine gz (some 9) Try.func37 #[.slice A0_0 l0_0.length c0_0, .slice A1_0 l1_0.length c1_0] rfl rfl ?_; (with_reducible refine (laws_eqInt16S.calls k _ _ l0_0 _ _ l1_0 true _ ?side1 ?side2 ?side3 ?side4 A3.out).mono ?_); (case side1 => exact uC HR0_0 HB); (case side2 => exact HC0_0.out); (case side3 => exact uC HR1_0 HB); (case side4 => exact HC1_0.out); rintro e w' ⟨rfl, ⟨nd, rfl⟩⟩; refine ⟨_, rfl, ?_⟩) | ((with_reducible refine zn (f := 36) rfl ?_); refine gz (some 15) Try.func36 #[.agg #[.int .i16 a0_1, .int .i16 a0_2, .int .i16 a0_3, .int .i16 a0_4], .agg #[.int .i16 a1_1, .int .i16 a1_2, .int .i16 a1_3, .int .i16 a1_4]] rfl rfl ?_; (with_reducible refine (laws_eqWater.calls k a0_1 a0_2 a0_3 a0_4 a1_1 a1_2 a1_3 a1_4 true _ A5.out).mono ?_); rintro e w21 ⟨rfl, hb⟩; refine ⟨_, rfl, ?_⟩; replace BK249 := dK BK249 hb; replace BK250 := dK BK250 hb; replace HB := za.mk (zh sB hb); try clear hb; obtain ⟨hcz22_0, hcz22_1, hcz22_2, hcz22_3, hcz22_4, hcz22_5⟩ := xc6 BK249; obtain ⟨hfz22_0, hfz22_1, hfz22_2, hfz22_3, hfz22_4, hfz22_5⟩ := xf6 BK249; obtain ⟨hcz23_0, hcz23_1, hcz23_2, hcz23_3, hcz23_4, hcz23_5⟩ := xc6 BK250; obtain ⟨hfz23_0, hfz23_1, hfz23_2, hfz23_3, hfz23_4, hfz23_5⟩ := xf6 BK250))
   go_ret
   exact ⟨by first | rfl | (simp [zj, zk] <;> rfl) | (simp [*, zj, zk] <;> rfl), sB⟩
  replace c6 := Bool.eq_false_iff.mpr c6
  subst c6
  have H1 : (some false) = some r := by rw [if_neg (show ¬ (false = true) by decide)] at H; exact H
  clear H
  have H := H1
  clear H1
  obtain rfl := Option.some.inj H
  go_enter Try.func35, Try.ntmps35
  go_wp2_with (first | ((with_reducible refine zu (N := 2) rfl ?_); refine bx (N := 2) #[.slice A0_0 l0_0.length c0_0, .int .i16 a0_1, .int .i16 a0_2, .int .i16 a0_3, .int .i16 a0_4, .bool a0_5] 29 rfl ?_; intro gb249 hg w24 hbox hb; have BK249 := za.mk hbox; have GW249 := gB hg; have GE249 := GW249; replace HB := za.mk (zh sB hb); clear hb hbox hg) | ((with_reducible refine zu (N := 3) rfl ?_); refine bx (N := 3) #[.slice A1_0 l1_0.length c1_0, .int .i16 a1_1, .int .i16 a1_2, .int .i16 a1_3, .int .i16 a1_4, .bool a1_5] 29 rfl ?_; intro gb250 hg w25 hbox hb; have BK250 := za.mk hbox; have GW250 := gB hg; have GE250 := GW250; have NB249_250 := nK hg BK249; have NB250_249 := za.mk NB249_250.out.symm; replace BK249 := dK BK249 hb; replace HB := za.mk (zh sB hb); clear hb hbox hg; have hnb26 := NB249_250.out; have hnc26 := NB250_249.out; obtain ⟨hcz27_0, hcz27_1, hcz27_2, hcz27_3, hcz27_4, hcz27_5⟩ := xc6 BK249; obtain ⟨hfz27_0, hfz27_1, hfz27_2, hfz27_3, hfz27_4, hfz27_5⟩ := xf6 BK249; obtain ⟨hcz28_0, hcz28_1, hcz28_2, hcz28_3, hcz28_4, hcz28_5⟩ := xc6 BK250; obtain ⟨hfz28_0, hfz28_1, hfz28_2, hfz28_3, hfz28_4, hfz28_5⟩ := xf6 BK250) | ((with_reducible refine zn (f := 37) rfl ?_); refine gz (some 9) Try.func37 #[.slice A0_0 l0_0.length c0_0, .slice A1_0 l1_0.length c1_0] rfl rfl ?_; (with_reducible refine (laws_eqInt16S.calls k _ _ l0_0 _ _ l1_0 true _ ?side1 ?side2 ?side3 ?side4 A3.out).mono ?_); (case side1 => exact uC HR0_0 HB); (case side2 => exact HC0_0.out); (case side3 => exact uC HR1_0 HB); (case side4 => exact HC1_0.out); rintro e w' ⟨rfl, ⟨nd, rfl⟩⟩; refine ⟨_, rfl, ?_⟩) | ((with_reducible refine zn (f := 36) rfl ?_); refine gz (some 15) Try.func36 #[.agg #[.int .i16 a0_1, .int .i16 a0_2, .int .i16 a0_3, .int .i16 a0_4], .agg #[.int .i16 a1_1, .int .i16 a1_2, .int .i16 a1_3, .int .i16 a1_4]] rfl rfl ?_; (with_reducible refine (laws_eqWater.calls k a0_1 a0_2 a0_3 a0_4 a1_1 a1_2 a1_3 a1_4 false _ A5.out).mono ?_); rintro e w29 ⟨rfl, hb⟩; refine ⟨_, rfl, ?_⟩; replace BK249 := dK BK249 hb; replace BK250 := dK BK250 hb; replace HB := za.mk (zh sB hb); try clear hb))
  go_ret
  exact ⟨by first | rfl | (simp [zj, zk] <;> rfl) | (simp [*, zj, zk] <;> rfl), sB⟩
 replace c4 := Bool.eq_false_iff.mpr c4
 subst c4
 have H1 : (some false) = some r := by rw [if_neg (show ¬ (false = true) by decide)] at H; exact H
 clear H
 have H := H1
 clear H1
 obtain rfl := Option.some.inj H
 go_enter Try.func35, Try.ntmps35
 go_wp2_with (first | ((with_reducible refine zu (N := 2) rfl ?_); refine bx (N := 2) #[.slice A0_0 l0_0.length c0_0, .int .i16 a0_1, .int .i16 a0_2, .int .i16 a0_3, .int .i16 a0_4, .bool a0_5] 29 rfl ?_; intro gb249 hg w30 hbox hb; have BK249 := za.mk hbox; have GW249 := gB hg; have GE249 := GW249; replace HB := za.mk (zh sB hb); clear hb hbox hg) | ((with_reducible refine zu (N := 3) rfl ?_); refine bx (N := 3) #[.slice A1_0 l1_0.length c1_0, .int .i16 a1_1, .int .i16 a1_2, .int .i16 a1_3, .int .i16 a1_4, .bool a1_5] 29 rfl ?_; intro gb250 hg w31 hbox hb; have BK250 := za.mk hbox; have GW250 := gB hg; have GE250 := GW250; have NB249_250 := nK hg BK249; have NB250_249 := za.mk NB249_250.out.symm; replace BK249 := dK BK249 hb; replace HB := za.mk (zh sB hb); clear hb hbox hg; have hnb32 := NB249_250.out; have hnc32 := NB250_249.out; obtain ⟨hcz33_0, hcz33_1, hcz33_2, hcz33_3, hcz33_4, hcz33_5⟩ := xc6 BK249; obtain ⟨hfz33_0, hfz33_1, hfz33_2, hfz33_3, hfz33_4, hfz33_5⟩ := xf6 BK249; obtain ⟨hcz34_0, hcz34_1, hcz34_2, hcz34_3, hcz34_4, hcz34_5⟩ := xc6 BK250; obtain ⟨hfz34_0, hfz34_1, hfz34_2, hfz34_3, hfz34_4, hfz34_5⟩ := xf6 BK250) | ((with_reducible refine zn (f := 37) rfl ?_); refine gz (some 9) Try.func37 #[.slice A0_0 l0_0.length c0_0, .slice A1_0 l1_0.length c1_0] rfl rfl ?_; (with_reducible refine (laws_eqInt16S.calls k _ _ l0_0 _ _ l1_0 false _ ?side1 ?side2 ?side3 ?side4 A3.out).mono ?_); (case side1 => exact uC HR0_0 HB); (case side2 => exact HC0_0.out); (case side3 => exact uC HR1_0 HB); (case side4 => exact HC1_0.out); rintro e w' ⟨rfl, ⟨nd, rfl⟩⟩; refine ⟨_, rfl, ?_⟩))
 go_ret
 exact ⟨by first | rfl | (simp [zj, zk] <;> rfl) | (simp [*, zj, zk] <;> rfl), sB⟩

end Go.Proofs.Yteciomagemjjaaa.J
