-- Written by wip/tools/myprint.py, a program of this session, by way of the kit's print.
import Derived.Test.YteciomagemjjaaaJx0
import Derived.Test.YteciomagemjjaaaJx14
namespace Go.Proofs.Yteciomagemjjaaa.J
open Go.RowKit Go.Proofs.YteciomagemjjaaaW.PrintWords Go.Proofs.YteciomagemjjaaaW.PrintLast Go.Proofs.YteciomagemjjaaaW.PrintMore
attribute [local go_sem] zma zna zxa zwa zia zja zoa zpa   -- for this text's walks alone
set_option linter.unusedVariables false
set_option linter.unusedSimpArgs false

/-! ### laws_eqInt16S: function 37 -/
def laws_eqInt16S.l0 : Nat → List Int → List Int → Int → Option (Bool)
 | 0, _, _, _ => none
 | k + 1, x0, x1, x5 => if x5 < (x0.length : Int) then (if 0 ≤ x5 then (if x5 < (x1.length : Int) then (if (rd x0 x5) = (rd x1 x5) then (laws_eqInt16S.l0 k x0 x1 (wrap64 (x5 + 1))) else (some false)) else (none)) else (none)) else (some true)
def laws_eqInt16S.f (k : Nat) (l0 : List Int) (l1 : List Int) : Option (Bool) := if (l0.length : Int) = (l1.length : Int) then (laws_eqInt16S.l0 k l0 l1 0) else (some false)
set_option maxHeartbeats 8000000 in
set_option maxRecDepth 100000 in
theorem laws_eqInt16S.calls (k : Nat) (A0 : Option Addr) (c0 : Nat) (l0 : List Int) (A1 : Option Addr) (c1 : Nat) (l1 : List Int) (r : Bool) (w : World) (hr0 : Kd.C (Kd.int .i16) w A0 l0.length l0) (hc0 : l0.length ≤ c0) (hr1 : Kd.C (Kd.int .i16) w A1 l1.length l1) (hc1 : l1.length ≤ c1) (h : laws_eqInt16S.f k l0 l1 = some r) :
  Calls Try.prog 37 #[.slice A0 l0.length c0, .slice A1 l1.length c1] w fun e w' => e = .returned (.bool r) ∧ zea w w' := by
 have HR0 := zb.mk hr0
 have HC0 := zb.mk hc0
 clear hr0 hc0
 have HR1 := zb.mk hr1
 have HC1 := zb.mk hc1
 clear hr1 hc1
 have H : (if (l0.length : Int) = (l1.length : Int) then (laws_eqInt16S.l0 k l0 l1 0) else (some false)) = some r := h
 clear h
 by_cases c3 : (l0.length : Int) = (l1.length : Int)
 ·rw [if_pos c3] at H
  have c3b0 : ((l0.length : Int) == (l1.length : Int)) = true := beq_iff_eq.mpr c3
  have c3b1 : ((l0.length : Int) != (l1.length : Int)) = false := bne_eq_false_iff_eq.mpr c3
  have c3b2 : (l0.length == l1.length) = true := by first | simpa using c3 | (simp at c3 ⊢; omega)
  clear c3
  have H' := zb.mk H
  clear H
  go_enter Try.func37, Try.ntmps37
  go_wp2
  repeat (go_quiet (fail); try go_wp2)
  go_loopg [5] k (fun kq v5 w' => ∃ (x5_1 : Int), v5 = .int .i64 x5_1 ∧ zb (laws_eqInt16S.l0 kq l0 l1 x5_1 = some r) ∧ zb (kq ≤ k) ∧ zea w w')
  case atStart => exact ⟨(0), (by first | rfl | (simp; done) | (simp [*]; done)), H', ⟨Nat.le_refl _⟩, by repeat (first | exact zea.refl _ | apply zea.step)⟩
  case round =>
   clear H'
   try clear c1
   try clear p2
   try clear c3
   try clear c3b0
   try clear c3b1
   try clear c3b2
   obtain ⟨x5_1, rfl, HA, HK1, ⟨m1, rfl⟩⟩ := hrel
   cases gk with
   | zero => exact absurd HA.out (by simp [laws_eqInt16S.l0])
   | succ k1 =>
    have H := HA.out
    clear HA
    simp only [laws_eqInt16S.l0] at H
    by_cases c4 : x5_1 < (l0.length : Int)
    ·rw [if_pos c4] at H
     have c4b0 : decide (x5_1 < (l0.length : Int)) = true := decide_eq_true c4
     clear c4
     by_cases c5 : 0 ≤ x5_1
     ·rw [if_pos c5] at H
      have c5b0 : decide (0 ≤ x5_1) = true := decide_eq_true c5
      clear c5
      by_cases c6 : x5_1 < (l1.length : Int)
      ·rw [if_pos c6] at H
       have c6b0 : decide (x5_1 < (l1.length : Int)) = true := decide_eq_true c6
       clear c6
       by_cases c7 : (rd l0 x5_1) = (rd l1 x5_1)
       ·rw [if_pos c7] at H
        have c7b0 : ((rd l0 x5_1) == (rd l1 x5_1)) = true := beq_iff_eq.mpr c7
        have c7b1 : ((rd l0 x5_1) != (rd l1 x5_1)) = false := bne_eq_false_iff_eq.mpr c7
        clear c7
        have H' := zb.mk H
        clear H
        have p247 : 0 ≤ (x5_1 : Int) := of_decide_eq_true (by first | (with_reducible assumption) | assumption)
        have q247 : x5_1 < (l0.length : Int) := of_decide_eq_true (by first | (with_reducible assumption) | assumption)
        obtain ⟨ad247, e247, hx247_0⟩ := Kd.at_int HR0.out x5_1 p247 q247
        cases e247
        replace p247 := eq_true p247
        replace q247 := eq_true q247
        have p248 : 0 ≤ (x5_1 : Int) := of_decide_eq_true (by first | (with_reducible assumption) | assumption)
        have q248 : x5_1 < (l1.length : Int) := of_decide_eq_true (by first | (with_reducible assumption) | assumption)
        obtain ⟨ad248, e248, hx248_0⟩ := Kd.at_int HR1.out x5_1 p248 q248
        cases e248
        replace p248 := eq_true p248
        replace q248 := eq_true q248
        go_wp2
        repeat (go_quiet (fail); try go_wp2)
        go_roundg k1
        case measure => have := HK1.out; omega
        case rel => exact ⟨(wrap64 (x5_1 + 1)), (by first | rfl | (simp; done) | (simp [*]; done)), H', ⟨by have := HK1.out; omega⟩, by repeat (first | exact zea.refl _ | apply zea.step)⟩
       rw [if_neg c7] at H
       have c7b0 : ((rd l0 x5_1) == (rd l1 x5_1)) = false := beq_eq_false_iff_ne.mpr c7
       have c7b1 : ((rd l0 x5_1) != (rd l1 x5_1)) = true := bne_iff_ne.mpr c7
       obtain rfl := Option.some.inj H
       have p247 : 0 ≤ (x5_1 : Int) := of_decide_eq_true (by first | (with_reducible assumption) | assumption)
       have q247 : x5_1 < (l0.length : Int) := of_decide_eq_true (by first | (with_reducible assumption) | assumption)
       obtain ⟨ad247, e247, hx247_0⟩ := Kd.at_int HR0.out x5_1 p247 q247
       cases e247
       replace p247 := eq_true p247
       replace q247 := eq_true q247
       have p248 : 0 ≤ (x5_1 : Int) := of_decide_eq_true (by first | (with_reducible assumption) | assumption)
       have q248 : x5_1 < (l1.length : Int) := of_decide_eq_true (by first | (with_reducible assumption) | assumption)
       obtain ⟨ad248, e248, hx248_0⟩ := Kd.at_int HR1.out x5_1 p248 q248
       cases e248
       replace p248 := eq_true p248
       replace q248 := eq_true q248
       go_wp2
       repeat (go_quiet (fail); try go_wp2)
       go_ret
       exact ⟨by first | rfl | (simp; done) | (simp [*]; done), by repeat (first | exact zea.refl _ | apply zea.step)⟩
      rw [if_neg c6] at H
      exact absurd H (by simp)
     rw [if_neg c5] at H
     exact absurd H (by simp)
    rw [if_neg c4] at H
    have c4b0 : decide (x5_1 < (l0.length : Int)) = false := decide_eq_false c4
    clear c4
    obtain rfl := Option.some.inj H
    go_wp2
    repeat (go_quiet (fail); try go_wp2)
    go_ret
    exact ⟨by first | rfl | (simp; done) | (simp [*]; done), by repeat (first | exact zea.refl _ | apply zea.step)⟩
 rw [if_neg c3] at H
 have c3b0 : ((l0.length : Int) == (l1.length : Int)) = false := beq_eq_false_iff_ne.mpr c3
 have c3b1 : ((l0.length : Int) != (l1.length : Int)) = true := bne_iff_ne.mpr c3
 have c3b2 : (l0.length == l1.length) = false := by first | simpa using c3 | (simp at c3 ⊢; omega)
 obtain rfl := Option.some.inj H
 go_enter Try.func37, Try.ntmps37
 go_wp2
 repeat (go_quiet (fail); try go_wp2)
 go_ret
 exact ⟨by first | rfl | (simp; done) | (simp [*]; done), by repeat (first | exact zea.refl _ | apply zea.step)⟩

/-! ### laws_eqPuzzle: function 35 -/
def laws_eqPuzzle.f (k : Nat) (l0_0 : List Int) (a0_1 : Int) (a0_2 : Int) (a0_3 : Int) (a0_4 : Int) (a0_5 : Bool) (l1_0 : List Int) (a1_1 : Int) (a1_2 : Int) (a1_3 : Int) (a1_4 : Int) (a1_5 : Bool) : Option (Bool) := (laws_eqInt16S.f k l0_0 l1_0).bind fun t251 => (if t251 = true then ((laws_eqWater.f k a0_1 a0_2 a0_3 a0_4 a1_1 a1_2 a1_3 a1_4).bind fun t252 => (if t252 = true then (if (a0_5 != a1_5) = true then (some false) else (some true)) else (some false))) else (some false))
set_option maxHeartbeats 8000000 in
set_option maxRecDepth 100000 in
theorem laws_eqPuzzle.calls (k : Nat) (A0_0 : Option Addr) (c0_0 : Nat) (l0_0 : List Int) (a0_1 : Int) (a0_2 : Int) (a0_3 : Int) (a0_4 : Int) (a0_5 : Bool) (A1_0 : Option Addr) (c1_0 : Nat) (l1_0 : List Int) (a1_1 : Int) (a1_2 : Int) (a1_3 : Int) (a1_4 : Int) (a1_5 : Bool) (r : Bool) (w : World) (hr0_0 : Kd.C (Kd.int .i16) w A0_0 l0_0.length l0_0) (hc0_0 : l0_0.length ≤ c0_0) (hr1_0 : Kd.C (Kd.int .i16) w A1_0 l1_0.length l1_0) (hc1_0 : l1_0.length ≤ c1_0) (h : laws_eqPuzzle.f k l0_0 a0_1 a0_2 a0_3 a0_4 a0_5 l1_0 a1_1 a1_2 a1_3 a1_4 a1_5 = some r) :
  Calls Try.prog 35 #[.agg #[.slice A0_0 l0_0.length c0_0, .int .i16 a0_1, .int .i16 a0_2, .int .i16 a0_3, .int .i16 a0_4, .bool a0_5], .agg #[.slice A1_0 l1_0.length c1_0, .int .i16 a1_1, .int .i16 a1_2, .int .i16 a1_3, .int .i16 a1_4, .bool a1_5]] w fun e w' => e = .returned (.bool r) ∧ Below w.heap.size w w' := by
 have hu29 := Try.underlying29
 have hu27 := Try.underlying27
 have HR0_0 := zb.mk hr0_0
 have HC0_0 := zb.mk hc0_0
 clear hr0_0 hc0_0
 have HR1_0 := zb.mk hr1_0
 have HC1_0 := zb.mk hc1_0
 clear hr1_0 hc1_0
 have HB := zb.mk (Below.refl w.heap.size w)
 have H : ((laws_eqInt16S.f k l0_0 l1_0).bind fun t251 => (if t251 = true then ((laws_eqWater.f k a0_1 a0_2 a0_3 a0_4 a1_1 a1_2 a1_3 a1_4).bind fun t252 => (if t252 = true then (if (a0_5 != a1_5) = true then (some false) else (some true)) else (some false))) else (some false))) = some r := h
 clear h
 replace H := Option.bind_eq_some_iff.mp H
 obtain ⟨t251, A30, H⟩ := H
 replace H : (if t251 = true then ((laws_eqWater.f k a0_1 a0_2 a0_3 a0_4 a1_1 a1_2 a1_3 a1_4).bind fun t252 => (if t252 = true then (if (a0_5 != a1_5) = true then (some false) else (some true)) else (some false))) else (some false)) = some r := H
 have A3 := zb.mk A30
 clear A30
 by_cases c4 : t251 = true
 ·subst c4
  have H1 : ((laws_eqWater.f k a0_1 a0_2 a0_3 a0_4 a1_1 a1_2 a1_3 a1_4).bind fun t252 => (if t252 = true then (if (a0_5 != a1_5) = true then (some false) else (some true)) else (some false))) = some r := by rw [if_pos rfl] at H; exact H
  clear H
  have H := H1
  clear H1
  replace H := Option.bind_eq_some_iff.mp H
  obtain ⟨t252, A50, H⟩ := H
  replace H : (if t252 = true then (if (a0_5 != a1_5) = true then (some false) else (some true)) else (some false)) = some r := H
  have A5 := zb.mk A50
  clear A50
  by_cases c6 : t252 = true
  ·subst c6
   have H1 : (if (a0_5 != a1_5) = true then (some false) else (some true)) = some r := by rw [if_pos rfl] at H; exact H
   clear H
   have H := H1
   clear H1
   by_cases c7 : (a0_5 != a1_5) = true
   ·rw [if_pos c7] at H
    have c7b0 : (a0_5 != a1_5) = true := c7
    (try (have c7b1 : decide (a0_5 = a1_5) = false := by simpa using c7))
    (try (have c7b2 : (a0_5 == a1_5) = false := by simpa using c7))
    (try (have c7b3 : ¬ (a0_5 = a1_5) := by simpa using c7))
    clear c7
    obtain rfl := Option.some.inj H
    go_enter Try.func35, Try.ntmps35
    go_wp2_with (first | ((with_reducible refine zy (N := 2) rfl ?_); refine zca ?hg (N := 2) ?hd (cs := #[.slice A0_0 l0_0.length c0_0, .int .i16 a0_1, .int .i16 a0_2, .int .i16 a0_3, .int .i16 a0_4, .bool a0_5]) (t := 29) ?hr ?_; (case hd => rfl); (case hg => rfl); (case hr => first | (go_simp; done) | (go_simp; rfl)); intro gb249 hg w8 hbox hb; have n0_ := zb.mk (zm (by repeat (first | (with_reducible first | exact HB.out | apply zj | apply zf | apply zi) | exact HB.out)) hb); have n1_ := zb.mk (hbox); have n2_ := zb.mk ((by rw [hg]; exact (zq (by repeat (first | (with_reducible first | exact HB.out | apply zj | apply zf | apply zi) | exact HB.out))) : w.heap.size ≤ gb249)); have n3_ := n2_; clear HB; have HB := n0_; have BK249 := n1_; have GW249 := n2_; have GE249 := n3_; clear n0_ n1_ n2_ n3_; clear hb hbox hg) | ((with_reducible refine zy (N := 3) rfl ?_); refine zca ?hg (N := 3) ?hd (cs := #[.slice A1_0 l1_0.length c1_0, .int .i16 a1_1, .int .i16 a1_2, .int .i16 a1_3, .int .i16 a1_4, .bool a1_5]) (t := 29) ?hr ?_; (case hd => rfl); (case hg => rfl); (case hr => first | (go_simp; done) | (go_simp; rfl)); intro gb250 hg w9 hbox hb; have n0_ := zb.mk (zr (by (with_reducible repeat (first | refine zg ?_ _ | refine zh ?_ | refine ze ?_ _)); exact BK249.out) hb); have n1_ := zb.mk (zm (by repeat (first | (with_reducible first | exact HB.out | apply zj | apply zf | apply zi | refine zk ?_ GE249.out) | exact HB.out)) hb); have n2_ := zb.mk (hbox); have n3_ := zb.mk ((by rw [hg]; exact (zq (by repeat (first | (with_reducible first | exact HB.out | apply zj | apply zf | apply zi | refine zk ?_ GE249.out) | exact HB.out))) : w.heap.size ≤ gb250)); have n4_ := n3_; have n5_ := zb.mk ((by rw [hg]; exact Nat.ne_of_lt (zha (by (with_reducible repeat (first | refine zg ?_ _ | refine zh ?_ | refine ze ?_ _)); exact BK249.out)) : gb249 ≠ gb250)); have n6_ := zb.mk n5_.out.symm; clear BK249; clear HB; have BK249 := n0_; have HB := n1_; have BK250 := n2_; have GW250 := n3_; have GE250 := n4_; have NB249_250 := n5_; have NB250_249 := n6_; clear n0_ n1_ n2_ n3_ n4_ n5_ n6_; clear hb hbox hg; have hnb10 := NB249_250.out; have hnc10 := NB250_249.out; have hcz11_0 : w9.cell? ⟨gb249, 0, none⟩ = some (.slice A0_0 l0_0.length c0_0) := (za BK249.out 0).trans rfl; have hcz11_1 : w9.cell? ⟨gb249, 1, none⟩ = some (.int .i16 a0_1) := (za BK249.out 1).trans rfl; have hcz11_2 : w9.cell? ⟨gb249, 2, none⟩ = some (.int .i16 a0_2) := (za BK249.out 2).trans rfl; have hcz11_3 : w9.cell? ⟨gb249, 3, none⟩ = some (.int .i16 a0_3) := (za BK249.out 3).trans rfl; have hcz11_4 : w9.cell? ⟨gb249, 4, none⟩ = some (.int .i16 a0_4) := (za BK249.out 4).trans rfl; have hcz11_5 : w9.cell? ⟨gb249, 5, none⟩ = some (.bool a0_5) := (za BK249.out 5).trans rfl; have hfz11_0 := zc BK249.out 0; have hfz11_1 := zc BK249.out 1; have hfz11_2 := zc BK249.out 2; have hfz11_3 := zc BK249.out 3; have hfz11_4 := zc BK249.out 4; have hfz11_5 := zc BK249.out 5; have hcz12_0 : w9.cell? ⟨gb250, 0, none⟩ = some (.slice A1_0 l1_0.length c1_0) := (za BK250.out 0).trans rfl; have hcz12_1 : w9.cell? ⟨gb250, 1, none⟩ = some (.int .i16 a1_1) := (za BK250.out 1).trans rfl; have hcz12_2 : w9.cell? ⟨gb250, 2, none⟩ = some (.int .i16 a1_2) := (za BK250.out 2).trans rfl; have hcz12_3 : w9.cell? ⟨gb250, 3, none⟩ = some (.int .i16 a1_3) := (za BK250.out 3).trans rfl; have hcz12_4 : w9.cell? ⟨gb250, 4, none⟩ = some (.int .i16 a1_4) := (za BK250.out 4).trans rfl; have hcz12_5 : w9.cell? ⟨gb250, 5, none⟩ = some (.bool a1_5) := (za BK250.out 5).trans rfl; have hfz12_0 := zc BK250.out 0; have hfz12_1 := zc BK250.out 1; have hfz12_2 := zc BK250.out 2; have hfz12_3 := zc BK250.out 3; have hfz12_4 := zc BK250.out 4; have hfz12_5 := zc BK250.out 5) | ((with_reducible refine zt (f := 37) rfl ?_); refine zua (some 9) rfl rfl Try.func37 (by kernel_rfl) rfl #[.slice A0_0 l0_0.length c0_0, .slice A1_0 l1_0.length c1_0] rfl (by (try simp only [List.map_toArray, List.map_cons, List.map_nil]); first | done | rfl | (simp only [List.length_drop, List.length_take]; rfl)) ?_; (with_reducible refine (laws_eqInt16S.calls k _ _ l0_0 _ _ l1_0 true _ ?side1 ?side2 ?side3 ?side4 A3.out).mono ?_); (case side1 => repeat (first | exact (Kd.C_below HR0_0.out HB.out) | (with_reducible refine Kd.C_alloc ?_ _) | (with_reducible refine Kd.C_drewN ?_ _) | (with_reducible refine Kd.C_drew ?_))); (case side2 => exact HC0_0.out); (case side3 => repeat (first | exact (Kd.C_below HR1_0.out HB.out) | (with_reducible refine Kd.C_alloc ?_ _) | (with_reducible refine Kd.C_drewN ?_ _) | (with_reducible refine Kd.C_drew ?_))); (case side4 => exact HC1_0.out); rintro e w' ⟨rfl, ⟨nd, rfl⟩⟩; refine ⟨_, rfl, ?_⟩) | ((with_reducible refine zt (f := 36) rfl ?_); refine zua (some 15) rfl rfl Try.func36 (by kernel_rfl) rfl #[.agg #[.int .i16 a0_1, .int .i16 a0_2, .int .i16 a0_3, .int .i16 a0_4], .agg #[.int .i16 a1_1, .int .i16 a1_2, .int .i16 a1_3, .int .i16 a1_4]] rfl (by (try simp only [List.map_toArray, List.map_cons, List.map_nil]); first | done | rfl | (simp only [List.length_drop, List.length_take]; rfl)) ?_; (with_reducible refine (laws_eqWater.calls k a0_1 a0_2 a0_3 a0_4 a1_1 a1_2 a1_3 a1_4 true _ A5.out).mono ?_); rintro e w13 ⟨rfl, hb⟩; refine ⟨_, rfl, ?_⟩; have n0_ := zb.mk (zr (by (with_reducible repeat (first | refine zg ?_ _ | refine zh ?_ | refine ze ?_ _)); exact BK249.out) hb); have n1_ := zb.mk (zr (by (with_reducible repeat (first | refine zg ?_ _ | refine zh ?_ | refine ze ?_ _)); exact BK250.out) hb); have n2_ := zb.mk (zm (by repeat (first | (with_reducible first | exact HB.out | apply zj | apply zf | apply zi | refine zk ?_ GE249.out | refine zk ?_ GE250.out) | exact HB.out)) hb); clear BK249; clear BK250; clear HB; have BK249 := n0_; have BK250 := n1_; have HB := n2_; clear n0_ n1_ n2_; (try clear hb); (try clear hb2); (try clear hk); (try clear hi); have hcz14_0 : w13.cell? ⟨gb249, 0, none⟩ = some (.slice A0_0 l0_0.length c0_0) := (za BK249.out 0).trans rfl; have hcz14_1 : w13.cell? ⟨gb249, 1, none⟩ = some (.int .i16 a0_1) := (za BK249.out 1).trans rfl; have hcz14_2 : w13.cell? ⟨gb249, 2, none⟩ = some (.int .i16 a0_2) := (za BK249.out 2).trans rfl; have hcz14_3 : w13.cell? ⟨gb249, 3, none⟩ = some (.int .i16 a0_3) := (za BK249.out 3).trans rfl; have hcz14_4 : w13.cell? ⟨gb249, 4, none⟩ = some (.int .i16 a0_4) := (za BK249.out 4).trans rfl; have hcz14_5 : w13.cell? ⟨gb249, 5, none⟩ = some (.bool a0_5) := (za BK249.out 5).trans rfl; have hfz14_0 := zc BK249.out 0; have hfz14_1 := zc BK249.out 1; have hfz14_2 := zc BK249.out 2; have hfz14_3 := zc BK249.out 3; have hfz14_4 := zc BK249.out 4; have hfz14_5 := zc BK249.out 5; have hcz15_0 : w13.cell? ⟨gb250, 0, none⟩ = some (.slice A1_0 l1_0.length c1_0) := (za BK250.out 0).trans rfl; have hcz15_1 : w13.cell? ⟨gb250, 1, none⟩ = some (.int .i16 a1_1) := (za BK250.out 1).trans rfl; have hcz15_2 : w13.cell? ⟨gb250, 2, none⟩ = some (.int .i16 a1_2) := (za BK250.out 2).trans rfl; have hcz15_3 : w13.cell? ⟨gb250, 3, none⟩ = some (.int .i16 a1_3) := (za BK250.out 3).trans rfl; have hcz15_4 : w13.cell? ⟨gb250, 4, none⟩ = some (.int .i16 a1_4) := (za BK250.out 4).trans rfl; have hcz15_5 : w13.cell? ⟨gb250, 5, none⟩ = some (.bool a1_5) := (za BK250.out 5).trans rfl; have hfz15_0 := zc BK250.out 0; have hfz15_1 := zc BK250.out 1; have hfz15_2 := zc BK250.out 2; have hfz15_3 := zc BK250.out 3; have hfz15_4 := zc BK250.out 4; have hfz15_5 := zc BK250.out 5))
    go_ret
    exact ⟨by first | rfl | (simp [zn, zo] <;> rfl) | (simp [*, zn, zo] <;> rfl), by repeat (first | (with_reducible first | exact HB.out | apply zj | apply zf | apply zi | refine zk ?_ GE249.out | refine zk ?_ GE250.out) | exact HB.out)⟩
   rw [if_neg c7] at H
   have c7b0 : (a0_5 != a1_5) = false := by simpa using c7
   (try (have c7b1 : decide (a0_5 = a1_5) = true := by simpa using c7))
   (try (have c7b2 : (a0_5 == a1_5) = true := by simpa using c7))
   clear c7
   obtain rfl := Option.some.inj H
   go_enter Try.func35, Try.ntmps35
   go_wp2_with (first | ((with_reducible refine zy (N := 2) rfl ?_); refine zca ?hg (N := 2) ?hd (cs := #[.slice A0_0 l0_0.length c0_0, .int .i16 a0_1, .int .i16 a0_2, .int .i16 a0_3, .int .i16 a0_4, .bool a0_5]) (t := 29) ?hr ?_; (case hd => rfl); (case hg => rfl); (case hr => first | (go_simp; done) | (go_simp; rfl)); intro gb249 hg w16 hbox hb; have n0_ := zb.mk (zm (by repeat (first | (with_reducible first | exact HB.out | apply zj | apply zf | apply zi) | exact HB.out)) hb); have n1_ := zb.mk (hbox); have n2_ := zb.mk ((by rw [hg]; exact (zq (by repeat (first | (with_reducible first | exact HB.out | apply zj | apply zf | apply zi) | exact HB.out))) : w.heap.size ≤ gb249)); have n3_ := n2_; clear HB; have HB := n0_; have BK249 := n1_; have GW249 := n2_; have GE249 := n3_; clear n0_ n1_ n2_ n3_; clear hb hbox hg) | ((with_reducible refine zy (N := 3) rfl ?_); refine zca ?hg (N := 3) ?hd (cs := #[.slice A1_0 l1_0.length c1_0, .int .i16 a1_1, .int .i16 a1_2, .int .i16 a1_3, .int .i16 a1_4, .bool a1_5]) (t := 29) ?hr ?_; (case hd => rfl); (case hg => rfl); (case hr => first | (go_simp; done) | (go_simp; rfl)); intro gb250 hg w17 hbox hb; have n0_ := zb.mk (zr (by (with_reducible repeat (first | refine zg ?_ _ | refine zh ?_ | refine ze ?_ _)); exact BK249.out) hb); have n1_ := zb.mk (zm (by repeat (first | (with_reducible first | exact HB.out | apply zj | apply zf | apply zi | refine zk ?_ GE249.out) | exact HB.out)) hb); have n2_ := zb.mk (hbox); have n3_ := zb.mk ((by rw [hg]; exact (zq (by repeat (first | (with_reducible first | exact HB.out | apply zj | apply zf | apply zi | refine zk ?_ GE249.out) | exact HB.out))) : w.heap.size ≤ gb250)); have n4_ := n3_; have n5_ := zb.mk ((by rw [hg]; exact Nat.ne_of_lt (zha (by (with_reducible repeat (first | refine zg ?_ _ | refine zh ?_ | refine ze ?_ _)); exact BK249.out)) : gb249 ≠ gb250)); have n6_ := zb.mk n5_.out.symm; clear BK249; clear HB; have BK249 := n0_; have HB := n1_; have BK250 := n2_; have GW250 := n3_; have GE250 := n4_; have NB249_250 := n5_; have NB250_249 := n6_; clear n0_ n1_ n2_ n3_ n4_ n5_ n6_; clear hb hbox hg; have hnb18 := NB249_250.out; have hnc18 := NB250_249.out; have hcz19_0 : w17.cell? ⟨gb249, 0, none⟩ = some (.slice A0_0 l0_0.length c0_0) := (za BK249.out 0).trans rfl; have hcz19_1 : w17.cell? ⟨gb249, 1, none⟩ = some (.int .i16 a0_1) := (za BK249.out 1).trans rfl; have hcz19_2 : w17.cell? ⟨gb249, 2, none⟩ = some (.int .i16 a0_2) := (za BK249.out 2).trans rfl; have hcz19_3 : w17.cell? ⟨gb249, 3, none⟩ = some (.int .i16 a0_3) := (za BK249.out 3).trans rfl; have hcz19_4 : w17.cell? ⟨gb249, 4, none⟩ = some (.int .i16 a0_4) := (za BK249.out 4).trans rfl; have hcz19_5 : w17.cell? ⟨gb249, 5, none⟩ = some (.bool a0_5) := (za BK249.out 5).trans rfl; have hfz19_0 := zc BK249.out 0; have hfz19_1 := zc BK249.out 1; have hfz19_2 := zc BK249.out 2; have hfz19_3 := zc BK249.out 3; have hfz19_4 := zc BK249.out 4; have hfz19_5 := zc BK249.out 5; have hcz20_0 : w17.cell? ⟨gb250, 0, none⟩ = some (.slice A1_0 l1_0.length c1_0) := (za BK250.out 0).trans rfl; have hcz20_1 : w17.cell? ⟨gb250, 1, none⟩ = some (.int .i16 a1_1) := (za BK250.out 1).trans rfl; have hcz20_2 : w17.cell? ⟨gb250, 2, none⟩ = some (.int .i16 a1_2) := (za BK250.out 2).trans rfl; have hcz20_3 : w17.cell? ⟨gb250, 3, none⟩ = some (.int .i16 a1_3) := (za BK250.out 3).trans rfl; have hcz20_4 : w17.cell? ⟨gb250, 4, none⟩ = some (.int .i16 a1_4) := (za BK250.out 4).trans rfl; have hcz20_5 : w17.cell? ⟨gb250, 5, none⟩ = some (.bool a1_5) := (za BK250.out 5).trans rfl; have hfz20_0 := zc BK250.out 0; have hfz20_1 := zc BK250.out 1; have hfz20_2 := zc BK250.out 2; have hfz20_3 := zc BK250.out 3; have hfz20_4 := zc BK250.out 4; have hfz20_5 := zc BK250.out 5) | ((with_reducible refine zt (f := 37) rfl ?_); refine zua (some 9) rfl rfl Try.func37 (by kernel_rfl) rfl #[.slice A0_0 l0_0.length c0_0, .slice A1_0 l1_0.length c1_0] rfl (by (try simp only [List.map_toArray, List.map_cons, List.map_nil]); first | done | rfl | (simp only [List.length_drop, List.length_take]; rfl)) ?_; (with_reducible refine (laws_eqInt16S.calls k _ _ l0_0 _ _ l1_0 true _ ?side1 ?side2 ?side3 ?side4 A3.out).mono ?_); (case side1 => repeat (first | exact (Kd.C_below HR0_0.out HB.out) | (with_reducible refine Kd.C_alloc ?_ _) | (with_reducible refine Kd.C_drewN ?_ _) | (with_reducible refine Kd.C_drew ?_))); (case side2 => exact HC0_0.out); (case side3 => repeat (first | exact (Kd.C_below HR1_0.out HB.out) | (with_reducible refine Kd.C_alloc ?_ _) | (with_reducible refine Kd.C_drewN ?_ _) | (with_reducible refine Kd.C_drew ?_))); (case side4 => exact HC1_0.out); rintro e w' ⟨rfl, ⟨nd, rfl⟩⟩; refine ⟨_, rfl, ?_⟩) | ((with_reducible refine zt (f := 36) rfl ?_); refine zua (some 15) rfl rfl Try.func36 (by kernel_rfl) rfl #[.agg #[.int .i16 a0_1, .int .i16 a0_2, .int .i16 a0_3, .int .i16 a0_4], .agg #[.int .i16 a1_1, .int .i16 a1_2, .int .i16 a1_3, .int .i16 a1_4]] rfl (by (try simp only [List.map_toArray, List.map_cons, List.map_nil]); first | done | rfl | (simp only [List.length_drop, List.length_take]; rfl)) ?_; (with_reducible refine (laws_eqWater.calls k a0_1 a0_2 a0_3 a0_4 a1_1 a1_2 a1_3 a1_4 true _ A5.out).mono ?_); rintro e w21 ⟨rfl, hb⟩; refine ⟨_, rfl, ?_⟩; have n0_ := zb.mk (zr (by (with_reducible repeat (first | refine zg ?_ _ | refine zh ?_ | refine ze ?_ _)); exact BK249.out) hb); have n1_ := zb.mk (zr (by (with_reducible repeat (first | refine zg ?_ _ | refine zh ?_ | refine ze ?_ _)); exact BK250.out) hb); have n2_ := zb.mk (zm (by repeat (first | (with_reducible first | exact HB.out | apply zj | apply zf | apply zi | refine zk ?_ GE249.out | refine zk ?_ GE250.out) | exact HB.out)) hb); clear BK249; clear BK250; clear HB; have BK249 := n0_; have BK250 := n1_; have HB := n2_; clear n0_ n1_ n2_; (try clear hb); (try clear hb2); (try clear hk); (try clear hi); have hcz22_0 : w21.cell? ⟨gb249, 0, none⟩ = some (.slice A0_0 l0_0.length c0_0) := (za BK249.out 0).trans rfl; have hcz22_1 : w21.cell? ⟨gb249, 1, none⟩ = some (.int .i16 a0_1) := (za BK249.out 1).trans rfl; have hcz22_2 : w21.cell? ⟨gb249, 2, none⟩ = some (.int .i16 a0_2) := (za BK249.out 2).trans rfl; have hcz22_3 : w21.cell? ⟨gb249, 3, none⟩ = some (.int .i16 a0_3) := (za BK249.out 3).trans rfl; have hcz22_4 : w21.cell? ⟨gb249, 4, none⟩ = some (.int .i16 a0_4) := (za BK249.out 4).trans rfl; have hcz22_5 : w21.cell? ⟨gb249, 5, none⟩ = some (.bool a0_5) := (za BK249.out 5).trans rfl; have hfz22_0 := zc BK249.out 0; have hfz22_1 := zc BK249.out 1; have hfz22_2 := zc BK249.out 2; have hfz22_3 := zc BK249.out 3; have hfz22_4 := zc BK249.out 4; have hfz22_5 := zc BK249.out 5; have hcz23_0 : w21.cell? ⟨gb250, 0, none⟩ = some (.slice A1_0 l1_0.length c1_0) := (za BK250.out 0).trans rfl; have hcz23_1 : w21.cell? ⟨gb250, 1, none⟩ = some (.int .i16 a1_1) := (za BK250.out 1).trans rfl; have hcz23_2 : w21.cell? ⟨gb250, 2, none⟩ = some (.int .i16 a1_2) := (za BK250.out 2).trans rfl; have hcz23_3 : w21.cell? ⟨gb250, 3, none⟩ = some (.int .i16 a1_3) := (za BK250.out 3).trans rfl; have hcz23_4 : w21.cell? ⟨gb250, 4, none⟩ = some (.int .i16 a1_4) := (za BK250.out 4).trans rfl; have hcz23_5 : w21.cell? ⟨gb250, 5, none⟩ = some (.bool a1_5) := (za BK250.out 5).trans rfl; have hfz23_0 := zc BK250.out 0; have hfz23_1 := zc BK250.out 1; have hfz23_2 := zc BK250.out 2; have hfz23_3 := zc BK250.out 3; have hfz23_4 := zc BK250.out 4; have hfz23_5 := zc BK250.out 5))
   go_ret
   exact ⟨by first | rfl | (simp [zn, zo] <;> rfl) | (simp [*, zn, zo] <;> rfl), by repeat (first | (with_reducible first | exact HB.out | apply zj | apply zf | apply zi | refine zk ?_ GE249.out | refine zk ?_ GE250.out) | exact HB.out)⟩
  replace c6 := Bool.eq_false_iff.mpr c6
  subst c6
  have H1 : (some false) = some r := by rw [if_neg (show ¬ (false = true) by decide)] at H; exact H
  clear H
  have H := H1
  clear H1
  obtain rfl := Option.some.inj H
  go_enter Try.func35, Try.ntmps35
  go_wp2_with (first | ((with_reducible refine zy (N := 2) rfl ?_); refine zca ?hg (N := 2) ?hd (cs := #[.slice A0_0 l0_0.length c0_0, .int .i16 a0_1, .int .i16 a0_2, .int .i16 a0_3, .int .i16 a0_4, .bool a0_5]) (t := 29) ?hr ?_; (case hd => rfl); (case hg => rfl); (case hr => first | (go_simp; done) | (go_simp; rfl)); intro gb249 hg w24 hbox hb; have n0_ := zb.mk (zm (by repeat (first | (with_reducible first | exact HB.out | apply zj | apply zf | apply zi) | exact HB.out)) hb); have n1_ := zb.mk (hbox); have n2_ := zb.mk ((by rw [hg]; exact (zq (by repeat (first | (with_reducible first | exact HB.out | apply zj | apply zf | apply zi) | exact HB.out))) : w.heap.size ≤ gb249)); have n3_ := n2_; clear HB; have HB := n0_; have BK249 := n1_; have GW249 := n2_; have GE249 := n3_; clear n0_ n1_ n2_ n3_; clear hb hbox hg) | ((with_reducible refine zy (N := 3) rfl ?_); refine zca ?hg (N := 3) ?hd (cs := #[.slice A1_0 l1_0.length c1_0, .int .i16 a1_1, .int .i16 a1_2, .int .i16 a1_3, .int .i16 a1_4, .bool a1_5]) (t := 29) ?hr ?_; (case hd => rfl); (case hg => rfl); (case hr => first | (go_simp; done) | (go_simp; rfl)); intro gb250 hg w25 hbox hb; have n0_ := zb.mk (zr (by (with_reducible repeat (first | refine zg ?_ _ | refine zh ?_ | refine ze ?_ _)); exact BK249.out) hb); have n1_ := zb.mk (zm (by repeat (first | (with_reducible first | exact HB.out | apply zj | apply zf | apply zi | refine zk ?_ GE249.out) | exact HB.out)) hb); have n2_ := zb.mk (hbox); have n3_ := zb.mk ((by rw [hg]; exact (zq (by repeat (first | (with_reducible first | exact HB.out | apply zj | apply zf | apply zi | refine zk ?_ GE249.out) | exact HB.out))) : w.heap.size ≤ gb250)); have n4_ := n3_; have n5_ := zb.mk ((by rw [hg]; exact Nat.ne_of_lt (zha (by (with_reducible repeat (first | refine zg ?_ _ | refine zh ?_ | refine ze ?_ _)); exact BK249.out)) : gb249 ≠ gb250)); have n6_ := zb.mk n5_.out.symm; clear BK249; clear HB; have BK249 := n0_; have HB := n1_; have BK250 := n2_; have GW250 := n3_; have GE250 := n4_; have NB249_250 := n5_; have NB250_249 := n6_; clear n0_ n1_ n2_ n3_ n4_ n5_ n6_; clear hb hbox hg; have hnb26 := NB249_250.out; have hnc26 := NB250_249.out; have hcz27_0 : w25.cell? ⟨gb249, 0, none⟩ = some (.slice A0_0 l0_0.length c0_0) := (za BK249.out 0).trans rfl; have hcz27_1 : w25.cell? ⟨gb249, 1, none⟩ = some (.int .i16 a0_1) := (za BK249.out 1).trans rfl; have hcz27_2 : w25.cell? ⟨gb249, 2, none⟩ = some (.int .i16 a0_2) := (za BK249.out 2).trans rfl; have hcz27_3 : w25.cell? ⟨gb249, 3, none⟩ = some (.int .i16 a0_3) := (za BK249.out 3).trans rfl; have hcz27_4 : w25.cell? ⟨gb249, 4, none⟩ = some (.int .i16 a0_4) := (za BK249.out 4).trans rfl; have hcz27_5 : w25.cell? ⟨gb249, 5, none⟩ = some (.bool a0_5) := (za BK249.out 5).trans rfl; have hfz27_0 := zc BK249.out 0; have hfz27_1 := zc BK249.out 1; have hfz27_2 := zc BK249.out 2; have hfz27_3 := zc BK249.out 3; have hfz27_4 := zc BK249.out 4; have hfz27_5 := zc BK249.out 5; have hcz28_0 : w25.cell? ⟨gb250, 0, none⟩ = some (.slice A1_0 l1_0.length c1_0) := (za BK250.out 0).trans rfl; have hcz28_1 : w25.cell? ⟨gb250, 1, none⟩ = some (.int .i16 a1_1) := (za BK250.out 1).trans rfl; have hcz28_2 : w25.cell? ⟨gb250, 2, none⟩ = some (.int .i16 a1_2) := (za BK250.out 2).trans rfl; have hcz28_3 : w25.cell? ⟨gb250, 3, none⟩ = some (.int .i16 a1_3) := (za BK250.out 3).trans rfl; have hcz28_4 : w25.cell? ⟨gb250, 4, none⟩ = some (.int .i16 a1_4) := (za BK250.out 4).trans rfl; have hcz28_5 : w25.cell? ⟨gb250, 5, none⟩ = some (.bool a1_5) := (za BK250.out 5).trans rfl; have hfz28_0 := zc BK250.out 0; have hfz28_1 := zc BK250.out 1; have hfz28_2 := zc BK250.out 2; have hfz28_3 := zc BK250.out 3; have hfz28_4 := zc BK250.out 4; have hfz28_5 := zc BK250.out 5) | ((with_reducible refine zt (f := 37) rfl ?_); refine zua (some 9) rfl rfl Try.func37 (by kernel_rfl) rfl #[.slice A0_0 l0_0.length c0_0, .slice A1_0 l1_0.length c1_0] rfl (by (try simp only [List.map_toArray, List.map_cons, List.map_nil]); first | done | rfl | (simp only [List.length_drop, List.length_take]; rfl)) ?_; (with_reducible refine (laws_eqInt16S.calls k _ _ l0_0 _ _ l1_0 true _ ?side1 ?side2 ?side3 ?side4 A3.out).mono ?_); (case side1 => repeat (first | exact (Kd.C_below HR0_0.out HB.out) | (with_reducible refine Kd.C_alloc ?_ _) | (with_reducible refine Kd.C_drewN ?_ _) | (with_reducible refine Kd.C_drew ?_))); (case side2 => exact HC0_0.out); (case side3 => repeat (first | exact (Kd.C_below HR1_0.out HB.out) | (with_reducible refine Kd.C_alloc ?_ _) | (with_reducible refine Kd.C_drewN ?_ _) | (with_reducible refine Kd.C_drew ?_))); (case side4 => exact HC1_0.out); rintro e w' ⟨rfl, ⟨nd, rfl⟩⟩; refine ⟨_, rfl, ?_⟩) | ((with_reducible refine zt (f := 36) rfl ?_); refine zua (some 15) rfl rfl Try.func36 (by kernel_rfl) rfl #[.agg #[.int .i16 a0_1, .int .i16 a0_2, .int .i16 a0_3, .int .i16 a0_4], .agg #[.int .i16 a1_1, .int .i16 a1_2, .int .i16 a1_3, .int .i16 a1_4]] rfl (by (try simp only [List.map_toArray, List.map_cons, List.map_nil]); first | done | rfl | (simp only [List.length_drop, List.length_take]; rfl)) ?_; (with_reducible refine (laws_eqWater.calls k a0_1 a0_2 a0_3 a0_4 a1_1 a1_2 a1_3 a1_4 false _ A5.out).mono ?_); rintro e w29 ⟨rfl, hb⟩; refine ⟨_, rfl, ?_⟩; have n0_ := zb.mk (zr (by (with_reducible repeat (first | refine zg ?_ _ | refine zh ?_ | refine ze ?_ _)); exact BK249.out) hb); have n1_ := zb.mk (zr (by (with_reducible repeat (first | refine zg ?_ _ | refine zh ?_ | refine ze ?_ _)); exact BK250.out) hb); have n2_ := zb.mk (zm (by repeat (first | (with_reducible first | exact HB.out | apply zj | apply zf | apply zi | refine zk ?_ GE249.out | refine zk ?_ GE250.out) | exact HB.out)) hb); clear BK249; clear BK250; clear HB; have BK249 := n0_; have BK250 := n1_; have HB := n2_; clear n0_ n1_ n2_; (try clear hb); (try clear hb2); (try clear hk); (try clear hi)))
  go_ret
  exact ⟨by first | rfl | (simp [zn, zo] <;> rfl) | (simp [*, zn, zo] <;> rfl), by repeat (first | (with_reducible first | exact HB.out | apply zj | apply zf | apply zi | refine zk ?_ GE249.out | refine zk ?_ GE250.out) | exact HB.out)⟩
 replace c4 := Bool.eq_false_iff.mpr c4
 subst c4
 have H1 : (some false) = some r := by rw [if_neg (show ¬ (false = true) by decide)] at H; exact H
 clear H
 have H := H1
 clear H1
 obtain rfl := Option.some.inj H
 go_enter Try.func35, Try.ntmps35
 go_wp2_with (first | ((with_reducible refine zy (N := 2) rfl ?_); refine zca ?hg (N := 2) ?hd (cs := #[.slice A0_0 l0_0.length c0_0, .int .i16 a0_1, .int .i16 a0_2, .int .i16 a0_3, .int .i16 a0_4, .bool a0_5]) (t := 29) ?hr ?_; (case hd => rfl); (case hg => rfl); (case hr => first | (go_simp; done) | (go_simp; rfl)); intro gb249 hg w30 hbox hb; have n0_ := zb.mk (zm (by repeat (first | (with_reducible first | exact HB.out | apply zj | apply zf | apply zi) | exact HB.out)) hb); have n1_ := zb.mk (hbox); have n2_ := zb.mk ((by rw [hg]; exact (zq (by repeat (first | (with_reducible first | exact HB.out | apply zj | apply zf | apply zi) | exact HB.out))) : w.heap.size ≤ gb249)); have n3_ := n2_; clear HB; have HB := n0_; have BK249 := n1_; have GW249 := n2_; have GE249 := n3_; clear n0_ n1_ n2_ n3_; clear hb hbox hg) | ((with_reducible refine zy (N := 3) rfl ?_); refine zca ?hg (N := 3) ?hd (cs := #[.slice A1_0 l1_0.length c1_0, .int .i16 a1_1, .int .i16 a1_2, .int .i16 a1_3, .int .i16 a1_4, .bool a1_5]) (t := 29) ?hr ?_; (case hd => rfl); (case hg => rfl); (case hr => first | (go_simp; done) | (go_simp; rfl)); intro gb250 hg w31 hbox hb; have n0_ := zb.mk (zr (by (with_reducible repeat (first | refine zg ?_ _ | refine zh ?_ | refine ze ?_ _)); exact BK249.out) hb); have n1_ := zb.mk (zm (by repeat (first | (with_reducible first | exact HB.out | apply zj | apply zf | apply zi | refine zk ?_ GE249.out) | exact HB.out)) hb); have n2_ := zb.mk (hbox); have n3_ := zb.mk ((by rw [hg]; exact (zq (by repeat (first | (with_reducible first | exact HB.out | apply zj | apply zf | apply zi | refine zk ?_ GE249.out) | exact HB.out))) : w.heap.size ≤ gb250)); have n4_ := n3_; have n5_ := zb.mk ((by rw [hg]; exact Nat.ne_of_lt (zha (by (with_reducible repeat (first | refine zg ?_ _ | refine zh ?_ | refine ze ?_ _)); exact BK249.out)) : gb249 ≠ gb250)); have n6_ := zb.mk n5_.out.symm; clear BK249; clear HB; have BK249 := n0_; have HB := n1_; have BK250 := n2_; have GW250 := n3_; have GE250 := n4_; have NB249_250 := n5_; have NB250_249 := n6_; clear n0_ n1_ n2_ n3_ n4_ n5_ n6_; clear hb hbox hg; have hnb32 := NB249_250.out; have hnc32 := NB250_249.out; have hcz33_0 : w31.cell? ⟨gb249, 0, none⟩ = some (.slice A0_0 l0_0.length c0_0) := (za BK249.out 0).trans rfl; have hcz33_1 : w31.cell? ⟨gb249, 1, none⟩ = some (.int .i16 a0_1) := (za BK249.out 1).trans rfl; have hcz33_2 : w31.cell? ⟨gb249, 2, none⟩ = some (.int .i16 a0_2) := (za BK249.out 2).trans rfl; have hcz33_3 : w31.cell? ⟨gb249, 3, none⟩ = some (.int .i16 a0_3) := (za BK249.out 3).trans rfl; have hcz33_4 : w31.cell? ⟨gb249, 4, none⟩ = some (.int .i16 a0_4) := (za BK249.out 4).trans rfl; have hcz33_5 : w31.cell? ⟨gb249, 5, none⟩ = some (.bool a0_5) := (za BK249.out 5).trans rfl; have hfz33_0 := zc BK249.out 0; have hfz33_1 := zc BK249.out 1; have hfz33_2 := zc BK249.out 2; have hfz33_3 := zc BK249.out 3; have hfz33_4 := zc BK249.out 4; have hfz33_5 := zc BK249.out 5; have hcz34_0 : w31.cell? ⟨gb250, 0, none⟩ = some (.slice A1_0 l1_0.length c1_0) := (za BK250.out 0).trans rfl; have hcz34_1 : w31.cell? ⟨gb250, 1, none⟩ = some (.int .i16 a1_1) := (za BK250.out 1).trans rfl; have hcz34_2 : w31.cell? ⟨gb250, 2, none⟩ = some (.int .i16 a1_2) := (za BK250.out 2).trans rfl; have hcz34_3 : w31.cell? ⟨gb250, 3, none⟩ = some (.int .i16 a1_3) := (za BK250.out 3).trans rfl; have hcz34_4 : w31.cell? ⟨gb250, 4, none⟩ = some (.int .i16 a1_4) := (za BK250.out 4).trans rfl; have hcz34_5 : w31.cell? ⟨gb250, 5, none⟩ = some (.bool a1_5) := (za BK250.out 5).trans rfl; have hfz34_0 := zc BK250.out 0; have hfz34_1 := zc BK250.out 1; have hfz34_2 := zc BK250.out 2; have hfz34_3 := zc BK250.out 3; have hfz34_4 := zc BK250.out 4; have hfz34_5 := zc BK250.out 5) | ((with_reducible refine zt (f := 37) rfl ?_); refine zua (some 9) rfl rfl Try.func37 (by kernel_rfl) rfl #[.slice A0_0 l0_0.length c0_0, .slice A1_0 l1_0.length c1_0] rfl (by (try simp only [List.map_toArray, List.map_cons, List.map_nil]); first | done | rfl | (simp only [List.length_drop, List.length_take]; rfl)) ?_; (with_reducible refine (laws_eqInt16S.calls k _ _ l0_0 _ _ l1_0 false _ ?side1 ?side2 ?side3 ?side4 A3.out).mono ?_); (case side1 => repeat (first | exact (Kd.C_below HR0_0.out HB.out) | (with_reducible refine Kd.C_alloc ?_ _) | (with_reducible refine Kd.C_drewN ?_ _) | (with_reducible refine Kd.C_drew ?_))); (case side2 => exact HC0_0.out); (case side3 => repeat (first | exact (Kd.C_below HR1_0.out HB.out) | (with_reducible refine Kd.C_alloc ?_ _) | (with_reducible refine Kd.C_drewN ?_ _) | (with_reducible refine Kd.C_drew ?_))); (case side4 => exact HC1_0.out); rintro e w' ⟨rfl, ⟨nd, rfl⟩⟩; refine ⟨_, rfl, ?_⟩))
 go_ret
 exact ⟨by first | rfl | (simp [zn, zo] <;> rfl) | (simp [*, zn, zo] <;> rfl), by repeat (first | (with_reducible first | exact HB.out | apply zj | apply zf | apply zi | refine zk ?_ GE249.out | refine zk ?_ GE250.out) | exact HB.out)⟩

end Go.Proofs.Yteciomagemjjaaa.J
