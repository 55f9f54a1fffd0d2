-- Written by wip/tools/myprint.py, a program of this session, by way of the kit's print.
import Derived.Test.YteciomagemjjaaaJx0
import Derived.Test.YteciomagemjjaaaJx3
import Derived.Test.YteciomagemjjaaaJx5
import Derived.Test.YteciomagemjjaaaLSearchJ
namespace Go.Proofs.Yteciomagemjjaaa.J
open Go.RowKit Go.Proofs.YteciomagemjjaaaW.PrintWords Go.Proofs.YteciomagemjjaaaW.PrintLast Go.Proofs.YteciomagemjjaaaW.PrintMore
attribute [local go_sem] zma zna zxa zwa zia zja zoa zpa   -- for this text's walks alone
set_option linter.unusedVariables false
set_option linter.unusedSimpArgs false

/-! ### impl_reached: function 77 -/
def impl_reached.f (l0 : List (S82)) : Option (Int) := some (l0.length : Int)
set_option maxHeartbeats 8000000 in
set_option maxRecDepth 100000 in
theorem impl_reached.calls (A0 : Option Addr) (c0 : Nat) (l0 : List (S82)) (r : Int) (w : World) (hr0 : Kd.C k82 w A0 l0.length l0) (hc0 : l0.length ≤ c0) (h : impl_reached.f l0 = some r) :
  Calls Try.prog 77 #[.slice A0 l0.length c0] w fun e w' => e = .returned (.int .i64 r) ∧ zea w w' := by
 have HR0 := zb.mk hr0
 have HC0 := zb.mk hc0
 clear hr0 hc0
 have H : (some (l0.length : Int)) = some r := h
 clear h
 obtain rfl := Option.some.inj H
 go_enter Try.func77, Try.ntmps77
 go_wp2
 go_ret
 exact ⟨by first | rfl | (simp; done) | (simp [*]; done), by repeat (first | exact zea.refl _ | apply zea.step)⟩

/-! ### impl_ReachedStates: function 30 -/
def impl_ReachedStates.f (k : Nat) (l0_0 : List Int) (a0_1 : Int) (a0_2 : Int) (a0_3 : Int) (a0_4 : Int) (a0_5 : Bool) : Option (Int × Int) := (impl_ValidPuzzle.f k l0_0 a0_1 a0_2 a0_3 a0_4 a0_5).bind fun t150 => (if t150 = true then ((impl_Puzzle_search.f k l0_0 a0_1 a0_2 a0_3 a0_4 a0_5).bind fun t151 => ((impl_reached.f t151).bind fun t154 => (some (t154, 0)))) else (some (0, 1)))
set_option maxHeartbeats 8000000 in
set_option maxRecDepth 100000 in
theorem impl_ReachedStates.calls (k : Nat) (A0_0 : Option Addr) (c0_0 : Nat) (l0_0 : List Int) (a0_1 : Int) (a0_2 : Int) (a0_3 : Int) (a0_4 : Int) (a0_5 : Bool) (r1 : Int) (r2 : Int) (w : World) (hr0_0 : Kd.C (Kd.int .i16) w A0_0 l0_0.length l0_0) (hc0_0 : l0_0.length ≤ c0_0) (h : impl_ReachedStates.f k l0_0 a0_1 a0_2 a0_3 a0_4 a0_5 = some (r1, r2)) :
  Calls Try.prog 30 #[.agg #[.slice A0_0 l0_0.length c0_0, .int .i16 a0_1, .int .i16 a0_2, .int .i16 a0_3, .int .i16 a0_4, .bool a0_5]] w fun e w' => e = .returned (.tuple #[.int .i64 r1, .int .i64 r2]) ∧ Below w.heap.size w w' := by
 have hu29 := Try.underlying29
 have HR0_0 := zb.mk hr0_0
 have HC0_0 := zb.mk hc0_0
 clear hr0_0 hc0_0
 have HB := zb.mk (Below.refl w.heap.size w)
 have H : ((impl_ValidPuzzle.f k l0_0 a0_1 a0_2 a0_3 a0_4 a0_5).bind fun t150 => (if t150 = true then ((impl_Puzzle_search.f k l0_0 a0_1 a0_2 a0_3 a0_4 a0_5).bind fun t151 => ((impl_reached.f t151).bind fun t154 => (some (t154, 0)))) else (some (0, 1)))) = some (r1, r2) := h
 clear h
 replace H := Option.bind_eq_some_iff.mp H
 obtain ⟨t150, A20, H⟩ := H
 replace H : (if t150 = true then ((impl_Puzzle_search.f k l0_0 a0_1 a0_2 a0_3 a0_4 a0_5).bind fun t151 => ((impl_reached.f t151).bind fun t154 => (some (t154, 0)))) else (some (0, 1))) = some (r1, r2) := H
 have A2 := zb.mk A20
 clear A20
 by_cases c3 : t150 = true
 ·subst c3
  have H1 : ((impl_Puzzle_search.f k l0_0 a0_1 a0_2 a0_3 a0_4 a0_5).bind fun t151 => ((impl_reached.f t151).bind fun t154 => (some (t154, 0)))) = some (r1, r2) := by rw [if_pos rfl] at H; exact H
  clear H
  have H := H1
  clear H1
  replace H := Option.bind_eq_some_iff.mp H
  obtain ⟨t151, A40, H⟩ := H
  replace H : ((impl_reached.f t151).bind fun t154 => (some (t154, 0))) = some (r1, r2) := H
  have A4 := zb.mk A40
  clear A40
  replace H := Option.bind_eq_some_iff.mp H
  obtain ⟨t154, A50, H⟩ := H
  replace H : (some (t154, 0)) = some (r1, r2) := H
  have A5 := zb.mk A50
  clear A50
  simp only [Option.some.injEq, Prod.mk.injEq] at H
  obtain ⟨rfl, rfl⟩ := H
  go_enter Try.func30, Try.ntmps30
  go_wp2_with (first | ((with_reducible refine zy (N := 1) rfl ?_); refine zca ?hg (N := 1) ?hd (cs := #[.slice A0_0 l0_0.length c0_0, .int .i16 a0_1, .int .i16 a0_2, .int .i16 a0_3, .int .i16 a0_4, .bool a0_5]) (t := 29) ?hr ?_; (case hd => rfl); (case hg => rfl); (case hr => first | (go_simp; done) | (go_simp; rfl)); intro gb149 hg w6 hbox hb; have n0_ := zb.mk (zm (by repeat (first | (with_reducible first | exact HB.out | apply zj | apply zf | apply zi) | exact HB.out)) hb); have n1_ := zb.mk (hbox); have n2_ := zb.mk ((by rw [hg]; exact (zq (by repeat (first | (with_reducible first | exact HB.out | apply zj | apply zf | apply zi) | exact HB.out))) : w.heap.size ≤ gb149)); have n3_ := n2_; clear HB; have HB := n0_; have BK149 := n1_; have GW149 := n2_; have GE149 := n3_; clear n0_ n1_ n2_ n3_; clear hb hbox hg; have hcz7_0 : w6.cell? ⟨gb149, 0, none⟩ = some (.slice A0_0 l0_0.length c0_0) := (za BK149.out 0).trans rfl; have hcz7_1 : w6.cell? ⟨gb149, 1, none⟩ = some (.int .i16 a0_1) := (za BK149.out 1).trans rfl; have hcz7_2 : w6.cell? ⟨gb149, 2, none⟩ = some (.int .i16 a0_2) := (za BK149.out 2).trans rfl; have hcz7_3 : w6.cell? ⟨gb149, 3, none⟩ = some (.int .i16 a0_3) := (za BK149.out 3).trans rfl; have hcz7_4 : w6.cell? ⟨gb149, 4, none⟩ = some (.int .i16 a0_4) := (za BK149.out 4).trans rfl; have hcz7_5 : w6.cell? ⟨gb149, 5, none⟩ = some (.bool a0_5) := (za BK149.out 5).trans rfl; have hfz7_0 := zc BK149.out 0; have hfz7_1 := zc BK149.out 1; have hfz7_2 := zc BK149.out 2; have hfz7_3 := zc BK149.out 3; have hfz7_4 := zc BK149.out 4; have hfz7_5 := zc BK149.out 5) | ((with_reducible refine zt (f := 52) rfl ?_); refine zua (some 5) rfl rfl Try.func52 (by kernel_rfl) rfl #[.agg #[.slice A0_0 l0_0.length c0_0, .int .i16 a0_1, .int .i16 a0_2, .int .i16 a0_3, .int .i16 a0_4, .bool a0_5]] rfl (by (try simp only [List.map_toArray, List.map_cons, List.map_nil]); first | done | rfl | (simp only [List.length_drop, List.length_take]; rfl)) ?_; (with_reducible refine (impl_ValidPuzzle.calls k _ _ l0_0 a0_1 a0_2 a0_3 a0_4 a0_5 true _ ?side1 ?side2 A2.out).mono ?_); (case side1 => repeat (first | exact (Kd.C_below HR0_0.out HB.out) | (with_reducible refine Kd.C_alloc ?_ _) | (with_reducible refine Kd.C_drewN ?_ _) | (with_reducible refine Kd.C_drew ?_))); (case side2 => exact HC0_0.out); rintro e w8 ⟨rfl, hb⟩; refine ⟨_, rfl, ?_⟩; have n0_ := zb.mk (zr (by (with_reducible repeat (first | refine zg ?_ _ | refine zh ?_ | refine ze ?_ _)); exact BK149.out) hb); have n1_ := zb.mk (zm (by repeat (first | (with_reducible first | exact HB.out | apply zj | apply zf | apply zi | refine zk ?_ GE149.out) | exact HB.out)) hb); clear BK149; clear HB; have BK149 := n0_; have HB := n1_; clear n0_ n1_; (try clear hb); (try clear hb2); (try clear hk); (try clear hi); have hcz9_0 : w8.cell? ⟨gb149, 0, none⟩ = some (.slice A0_0 l0_0.length c0_0) := (za BK149.out 0).trans rfl; have hcz9_1 : w8.cell? ⟨gb149, 1, none⟩ = some (.int .i16 a0_1) := (za BK149.out 1).trans rfl; have hcz9_2 : w8.cell? ⟨gb149, 2, none⟩ = some (.int .i16 a0_2) := (za BK149.out 2).trans rfl; have hcz9_3 : w8.cell? ⟨gb149, 3, none⟩ = some (.int .i16 a0_3) := (za BK149.out 3).trans rfl; have hcz9_4 : w8.cell? ⟨gb149, 4, none⟩ = some (.int .i16 a0_4) := (za BK149.out 4).trans rfl; have hcz9_5 : w8.cell? ⟨gb149, 5, none⟩ = some (.bool a0_5) := (za BK149.out 5).trans rfl; have hfz9_0 := zc BK149.out 0; have hfz9_1 := zc BK149.out 1; have hfz9_2 := zc BK149.out 2; have hfz9_3 := zc BK149.out 3; have hfz9_4 := zc BK149.out 4; have hfz9_5 := zc BK149.out 5) | ((with_reducible refine zt (f := 55) rfl ?_); refine zua (some 8) rfl rfl Try.func55 (by kernel_rfl) rfl #[.agg #[.slice A0_0 l0_0.length c0_0, .int .i16 a0_1, .int .i16 a0_2, .int .i16 a0_3, .int .i16 a0_4, .bool a0_5]] rfl (by (try simp only [List.map_toArray, List.map_cons, List.map_nil]); first | done | rfl | (simp only [List.length_drop, List.length_take]; rfl)) ?_; (with_reducible refine (impl_Puzzle_search.calls k _ _ l0_0 a0_1 a0_2 a0_3 a0_4 a0_5 t151 _ ?side1 ?side2 A4.out).mono ?_); (case side1 => repeat (first | exact (Kd.C_below HR0_0.out HB.out) | (with_reducible refine Kd.C_alloc ?_ _) | (with_reducible refine Kd.C_drewN ?_ _) | (with_reducible refine Kd.C_drew ?_))); (case side2 => exact HC0_0.out); rintro e w10 ⟨v152, rfl, ho0, hb⟩; refine ⟨_, rfl, ?_⟩; have n0_ := zb.mk (Kd.R_lower ho0 (zq (by repeat (first | (with_reducible first | exact HB.out | apply zj | apply zf | apply zi | refine zk ?_ GE149.out) | exact HB.out)))); have n1_ := zb.mk (zr (by (with_reducible repeat (first | refine zg ?_ _ | refine zh ?_ | refine ze ?_ _)); exact BK149.out) hb); have n2_ := zb.mk (zm (by repeat (first | (with_reducible first | exact HB.out | apply zj | apply zf | apply zi | refine zk ?_ GE149.out) | exact HB.out)) hb); clear BK149; clear HB; have HO153 := n0_; have BK149 := n1_; have HB := n2_; clear n0_ n1_ n2_; (try clear hb); (try clear hb2); (try clear hk); (try clear hi); (try clear ho0); obtain ⟨Ao11, co11, eo11⟩ := Kd.R_slice HO153.out; subst eo11) | ((with_reducible refine zt (f := 77) rfl ?_); refine zua (some 9) rfl rfl Try.func77 (by kernel_rfl) rfl #[.slice Ao11 t151.length co11] rfl (by (try simp only [List.map_toArray, List.map_cons, List.map_nil]); first | done | rfl | (simp only [List.length_drop, List.length_take]; rfl)) ?_; (with_reducible refine (impl_reached.calls _ _ t151 t154 _ ?side1 ?side2 A5.out).mono ?_); (case side1 => repeat (first | exact (Kd.R_reads' HO153.out).2.2 | (with_reducible refine Kd.C_alloc ?_ _) | (with_reducible refine Kd.C_drewN ?_ _) | (with_reducible refine Kd.C_drew ?_))); (case side2 => exact (Kd.R_reads' HO153.out).2.1); rintro e w' ⟨rfl, ⟨nd, rfl⟩⟩; refine ⟨_, rfl, ?_⟩))
  go_ret2
  exact ⟨by first | rfl | (simp [zn, zo] <;> rfl) | (simp [*, zn, zo] <;> rfl), by repeat (first | (with_reducible first | exact HB.out | apply zj | apply zf | apply zi | refine zk ?_ GE149.out) | exact HB.out)⟩
 replace c3 := Bool.eq_false_iff.mpr c3
 subst c3
 have H1 : (some (0, 1)) = some (r1, r2) := by rw [if_neg (show ¬ (false = true) by decide)] at H; exact H
 clear H
 have H := H1
 clear H1
 simp only [Option.some.injEq, Prod.mk.injEq] at H
 obtain ⟨rfl, rfl⟩ := H
 go_enter Try.func30, Try.ntmps30
 go_wp2_with (first | ((with_reducible refine zy (N := 1) rfl ?_); refine zca ?hg (N := 1) ?hd (cs := #[.slice A0_0 l0_0.length c0_0, .int .i16 a0_1, .int .i16 a0_2, .int .i16 a0_3, .int .i16 a0_4, .bool a0_5]) (t := 29) ?hr ?_; (case hd => rfl); (case hg => rfl); (case hr => first | (go_simp; done) | (go_simp; rfl)); intro gb149 hg w12 hbox hb; have n0_ := zb.mk (zm (by repeat (first | (with_reducible first | exact HB.out | apply zj | apply zf | apply zi) | exact HB.out)) hb); have n1_ := zb.mk (hbox); have n2_ := zb.mk ((by rw [hg]; exact (zq (by repeat (first | (with_reducible first | exact HB.out | apply zj | apply zf | apply zi) | exact HB.out))) : w.heap.size ≤ gb149)); have n3_ := n2_; clear HB; have HB := n0_; have BK149 := n1_; have GW149 := n2_; have GE149 := n3_; clear n0_ n1_ n2_ n3_; clear hb hbox hg; have hcz13_0 : w12.cell? ⟨gb149, 0, none⟩ = some (.slice A0_0 l0_0.length c0_0) := (za BK149.out 0).trans rfl; have hcz13_1 : w12.cell? ⟨gb149, 1, none⟩ = some (.int .i16 a0_1) := (za BK149.out 1).trans rfl; have hcz13_2 : w12.cell? ⟨gb149, 2, none⟩ = some (.int .i16 a0_2) := (za BK149.out 2).trans rfl; have hcz13_3 : w12.cell? ⟨gb149, 3, none⟩ = some (.int .i16 a0_3) := (za BK149.out 3).trans rfl; have hcz13_4 : w12.cell? ⟨gb149, 4, none⟩ = some (.int .i16 a0_4) := (za BK149.out 4).trans rfl; have hcz13_5 : w12.cell? ⟨gb149, 5, none⟩ = some (.bool a0_5) := (za BK149.out 5).trans rfl; have hfz13_0 := zc BK149.out 0; have hfz13_1 := zc BK149.out 1; have hfz13_2 := zc BK149.out 2; have hfz13_3 := zc BK149.out 3; have hfz13_4 := zc BK149.out 4; have hfz13_5 := zc BK149.out 5) | ((with_reducible refine zt (f := 52) rfl ?_); refine zua (some 5) rfl rfl Try.func52 (by kernel_rfl) rfl #[.agg #[.slice A0_0 l0_0.length c0_0, .int .i16 a0_1, .int .i16 a0_2, .int .i16 a0_3, .int .i16 a0_4, .bool a0_5]] rfl (by (try simp only [List.map_toArray, List.map_cons, List.map_nil]); first | done | rfl | (simp only [List.length_drop, List.length_take]; rfl)) ?_; (with_reducible refine (impl_ValidPuzzle.calls k _ _ l0_0 a0_1 a0_2 a0_3 a0_4 a0_5 false _ ?side1 ?side2 A2.out).mono ?_); (case side1 => repeat (first | exact (Kd.C_below HR0_0.out HB.out) | (with_reducible refine Kd.C_alloc ?_ _) | (with_reducible refine Kd.C_drewN ?_ _) | (with_reducible refine Kd.C_drew ?_))); (case side2 => exact HC0_0.out); rintro e w14 ⟨rfl, hb⟩; refine ⟨_, rfl, ?_⟩; have n0_ := zb.mk (zr (by (with_reducible repeat (first | refine zg ?_ _ | refine zh ?_ | refine ze ?_ _)); exact BK149.out) hb); have n1_ := zb.mk (zm (by repeat (first | (with_reducible first | exact HB.out | apply zj | apply zf | apply zi | refine zk ?_ GE149.out) | exact HB.out)) hb); clear BK149; clear HB; have BK149 := n0_; have HB := n1_; clear n0_ n1_; (try clear hb); (try clear hb2); (try clear hk); (try clear hi)))
 go_ret2
 exact ⟨by first | rfl | (simp [zn, zo] <;> rfl) | (simp [*, zn, zo] <;> rfl), by repeat (first | (with_reducible first | exact HB.out | apply zj | apply zf | apply zi | refine zk ?_ GE149.out) | exact HB.out)⟩

/-! ### laws_szInt16S: function 80 -/
def laws_szInt16S.f (l0 : List Int) (a1 : Int) : Option (Int) := if (wrap64 (a1 - (l0.length : Int))) < 0 then (some (-1)) else (some (wrap64 (a1 - (l0.length : Int))))
set_option maxHeartbeats 8000000 in
set_option maxRecDepth 100000 in
theorem laws_szInt16S.calls (A0 : Option Addr) (c0 : Nat) (l0 : List Int) (a1 : Int) (r : Int) (w : World) (hr0 : Kd.C (Kd.int .i16) w A0 l0.length l0) (hc0 : l0.length ≤ c0) (h : laws_szInt16S.f l0 a1 = some r) :
  Calls Try.prog 80 #[.slice A0 l0.length c0, .int .i64 a1] w fun e w' => e = .returned (.int .i64 r) ∧ zea w w' := by
 have HR0 := zb.mk hr0
 have HC0 := zb.mk hc0
 clear hr0 hc0
 have H : (if (wrap64 (a1 - (l0.length : Int))) < 0 then (some (-1)) else (some (wrap64 (a1 - (l0.length : Int))))) = some r := h
 clear h
 by_cases c3 : (wrap64 (a1 - (l0.length : Int))) < 0
 ·rw [if_pos c3] at H
  have c3b0 : decide ((wrap64 (a1 - (l0.length : Int))) < 0) = true := decide_eq_true c3
  (try (have c3b1 : decide ((IntKind.i64.wrap (a1 - (l0.length : Int))) < 0) = true := by have h_ : decide ((wrap64 (a1 - (l0.length : Int))) < 0) = true := decide_eq_true c3; simpa only [zaa, zz] using h_))
  clear c3
  obtain rfl := Option.some.inj H
  go_enter Try.func80, Try.ntmps80
  go_wp2
  go_ret
  exact ⟨by first | rfl | (simp; done) | (simp [*]; done), by repeat (first | exact zea.refl _ | apply zea.step)⟩
 rw [if_neg c3] at H
 have c3b0 : decide ((wrap64 (a1 - (l0.length : Int))) < 0) = false := decide_eq_false c3
 (try (have c3b1 : decide ((IntKind.i64.wrap (a1 - (l0.length : Int))) < 0) = false := by have h_ : decide ((wrap64 (a1 - (l0.length : Int))) < 0) = false := decide_eq_false c3; simpa only [zaa, zz] using h_))
 clear c3
 obtain rfl := Option.some.inj H
 go_enter Try.func80, Try.ntmps80
 go_wp2
 go_ret
 exact ⟨by first | rfl | (simp; done) | (simp [*]; done), by repeat (first | exact zea.refl _ | apply zea.step)⟩

/-! ### laws_szPuzzle: function 32 -/
def laws_szPuzzle.f (l0_0 : List Int) (a0_1 : Int) (a0_2 : Int) (a0_3 : Int) (a0_4 : Int) (a0_5 : Bool) (a1 : Int) : Option (Int) := (laws_szInt16S.f l0_0 a1).bind fun t156 => (if t156 < 0 then (some (-1)) else (some t156))
set_option maxHeartbeats 8000000 in
set_option maxRecDepth 100000 in
theorem laws_szPuzzle.calls (A0_0 : Option Addr) (c0_0 : Nat) (l0_0 : List Int) (a0_1 : Int) (a0_2 : Int) (a0_3 : Int) (a0_4 : Int) (a0_5 : Bool) (a1 : Int) (r : Int) (w : World) (hr0_0 : Kd.C (Kd.int .i16) w A0_0 l0_0.length l0_0) (hc0_0 : l0_0.length ≤ c0_0) (h : laws_szPuzzle.f l0_0 a0_1 a0_2 a0_3 a0_4 a0_5 a1 = some r) :
  Calls Try.prog 32 #[.agg #[.slice A0_0 l0_0.length c0_0, .int .i16 a0_1, .int .i16 a0_2, .int .i16 a0_3, .int .i16 a0_4, .bool a0_5], .int .i64 a1] w fun e w' => e = .returned (.int .i64 r) ∧ Below w.heap.size w w' := by
 have hu53 := Try.underlying53
 have HR0_0 := zb.mk hr0_0
 have HC0_0 := zb.mk hc0_0
 clear hr0_0 hc0_0
 have HB := zb.mk (Below.refl w.heap.size w)
 have H : ((laws_szInt16S.f l0_0 a1).bind fun t156 => (if t156 < 0 then (some (-1)) else (some t156))) = some r := h
 clear h
 replace H := Option.bind_eq_some_iff.mp H
 obtain ⟨t156, A30, H⟩ := H
 replace H : (if t156 < 0 then (some (-1)) else (some t156)) = some r := H
 have A3 := zb.mk A30
 clear A30
 by_cases c4 : t156 < 0
 ·rw [if_pos c4] at H
  have c4b0 : decide (t156 < 0) = true := decide_eq_true c4
  clear c4
  obtain rfl := Option.some.inj H
  go_enter Try.func32, Try.ntmps32
  go_wp2_with (first | ((with_reducible refine zy (N := 2) rfl ?_); refine zca ?hg (N := 2) ?hd (cs := #[.slice A0_0 l0_0.length c0_0, .int .i16 a0_1, .int .i16 a0_2, .int .i16 a0_3, .int .i16 a0_4, .bool a0_5]) (t := 53) ?hr ?_; (case hd => rfl); (case hg => rfl); (case hr => first | (go_simp; done) | (go_simp; rfl)); intro gb155 hg w5 hbox hb; have n0_ := zb.mk (zm (by repeat (first | (with_reducible first | exact HB.out | apply zj | apply zf | apply zi) | exact HB.out)) hb); have n1_ := zb.mk (hbox); have n2_ := zb.mk ((by rw [hg]; exact (zq (by repeat (first | (with_reducible first | exact HB.out | apply zj | apply zf | apply zi) | exact HB.out))) : w.heap.size ≤ gb155)); have n3_ := n2_; clear HB; have HB := n0_; have BK155 := n1_; have GW155 := n2_; have GE155 := n3_; clear n0_ n1_ n2_ n3_; clear hb hbox hg; have hcz6_0 : w5.cell? ⟨gb155, 0, none⟩ = some (.slice A0_0 l0_0.length c0_0) := (za BK155.out 0).trans rfl; have hcz6_1 : w5.cell? ⟨gb155, 1, none⟩ = some (.int .i16 a0_1) := (za BK155.out 1).trans rfl; have hcz6_2 : w5.cell? ⟨gb155, 2, none⟩ = some (.int .i16 a0_2) := (za BK155.out 2).trans rfl; have hcz6_3 : w5.cell? ⟨gb155, 3, none⟩ = some (.int .i16 a0_3) := (za BK155.out 3).trans rfl; have hcz6_4 : w5.cell? ⟨gb155, 4, none⟩ = some (.int .i16 a0_4) := (za BK155.out 4).trans rfl; have hcz6_5 : w5.cell? ⟨gb155, 5, none⟩ = some (.bool a0_5) := (za BK155.out 5).trans rfl; have hfz6_0 := zc BK155.out 0; have hfz6_1 := zc BK155.out 1; have hfz6_2 := zc BK155.out 2; have hfz6_3 := zc BK155.out 3; have hfz6_4 := zc BK155.out 4; have hfz6_5 := zc BK155.out 5) | ((with_reducible refine zt (f := 80) rfl ?_); refine zua (some 8) rfl rfl Try.func80 (by kernel_rfl) rfl #[.slice A0_0 l0_0.length c0_0, .int .i64 a1] rfl (by (try simp only [List.map_toArray, List.map_cons, List.map_nil]); first | done | rfl | (simp only [List.length_drop, List.length_take]; rfl)) ?_; (with_reducible refine (laws_szInt16S.calls _ _ l0_0 a1 t156 _ ?side1 ?side2 A3.out).mono ?_); (case side1 => repeat (first | exact (Kd.C_below HR0_0.out HB.out) | (with_reducible refine Kd.C_alloc ?_ _) | (with_reducible refine Kd.C_drewN ?_ _) | (with_reducible refine Kd.C_drew ?_))); (case side2 => exact HC0_0.out); rintro e w' ⟨rfl, ⟨nd, rfl⟩⟩; refine ⟨_, rfl, ?_⟩))
  go_ret
  exact ⟨by first | rfl | (simp [zn, zo] <;> rfl) | (simp [*, zn, zo] <;> rfl), by repeat (first | (with_reducible first | exact HB.out | apply zj | apply zf | apply zi | refine zk ?_ GE155.out) | exact HB.out)⟩
 rw [if_neg c4] at H
 have c4b0 : decide (t156 < 0) = false := decide_eq_false c4
 clear c4
 obtain rfl := Option.some.inj H
 go_enter Try.func32, Try.ntmps32
 go_wp2_with (first | ((with_reducible refine zy (N := 2) rfl ?_); refine zca ?hg (N := 2) ?hd (cs := #[.slice A0_0 l0_0.length c0_0, .int .i16 a0_1, .int .i16 a0_2, .int .i16 a0_3, .int .i16 a0_4, .bool a0_5]) (t := 53) ?hr ?_; (case hd => rfl); (case hg => rfl); (case hr => first | (go_simp; done) | (go_simp; rfl)); intro gb155 hg w7 hbox hb; have n0_ := zb.mk (zm (by repeat (first | (with_reducible first | exact HB.out | apply zj | apply zf | apply zi) | exact HB.out)) hb); have n1_ := zb.mk (hbox); have n2_ := zb.mk ((by rw [hg]; exact (zq (by repeat (first | (with_reducible first | exact HB.out | apply zj | apply zf | apply zi) | exact HB.out))) : w.heap.size ≤ gb155)); have n3_ := n2_; clear HB; have HB := n0_; have BK155 := n1_; have GW155 := n2_; have GE155 := n3_; clear n0_ n1_ n2_ n3_; clear hb hbox hg; have hcz8_0 : w7.cell? ⟨gb155, 0, none⟩ = some (.slice A0_0 l0_0.length c0_0) := (za BK155.out 0).trans rfl; have hcz8_1 : w7.cell? ⟨gb155, 1, none⟩ = some (.int .i16 a0_1) := (za BK155.out 1).trans rfl; have hcz8_2 : w7.cell? ⟨gb155, 2, none⟩ = some (.int .i16 a0_2) := (za BK155.out 2).trans rfl; have hcz8_3 : w7.cell? ⟨gb155, 3, none⟩ = some (.int .i16 a0_3) := (za BK155.out 3).trans rfl; have hcz8_4 : w7.cell? ⟨gb155, 4, none⟩ = some (.int .i16 a0_4) := (za BK155.out 4).trans rfl; have hcz8_5 : w7.cell? ⟨gb155, 5, none⟩ = some (.bool a0_5) := (za BK155.out 5).trans rfl; have hfz8_0 := zc BK155.out 0; have hfz8_1 := zc BK155.out 1; have hfz8_2 := zc BK155.out 2; have hfz8_3 := zc BK155.out 3; have hfz8_4 := zc BK155.out 4; have hfz8_5 := zc BK155.out 5) | ((with_reducible refine zt (f := 80) rfl ?_); refine zua (some 8) rfl rfl Try.func80 (by kernel_rfl) rfl #[.slice A0_0 l0_0.length c0_0, .int .i64 a1] rfl (by (try simp only [List.map_toArray, List.map_cons, List.map_nil]); first | done | rfl | (simp only [List.length_drop, List.length_take]; rfl)) ?_; (with_reducible refine (laws_szInt16S.calls _ _ l0_0 a1 t156 _ ?side1 ?side2 A3.out).mono ?_); (case side1 => repeat (first | exact (Kd.C_below HR0_0.out HB.out) | (with_reducible refine Kd.C_alloc ?_ _) | (with_reducible refine Kd.C_drewN ?_ _) | (with_reducible refine Kd.C_drew ?_))); (case side2 => exact HC0_0.out); rintro e w' ⟨rfl, ⟨nd, rfl⟩⟩; refine ⟨_, rfl, ?_⟩))
 go_ret
 exact ⟨by first | rfl | (simp [zn, zo] <;> rfl) | (simp [*, zn, zo] <;> rfl), by repeat (first | (with_reducible first | exact HB.out | apply zj | apply zf | apply zi | refine zk ?_ GE155.out) | exact HB.out)⟩

end Go.Proofs.Yteciomagemjjaaa.J
