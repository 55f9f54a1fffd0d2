-- Written by wip/tools/myprint.py, a program of this session, by way of the kit's print.
import Derived.Test.YtmmonhpjjjdnjaaMx0
import Derived.Test.YtmmonhpjjjdnjaaLLoad
namespace Go.Proofs.Ytmmonhpjjjdnjaa.M
open Go.RowKit Go.Proofs.YtmmonhpjjjdnjaaW.PrintWords Go.Proofs.YtmmonhpjjjdnjaaW.PrintLast Go.Proofs.YtmmonhpjjjdnjaaW.PrintMore
attribute [local go_sem] zea zca zka zja zy zz zfa zda   -- for this text's walks alone
set_option linter.unusedVariables false
set_option linter.unusedSimpArgs false

/-! ### laws_szNodeS: function 8 -/
def laws_szNodeS.f (l0 : List (S58)) (a1 : Int) : Option (Int) := if (wrap64 (a1 - (l0.length : Int))) < 0 then (some (-1)) else (some (wrap64 (a1 - (l0.length : Int))))
set_option maxHeartbeats 8000000 in
set_option maxRecDepth 100000 in
theorem laws_szNodeS.calls (A0 : Option Addr) (c0 : Nat) (l0 : List (S58)) (a1 : Int) (r : Int) (w : World) (hr0 : Kd.C k58 w A0 l0.length l0) (hc0 : l0.length ≤ c0) (h : laws_szNodeS.f l0 a1 = some r) :
  Calls Try.prog 8 #[.slice A0 l0.length c0, .int .i64 a1] w fun e w' => e = .returned (.int .i64 r) ∧ zia w w' := by
 have HR0 := ze.mk hr0
 have HC0 := ze.mk hc0
 clear hr0 hc0
 have H : (if (wrap64 (a1 - (l0.length : Int))) < 0 then (some (-1)) else (some (wrap64 (a1 - (l0.length : Int))))) = some r := h
 clear h
 by_cases c3 : (wrap64 (a1 - (l0.length : Int))) < 0
 ·rw [if_pos c3] at H
  have c3b0 : decide ((wrap64 (a1 - (l0.length : Int))) < 0) = true := decide_eq_true c3
  (try (have c3b1 : decide ((IntKind.i64.wrap (a1 - (l0.length : Int))) < 0) = true := by have h_ : decide ((wrap64 (a1 - (l0.length : Int))) < 0) = true := decide_eq_true c3; simpa only [zq, zr] using h_))
  clear c3
  obtain rfl := Option.some.inj H
  go_enter Try.func8, Try.ntmps8
  go_wp2
  go_ret
  exact ⟨by first | rfl | (simp; done) | (simp [*]; done), by repeat (first | exact zia.refl _ | apply zia.step)⟩
 ·rw [if_neg c3] at H
  have c3b0 : decide ((wrap64 (a1 - (l0.length : Int))) < 0) = false := decide_eq_false c3
  (try (have c3b1 : decide ((IntKind.i64.wrap (a1 - (l0.length : Int))) < 0) = false := by have h_ : decide ((wrap64 (a1 - (l0.length : Int))) < 0) = false := decide_eq_false c3; simpa only [zq, zr] using h_))
  clear c3
  obtain rfl := Option.some.inj H
  go_enter Try.func8, Try.ntmps8
  go_wp2
  go_ret
  exact ⟨by first | rfl | (simp; done) | (simp [*]; done), by repeat (first | exact zia.refl _ | apply zia.step)⟩

/-! ### spec_l00In: function 37 -/
def spec_l00In.f (a0 : Int) (a1 : Int) (a2 : Int) : Option (Bool) := if a0 ≥ a1 then (some (decide (a0 ≤ a2))) else (some false)
set_option maxHeartbeats 8000000 in
set_option maxRecDepth 100000 in
theorem spec_l00In.calls (a0 : Int) (a1 : Int) (a2 : Int) (r : Bool) (w : World) (h : spec_l00In.f a0 a1 a2 = some r) :
  Calls Try.prog 37 #[.int .i64 a0, .int .i64 a1, .int .i64 a2] w fun e w' => e = .returned (.bool r) ∧ zia w w' := by
 have H : (if a0 ≥ a1 then (some (decide (a0 ≤ a2))) else (some false)) = some r := h
 clear h
 by_cases c4 : a0 ≥ a1
 ·rw [if_pos c4] at H
  have c4b0 : decide (a1 ≤ a0) = true := decide_eq_true c4
  clear c4
  obtain rfl := Option.some.inj H
  go_enter Try.func37, Try.ntmps37
  go_wp2
  go_ret
  exact ⟨by first | rfl | (simp; done) | (simp [*]; done), by repeat (first | exact zia.refl _ | apply zia.step)⟩
 ·rw [if_neg c4] at H
  have c4b0 : decide (a1 ≤ a0) = false := decide_eq_false c4
  clear c4
  obtain rfl := Option.some.inj H
  go_enter Try.func37, Try.ntmps37
  go_wp2
  go_ret
  exact ⟨by first | rfl | (simp; done) | (simp [*]; done), by repeat (first | exact zia.refl _ | apply zia.step)⟩

/-! ### spec_l03Ok: function 39 -/
def spec_l03Ok.f (a0_0 : Int) (a0_1 : Int) (a0_2 : Bool) (a0_3 : Bool) : Option (Bool) := (spec_l00In.f (wrap64 (a0_0)) 1 13).bind fun t102 => (if t102 = true then ((spec_l00In.f (wrap64 (a0_1)) 0 2).bind fun t103 => (some t103)) else (some false))
set_option maxHeartbeats 8000000 in
set_option maxRecDepth 100000 in
theorem spec_l03Ok.calls (a0_0 : Int) (a0_1 : Int) (a0_2 : Bool) (a0_3 : Bool) (r : Bool) (w : World) (h : spec_l03Ok.f a0_0 a0_1 a0_2 a0_3 = some r) :
  Calls Try.prog 39 #[.agg #[.int .i8 a0_0, .int .i8 a0_1, .bool a0_2, .bool a0_3]] w fun e w' => e = .returned (.bool r) ∧ Below w.heap.size w w' := by
 have hu29 := Try.underlying29
 have HB := ze.mk (Below.refl w.heap.size w)
 have H : ((spec_l00In.f (wrap64 (a0_0)) 1 13).bind fun t102 => (if t102 = true then ((spec_l00In.f (wrap64 (a0_1)) 0 2).bind fun t103 => (some t103)) else (some false))) = some r := h
 clear h
 replace H := Option.bind_eq_some_iff.mp H
 obtain ⟨t102, A20, H⟩ := H
 replace H : (if t102 = true then ((spec_l00In.f (wrap64 (a0_1)) 0 2).bind fun t103 => (some t103)) else (some false)) = some r := H
 have A2 := ze.mk A20
 clear A20
 by_cases c3 : t102 = true
 ·subst c3
  have H1 : ((spec_l00In.f (wrap64 (a0_1)) 0 2).bind fun t103 => (some t103)) = some r := by rw [if_pos rfl] at H; exact H
  clear H
  have H := H1
  clear H1
  replace H := Option.bind_eq_some_iff.mp H
  obtain ⟨t103, A40, H⟩ := H
  replace H : (some t103) = some r := H
  have A4 := ze.mk A40
  clear A40
  obtain rfl := Option.some.inj H
  go_enter Try.func39, Try.ntmps39
  go_wp2_with (first | ((with_reducible refine zn (N := 1) rfl ?_); refine zm ?hg (N := 1) ?hd (cs := #[.int .i8 a0_0, .int .i8 a0_1, .bool a0_2, .bool a0_3]) (t := 29) ?hr ?_; (case hd => rfl); (case hg => rfl); (case hr => first | (go_simp; done) | (go_simp; rfl)); intro gb101 hg w5 hbox hb; have n0_ := ze.mk (zk (by repeat (first | (with_reducible first | exact HB.out | apply zc | apply za | apply zb) | exact HB.out)) hb); have n1_ := ze.mk (hbox); have n2_ := ze.mk ((by rw [hg]; exact (zj (by repeat (first | (with_reducible first | exact HB.out | apply zc | apply za | apply zb) | exact HB.out))) : w.heap.size ≤ gb101)); have n3_ := ze.mk ((by rw [hg]; exact (zj (by repeat (first | (with_reducible first | exact HB.out | apply zc | apply za | apply zb) | exact HB.out))) : w.heap.size ≤ gb101)); clear HB; have HB := n0_; have BK101 := n1_; have GW101 := n2_; have GE101 := n3_; clear n0_ n1_ n2_ n3_; clear hb hbox hg; have hcz6_0 := cz BK101.out 0 rfl; have hcz6_1 := cz BK101.out 1 rfl; have hcz6_2 := cz BK101.out 2 rfl; have hcz6_3 := cz BK101.out 3 rfl; have hfz6_0 := zd BK101.out 0; have hfz6_1 := zd BK101.out 1; have hfz6_2 := zd BK101.out 2; have hfz6_3 := zd BK101.out 3) | ((with_reducible refine zo (f := 37) rfl ?_); refine zx (some 6) rfl rfl Try.func37 (by kernel_rfl) rfl #[.int .i64 (wrap64 (a0_0)), .int .i64 1, .int .i64 13] rfl (by (try simp only [List.map_toArray, List.map_cons, List.map_nil]); first | done | rfl | (simp only [List.length_drop, List.length_take]; rfl)) ?_; (with_reducible refine (spec_l00In.calls (wrap64 (a0_0)) 1 13 true _ A2.out).mono ?_); rintro e w' ⟨rfl, ⟨nd, rfl⟩⟩; refine ⟨_, rfl, ?_⟩) | (go_at_call 37; (with_reducible refine (spec_l00In.calls (wrap64 (a0_1)) 0 2 t103 _ A4.out).mono ?_); rintro e w' ⟨rfl, ⟨nd, rfl⟩⟩))
  go_ret
  exact ⟨by first | rfl | (simp [errW_none, errW_some] <;> rfl) | (simp [*, errW_none, errW_some] <;> rfl), by repeat (first | (with_reducible first | exact HB.out | apply zc | apply za | apply zb | refine zf ?_ GE101.out) | exact HB.out)⟩
 ·replace c3 := Bool.eq_false_iff.mpr c3
  subst c3
  have H1 : (some false) = some r := by rw [if_neg (show ¬ (false = true) by decide)] at H; exact H
  clear H
  have H := H1
  clear H1
  obtain rfl := Option.some.inj H
  go_enter Try.func39, Try.ntmps39
  go_wp2_with (first | ((with_reducible refine zn (N := 1) rfl ?_); refine zm ?hg (N := 1) ?hd (cs := #[.int .i8 a0_0, .int .i8 a0_1, .bool a0_2, .bool a0_3]) (t := 29) ?hr ?_; (case hd => rfl); (case hg => rfl); (case hr => first | (go_simp; done) | (go_simp; rfl)); intro gb101 hg w7 hbox hb; have n0_ := ze.mk (zk (by repeat (first | (with_reducible first | exact HB.out | apply zc | apply za | apply zb) | exact HB.out)) hb); have n1_ := ze.mk (hbox); have n2_ := ze.mk ((by rw [hg]; exact (zj (by repeat (first | (with_reducible first | exact HB.out | apply zc | apply za | apply zb) | exact HB.out))) : w.heap.size ≤ gb101)); have n3_ := ze.mk ((by rw [hg]; exact (zj (by repeat (first | (with_reducible first | exact HB.out | apply zc | apply za | apply zb) | exact HB.out))) : w.heap.size ≤ gb101)); clear HB; have HB := n0_; have BK101 := n1_; have GW101 := n2_; have GE101 := n3_; clear n0_ n1_ n2_ n3_; clear hb hbox hg; have hcz8_0 := cz BK101.out 0 rfl; have hcz8_1 := cz BK101.out 1 rfl; have hcz8_2 := cz BK101.out 2 rfl; have hcz8_3 := cz BK101.out 3 rfl; have hfz8_0 := zd BK101.out 0; have hfz8_1 := zd BK101.out 1; have hfz8_2 := zd BK101.out 2; have hfz8_3 := zd BK101.out 3) | ((with_reducible refine zo (f := 37) rfl ?_); refine zx (some 6) rfl rfl Try.func37 (by kernel_rfl) rfl #[.int .i64 (wrap64 (a0_0)), .int .i64 1, .int .i64 13] rfl (by (try simp only [List.map_toArray, List.map_cons, List.map_nil]); first | done | rfl | (simp only [List.length_drop, List.length_take]; rfl)) ?_; (with_reducible refine (spec_l00In.calls (wrap64 (a0_0)) 1 13 false _ A2.out).mono ?_); rintro e w' ⟨rfl, ⟨nd, rfl⟩⟩; refine ⟨_, rfl, ?_⟩))
  go_ret
  exact ⟨by first | rfl | (simp [errW_none, errW_some] <;> rfl) | (simp [*, errW_none, errW_some] <;> rfl), by repeat (first | (with_reducible first | exact HB.out | apply zc | apply za | apply zb | refine zf ?_ GE101.out) | exact HB.out)⟩

end Go.Proofs.Ytmmonhpjjjdnjaa.M
