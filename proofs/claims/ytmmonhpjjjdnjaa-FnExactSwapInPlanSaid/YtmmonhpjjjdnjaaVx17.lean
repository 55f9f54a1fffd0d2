-- Written by wip/tools/myprint.py.
import Derived.Test.YtmmonhpjjjdnjaaVx0
import Derived.Test.YtmmonhpjjjdnjaaLLoadV
import Derived.Test.YtmmonhpjjjdnjaaVx12
import Derived.Test.YtmmonhpjjjdnjaaVx16
namespace Go.Proofs.Ytmmonhpjjjdnjaa.V
open Go.RowKit Go.Proofs.YtmmonhpjjjdnjaaW.PrintWords Go.Proofs.YtmmonhpjjjdnjaaW.PrintLast Go.Proofs.YtmmonhpjjjdnjaaW.PrintMore
attribute [local go_sem] zoa zqa zwa zva zia zga zra zpa
set_option linter.unusedVariables false
set_option linter.unusedSimpArgs false
def spec_ValidPlan.f (k : Nat) (a0_0 : Int) (a0_1 : Int) (a0_2 : Bool) (a0_3 : Bool) (l1 : List (S54)) : Option (Bool) := (spec_l03Ok.f a0_0 a0_1 a0_2 a0_3).bind fun t156 => (if t156 = true then ((spec_l03Plan.f k a0_0 a0_1 a0_2 a0_3 l1).bind fun t157 => (some t157)) else (some false))
set_option maxHeartbeats 8000000 in
set_option maxRecDepth 100000 in
theorem spec_ValidPlan.calls (k : Nat) (a0_0 : Int) (a0_1 : Int) (a0_2 : Bool) (a0_3 : Bool) (A1 : Option Addr) (c1 : Nat) (l1 : List (S54)) (r : Bool) (w : World) (hr1 : Kd.C k54 w A1 l1.length l1) (hc1 : l1.length ≤ c1) (h : spec_ValidPlan.f k a0_0 a0_1 a0_2 a0_3 l1 = some r) :
  Calls Try.prog 24 #[.agg #[.int .i8 a0_0, .int .i8 a0_1, .bool a0_2, .bool a0_3], .slice A1 l1.length c1] w fun e w' => e = .returned (.bool r) ∧ Below w.heap.size w w' := by
 have hu29 := Try.underlying29
 have HR1 := zc.mk hr1
 have HC1 := zc.mk hc1
 clear hr1 hc1
 have HB := zc.mk (Below.refl w.heap.size w)
 have H : ((spec_l03Ok.f a0_0 a0_1 a0_2 a0_3).bind fun t156 => (if t156 = true then ((spec_l03Plan.f k a0_0 a0_1 a0_2 a0_3 l1).bind fun t157 => (some t157)) else (some false))) = some r := h
 clear h
 replace H := Option.bind_eq_some_iff.mp H
 obtain ⟨t156, A30, H⟩ := H
 replace H : (if t156 = true then ((spec_l03Plan.f k a0_0 a0_1 a0_2 a0_3 l1).bind fun t157 => (some t157)) else (some false)) = some r := H
 have A3 := zc.mk A30
 clear A30
 by_cases c4 : t156 = true
 ·subst c4
  have H1 : ((spec_l03Plan.f k a0_0 a0_1 a0_2 a0_3 l1).bind fun t157 => (some t157)) = some r := by rw [if_pos rfl] at H; exact H
  clear H
  have H := H1
  clear H1
  replace H := Option.bind_eq_some_iff.mp H
  obtain ⟨t157, A50, H⟩ := H
  replace H : (some t157) = some r := H
  have A5 := zc.mk A50
  clear A50
  obtain rfl := Option.some.inj H
  go_enter Try.func24, Try.ntmps24
  go_wp2_with (first | ((with_reducible refine zp (N := 2) rfl ?_); refine zr ?hg (N := 2) ?hd (cs := #[.int .i8 a0_0, .int .i8 a0_1, .bool a0_2, .bool a0_3]) (t := 29) ?hr ?_; (case hd => rfl); (case hg => rfl); (case hr => first | (go_simp; done) | (go_simp; rfl)); intro gb155 hg w6 hbox hb; obtain ⟨n0_, n2_⟩ := bx (by repeat (first | (with_reducible first | exact HB.out | apply ze | apply zb | apply zd) | exact HB.out)) hb hg; have n1_ := zc.mk (hbox); have n3_ := n2_; clear HB; have HB := n0_; have BK155 := n1_; have GW155 := n2_; have GE155 := n3_; clear n0_ n1_ n2_ n3_; clear hb hbox hg; obtain ⟨y1_0, y1_1, y1_2, y1_3, z1_0, z1_1, z1_2, z1_3⟩ := cf4 BK155.out) | ((with_reducible refine zo (f := 39) rfl ?_); refine zaa (some 6) rfl rfl Try.func39 (by kernel_rfl) rfl #[.agg #[.int .i8 a0_0, .int .i8 a0_1, .bool a0_2, .bool a0_3]] rfl (by (try simp only [List.map_toArray, List.map_cons, List.map_nil]); first | done | rfl | (simp only [List.length_drop, List.length_take]; rfl)) ?_; (with_reducible refine (spec_l03Ok.calls a0_0 a0_1 a0_2 a0_3 true _ A3.out).mono ?_); rintro e w8 ⟨rfl, hb⟩; refine ⟨_, rfl, ?_⟩; have n0_ := zc.mk (zn (by (with_reducible repeat (first | refine zg ?_ _ | refine zi ?_ | refine zh ?_ _)); exact BK155.out) hb); have n1_ := zc.mk (zq (by repeat (first | (with_reducible first | exact HB.out | apply ze | apply zb | apply zd | refine zf ?_ GE155.out) | exact HB.out)) hb); clear BK155; clear HB; have BK155 := n0_; have HB := n1_; clear n0_ n1_; (try clear hb); (try clear hb2); (try clear hk); (try clear hi); obtain ⟨y2_0, y2_1, y2_2, y2_3, z2_0, z2_1, z2_2, z2_3⟩ := cf4 BK155.out) | (go_at_call 40; (with_reducible refine (spec_l03Plan.calls k a0_0 a0_1 a0_2 a0_3 _ _ l1 t157 _ ?side1 ?side2 A5.out).mono ?_); (case side1 => repeat (first | exact (Kd.C_below HR1.out HB.out) | (with_reducible refine Kd.C_alloc ?_ _) | (with_reducible refine Kd.C_drewN ?_ _) | (with_reducible refine Kd.C_drew ?_))); (case side2 => exact HC1.out); rintro e w10 ⟨rfl, hb⟩; have n0_ := zc.mk (zn (by (with_reducible repeat (first | refine zg ?_ _ | refine zi ?_ | refine zh ?_ _)); exact BK155.out) hb); have n1_ := zc.mk (zq (by repeat (first | (with_reducible first | exact HB.out | apply ze | apply zb | apply zd | refine zf ?_ GE155.out) | exact HB.out)) hb); clear BK155; clear HB; have BK155 := n0_; have HB := n1_; clear n0_ n1_; (try clear hb); (try clear hb2); (try clear hk); (try clear hi)))
  go_ret
  exact ⟨by first | rfl | (simp [zj, zk] <;> rfl) | (simp [*, zj, zk] <;> rfl), by repeat (first | (with_reducible first | exact HB.out | apply ze | apply zb | apply zd | refine zf ?_ GE155.out) | exact HB.out)⟩
 replace c4 := Bool.eq_false_iff.mpr c4
 subst c4
 have H1 : (some false) = some r := by rw [if_neg (show ¬ (false = true) by decide)] at H; exact H
 clear H
 have H := H1
 clear H1
 obtain rfl := Option.some.inj H
 go_enter Try.func24, Try.ntmps24
 go_wp2_with (first | ((with_reducible refine zp (N := 2) rfl ?_); refine zr ?hg (N := 2) ?hd (cs := #[.int .i8 a0_0, .int .i8 a0_1, .bool a0_2, .bool a0_3]) (t := 29) ?hr ?_; (case hd => rfl); (case hg => rfl); (case hr => first | (go_simp; done) | (go_simp; rfl)); intro gb155 hg w11 hbox hb; obtain ⟨n0_, n2_⟩ := bx (by repeat (first | (with_reducible first | exact HB.out | apply ze | apply zb | apply zd) | exact HB.out)) hb hg; have n1_ := zc.mk (hbox); have n3_ := n2_; clear HB; have HB := n0_; have BK155 := n1_; have GW155 := n2_; have GE155 := n3_; clear n0_ n1_ n2_ n3_; clear hb hbox hg; obtain ⟨y3_0, y3_1, y3_2, y3_3, z3_0, z3_1, z3_2, z3_3⟩ := cf4 BK155.out) | ((with_reducible refine zo (f := 39) rfl ?_); refine zaa (some 6) rfl rfl Try.func39 (by kernel_rfl) rfl #[.agg #[.int .i8 a0_0, .int .i8 a0_1, .bool a0_2, .bool a0_3]] rfl (by (try simp only [List.map_toArray, List.map_cons, List.map_nil]); first | done | rfl | (simp only [List.length_drop, List.length_take]; rfl)) ?_; (with_reducible refine (spec_l03Ok.calls a0_0 a0_1 a0_2 a0_3 false _ A3.out).mono ?_); rintro e w13 ⟨rfl, hb⟩; refine ⟨_, rfl, ?_⟩; have n0_ := zc.mk (zn (by (with_reducible repeat (first | refine zg ?_ _ | refine zi ?_ | refine zh ?_ _)); exact BK155.out) hb); have n1_ := zc.mk (zq (by repeat (first | (with_reducible first | exact HB.out | apply ze | apply zb | apply zd | refine zf ?_ GE155.out) | exact HB.out)) hb); clear BK155; clear HB; have BK155 := n0_; have HB := n1_; clear n0_ n1_; (try clear hb); (try clear hb2); (try clear hk); (try clear hi)))
 go_ret
 exact ⟨by first | rfl | (simp [zj, zk] <;> rfl) | (simp [*, zj, zk] <;> rfl), by repeat (first | (with_reducible first | exact HB.out | apply ze | apply zb | apply zd | refine zf ?_ GE155.out) | exact HB.out)⟩
end Go.Proofs.Ytmmonhpjjjdnjaa.V
