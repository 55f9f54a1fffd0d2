/- The reference's count of the waters reached. -/
import Derived.Test.YteciomagemjjaaaJx9
import Derived.Test.YteciomagemjjaaaLFindJ
namespace Go.Proofs.Yteciomagemjjaaa.J
open Go.RowKit Go.Proofs.YteciomagemjjaaaW.PrintWords Go.Proofs.YteciomagemjjaaaW.PrintLast Go.Proofs.YteciomagemjjaaaW.PrintMore
attribute [local go_sem] zoa zma max_two min_two zha zga zna zla   -- for this text's walks alone
set_option linter.unusedVariables false
set_option linter.unusedSimpArgs false
def spec_ReachedStates.f (k : Nat) (l0_0 : List Int) (a0_1 : Int) (a0_2 : Int) (a0_3 : Int) (a0_4 : Int) (a0_5 : Bool) : Option (Int × Int) := (spec_l02Ok.f k l0_0 a0_1 a0_2 a0_3 a0_4 a0_5).bind fun t218 => (if t218 = true then ((spec_l02Find.f k l0_0 a0_1 a0_2 a0_3 a0_4 a0_5).bind fun t219 => (some ((t219.2.2.2.length : Int), 0))) else (some (0, 1)))
set_option maxHeartbeats 8000000 in
set_option maxRecDepth 100000 in
theorem spec_ReachedStates.calls (k : Nat) (A0_0 : Option Addr) (c0_0 : Nat) (l0_0 : List Int) (a0_1 : Int) (a0_2 : Int) (a0_3 : Int) (a0_4 : Int) (a0_5 : Bool) (r1 : Int) (r2 : Int) (w : World) (hr0_0 : Kd.C (Kd.int .i16) w A0_0 l0_0.length l0_0) (hc0_0 : l0_0.length ≤ c0_0) (h : spec_ReachedStates.f k l0_0 a0_1 a0_2 a0_3 a0_4 a0_5 = some (r1, r2)) :
  Calls Try.prog 33 #[.agg #[.slice A0_0 l0_0.length c0_0, .int .i16 a0_1, .int .i16 a0_2, .int .i16 a0_3, .int .i16 a0_4, .bool a0_5]] w fun e w' => e = .returned (.tuple #[.int .i64 r1, .int .i64 r2]) ∧ Below w.heap.size w w' := by
 have hu29 := Try.underlying29
 have HR0_0 := zf.mk hr0_0
 have HC0_0 := zf.mk hc0_0
 clear hr0_0 hc0_0
 have HB := zf.mk (Below.refl w.heap.size w)
 unfold spec_ReachedStates.f at h
 obtain ⟨t218, A20, H⟩ := Option.bind_eq_some_iff.mp h
 clear h
 have A2 := zf.mk A20
 clear A20
 by_cases c3 : t218 = true
 ·rw [if_pos c3] at H
  subst c3
  obtain ⟨t219, A30, H⟩ := Option.bind_eq_some_iff.mp H
  have A3 := zf.mk A30
  clear A30
  simp only [Option.some.injEq, Prod.mk.injEq] at H
  obtain ⟨rfl, rfl⟩ := H
  go_enter Try.func33, Try.ntmps33
  have T218 : zf (true = true) := ⟨rfl⟩
  go_wp2_with (first | ((with_reducible refine zx (N := 1) rfl ?_); refine zt ?hg (N := 1) ?hd (cs := #[.slice A0_0 l0_0.length c0_0, .int .i16 a0_1, .int .i16 a0_2, .int .i16 a0_3, .int .i16 a0_4, .bool a0_5]) (t := 29) ?hr ?_; (case hd => rfl); (case hg => rfl); (case hr => first | (go_simp; done) | (go_simp; rfl)); intro gb217 hg w3 hbox hb; have n0_ := zf.mk (zm (by repeat (first | (with_reducible first | exact HB.out | apply zh | apply zc | apply zk | refine zj ?_ GE217.out) | exact HB.out)) hb); have n1_ := zf.mk (hbox); have n3_ := zf.mk ((by rw [hg]; exact (zn (by repeat (first | (with_reducible first | exact HB.out | apply zh | apply zc | apply zk | refine zj ?_ GE217.out) | exact HB.out)))) : w.heap.size ≤ gb217); clear HB; have HB := n0_; have BK217 := n1_; have GE217 := n3_; clear n0_ n1_ n3_; clear hb hbox hg) | ((with_reducible refine zs (f := 57) rfl ?_); refine zea (some 4) rfl rfl Try.func57 (by kernel_rfl) rfl #[.pointer (some ⟨gb217, 0, none⟩)] rfl (by (try simp only [List.map_toArray, List.map_cons, List.map_nil]); first | done | rfl | (simp only [List.length_drop, List.length_take]; rfl)) ?_; (with_reducible refine (spec_l02Ok.calls k gb217 A0_0 c0_0 l0_0 a0_1 a0_2 a0_3 a0_4 a0_5 true _ ?side1 ?side2 ?side3 A2.out).mono ?_); (case side1 => (with_reducible repeat (first | refine ze ?_ _ | refine zi ?_ | refine zg ?_ _)); exact BK217.out); (case side2 => repeat (first | exact (Kd.C_below HR0_0.out HB.out) | (with_reducible refine Kd.C_alloc ?_ _) | (with_reducible refine Kd.C_drewN ?_ _) | (with_reducible refine Kd.C_drew ?_))); (case side3 => exact HC0_0.out); rintro e w4 ⟨rfl, hb⟩; refine ⟨_, rfl, ?_⟩; have n0_ := zf.mk (zl (g := gb217) (o := .cells #[.slice A0_0 l0_0.length c0_0, .int .i16 a0_1, .int .i16 a0_2, .int .i16 a0_3, .int .i16 a0_4, .bool a0_5] 29 (0, 0)) (by (with_reducible repeat (first | refine ze ?_ _ | refine zi ?_ | refine zg ?_ _)); exact BK217.out) hb); have n1_ := zf.mk (zm (by repeat (first | (with_reducible first | exact HB.out | apply zh | apply zc | apply zk | refine zj ?_ GE217.out) | exact HB.out)) hb); clear BK217; clear HB; have BK217 := n0_; have HB := n1_; clear n0_ n1_; (try clear hb)) | ((with_reducible refine zs (f := 58) rfl ?_); refine zea (some 6) rfl rfl Try.func58 (by kernel_rfl) rfl #[.pointer (some ⟨gb217, 0, none⟩)] rfl (by (try simp only [List.map_toArray, List.map_cons, List.map_nil]); first | done | rfl | (simp only [List.length_drop, List.length_take]; rfl)) ?_; (with_reducible refine (spec_l02Find.calls k gb217 A0_0 c0_0 l0_0 a0_1 a0_2 a0_3 a0_4 a0_5 t219 _ ?side1 ?side2 ?side3 A3.out).mono ?_); (case side1 => (with_reducible repeat (first | refine ze ?_ _ | refine zi ?_ | refine zg ?_ _)); exact BK217.out); (case side2 => repeat (first | exact (Kd.C_below HR0_0.out HB.out) | (with_reducible refine Kd.C_alloc ?_ _) | (with_reducible refine Kd.C_drewN ?_ _) | (with_reducible refine Kd.C_drew ?_))); (case side3 => exact HC0_0.out); rintro e w5 ⟨gb220, rfl, hge, v0_, v1_, v2_, v3_, hbk, hr0, hr1, hr2, hr3, hb⟩; refine ⟨_, rfl, ?_⟩; have n1_ := zf.mk (zm (by repeat (first | (with_reducible first | exact HB.out | apply zh | apply zc | apply zk | refine zj ?_ GE217.out) | exact HB.out)) hb); clear HB; have HB := n1_; clear n1_; obtain ⟨A3_, c3_, e3_⟩ := Kd.R_slice hr3; subst e3_; have hcz3 := blk4_3 hbk; clear hb hbk hr0 hr1 hr2 hr3 hge))
  go_ret2
  exact ⟨by first | rfl | (simp [errW_none, errW_some] <;> rfl) | (simp [*, errW_none, errW_some] <;> rfl), by repeat (first | (with_reducible first | exact HB.out | apply zh | apply zc | apply zk | refine zj ?_ GE217.out) | exact HB.out)⟩
 ·rw [if_neg c3] at H
  replace c3 := Bool.eq_false_iff.mpr c3
  subst c3
  simp only [Option.some.injEq, Prod.mk.injEq] at H
  obtain ⟨rfl, rfl⟩ := H
  go_enter Try.func33, Try.ntmps33
  go_wp2_with (first | ((with_reducible refine zx (N := 1) rfl ?_); refine zt ?hg (N := 1) ?hd (cs := #[.slice A0_0 l0_0.length c0_0, .int .i16 a0_1, .int .i16 a0_2, .int .i16 a0_3, .int .i16 a0_4, .bool a0_5]) (t := 29) ?hr ?_; (case hd => rfl); (case hg => rfl); (case hr => first | (go_simp; done) | (go_simp; rfl)); intro gb217 hg w3 hbox hb; have n0_ := zf.mk (zm (by repeat (first | (with_reducible first | exact HB.out | apply zh | apply zc | apply zk | refine zj ?_ GE217.out) | exact HB.out)) hb); have n1_ := zf.mk (hbox); have n3_ := zf.mk ((by rw [hg]; exact (zn (by repeat (first | (with_reducible first | exact HB.out | apply zh | apply zc | apply zk | refine zj ?_ GE217.out) | exact HB.out)))) : w.heap.size ≤ gb217); clear HB; have HB := n0_; have BK217 := n1_; have GE217 := n3_; clear n0_ n1_ n3_; clear hb hbox hg) | ((with_reducible refine zs (f := 57) rfl ?_); refine zea (some 4) rfl rfl Try.func57 (by kernel_rfl) rfl #[.pointer (some ⟨gb217, 0, none⟩)] rfl (by (try simp only [List.map_toArray, List.map_cons, List.map_nil]); first | done | rfl | (simp only [List.length_drop, List.length_take]; rfl)) ?_; (with_reducible refine (spec_l02Ok.calls k gb217 A0_0 c0_0 l0_0 a0_1 a0_2 a0_3 a0_4 a0_5 false _ ?side1 ?side2 ?side3 A2.out).mono ?_); (case side1 => (with_reducible repeat (first | refine ze ?_ _ | refine zi ?_ | refine zg ?_ _)); exact BK217.out); (case side2 => repeat (first | exact (Kd.C_below HR0_0.out HB.out) | (with_reducible refine Kd.C_alloc ?_ _) | (with_reducible refine Kd.C_drewN ?_ _) | (with_reducible refine Kd.C_drew ?_))); (case side3 => exact HC0_0.out); rintro e w4 ⟨rfl, hb⟩; refine ⟨_, rfl, ?_⟩; have n0_ := zf.mk (zl (g := gb217) (o := .cells #[.slice A0_0 l0_0.length c0_0, .int .i16 a0_1, .int .i16 a0_2, .int .i16 a0_3, .int .i16 a0_4, .bool a0_5] 29 (0, 0)) (by (with_reducible repeat (first | refine ze ?_ _ | refine zi ?_ | refine zg ?_ _)); exact BK217.out) hb); have n1_ := zf.mk (zm (by repeat (first | (with_reducible first | exact HB.out | apply zh | apply zc | apply zk | refine zj ?_ GE217.out) | exact HB.out)) hb); clear BK217; clear HB; have BK217 := n0_; have HB := n1_; clear n0_ n1_; (try clear hb)))
  go_ret2
  exact ⟨by first | rfl | (simp [errW_none, errW_some] <;> rfl) | (simp [*, errW_none, errW_some] <;> rfl), by repeat (first | (with_reducible first | exact HB.out | apply zh | apply zc | apply zk | refine zj ?_ GE217.out) | exact HB.out)⟩
end Go.Proofs.Yteciomagemjjaaa.J
