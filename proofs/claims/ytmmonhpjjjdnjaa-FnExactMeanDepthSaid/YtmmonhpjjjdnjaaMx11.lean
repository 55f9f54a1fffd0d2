-- Written by wip/tools/myprint.py, a program of this session, by way of the kit's print.
import Derived.Test.YtmmonhpjjjdnjaaMx0
import Derived.Test.YtmmonhpjjjdnjaaLLoad
import Derived.Test.YtmmonhpjjjdnjaaMx5
import Derived.Test.YtmmonhpjjjdnjaaMx9
import Derived.Test.YtmmonhpjjjdnjaaMx10
namespace Go.Proofs.Ytmmonhpjjjdnjaa.M
open Go.RowKit Go.Proofs.YtmmonhpjjjdnjaaW.PrintWords Go.Proofs.YtmmonhpjjjdnjaaW.PrintLast Go.Proofs.YtmmonhpjjjdnjaaW.PrintMore
attribute [local go_sem] zea zca zka zja zy zz zfa zda   -- for this text's walks alone
set_option linter.unusedVariables false
set_option linter.unusedSimpArgs false

/-! ### spec_MeanDepth: function 9 -/
def spec_MeanDepth.l0 : Nat → List (S54) → List (S46) → Int → Int → Option (Int × Int × Int)
 | 0, _, _, _, _ => none
 | k + 1, x1, x7, x8, x9 => if x9 < (x7.length : Int) then (if 0 ≤ x9 then ((spec_l03Run.f k x1 ((rd_T46 x7 x9).f0) ((rd_T46 x7 x9).f1)).bind fun bt178 => (spec_MeanDepth.l0 k x1 x7 (wrap64 (x8 + bt178.2.2)) (wrap64 (x9 + 1)))) else (none)) else (some (x8, (x7.length : Int), 0))
def spec_MeanDepth.f (k : Nat) (a0_0 : Int) (a0_1 : Int) (a0_2 : Bool) (a0_3 : Bool) (l1 : List (S54)) : Option (Int × Int × Int) := (spec_ValidPlan.f k a0_0 a0_1 a0_2 a0_3 l1).bind fun t173 => (if t173 = true then ((spec_l03Cases.f k a0_0 a0_1 a0_2 a0_3).bind fun t174 => (spec_MeanDepth.l0 k l1 t174 0 0)) else (some (0, 0, 1)))
theorem spec_MeanDepth.mono_l : ∀ k, (∀ y0 y1 y2 y3, LeO (spec_MeanDepth.l0 k y0 y1 y2 y3) (spec_MeanDepth.l0 (k + 1) y0 y1 y2 y3))
 | 0 => fun _ _ _ _ r h => by simp [spec_MeanDepth.l0] at h
 | k + 1 => by
  have ih0 := spec_MeanDepth.mono_l k
  ·intro y0 y1 y2 y3
   unfold spec_MeanDepth.l0
   repeat' first
   | (with_reducible exact ih0 _ _ _ _)
   | (with_reducible exact spec_ValidPlan.mono _ _ _ _ _ _)
   | (with_reducible exact spec_l03Cases.mono _ _ _ _ _)
   | (with_reducible exact spec_l03Run.mono _ _ _ _)
   | (with_reducible exact LeO.refl _)
   | (with_reducible exact LeO.none _)
   | (with_reducible refine LeO.ite ?_ ?_)
   | (with_reducible refine LeO.bind ?_ (fun _ => ?_))
   | exact ih0 _ _ _ _
   | exact spec_ValidPlan.mono _ _ _ _ _ _
   | exact spec_l03Cases.mono _ _ _ _ _
   | exact spec_l03Run.mono _ _ _ _
   | exact LeO.none _
   | refine LeO.ite ?_ ?_
   | refine LeO.bind ?_ (fun _ => ?_)
theorem spec_MeanDepth.mono : ∀ a0 a1 a2 a3 a4 k, LeO (spec_MeanDepth.f k a0 a1 a2 a3 a4) (spec_MeanDepth.f (k + 1) a0 a1 a2 a3 a4) := by
 intro a0 a1 a2 a3 a4 k
 have ih0 := spec_MeanDepth.mono_l k
 unfold spec_MeanDepth.f
 repeat' first
   | (with_reducible exact ih0 _ _ _ _)
   | (with_reducible exact spec_ValidPlan.mono _ _ _ _ _ _)
   | (with_reducible exact spec_l03Cases.mono _ _ _ _ _)
   | (with_reducible exact spec_l03Run.mono _ _ _ _)
   | (with_reducible exact LeO.refl _)
   | (with_reducible exact LeO.none _)
   | (with_reducible refine LeO.ite ?_ ?_)
   | (with_reducible refine LeO.bind ?_ (fun _ => ?_))
   | exact ih0 _ _ _ _
   | exact spec_ValidPlan.mono _ _ _ _ _ _
   | exact spec_l03Cases.mono _ _ _ _ _
   | exact spec_l03Run.mono _ _ _ _
   | exact LeO.none _
   | refine LeO.ite ?_ ?_
   | refine LeO.bind ?_ (fun _ => ?_)
set_option maxHeartbeats 8000000 in
set_option maxRecDepth 100000 in
theorem spec_MeanDepth.calls (k : Nat) (a0_0 : Int) (a0_1 : Int) (a0_2 : Bool) (a0_3 : Bool) (A1 : Option Addr) (c1 : Nat) (l1 : List (S54)) (r1 : Int) (r2 : Int) (r3 : Int) (w : World) (hr1 : Kd.C k54 w A1 l1.length l1) (hc1 : l1.length ≤ c1) (h : spec_MeanDepth.f k a0_0 a0_1 a0_2 a0_3 l1 = some (r1, r2, r3)) :
  Calls Try.prog 9 #[.agg #[.int .i8 a0_0, .int .i8 a0_1, .bool a0_2, .bool a0_3], .slice A1 l1.length c1] w fun e w' => e = .returned (.tuple #[.int .i64 r1, .int .i64 r2, .int .i64 r3]) ∧ Below w.heap.size w w' := by
 have hu29 := Try.underlying29
 have hu46 := Try.underlying46
 have HR1 := ze.mk hr1
 have HC1 := ze.mk hc1
 clear hr1 hc1
 have HB := ze.mk (Below.refl w.heap.size w)
 have H : ((spec_ValidPlan.f k a0_0 a0_1 a0_2 a0_3 l1).bind fun t173 => (if t173 = true then ((spec_l03Cases.f k a0_0 a0_1 a0_2 a0_3).bind fun t174 => (spec_MeanDepth.l0 k l1 t174 0 0)) else (some (0, 0, 1)))) = some (r1, r2, r3) := h
 clear h
 replace H := Option.bind_eq_some_iff.mp H
 obtain ⟨t173, A30, H⟩ := H
 replace H : (if t173 = true then ((spec_l03Cases.f k a0_0 a0_1 a0_2 a0_3).bind fun t174 => (spec_MeanDepth.l0 k l1 t174 0 0)) else (some (0, 0, 1))) = some (r1, r2, r3) := H
 have A3 := ze.mk A30
 clear A30
 by_cases c4 : t173 = true
 ·subst c4
  have H1 : ((spec_l03Cases.f k a0_0 a0_1 a0_2 a0_3).bind fun t174 => (spec_MeanDepth.l0 k l1 t174 0 0)) = some (r1, r2, r3) := by rw [if_pos rfl] at H; exact H
  clear H
  have H := H1
  clear H1
  replace H := Option.bind_eq_some_iff.mp H
  obtain ⟨t174, A50, H⟩ := H
  replace H : (spec_MeanDepth.l0 k l1 t174 0 0) = some (r1, r2, r3) := H
  have A5 := ze.mk A50
  clear A50
  have H' := ze.mk H
  clear H
  go_enter Try.func9, Try.ntmps9
  go_wp2_with (first | ((with_reducible refine zn (N := 2) rfl ?_); refine zm ?hg (N := 2) ?hd (cs := #[.int .i8 a0_0, .int .i8 a0_1, .bool a0_2, .bool a0_3]) (t := 29) ?hr ?_; (case hd => rfl); (case hg => rfl); (case hr => first | (go_simp; done) | (go_simp; rfl)); intro gb172 hg w6 hbox hb; have n0_ := ze.mk (zk (by repeat (first | (with_reducible first | exact HB.out | apply zc | apply za | apply zb) | exact HB.out)) hb); have n1_ := ze.mk (hbox); have n2_ := ze.mk ((by rw [hg]; exact (zj (by repeat (first | (with_reducible first | exact HB.out | apply zc | apply za | apply zb) | exact HB.out))) : w.heap.size ≤ gb172)); have n3_ := ze.mk ((by rw [hg]; exact (zj (by repeat (first | (with_reducible first | exact HB.out | apply zc | apply za | apply zb) | exact HB.out))) : w.heap.size ≤ gb172)); clear HB; have HB := n0_; have BK172 := n1_; have GW172 := n2_; have GE172 := n3_; clear n0_ n1_ n2_ n3_; clear hb hbox hg; have hcz7_0 := cz BK172.out 0 rfl; have hcz7_1 := cz BK172.out 1 rfl; have hcz7_2 := cz BK172.out 2 rfl; have hcz7_3 := cz BK172.out 3 rfl; have hfz7_0 := zd BK172.out 0; have hfz7_1 := zd BK172.out 1; have hfz7_2 := zd BK172.out 2; have hfz7_3 := zd BK172.out 3) | ((with_reducible refine zo (f := 24) rfl ?_); refine zx (some 14) rfl rfl Try.func24 (by kernel_rfl) rfl #[.agg #[.int .i8 a0_0, .int .i8 a0_1, .bool a0_2, .bool a0_3], .slice A1 l1.length c1] rfl (by (try simp only [List.map_toArray, List.map_cons, List.map_nil]); first | done | rfl | (simp only [List.length_drop, List.length_take]; rfl)) ?_; (with_reducible refine (spec_ValidPlan.calls k a0_0 a0_1 a0_2 a0_3 _ _ l1 true _ ?side1 ?side2 A3.out).mono ?_); (case side1 => repeat (first | exact (Kd.C_below HR1.out HB.out) | (with_reducible refine Kd.C_alloc ?_ _) | (with_reducible refine Kd.C_drewN ?_ _) | (with_reducible refine Kd.C_drew ?_))); (case side2 => exact HC1.out); rintro e w8 ⟨rfl, hb⟩; refine ⟨_, rfl, ?_⟩; have n0_ := ze.mk (zl (g := gb172) (o := .cells #[.int .i8 a0_0, .int .i8 a0_1, .bool a0_2, .bool a0_3] 29 (0, 0)) (by (with_reducible repeat (first | refine zh ?_ _ | refine zi ?_ | refine zg ?_ _)); exact BK172.out) hb); have n1_ := ze.mk (zk (by repeat (first | (with_reducible first | exact HB.out | apply zc | apply za | apply zb | refine zf ?_ GE172.out) | exact HB.out)) hb); clear BK172; clear HB; have BK172 := n0_; have HB := n1_; clear n0_ n1_; (try clear hb); (try clear hb2); (try clear hk); (try clear hi); have hcz9_0 := cz BK172.out 0 rfl; have hcz9_1 := cz BK172.out 1 rfl; have hcz9_2 := cz BK172.out 2 rfl; have hcz9_3 := cz BK172.out 3 rfl; have hfz9_0 := zd BK172.out 0; have hfz9_1 := zd BK172.out 1; have hfz9_2 := zd BK172.out 2; have hfz9_3 := zd BK172.out 3) | ((with_reducible refine zo (f := 25) rfl ?_); refine zx (some 17) rfl rfl Try.func25 (by kernel_rfl) rfl #[.agg #[.int .i8 a0_0, .int .i8 a0_1, .bool a0_2, .bool a0_3]] rfl (by (try simp only [List.map_toArray, List.map_cons, List.map_nil]); first | done | rfl | (simp only [List.length_drop, List.length_take]; rfl)) ?_; (with_reducible refine (spec_l03Cases.calls k a0_0 a0_1 a0_2 a0_3 t174 _ A5.out).mono ?_); rintro e w10 ⟨v175, rfl, ho0, hb⟩; refine ⟨_, rfl, ?_⟩; have n0_ := ze.mk (Kd.R_lower ho0 (zj (by repeat (first | (with_reducible first | exact HB.out | apply zc | apply za | apply zb | refine zf ?_ GE172.out) | exact HB.out)))); have n1_ := ze.mk (zl (g := gb172) (o := .cells #[.int .i8 a0_0, .int .i8 a0_1, .bool a0_2, .bool a0_3] 29 (0, 0)) (by (with_reducible repeat (first | refine zh ?_ _ | refine zi ?_ | refine zg ?_ _)); exact BK172.out) hb); have n2_ := ze.mk (zk (by repeat (first | (with_reducible first | exact HB.out | apply zc | apply za | apply zb | refine zf ?_ GE172.out) | exact HB.out)) hb); clear BK172; clear HB; have HO176 := n0_; have BK172 := n1_; have HB := n2_; clear n0_ n1_ n2_; (try clear hb); (try clear hb2); (try clear hk); (try clear hi); (try clear ho0)))
  go_loopg [8, 9] k (fun kq v8 v9 w' => ∃ (x8_1 : Int) (x9_1 : Int), v8 = .int .i64 x8_1 ∧ v9 = .int .i64 x9_1 ∧ ze (spec_MeanDepth.l0 kq l1 t174 x8_1 x9_1 = some (r1, r2, r3)) ∧ ze (kq ≤ k) ∧ ze (Kd.R k46 46 w' w.heap.size (fun _ => True) v175 t174) ∧ ze (w'.heap[gb172]? = some (.cells #[.int .i8 a0_0, .int .i8 a0_1, .bool a0_2, .bool a0_3] 29 (0, 0))) ∧ ze (Below w.heap.size w w'))
  case atStart => exact ⟨(0), (0), (by first | rfl | (simp; done) | (simp [*]; done)), (by first | rfl | (simp; done) | (simp [*]; done)), H', ⟨Nat.le_refl _⟩, ⟨by (with_reducible repeat (first | apply Kd.R_alloc | apply Kd.R_drewN | apply Kd.R_drew)); exact HO176.out⟩, ⟨by (with_reducible repeat (first | refine zh ?_ _ | refine zi ?_ | refine zg ?_ _)); exact BK172.out⟩, ⟨by repeat (first | (with_reducible first | exact HB.out | apply zc | apply za | apply zb | refine zf ?_ GE172.out) | exact HB.out)⟩⟩
  case round =>
   clear H'
   try clear c1
   try clear c2
   try clear p2
   try clear c4
   try clear c9
   try clear hcz7_0
   try clear hcz7_1
   try clear hcz7_2
   try clear hcz7_3
   try clear hcz9_0
   try clear hcz9_1
   try clear hcz9_2
   try clear hcz9_3
   try clear hfz7_0
   try clear hfz7_1
   try clear hfz7_2
   try clear hfz7_3
   try clear hfz9_0
   try clear hfz9_1
   try clear hfz9_2
   try clear hfz9_3
   obtain ⟨x8_1, x9_1, rfl, rfl, HA, HK1, HO_7, BK172, HB⟩ := hrel
   cases gk with
   | zero => exact absurd HA.out (by simp [spec_MeanDepth.l0])
   | succ k1 =>
    have H := HA.out
    clear HA
    simp only [spec_MeanDepth.l0] at H
    by_cases c11 : x9_1 < (t174.length : Int)
    ·rw [if_pos c11] at H
     have c11b0 : decide (x9_1 < (t174.length : Int)) = true := decide_eq_true c11
     clear c11
     by_cases c12 : 0 ≤ x9_1
     ·rw [if_pos c12] at H
      have c12b0 : decide (0 ≤ x9_1) = true := decide_eq_true c12
      clear c12
      replace H := Option.bind_eq_some_iff.mp H
      obtain ⟨⟨t178, t179, t180⟩, A130, H⟩ := H
      replace H : (spec_MeanDepth.l0 k1 l1 t174 (wrap64 (x8_1 + t180)) (wrap64 (x9_1 + 1))) = some (r1, r2, r3) := H
      have A13 := ze.mk A130
      clear A130
      have H' := ze.mk H
      clear H
      obtain ⟨Ao14, co14, eo14⟩ := Kd.R_slice HO_7.out
      subst eo14
      have p177 : 0 ≤ (x9_1 : Int) := of_decide_eq_true (by first | (with_reducible assumption) | assumption)
      have q177 : x9_1 < (t174.length : Int) := of_decide_eq_true (by first | (with_reducible assumption) | assumption)
      obtain ⟨ad177, e177, hx177_0, hx177_1⟩ := at_T46 (Kd.R_reads' HO_7.out).2.2 x9_1 p177 q177
      cases e177
      replace p177 := eq_true p177
      replace q177 := eq_true q177
      go_wp2_with (first | ((with_reducible refine zo (f := 26) rfl ?_); refine zx (some 30) rfl rfl Try.func26 (by kernel_rfl) rfl #[.slice A1 l1.length c1, .agg #[.int .i8 ((rd_T46 t174 x9_1).f0), .bool ((rd_T46 t174 x9_1).f1)]] rfl (by (try simp only [List.map_toArray, List.map_cons, List.map_nil]); first | done | rfl | (simp only [List.length_drop, List.length_take]; rfl)) ?_; (with_reducible refine (spec_l03Run.calls k1 _ _ l1 ((rd_T46 t174 x9_1).f0) ((rd_T46 t174 x9_1).f1) t178 t179 t180 _ ?side1 ?side2 A13.out).mono ?_); (case side1 => repeat (first | exact (Kd.C_below HR1.out HB.out) | (with_reducible refine Kd.C_alloc ?_ _) | (with_reducible refine Kd.C_drewN ?_ _) | (with_reducible refine Kd.C_drew ?_))); (case side2 => exact HC1.out); rintro e w15 ⟨rfl, hb⟩; refine ⟨_, rfl, ?_⟩; have n0_ := ze.mk (Kd.R_below (by (with_reducible repeat (first | apply Kd.R_alloc | apply Kd.R_drewN | apply Kd.R_drew)); exact HO_7.out) hb); have n1_ := ze.mk (zl (g := gb172) (o := .cells #[.int .i8 a0_0, .int .i8 a0_1, .bool a0_2, .bool a0_3] 29 (0, 0)) (by (with_reducible repeat (first | refine zh ?_ _ | refine zi ?_ | refine zg ?_ _)); exact BK172.out) hb); have n2_ := ze.mk (zk (by repeat (first | (with_reducible first | exact HB.out | apply zc | apply za | apply zb | refine zf ?_ GE172.out) | exact HB.out)) hb); clear HO_7; clear BK172; clear HB; have HO_7 := n0_; have BK172 := n1_; have HB := n2_; clear n0_ n1_ n2_; (try clear hb); (try clear hb2); (try clear hk); (try clear hi)) | ((with_reducible refine zn (N := 10) rfl ?_); refine zm ?hg (N := 10) ?hd (cs := #[.int .i8 0, .bool false]) (t := 46) ?hr ?_; (case hd => rfl); (case hg => rfl); (case hr => first | (go_simp; done) | (go_simp; rfl)); intro gb181 hg w16 hbox hb; have n0_ := ze.mk (Kd.R_below (Kd.R_elderB (by (with_reducible repeat (first | apply Kd.R_alloc | apply Kd.R_drewN | apply Kd.R_drew)); exact HO_7.out) gb181 (Nat.le_of_eq hg.symm)) hb); have n1_ := ze.mk (zl (g := gb172) (o := .cells #[.int .i8 a0_0, .int .i8 a0_1, .bool a0_2, .bool a0_3] 29 (0, 0)) (by (with_reducible repeat (first | refine zh ?_ _ | refine zi ?_ | refine zg ?_ _)); exact BK172.out) hb); have n2_ := ze.mk (zk (by repeat (first | (with_reducible first | exact HB.out | apply zc | apply za | apply zb | refine zf ?_ GE172.out) | exact HB.out)) hb); have n3_ := ze.mk (hbox); have n4_ := ze.mk ((by rw [hg]; exact (zj (by repeat (first | (with_reducible first | exact HB.out | apply zc | apply za | apply zb | refine zf ?_ GE172.out) | exact HB.out))) : w.heap.size ≤ gb181)); have n5_ := ze.mk ((by rw [hg]; exact (zj (by repeat (first | (with_reducible first | exact HB.out | apply zc | apply za | apply zb | refine zf ?_ GE172.out) | exact HB.out))) : w.heap.size ≤ gb181)); have n6_ := ze.mk ((by rw [hg]; exact Nat.ne_of_lt (zu (g := gb172) (o := .cells #[.int .i8 a0_0, .int .i8 a0_1, .bool a0_2, .bool a0_3] 29 (0, 0)) (by (with_reducible repeat (first | refine zh ?_ _ | refine zi ?_ | refine zg ?_ _)); exact BK172.out)) : gb172 ≠ gb181)); have n7_ := ze.mk ((by rw [hg]; exact Nat.ne_of_gt (zu (g := gb172) (o := .cells #[.int .i8 a0_0, .int .i8 a0_1, .bool a0_2, .bool a0_3] 29 (0, 0)) (by (with_reducible repeat (first | refine zh ?_ _ | refine zi ?_ | refine zg ?_ _)); exact BK172.out)) : gb181 ≠ gb172)); clear HO_7; clear BK172; clear HB; have HO_7 := n0_; have BK172 := n1_; have HB := n2_; have BK181 := n3_; have GW181 := n4_; have GE181 := n5_; have NB172_181 := n6_; have NB181_172 := n7_; clear n0_ n1_ n2_ n3_ n4_ n5_ n6_ n7_; clear hb hbox hg; have hnb17 := NB181_172.out; have hnc17 := NB172_181.out; have hcz18_0 := cz BK181.out 0 rfl; have hcz18_1 := cz BK181.out 1 rfl; have hfz18_0 := zd BK181.out 0; have hfz18_1 := zd BK181.out 1))
      go_roundg k1
      case measure => have := HK1.out; omega
      case rel => exact ⟨(wrap64 (x8_1 + t180)), (wrap64 (x9_1 + 1)), (by first | rfl | (simp; done) | (simp [*]; done)), (by first | rfl | (simp; done) | (simp [*]; done)), H', ⟨by have := HK1.out; omega⟩, ⟨by (with_reducible repeat (first | apply Kd.R_alloc | apply Kd.R_drewN | apply Kd.R_drew)); exact Kd.R_mono (Kd.R_far (p := ⟨gb181, 1, none⟩) (Kd.R_far (p := ⟨gb181, 0, none⟩) (Kd.R_mono HO_7.out (fun k_ hk => (⟨hk, hk.2⟩ : _ ∧ k_ ≠ gb181))) (fun _ hk => hk.2) (.int .i8 t178)) (fun _ hk => hk.2) (.bool t179)) (fun _ hk => trivial)⟩, ⟨by (with_reducible repeat (first | refine zh ?_ _ | refine zi ?_ | refine zg ?_ _)); refine zha ?_ NB172_181.out _; (with_reducible repeat (first | refine zh ?_ _ | refine zi ?_ | refine zg ?_ _)); refine zha ?_ NB172_181.out _; (with_reducible repeat (first | refine zh ?_ _ | refine zi ?_ | refine zg ?_ _)); exact BK172.out⟩, ⟨by repeat (first | (with_reducible first | exact HB.out | apply zc | apply za | apply zb | refine zf ?_ GE172.out | refine zf ?_ GE181.out) | exact HB.out)⟩⟩
     ·rw [if_neg c12] at H
      exact absurd H (by simp)
    ·rw [if_neg c11] at H
     have c11b0 : decide (x9_1 < (t174.length : Int)) = false := decide_eq_false c11
     clear c11
     simp only [Option.some.injEq, Prod.mk.injEq] at H
     obtain ⟨rfl, rfl, rfl⟩ := H
     obtain ⟨Ao19, co19, eo19⟩ := Kd.R_slice HO_7.out
     subst eo19
     go_wp2
     go_ret3
     exact ⟨by first | rfl | (simp [errW_none, errW_some] <;> rfl) | (simp [*, errW_none, errW_some] <;> rfl), by repeat (first | (with_reducible first | exact HB.out | apply zc | apply za | apply zb | refine zf ?_ GE172.out) | exact HB.out)⟩
 ·replace c4 := Bool.eq_false_iff.mpr c4
  subst c4
  have H1 : (some (0, 0, 1)) = some (r1, r2, r3) := by rw [if_neg (show ¬ (false = true) by decide)] at H; exact H
  clear H
  have H := H1
  clear H1
  simp only [Option.some.injEq, Prod.mk.injEq] at H
  obtain ⟨rfl, rfl, rfl⟩ := H
  go_enter Try.func9, Try.ntmps9
  go_wp2_with (first | ((with_reducible refine zn (N := 2) rfl ?_); refine zm ?hg (N := 2) ?hd (cs := #[.int .i8 a0_0, .int .i8 a0_1, .bool a0_2, .bool a0_3]) (t := 29) ?hr ?_; (case hd => rfl); (case hg => rfl); (case hr => first | (go_simp; done) | (go_simp; rfl)); intro gb172 hg w20 hbox hb; have n0_ := ze.mk (zk (by repeat (first | (with_reducible first | exact HB.out | apply zc | apply za | apply zb) | exact HB.out)) hb); have n1_ := ze.mk (hbox); have n2_ := ze.mk ((by rw [hg]; exact (zj (by repeat (first | (with_reducible first | exact HB.out | apply zc | apply za | apply zb) | exact HB.out))) : w.heap.size ≤ gb172)); have n3_ := ze.mk ((by rw [hg]; exact (zj (by repeat (first | (with_reducible first | exact HB.out | apply zc | apply za | apply zb) | exact HB.out))) : w.heap.size ≤ gb172)); clear HB; have HB := n0_; have BK172 := n1_; have GW172 := n2_; have GE172 := n3_; clear n0_ n1_ n2_ n3_; clear hb hbox hg; have hcz21_0 := cz BK172.out 0 rfl; have hcz21_1 := cz BK172.out 1 rfl; have hcz21_2 := cz BK172.out 2 rfl; have hcz21_3 := cz BK172.out 3 rfl; have hfz21_0 := zd BK172.out 0; have hfz21_1 := zd BK172.out 1; have hfz21_2 := zd BK172.out 2; have hfz21_3 := zd BK172.out 3) | ((with_reducible refine zo (f := 24) rfl ?_); refine zx (some 14) rfl rfl Try.func24 (by kernel_rfl) rfl #[.agg #[.int .i8 a0_0, .int .i8 a0_1, .bool a0_2, .bool a0_3], .slice A1 l1.length c1] rfl (by (try simp only [List.map_toArray, List.map_cons, List.map_nil]); first | done | rfl | (simp only [List.length_drop, List.length_take]; rfl)) ?_; (with_reducible refine (spec_ValidPlan.calls k a0_0 a0_1 a0_2 a0_3 _ _ l1 false _ ?side1 ?side2 A3.out).mono ?_); (case side1 => repeat (first | exact (Kd.C_below HR1.out HB.out) | (with_reducible refine Kd.C_alloc ?_ _) | (with_reducible refine Kd.C_drewN ?_ _) | (with_reducible refine Kd.C_drew ?_))); (case side2 => exact HC1.out); rintro e w22 ⟨rfl, hb⟩; refine ⟨_, rfl, ?_⟩; have n0_ := ze.mk (zl (g := gb172) (o := .cells #[.int .i8 a0_0, .int .i8 a0_1, .bool a0_2, .bool a0_3] 29 (0, 0)) (by (with_reducible repeat (first | refine zh ?_ _ | refine zi ?_ | refine zg ?_ _)); exact BK172.out) hb); have n1_ := ze.mk (zk (by repeat (first | (with_reducible first | exact HB.out | apply zc | apply za | apply zb | refine zf ?_ GE172.out) | exact HB.out)) hb); clear BK172; clear HB; have BK172 := n0_; have HB := n1_; clear n0_ n1_; (try clear hb); (try clear hb2); (try clear hk); (try clear hi)))
  go_ret3
  exact ⟨by first | rfl | (simp [errW_none, errW_some] <;> rfl) | (simp [*, errW_none, errW_some] <;> rfl), by repeat (first | (with_reducible first | exact HB.out | apply zc | apply za | apply zb | refine zf ?_ GE172.out) | exact HB.out)⟩

/-! ### laws_toTask: function 10 -/
def laws_toTask.f (a0_0 : Int) (a0_1 : Int) (a0_2 : Bool) (a0_3 : Bool) : Option (Int × Int × Bool × Bool) := some (a0_0, a0_1, a0_2, a0_3)
set_option maxHeartbeats 8000000 in
set_option maxRecDepth 100000 in
theorem laws_toTask.calls (a0_0 : Int) (a0_1 : Int) (a0_2 : Bool) (a0_3 : Bool) (r1 : Int) (r2 : Int) (r3 : Bool) (r4 : Bool) (w : World) (h : laws_toTask.f a0_0 a0_1 a0_2 a0_3 = some (r1, r2, r3, r4)) :
  Calls Try.prog 10 #[.agg #[.int .i8 a0_0, .int .i8 a0_1, .bool a0_2, .bool a0_3]] w fun e w' => e = .returned (.agg #[.int .i8 r1, .int .i8 r2, .bool r3, .bool r4]) ∧ Below w.heap.size w w' := by
 have hu24 := Try.underlying24
 have hu29 := Try.underlying29
 have HB := ze.mk (Below.refl w.heap.size w)
 have H : (some (a0_0, a0_1, a0_2, a0_3)) = some (r1, r2, r3, r4) := h
 clear h
 simp only [Option.some.injEq, Prod.mk.injEq] at H
 obtain ⟨rfl, rfl, rfl, rfl⟩ := H
 go_enter Try.func10, Try.ntmps10
 go_wp2_with (first | ((with_reducible refine zn (N := 1) rfl ?_); refine zm ?hg (N := 1) ?hd (cs := #[.int .i8 a0_0, .int .i8 a0_1, .bool a0_2, .bool a0_3]) (t := 24) ?hr ?_; (case hd => rfl); (case hg => rfl); (case hr => first | (go_simp; done) | (go_simp; rfl)); intro gb182 hg w2 hbox hb; have n0_ := ze.mk (zk (by repeat (first | (with_reducible first | exact HB.out | apply zc | apply za | apply zb) | exact HB.out)) hb); have n1_ := ze.mk (hbox); have n2_ := ze.mk ((by rw [hg]; exact (zj (by repeat (first | (with_reducible first | exact HB.out | apply zc | apply za | apply zb) | exact HB.out))) : w.heap.size ≤ gb182)); have n3_ := ze.mk ((by rw [hg]; exact (zj (by repeat (first | (with_reducible first | exact HB.out | apply zc | apply za | apply zb) | exact HB.out))) : w.heap.size ≤ gb182)); clear HB; have HB := n0_; have BK182 := n1_; have GW182 := n2_; have GE182 := n3_; clear n0_ n1_ n2_ n3_; clear hb hbox hg) | ((with_reducible refine zn (N := 2) rfl ?_); refine zm ?hg (N := 2) ?hd (cs := #[.int .i8 0, .int .i8 0, .bool false, .bool false]) (t := 29) ?hr ?_; (case hd => rfl); (case hg => rfl); (case hr => first | (go_simp; done) | (go_simp; rfl)); intro gb183 hg w3 hbox hb; have n0_ := ze.mk (zl (g := gb182) (o := .cells #[.int .i8 a0_0, .int .i8 a0_1, .bool a0_2, .bool a0_3] 24 (0, 0)) (by (with_reducible repeat (first | refine zh ?_ _ | refine zi ?_ | refine zg ?_ _)); exact BK182.out) hb); have n1_ := ze.mk (zk (by repeat (first | (with_reducible first | exact HB.out | apply zc | apply za | apply zb | refine zf ?_ GE182.out) | exact HB.out)) hb); have n2_ := ze.mk (hbox); have n3_ := ze.mk ((by rw [hg]; exact (zj (by repeat (first | (with_reducible first | exact HB.out | apply zc | apply za | apply zb | refine zf ?_ GE182.out) | exact HB.out))) : w.heap.size ≤ gb183)); have n4_ := ze.mk ((by rw [hg]; exact (zj (by repeat (first | (with_reducible first | exact HB.out | apply zc | apply za | apply zb | refine zf ?_ GE182.out) | exact HB.out))) : w.heap.size ≤ gb183)); have n5_ := ze.mk ((by rw [hg]; exact Nat.ne_of_lt (zu (g := gb182) (o := .cells #[.int .i8 a0_0, .int .i8 a0_1, .bool a0_2, .bool a0_3] 24 (0, 0)) (by (with_reducible repeat (first | refine zh ?_ _ | refine zi ?_ | refine zg ?_ _)); exact BK182.out)) : gb182 ≠ gb183)); have n6_ := ze.mk ((by rw [hg]; exact Nat.ne_of_gt (zu (g := gb182) (o := .cells #[.int .i8 a0_0, .int .i8 a0_1, .bool a0_2, .bool a0_3] 24 (0, 0)) (by (with_reducible repeat (first | refine zh ?_ _ | refine zi ?_ | refine zg ?_ _)); exact BK182.out)) : gb183 ≠ gb182)); clear BK182; clear HB; have BK182 := n0_; have HB := n1_; have BK183 := n2_; have GW183 := n3_; have GE183 := n4_; have NB182_183 := n5_; have NB183_182 := n6_; clear n0_ n1_ n2_ n3_ n4_ n5_ n6_; clear hb hbox hg) | ((with_reducible refine zn (N := 3) rfl ?_); refine zm ?hg (N := 3) ?hd (cs := #[.int .i8 0, .int .i8 0, .bool false, .bool false]) (t := 29) ?hr ?_; (case hd => rfl); (case hg => rfl); (case hr => first | (go_simp; done) | (go_simp; rfl)); intro gb184 hg w4 hbox hb; have n0_ := ze.mk (zl (g := gb182) (o := .cells #[.int .i8 a0_0, .int .i8 a0_1, .bool a0_2, .bool a0_3] 24 (0, 0)) (by (with_reducible repeat (first | refine zh ?_ _ | refine zi ?_ | refine zg ?_ _)); exact BK182.out) hb); have n1_ := ze.mk (zl (g := gb183) (o := .cells #[.int .i8 0, .int .i8 0, .bool false, .bool false] 29 (0, 0)) (by (with_reducible repeat (first | refine zh ?_ _ | refine zi ?_ | refine zg ?_ _)); exact BK183.out) hb); have n2_ := ze.mk (zk (by repeat (first | (with_reducible first | exact HB.out | apply zc | apply za | apply zb | refine zf ?_ GE182.out | refine zf ?_ GE183.out) | exact HB.out)) hb); have n3_ := ze.mk (hbox); have n4_ := ze.mk ((by rw [hg]; exact (zj (by repeat (first | (with_reducible first | exact HB.out | apply zc | apply za | apply zb | refine zf ?_ GE182.out | refine zf ?_ GE183.out) | exact HB.out))) : w.heap.size ≤ gb184)); have n5_ := ze.mk ((by rw [hg]; exact (zj (by repeat (first | (with_reducible first | exact HB.out | apply zc | apply za | apply zb | refine zf ?_ GE182.out | refine zf ?_ GE183.out) | exact HB.out))) : w.heap.size ≤ gb184)); have n6_ := ze.mk ((by rw [hg]; exact Nat.ne_of_lt (zu (g := gb182) (o := .cells #[.int .i8 a0_0, .int .i8 a0_1, .bool a0_2, .bool a0_3] 24 (0, 0)) (by (with_reducible repeat (first | refine zh ?_ _ | refine zi ?_ | refine zg ?_ _)); exact BK182.out)) : gb182 ≠ gb184)); have n7_ := ze.mk ((by rw [hg]; exact Nat.ne_of_gt (zu (g := gb182) (o := .cells #[.int .i8 a0_0, .int .i8 a0_1, .bool a0_2, .bool a0_3] 24 (0, 0)) (by (with_reducible repeat (first | refine zh ?_ _ | refine zi ?_ | refine zg ?_ _)); exact BK182.out)) : gb184 ≠ gb182)); have n8_ := ze.mk ((by rw [hg]; exact Nat.ne_of_lt (zu (g := gb183) (o := .cells #[.int .i8 0, .int .i8 0, .bool false, .bool false] 29 (0, 0)) (by (with_reducible repeat (first | refine zh ?_ _ | refine zi ?_ | refine zg ?_ _)); exact BK183.out)) : gb183 ≠ gb184)); have n9_ := ze.mk ((by rw [hg]; exact Nat.ne_of_gt (zu (g := gb183) (o := .cells #[.int .i8 0, .int .i8 0, .bool false, .bool false] 29 (0, 0)) (by (with_reducible repeat (first | refine zh ?_ _ | refine zi ?_ | refine zg ?_ _)); exact BK183.out)) : gb184 ≠ gb183)); clear BK182; clear BK183; clear HB; have BK182 := n0_; have BK183 := n1_; have HB := n2_; have BK184 := n3_; have GW184 := n4_; have GE184 := n5_; have NB182_184 := n6_; have NB184_182 := n7_; have NB183_184 := n8_; have NB184_183 := n9_; clear n0_ n1_ n2_ n3_ n4_ n5_ n6_ n7_ n8_ n9_; clear hb hbox hg; have hnb5 := NB182_183.out; have hnc5 := NB183_182.out; have hnb6 := NB182_184.out; have hnc6 := NB184_182.out; have hcz7_0 := cz BK182.out 0 rfl; have hcz7_1 := cz BK182.out 1 rfl; have hcz7_2 := cz BK182.out 2 rfl; have hcz7_3 := cz BK182.out 3 rfl; have hfz7_0 := zd BK182.out 0; have hfz7_1 := zd BK182.out 1; have hfz7_2 := zd BK182.out 2; have hfz7_3 := zd BK182.out 3; have hnb8 := NB184_183.out; have hnc8 := NB183_184.out; have hcz9_0 := cz BK184.out 0 rfl; have hcz9_1 := cz BK184.out 1 rfl; have hcz9_2 := cz BK184.out 2 rfl; have hcz9_3 := cz BK184.out 3 rfl; have hfz9_0 := zd BK184.out 0; have hfz9_1 := zd BK184.out 1; have hfz9_2 := zd BK184.out 2; have hfz9_3 := zd BK184.out 3; have hcz10_0 := cz BK183.out 0 rfl; have hcz10_1 := cz BK183.out 1 rfl; have hcz10_2 := cz BK183.out 2 rfl; have hcz10_3 := cz BK183.out 3 rfl; have hfz10_0 := zd BK183.out 0; have hfz10_1 := zd BK183.out 1; have hfz10_2 := zd BK183.out 2; have hfz10_3 := zd BK183.out 3))
 refine bodyPost_ret (results_cell_row rfl _ _ gb183 29 #[.int .i8 a0_0, .int .i8 a0_1, .bool a0_2, .bool a0_3] (0, 0) _ rfl (by (with_reducible repeat (first | refine zh ?_ _ | refine zi ?_ | refine zg ?_ _)); refine zw (cs := #[.int .i8 a0_0, .int .i8 a0_1, .bool a0_2, .bool false]) ?_ 3 _ rfl; (with_reducible repeat (first | refine zh ?_ _ | refine zi ?_ | refine zg ?_ _)); refine zw (cs := #[.int .i8 a0_0, .int .i8 a0_1, .bool false, .bool false]) ?_ 2 _ rfl; (with_reducible repeat (first | refine zh ?_ _ | refine zi ?_ | refine zg ?_ _)); refine zw (cs := #[.int .i8 a0_0, .int .i8 0, .bool false, .bool false]) ?_ 1 _ rfl; (with_reducible repeat (first | refine zh ?_ _ | refine zi ?_ | refine zg ?_ _)); refine zw (cs := #[.int .i8 0, .int .i8 0, .bool false, .bool false]) ?_ 0 _ rfl; (with_reducible repeat (first | refine zh ?_ _ | refine zi ?_ | refine zg ?_ _)); (repeat (with_reducible refine zha ?_ NB183_184.out _)); (with_reducible repeat (first | refine zh ?_ _ | refine zi ?_ | refine zg ?_ _)); exact BK183.out) Try.underlying29 rfl (by kernel_rfl)) rfl ?_
 exact ⟨by first | rfl | (simp [errW_none, errW_some] <;> rfl) | (simp [*, errW_none, errW_some] <;> rfl), by repeat (first | (with_reducible first | exact HB.out | apply zc | apply za | apply zb | refine zf ?_ GE182.out | refine zf ?_ GE183.out | refine zf ?_ GE184.out) | exact HB.out)⟩

end Go.Proofs.Ytmmonhpjjjdnjaa.M
