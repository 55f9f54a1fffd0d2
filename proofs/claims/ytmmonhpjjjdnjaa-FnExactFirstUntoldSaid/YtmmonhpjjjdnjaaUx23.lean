-- Written by wip/tools/myprint.py, a program of this session, by way of the kit's print.
import Derived.Test.YtmmonhpjjjdnjaaUx0
import Derived.Test.YtmmonhpjjjdnjaaLLoadU
import Derived.Test.YtmmonhpjjjdnjaaUx22
namespace Go.Proofs.Ytmmonhpjjjdnjaa.U
open Go.RowKit Go.Proofs.YtmmonhpjjjdnjaaW.PrintWords Go.Proofs.YtmmonhpjjjdnjaaW.PrintLast Go.Proofs.YtmmonhpjjjdnjaaW.PrintMore
attribute [local go_sem] zba zea zha zia zy zz zda zca   -- for this text's walks alone
set_option linter.unusedVariables false
set_option linter.unusedSimpArgs false

/-! ### impl_follow: function 30 -/
def impl_follow.l0 : Nat → List (S54) → Int → Int → Int → Bool → Option (Int × Bool × Int)
 | 0, _, _, _, _, _ => none
 | k + 1, x0, x6, x7, x303000, x303001 => if 0 ≤ x6 then (if x6 < (x0.length : Int) then (if ((rd_T54 x0 x6).f3 = true) then (some ((rd_T54 x0 x6).f2.f0, (rd_T54 x0 x6).f2.f1, x7)) else ((impl_resultOf.f ((rd_T54 x0 x6).f0.f0) ((rd_T54 x0 x6).f0.f1) ((rd_T54 x0 x6).f0.f2) ((rd_T54 x0 x6).f0.f3) ((rd_T54 x0 x6).f0.f4) ((rd_T54 x0 x6).f0.f5) ((rd_T54 x0 x6).f0.f6) ((rd_T54 x0 x6).f0.f7) ((rd_T54 x0 x6).f0.f8) ((rd_T54 x0 x6).f0.f9) ((rd_T54 x0 x6).f0.f10) ((rd_T54 x0 x6).f0.f11) ((rd_T54 x0 x6).f0.f12) ((rd_T54 x0 x6).f0.f13) x303000 x303001).bind fun t307 => (if 0 ≤ (wrap64 (t307 + 1)) then (if (wrap64 (t307 + 1)) < 3 then (impl_follow.l0 k x0 (rd [(rd_T54 x0 x6).f1.f0, (rd_T54 x0 x6).f1.f1, (rd_T54 x0 x6).f1.f2] (wrap64 (t307 + 1))) (wrap64 (x7 + 1)) x303000 x303001) else (none)) else (none)))) else (none)) else (none)
def impl_follow.f (k : Nat) (l0 : List (S54)) (a1_0 : Int) (a1_1 : Bool) : Option (Int × Bool × Int) := impl_follow.l0 k l0 0 0 a1_0 a1_1
def impl_follow.T3 : Bool × List (List Nat × List Nat) := (true, [([], []), ([], []), ([], []), ([], []), ([2, 3], [2, 3]), ([4], [4]), ([5], [5]), ([], []), ([6, 7], [6, 7]), ([8], [8]), ([0, 1], [0, 1]), ([10], [10]), ([11, 9], [9, 11]), ([12], [12]), ([13, 8, 0, 1, 2, 3, 4, 5, 6, 7, 8, 9, 10, 11, 12, 13], [1, 3, 13])])
def impl_follow.B3 : List Nat := [0, 0, 0, 0, 12, 28, 60, 0, 252, 508, 3, 1027, 4095, 8191, 16383]
theorem impl_follow.tab3 : rtab .any (opsOf Try.f30 3) = impl_follow.T3 := by kernel_rfl
theorem impl_follow.bits3 : waitsOk impl_follow.T3.2 impl_follow.B3 = true := by kernel_rfl
set_option maxHeartbeats 8000000 in
set_option maxRecDepth 100000 in
theorem impl_follow.calls (k : Nat) (A0 : Option Addr) (c0 : Nat) (l0 : List (S54)) (a1_0 : Int) (a1_1 : Bool) (r1 : Int) (r2 : Bool) (r3 : Int) (w : World) (hr0 : Kd.C k54 w A0 l0.length l0) (hc0 : l0.length ≤ c0) (h : impl_follow.f k l0 a1_0 a1_1 = some (r1, r2, r3)) :
  Calls Try.prog 30 #[.slice A0 l0.length c0, .agg #[.int .i8 a1_0, .bool a1_1]] w fun e w' => e = .returned (.tuple #[.agg #[.int .i8 r1, .bool r2], .int .i64 r3]) ∧ Below w.heap.size w w' := by
 have hu46 := Try.underlying46
 have hu50 := Try.underlying50
 have HR0 := zd.mk hr0
 have HC0 := zd.mk hc0
 clear hr0 hc0
 have HB := zd.mk (Below.refl w.heap.size w)
 have H : (impl_follow.l0 k l0 0 0 a1_0 a1_1) = some (r1, r2, r3) := h
 clear h
 have H' := zd.mk H
 clear H
 go_enter Try.func30, Try.ntmps30
 go_wp2_with (first | ((with_reducible refine zo (N := 3) rfl ?_); refine zn ?hg (N := 3) ?hd (cs := #[.int .i8 a1_0, .bool a1_1]) (t := 46) ?hr ?_; (case hd => rfl); (case hg => rfl); (case hr => first | (go_simp; done) | (go_simp; rfl)); intro gb302 hg w3 hbox hb; have n0_ := zd.mk (zk (by repeat (first | (with_reducible first | exact HB.out | apply zc | apply za | apply zb) | exact HB.out)) hb); have n1_ := zd.mk (hbox); have n2_ := zd.mk ((by rw [hg]; exact (zm (by repeat (first | (with_reducible first | exact HB.out | apply zc | apply za | apply zb) | exact HB.out))) : w.heap.size ≤ gb302)); have n3_ := zd.mk ((by rw [hg]; exact (zm (by repeat (first | (with_reducible first | exact HB.out | apply zc | apply za | apply zb) | exact HB.out))) : w.heap.size ≤ gb302)); clear HB; have HB := n0_; have BK302 := n1_; have GW302 := n2_; have GE302 := n3_; clear n0_ n1_ n2_ n3_; clear hb hbox hg) | ((with_reducible refine zo (N := 4) rfl ?_); refine zn ?hg (N := 4) ?hd (cs := #[.int .i8 0, .bool false]) (t := 46) ?hr ?_; (case hd => rfl); (case hg => rfl); (case hr => first | (go_simp; done) | (go_simp; rfl)); intro gb303 hg w4 hbox hb; have n0_ := zd.mk (zj (g := gb302) (o := .cells #[.int .i8 a1_0, .bool a1_1] 46 (0, 0)) (by (with_reducible repeat (first | refine zf ?_ _ | refine zh ?_ | refine zg ?_ _)); exact BK302.out) hb); have n1_ := zd.mk (zk (by repeat (first | (with_reducible first | exact HB.out | apply zc | apply za | apply zb | refine ze ?_ GE302.out) | exact HB.out)) hb); have n2_ := zd.mk (hbox); have n3_ := zd.mk ((by rw [hg]; exact (zm (by repeat (first | (with_reducible first | exact HB.out | apply zc | apply za | apply zb | refine ze ?_ GE302.out) | exact HB.out))) : w.heap.size ≤ gb303)); have n4_ := zd.mk ((by rw [hg]; exact (zm (by repeat (first | (with_reducible first | exact HB.out | apply zc | apply za | apply zb | refine ze ?_ GE302.out) | exact HB.out))) : w.heap.size ≤ gb303)); have n5_ := zd.mk ((by rw [hg]; exact Nat.ne_of_lt (zv (g := gb302) (o := .cells #[.int .i8 a1_0, .bool a1_1] 46 (0, 0)) (by (with_reducible repeat (first | refine zf ?_ _ | refine zh ?_ | refine zg ?_ _)); exact BK302.out)) : gb302 ≠ gb303)); have n6_ := zd.mk ((by rw [hg]; exact Nat.ne_of_gt (zv (g := gb302) (o := .cells #[.int .i8 a1_0, .bool a1_1] 46 (0, 0)) (by (with_reducible repeat (first | refine zf ?_ _ | refine zh ?_ | refine zg ?_ _)); exact BK302.out)) : gb303 ≠ gb302)); clear BK302; clear HB; have BK302 := n0_; have HB := n1_; have BK303 := n2_; have GW303 := n3_; have GE303 := n4_; have NB302_303 := n5_; have NB303_302 := n6_; clear n0_ n1_ n2_ n3_ n4_ n5_ n6_; clear hb hbox hg))
 go_loopg [6, 7] k (fun kq v6 v7 w' => ∃ (x6_1 : Int) (x7_1 : Int), v6 = .int .i16 x6_1 ∧ v7 = .int .i64 x7_1 ∧ zd (impl_follow.l0 kq l0 x6_1 x7_1 a1_0 a1_1 = some (r1, r2, r3)) ∧ zd (kq ≤ k) ∧ zd (w'.heap[gb302]? = some (.cells #[.int .i8 a1_0, .bool a1_1] 46 (0, 0))) ∧ zd (w'.heap[gb303]? = some (.cells #[.int .i8 0, .bool false] 46 (0, 0))) ∧ zd (Below w.heap.size w w'))
 case atStart => exact ⟨(0), (0), (by first | rfl | (simp; done) | (simp [*]; done)), (by first | rfl | (simp; done) | (simp [*]; done)), H', ⟨Nat.le_refl _⟩, ⟨by (with_reducible repeat (first | refine zf ?_ _ | refine zh ?_ | refine zg ?_ _)); exact BK302.out⟩, ⟨by (with_reducible repeat (first | refine zf ?_ _ | refine zh ?_ | refine zg ?_ _)); exact BK303.out⟩, ⟨by repeat (first | (with_reducible first | exact HB.out | apply zc | apply za | apply zb | refine ze ?_ GE302.out | refine ze ?_ GE303.out) | exact HB.out)⟩⟩
 case round =>
  clear H'
  try clear p2
  try clear c3
  obtain ⟨x6_1, x7_1, rfl, rfl, HA, HK1, BK302, BK303, HB⟩ := hrel
  cases gk with
  | zero => exact absurd HA.out (by simp [impl_follow.l0])
  | succ k1 =>
   have H := HA.out
   clear HA
   simp only [impl_follow.l0] at H
   by_cases c5 : 0 ≤ x6_1
   ·rw [if_pos c5] at H
    have c5b0 : decide (0 ≤ x6_1) = true := decide_eq_true c5
    clear c5
    by_cases c6 : x6_1 < (l0.length : Int)
    ·rw [if_pos c6] at H
     have c6b0 : decide (x6_1 < (l0.length : Int)) = true := decide_eq_true c6
     clear c6
     obtain ⟨bq7, hbq7⟩ : ∃ b_ : Bool, b_ = ((rd_T54 l0 x6_1).f3) := ⟨_, rfl⟩
     replace H : (if (bq7 = true) then (some ((rd_T54 l0 x6_1).f2.f0, (rd_T54 l0 x6_1).f2.f1, x7_1)) else ((impl_resultOf.f ((rd_T54 l0 x6_1).f0.f0) ((rd_T54 l0 x6_1).f0.f1) ((rd_T54 l0 x6_1).f0.f2) ((rd_T54 l0 x6_1).f0.f3) ((rd_T54 l0 x6_1).f0.f4) ((rd_T54 l0 x6_1).f0.f5) ((rd_T54 l0 x6_1).f0.f6) ((rd_T54 l0 x6_1).f0.f7) ((rd_T54 l0 x6_1).f0.f8) ((rd_T54 l0 x6_1).f0.f9) ((rd_T54 l0 x6_1).f0.f10) ((rd_T54 l0 x6_1).f0.f11) ((rd_T54 l0 x6_1).f0.f12) ((rd_T54 l0 x6_1).f0.f13) a1_0 a1_1).bind fun t307 => (if 0 ≤ (wrap64 (t307 + 1)) then (if (wrap64 (t307 + 1)) < 3 then (impl_follow.l0 k1 l0 (rd [(rd_T54 l0 x6_1).f1.f0, (rd_T54 l0 x6_1).f1.f1, (rd_T54 l0 x6_1).f1.f2] (wrap64 (t307 + 1))) (wrap64 (x7_1 + 1)) a1_0 a1_1) else (none)) else (none)))) = some (r1, r2, r3) := by rw [← hbq7] at H; exact H
     have Nbq7 := zd.mk hbq7
     clear hbq7
     by_cases c8 : (bq7 = true)
     ·subst c8
      have H1 : (some ((rd_T54 l0 x6_1).f2.f0, (rd_T54 l0 x6_1).f2.f1, x7_1)) = some (r1, r2, r3) := by rw [if_pos rfl] at H; exact H
      clear H
      have H := H1
      clear H1
      simp only [Option.some.injEq, Prod.mk.injEq] at H
      obtain ⟨rfl, rfl, rfl⟩ := H
      have p304 : 0 ≤ (x6_1 : Int) := of_decide_eq_true (by first | (with_reducible assumption) | assumption)
      have q304 : x6_1 < (l0.length : Int) := of_decide_eq_true (by first | (with_reducible assumption) | assumption)
      obtain ⟨ad304, e304, hx304_0, hx304_1, hx304_2, hx304_3, hx304_4, hx304_5, hx304_6, hx304_7, hx304_8, hx304_9, hx304_10, hx304_11, hx304_12, hx304_13, hx304_14, hx304_15, hx304_16, hx304_17, hx304_18, hx304_19⟩ := at_T54 HR0.out x6_1 p304 q304
      (try rw [← Nbq7.out] at hx304_18)
      (try rw [← Nbq7.out] at hx304_19)
      cases e304
      replace hx304_0 := bc HB.out hx304_0
      replace hx304_1 := bc HB.out hx304_1
      replace hx304_2 := bc HB.out hx304_2
      replace hx304_3 := bc HB.out hx304_3
      replace hx304_4 := bc HB.out hx304_4
      replace hx304_5 := bc HB.out hx304_5
      replace hx304_6 := bc HB.out hx304_6
      replace hx304_7 := bc HB.out hx304_7
      replace hx304_8 := bc HB.out hx304_8
      replace hx304_9 := bc HB.out hx304_9
      replace hx304_10 := bc HB.out hx304_10
      replace hx304_11 := bc HB.out hx304_11
      replace hx304_12 := bc HB.out hx304_12
      replace hx304_13 := bc HB.out hx304_13
      replace hx304_14 := bc HB.out hx304_14
      replace hx304_15 := bc HB.out hx304_15
      replace hx304_16 := bc HB.out hx304_16
      replace hx304_17 := bc HB.out hx304_17
      replace hx304_18 := bc HB.out hx304_18
      replace hx304_19 := bc HB.out hx304_19
      replace p304 := eq_true p304
      replace q304 := eq_true q304
      have p305 : 0 ≤ (x6_1 : Int) := of_decide_eq_true (by first | (with_reducible assumption) | assumption)
      have q305 : x6_1 < (l0.length : Int) := of_decide_eq_true (by first | (with_reducible assumption) | assumption)
      obtain ⟨ad305, e305, hx305_0, hx305_1, hx305_2, hx305_3, hx305_4, hx305_5, hx305_6, hx305_7, hx305_8, hx305_9, hx305_10, hx305_11, hx305_12, hx305_13, hx305_14, hx305_15, hx305_16, hx305_17, hx305_18, hx305_19⟩ := at_T54 HR0.out x6_1 p305 q305
      (try rw [← Nbq7.out] at hx305_18)
      (try rw [← Nbq7.out] at hx305_19)
      obtain rfl : ad304 = ad305 := (by injection e305)
      replace hx305_0 := bc HB.out hx305_0
      replace hx305_1 := bc HB.out hx305_1
      replace hx305_2 := bc HB.out hx305_2
      replace hx305_3 := bc HB.out hx305_3
      replace hx305_4 := bc HB.out hx305_4
      replace hx305_5 := bc HB.out hx305_5
      replace hx305_6 := bc HB.out hx305_6
      replace hx305_7 := bc HB.out hx305_7
      replace hx305_8 := bc HB.out hx305_8
      replace hx305_9 := bc HB.out hx305_9
      replace hx305_10 := bc HB.out hx305_10
      replace hx305_11 := bc HB.out hx305_11
      replace hx305_12 := bc HB.out hx305_12
      replace hx305_13 := bc HB.out hx305_13
      replace hx305_14 := bc HB.out hx305_14
      replace hx305_15 := bc HB.out hx305_15
      replace hx305_16 := bc HB.out hx305_16
      replace hx305_17 := bc HB.out hx305_17
      replace hx305_18 := bc HB.out hx305_18
      replace hx305_19 := bc HB.out hx305_19
      replace p305 := eq_true p305
      replace q305 := eq_true q305
      have hnb9 := NB303_302.out
      have hnc9 := NB302_303.out
      have hcz10_0 := cz BK303.out 0 rfl
      have hcz10_1 := cz BK303.out 1 rfl
      have hfz10_0 := zi BK303.out 0
      have hfz10_1 := zi BK303.out 1
      go_wp2
      refine bodyPost_ret (results_ct rfl _ _ gb303 46 #[.int .i8 ((rd_T54 l0 x6_1).f2.f0), .bool ((rd_T54 l0 x6_1).f2.f1)] (0, 0) _ rfl (by (with_reducible repeat (first | refine zf ?_ _ | refine zh ?_ | refine zg ?_ _)); refine zu (cs := #[.int .i8 ((rd_T54 l0 x6_1).f2.f0), .bool false]) ?_ 1 _ rfl; (with_reducible repeat (first | refine zf ?_ _ | refine zh ?_ | refine zg ?_ _)); refine zu (cs := #[.int .i8 0, .bool false]) ?_ 0 _ rfl; (with_reducible repeat (first | refine zf ?_ _ | refine zh ?_ | refine zg ?_ _)); exact BK303.out) Try.underlying46 rfl (by kernel_rfl)) rfl ?_
      exact ⟨by first | rfl | (simp [errW_none, errW_some] <;> rfl) | (simp [*, errW_none, errW_some] <;> rfl), by repeat (first | (with_reducible first | exact HB.out | apply zc | apply za | apply zb | refine ze ?_ GE302.out | refine ze ?_ GE303.out) | exact HB.out)⟩
     ·replace c8 := Bool.eq_false_iff.mpr c8
      subst c8
      have H1 : ((impl_resultOf.f ((rd_T54 l0 x6_1).f0.f0) ((rd_T54 l0 x6_1).f0.f1) ((rd_T54 l0 x6_1).f0.f2) ((rd_T54 l0 x6_1).f0.f3) ((rd_T54 l0 x6_1).f0.f4) ((rd_T54 l0 x6_1).f0.f5) ((rd_T54 l0 x6_1).f0.f6) ((rd_T54 l0 x6_1).f0.f7) ((rd_T54 l0 x6_1).f0.f8) ((rd_T54 l0 x6_1).f0.f9) ((rd_T54 l0 x6_1).f0.f10) ((rd_T54 l0 x6_1).f0.f11) ((rd_T54 l0 x6_1).f0.f12) ((rd_T54 l0 x6_1).f0.f13) a1_0 a1_1).bind fun t307 => (if 0 ≤ (wrap64 (t307 + 1)) then (if (wrap64 (t307 + 1)) < 3 then (impl_follow.l0 k1 l0 (rd [(rd_T54 l0 x6_1).f1.f0, (rd_T54 l0 x6_1).f1.f1, (rd_T54 l0 x6_1).f1.f2] (wrap64 (t307 + 1))) (wrap64 (x7_1 + 1)) a1_0 a1_1) else (none)) else (none))) = some (r1, r2, r3) := by rw [if_neg (show ¬ (false = true) by decide)] at H; exact H
      clear H
      have H := H1
      clear H1
      replace H := Option.bind_eq_some_iff.mp H
      obtain ⟨t307, A110, H⟩ := H
      replace H : (if 0 ≤ (wrap64 (t307 + 1)) then (if (wrap64 (t307 + 1)) < 3 then (impl_follow.l0 k1 l0 (rd [(rd_T54 l0 x6_1).f1.f0, (rd_T54 l0 x6_1).f1.f1, (rd_T54 l0 x6_1).f1.f2] (wrap64 (t307 + 1))) (wrap64 (x7_1 + 1)) a1_0 a1_1) else (none)) else (none)) = some (r1, r2, r3) := H
      have A11 := zd.mk A110
      clear A110
      obtain ⟨ji12, hji12⟩ : ∃ j_ : Int, (wrap64 (t307 + 1)) = j_ := ⟨_, rfl⟩
      replace H : (if 0 ≤ (ji12) then (if (ji12) < 3 then (impl_follow.l0 k1 l0 (rd [(rd_T54 l0 x6_1).f1.f0, (rd_T54 l0 x6_1).f1.f1, (rd_T54 l0 x6_1).f1.f2] (ji12)) (wrap64 (x7_1 + 1)) a1_0 a1_1) else (none)) else (none)) = some (r1, r2, r3) := by first | (rw [hji12] at H; exact H) | (simp only [hji12] at H ⊢; exact H)
      (try rw [hji12] at A11)
      have hji12w : (IntKind.i64.wrap (t307 + 1)) = ji12 := (zp _).trans hji12
      by_cases c13 : 0 ≤ (ji12)
      ·rw [if_pos c13] at H
       have c13b0 : decide (0 ≤ (ji12)) = true := decide_eq_true c13
       clear c13
       by_cases c14 : (ji12) < 3
       ·rw [if_pos c14] at H
        have c14b0 : decide ((ji12) < 3) = true := decide_eq_true c14
        clear c14
        have H' := zd.mk H
        clear H
        have p304 : 0 ≤ (x6_1 : Int) := of_decide_eq_true (by first | (with_reducible assumption) | assumption)
        have q304 : x6_1 < (l0.length : Int) := of_decide_eq_true (by first | (with_reducible assumption) | assumption)
        obtain ⟨ad304, e304, hx304_0, hx304_1, hx304_2, hx304_3, hx304_4, hx304_5, hx304_6, hx304_7, hx304_8, hx304_9, hx304_10, hx304_11, hx304_12, hx304_13, hx304_14, hx304_15, hx304_16, hx304_17, hx304_18, hx304_19⟩ := at_T54 HR0.out x6_1 p304 q304
        (try rw [← Nbq7.out] at hx304_18)
        (try rw [← Nbq7.out] at hx304_19)
        cases e304
        replace hx304_0 := bc HB.out hx304_0
        replace hx304_1 := bc HB.out hx304_1
        replace hx304_2 := bc HB.out hx304_2
        replace hx304_3 := bc HB.out hx304_3
        replace hx304_4 := bc HB.out hx304_4
        replace hx304_5 := bc HB.out hx304_5
        replace hx304_6 := bc HB.out hx304_6
        replace hx304_7 := bc HB.out hx304_7
        replace hx304_8 := bc HB.out hx304_8
        replace hx304_9 := bc HB.out hx304_9
        replace hx304_10 := bc HB.out hx304_10
        replace hx304_11 := bc HB.out hx304_11
        replace hx304_12 := bc HB.out hx304_12
        replace hx304_13 := bc HB.out hx304_13
        replace hx304_14 := bc HB.out hx304_14
        replace hx304_15 := bc HB.out hx304_15
        replace hx304_16 := bc HB.out hx304_16
        replace hx304_17 := bc HB.out hx304_17
        replace hx304_18 := bc HB.out hx304_18
        replace hx304_19 := bc HB.out hx304_19
        replace p304 := eq_true p304
        replace q304 := eq_true q304
        try go_wp2
        have n0_ := zd.mk (zh BK302.out)
        have n1_ := zd.mk (zh BK303.out)
        have n2_ := zd.mk (zb HB.out)
        clear BK302
        clear BK303
        clear HB
        have BK302 := n0_
        have BK303 := n1_
        have HB := n2_
        clear n0_ n1_ n2_
        have p306 : 0 ≤ (x6_1 : Int) := of_decide_eq_true (by first | (with_reducible assumption) | assumption)
        have q306 : x6_1 < (l0.length : Int) := of_decide_eq_true (by first | (with_reducible assumption) | assumption)
        obtain ⟨ad306, e306, hx306_0, hx306_1, hx306_2, hx306_3, hx306_4, hx306_5, hx306_6, hx306_7, hx306_8, hx306_9, hx306_10, hx306_11, hx306_12, hx306_13, hx306_14, hx306_15, hx306_16, hx306_17, hx306_18, hx306_19⟩ := at_T54 HR0.out x6_1 p306 q306
        have hw306_19 := hx306_19
        have hw306_18 := hx306_18
        have hw306_17 := hx306_17
        have hw306_16 := hx306_16
        have hw306_15 := hx306_15
        have hw306_14 := hx306_14
        have hw306_13 := hx306_13
        have hw306_12 := hx306_12
        have hw306_11 := hx306_11
        have hw306_10 := hx306_10
        have hw306_9 := hx306_9
        have hw306_8 := hx306_8
        have hw306_7 := hx306_7
        have hw306_6 := hx306_6
        have hw306_5 := hx306_5
        have hw306_4 := hx306_4
        have hw306_3 := hx306_3
        have hw306_2 := hx306_2
        have hw306_1 := hx306_1
        have hw306_0 := hx306_0
        (try rw [← Nbq7.out] at hx306_18)
        (try rw [← Nbq7.out] at hx306_19)
        obtain rfl : ad304 = ad306 := (by injection e306)
        replace hx306_0 := bc HB.out hx306_0
        replace hx306_1 := bc HB.out hx306_1
        replace hx306_2 := bc HB.out hx306_2
        replace hx306_3 := bc HB.out hx306_3
        replace hx306_4 := bc HB.out hx306_4
        replace hx306_5 := bc HB.out hx306_5
        replace hx306_6 := bc HB.out hx306_6
        replace hx306_7 := bc HB.out hx306_7
        replace hx306_8 := bc HB.out hx306_8
        replace hx306_9 := bc HB.out hx306_9
        replace hx306_10 := bc HB.out hx306_10
        replace hx306_11 := bc HB.out hx306_11
        replace hx306_12 := bc HB.out hx306_12
        replace hx306_13 := bc HB.out hx306_13
        replace hx306_14 := bc HB.out hx306_14
        replace hx306_15 := bc HB.out hx306_15
        replace hx306_16 := bc HB.out hx306_16
        replace hx306_17 := bc HB.out hx306_17
        replace hx306_18 := bc HB.out hx306_18
        replace hx306_19 := bc HB.out hx306_19
        replace p306 := eq_true p306
        replace q306 := eq_true q306
        have p308 : 0 ≤ (x6_1 : Int) := of_decide_eq_true (by first | (with_reducible assumption) | assumption)
        have q308 : x6_1 < (l0.length : Int) := of_decide_eq_true (by first | (with_reducible assumption) | assumption)
        obtain ⟨ad308, e308, hx308_0, hx308_1, hx308_2, hx308_3, hx308_4, hx308_5, hx308_6, hx308_7, hx308_8, hx308_9, hx308_10, hx308_11, hx308_12, hx308_13, hx308_14, hx308_15, hx308_16, hx308_17, hx308_18, hx308_19⟩ := at_T54 HR0.out x6_1 p308 q308
        have hw308_19 := hx308_19
        have hw308_18 := hx308_18
        have hw308_17 := hx308_17
        have hw308_16 := hx308_16
        have hw308_15 := hx308_15
        have hw308_14 := hx308_14
        have hw308_13 := hx308_13
        have hw308_12 := hx308_12
        have hw308_11 := hx308_11
        have hw308_10 := hx308_10
        have hw308_9 := hx308_9
        have hw308_8 := hx308_8
        have hw308_7 := hx308_7
        have hw308_6 := hx308_6
        have hw308_5 := hx308_5
        have hw308_4 := hx308_4
        have hw308_3 := hx308_3
        have hw308_2 := hx308_2
        have hw308_1 := hx308_1
        have hw308_0 := hx308_0
        (try rw [← Nbq7.out] at hx308_18)
        (try rw [← Nbq7.out] at hx308_19)
        obtain rfl : ad304 = ad308 := (by injection e308)
        replace hx308_0 := bc HB.out hx308_0
        replace hx308_1 := bc HB.out hx308_1
        replace hx308_2 := bc HB.out hx308_2
        replace hx308_3 := bc HB.out hx308_3
        replace hx308_4 := bc HB.out hx308_4
        replace hx308_5 := bc HB.out hx308_5
        replace hx308_6 := bc HB.out hx308_6
        replace hx308_7 := bc HB.out hx308_7
        replace hx308_8 := bc HB.out hx308_8
        replace hx308_9 := bc HB.out hx308_9
        replace hx308_10 := bc HB.out hx308_10
        replace hx308_11 := bc HB.out hx308_11
        replace hx308_12 := bc HB.out hx308_12
        replace hx308_13 := bc HB.out hx308_13
        replace hx308_14 := bc HB.out hx308_14
        replace hx308_15 := bc HB.out hx308_15
        replace hx308_16 := bc HB.out hx308_16
        replace hx308_17 := bc HB.out hx308_17
        replace hx308_18 := bc HB.out hx308_18
        replace hx308_19 := bc HB.out hx308_19
        replace p308 := eq_true p308
        replace q308 := eq_true q308
        have hw17_0 : w.cell? ⟨(ad304.add ((x6_1).toNat * 20)).block, (ad304.add ((x6_1).toNat * 20)).off + 14 + ((ji12)).toNat, none⟩ = some (.int .i16 (rd [(rd_T54 l0 x6_1).f1.f0, (rd_T54 l0 x6_1).f1.f1, (rd_T54 l0 x6_1).f1.f2] (ji12))) := by rcases (show ((ji12) : Int) = 0 ∨ ((ji12) : Int) = 1 ∨ ((ji12) : Int) = 2 by have hp_ : 0 ≤ ((ji12) : Int) := of_decide_eq_true (by first | (with_reducible assumption) | assumption); have hq_ : (ji12) < (3 : Int) := of_decide_eq_true (by first | (with_reducible assumption) | assumption); omega) with h_ | h_ | h_ <;> rw [h_] <;> first | exact hw308_14 | exact hw308_15 | exact hw308_16
        have p17 : 0 ≤ ((ji12) : Int) := of_decide_eq_true (by first | (with_reducible assumption) | assumption)
        have q17 : (ji12) < (3 : Int) := of_decide_eq_true (by first | (with_reducible assumption) | assumption)
        replace p17 := eq_true p17
        replace q17 := eq_true q17
        refine start_ (n := 15) (S := fun w' => w'.cell? ⟨gb302, 0, none⟩ = some (.int .i8 a1_0) ∧ w'.cell? ⟨gb302, 1, none⟩ = some (.bool a1_1) ∧ w'.cell? (ad304.add ((x6_1).toNat * 20)) = some (.int .i8 ((rd_T54 l0 x6_1).f0.f0)) ∧ w'.cell? ⟨(ad304.add ((x6_1).toNat * 20)).block, (ad304.add ((x6_1).toNat * 20)).off + 1, none⟩ = some (.int .i8 ((rd_T54 l0 x6_1).f0.f1)) ∧ w'.cell? ⟨(ad304.add ((x6_1).toNat * 20)).block, (ad304.add ((x6_1).toNat * 20)).off + 2, none⟩ = some (.int .i8 ((rd_T54 l0 x6_1).f0.f2)) ∧ w'.cell? ⟨(ad304.add ((x6_1).toNat * 20)).block, (ad304.add ((x6_1).toNat * 20)).off + 3, none⟩ = some (.int .i8 ((rd_T54 l0 x6_1).f0.f3)) ∧ w'.cell? ⟨(ad304.add ((x6_1).toNat * 20)).block, (ad304.add ((x6_1).toNat * 20)).off + 4, none⟩ = some (.int .i8 ((rd_T54 l0 x6_1).f0.f4)) ∧ w'.cell? ⟨(ad304.add ((x6_1).toNat * 20)).block, (ad304.add ((x6_1).toNat * 20)).off + 5, none⟩ = some (.int .i8 ((rd_T54 l0 x6_1).f0.f5)) ∧ w'.cell? ⟨(ad304.add ((x6_1).toNat * 20)).block, (ad304.add ((x6_1).toNat * 20)).off + 6, none⟩ = some (.int .i8 ((rd_T54 l0 x6_1).f0.f6)) ∧ w'.cell? ⟨(ad304.add ((x6_1).toNat * 20)).block, (ad304.add ((x6_1).toNat * 20)).off + 7, none⟩ = some (.int .i8 ((rd_T54 l0 x6_1).f0.f7)) ∧ w'.cell? ⟨(ad304.add ((x6_1).toNat * 20)).block, (ad304.add ((x6_1).toNat * 20)).off + 8, none⟩ = some (.int .i8 ((rd_T54 l0 x6_1).f0.f8)) ∧ w'.cell? ⟨(ad304.add ((x6_1).toNat * 20)).block, (ad304.add ((x6_1).toNat * 20)).off + 9, none⟩ = some (.int .i8 ((rd_T54 l0 x6_1).f0.f9)) ∧ w'.cell? ⟨(ad304.add ((x6_1).toNat * 20)).block, (ad304.add ((x6_1).toNat * 20)).off + 10, none⟩ = some (.int .i8 ((rd_T54 l0 x6_1).f0.f10)) ∧ w'.cell? ⟨(ad304.add ((x6_1).toNat * 20)).block, (ad304.add ((x6_1).toNat * 20)).off + 11, none⟩ = some (.int .i8 ((rd_T54 l0 x6_1).f0.f11)) ∧ w'.cell? ⟨(ad304.add ((x6_1).toNat * 20)).block, (ad304.add ((x6_1).toNat * 20)).off + 12, none⟩ = some (.int .i8 ((rd_T54 l0 x6_1).f0.f12)) ∧ w'.cell? ⟨(ad304.add ((x6_1).toNat * 20)).block, (ad304.add ((x6_1).toNat * 20)).off + 13, none⟩ = some (.int .i8 ((rd_T54 l0 x6_1).f0.f13)) ∧ w'.cell? ⟨(ad304.add ((x6_1).toNat * 20)).block, (ad304.add ((x6_1).toNat * 20)).off + 14, none⟩ = some (.int .i16 ((rd_T54 l0 x6_1).f1.f0)) ∧ w'.cell? ⟨(ad304.add ((x6_1).toNat * 20)).block, (ad304.add ((x6_1).toNat * 20)).off + 15, none⟩ = some (.int .i16 ((rd_T54 l0 x6_1).f1.f1)) ∧ w'.cell? ⟨(ad304.add ((x6_1).toNat * 20)).block, (ad304.add ((x6_1).toNat * 20)).off + 16, none⟩ = some (.int .i16 ((rd_T54 l0 x6_1).f1.f2)) ∧ w'.cell? ⟨(ad304.add ((x6_1).toNat * 20)).block, (ad304.add ((x6_1).toNat * 20)).off + 17, none⟩ = some (.int .i8 ((rd_T54 l0 x6_1).f2.f0)) ∧ w'.cell? ⟨(ad304.add ((x6_1).toNat * 20)).block, (ad304.add ((x6_1).toNat * 20)).off + 18, none⟩ = some (.bool ((rd_T54 l0 x6_1).f2.f1)) ∧ w'.cell? ⟨(ad304.add ((x6_1).toNat * 20)).block, (ad304.add ((x6_1).toNat * 20)).off + 19, none⟩ = some (.bool (false)) ∧ w'.cell? (ad304.add ((x6_1).toNat * 20)) = some (.int .i8 ((rd_T54 l0 x6_1).f0.f0)) ∧ w'.cell? ⟨(ad304.add ((x6_1).toNat * 20)).block, (ad304.add ((x6_1).toNat * 20)).off + 1, none⟩ = some (.int .i8 ((rd_T54 l0 x6_1).f0.f1)) ∧ w'.cell? ⟨(ad304.add ((x6_1).toNat * 20)).block, (ad304.add ((x6_1).toNat * 20)).off + 2, none⟩ = some (.int .i8 ((rd_T54 l0 x6_1).f0.f2)) ∧ w'.cell? ⟨(ad304.add ((x6_1).toNat * 20)).block, (ad304.add ((x6_1).toNat * 20)).off + 3, none⟩ = some (.int .i8 ((rd_T54 l0 x6_1).f0.f3)) ∧ w'.cell? ⟨(ad304.add ((x6_1).toNat * 20)).block, (ad304.add ((x6_1).toNat * 20)).off + 4, none⟩ = some (.int .i8 ((rd_T54 l0 x6_1).f0.f4)) ∧ w'.cell? ⟨(ad304.add ((x6_1).toNat * 20)).block, (ad304.add ((x6_1).toNat * 20)).off + 5, none⟩ = some (.int .i8 ((rd_T54 l0 x6_1).f0.f5)) ∧ w'.cell? ⟨(ad304.add ((x6_1).toNat * 20)).block, (ad304.add ((x6_1).toNat * 20)).off + 6, none⟩ = some (.int .i8 ((rd_T54 l0 x6_1).f0.f6)) ∧ w'.cell? ⟨(ad304.add ((x6_1).toNat * 20)).block, (ad304.add ((x6_1).toNat * 20)).off + 7, none⟩ = some (.int .i8 ((rd_T54 l0 x6_1).f0.f7)) ∧ w'.cell? ⟨(ad304.add ((x6_1).toNat * 20)).block, (ad304.add ((x6_1).toNat * 20)).off + 8, none⟩ = some (.int .i8 ((rd_T54 l0 x6_1).f0.f8)) ∧ w'.cell? ⟨(ad304.add ((x6_1).toNat * 20)).block, (ad304.add ((x6_1).toNat * 20)).off + 9, none⟩ = some (.int .i8 ((rd_T54 l0 x6_1).f0.f9)) ∧ w'.cell? ⟨(ad304.add ((x6_1).toNat * 20)).block, (ad304.add ((x6_1).toNat * 20)).off + 10, none⟩ = some (.int .i8 ((rd_T54 l0 x6_1).f0.f10)) ∧ w'.cell? ⟨(ad304.add ((x6_1).toNat * 20)).block, (ad304.add ((x6_1).toNat * 20)).off + 11, none⟩ = some (.int .i8 ((rd_T54 l0 x6_1).f0.f11)) ∧ w'.cell? ⟨(ad304.add ((x6_1).toNat * 20)).block, (ad304.add ((x6_1).toNat * 20)).off + 12, none⟩ = some (.int .i8 ((rd_T54 l0 x6_1).f0.f12)) ∧ w'.cell? ⟨(ad304.add ((x6_1).toNat * 20)).block, (ad304.add ((x6_1).toNat * 20)).off + 13, none⟩ = some (.int .i8 ((rd_T54 l0 x6_1).f0.f13)) ∧ w'.cell? ⟨(ad304.add ((x6_1).toNat * 20)).block, (ad304.add ((x6_1).toNat * 20)).off + 14, none⟩ = some (.int .i16 ((rd_T54 l0 x6_1).f1.f0)) ∧ w'.cell? ⟨(ad304.add ((x6_1).toNat * 20)).block, (ad304.add ((x6_1).toNat * 20)).off + 15, none⟩ = some (.int .i16 ((rd_T54 l0 x6_1).f1.f1)) ∧ w'.cell? ⟨(ad304.add ((x6_1).toNat * 20)).block, (ad304.add ((x6_1).toNat * 20)).off + 16, none⟩ = some (.int .i16 ((rd_T54 l0 x6_1).f1.f2)) ∧ w'.cell? ⟨(ad304.add ((x6_1).toNat * 20)).block, (ad304.add ((x6_1).toNat * 20)).off + 17, none⟩ = some (.int .i8 ((rd_T54 l0 x6_1).f2.f0)) ∧ w'.cell? ⟨(ad304.add ((x6_1).toNat * 20)).block, (ad304.add ((x6_1).toNat * 20)).off + 18, none⟩ = some (.bool ((rd_T54 l0 x6_1).f2.f1)) ∧ w'.cell? ⟨(ad304.add ((x6_1).toNat * 20)).block, (ad304.add ((x6_1).toNat * 20)).off + 19, none⟩ = some (.bool (false)) ∧ w'.cell? ⟨(ad304.add ((x6_1).toNat * 20)).block, (ad304.add ((x6_1).toNat * 20)).off + 14 + ((ji12)).toNat, none⟩ = some (.int .i16 (rd [(rd_T54 l0 x6_1).f1.f0, (rd_T54 l0 x6_1).f1.f1, (rd_T54 l0 x6_1).f1.f2] (ji12)))) (ds := []) #[false, false, false, false, false, false, false, false, false, false, false, false, false, false, false] (by kernel_rfl) rfl rfl ⟨(zl BK302.out 0).trans rfl, (zl BK302.out 1).trans rfl, (bc HB.out hw306_0), (bc HB.out hw306_1), (bc HB.out hw306_2), (bc HB.out hw306_3), (bc HB.out hw306_4), (bc HB.out hw306_5), (bc HB.out hw306_6), (bc HB.out hw306_7), (bc HB.out hw306_8), (bc HB.out hw306_9), (bc HB.out hw306_10), (bc HB.out hw306_11), (bc HB.out hw306_12), (bc HB.out hw306_13), (bc HB.out hw306_14), (bc HB.out hw306_15), (bc HB.out hw306_16), (bc HB.out hw306_17), (by first | exact (bc HB.out hw306_18) | (have h_ := (bc HB.out hw306_18); rw [← Nbq7.out] at h_; exact h_)), (by first | exact (bc HB.out hw306_19) | (have h_ := (bc HB.out hw306_19); rw [← Nbq7.out] at h_; exact h_)), (bc HB.out hw308_0), (bc HB.out hw308_1), (bc HB.out hw308_2), (bc HB.out hw308_3), (bc HB.out hw308_4), (bc HB.out hw308_5), (bc HB.out hw308_6), (bc HB.out hw308_7), (bc HB.out hw308_8), (bc HB.out hw308_9), (bc HB.out hw308_10), (bc HB.out hw308_11), (bc HB.out hw308_12), (bc HB.out hw308_13), (bc HB.out hw308_14), (bc HB.out hw308_15), (bc HB.out hw308_16), (bc HB.out hw308_17), (by first | exact (bc HB.out hw308_18) | (have h_ := (bc HB.out hw308_18); rw [← Nbq7.out] at h_; exact h_)), (by first | exact (bc HB.out hw308_19) | (have h_ := (bc HB.out hw308_19); rw [← Nbq7.out] at h_; exact h_)), (bc HB.out hw17_0)⟩ (fun hHeld => ?_); refine zna impl_follow.tab3 impl_follow.bits3 (fun HT_ HW_ => ?_)
        generalize wr.drew = w15 at BK302 BK303 HB hx306_0 hx306_1 hx306_10 hx306_11 hx306_12 hx306_13 hx306_14 hx306_15 hx306_16 hx306_17 hx306_18 hx306_19 hx306_2 hx306_3 hx306_4 hx306_5 hx306_6 hx306_7 hx306_8 hx306_9 hx308_0 hx308_1 hx308_10 hx308_11 hx308_12 hx308_13 hx308_14 hx308_15 hx308_16 hx308_17 hx308_18 hx308_19 hx308_2 hx308_3 hx308_4 hx308_5 hx308_6 hx308_7 hx308_8 hx308_9 hHeld ⊢
        refine pure_ (i := 0) (N := some 14) (v := ?_) (a' := ?_) #[true, false, false, false, false, false, false, false, false, false, false, false, false, false, false] rfl rfl (zma HT_.out (by kernel_rfl)) (fun _ _ _ h => h) (Or.inl ⟨by rfl, ?_⟩) ?_ ?_
        rotate_left
        ·intro w'
         go_simp
         with_reducible rfl
        rotate_left
        ·simp only [Act.put, List.setIfInBounds_toArray, List.set_cons_zero, List.set_cons_succ, zp, zq]
         rfl
        refine pure_ (i := 1) (N := some 15) (v := ?_) (a' := ?_) #[true, true, false, false, false, false, false, false, false, false, false, false, false, false, false] rfl rfl (zma HT_.out (by kernel_rfl)) (fun _ _ _ h => h) (Or.inl ⟨by rfl, ?_⟩) ?_ ?_
        rotate_left
        ·intro w'
         go_simp
         with_reducible rfl
        rotate_left
        ·simp only [Act.put, List.setIfInBounds_toArray, List.set_cons_zero, List.set_cons_succ, zp, zq]
         rfl
        refine pure_ (i := 2) (N := some 16) (v := ?_) (a' := ?_) #[true, true, true, false, false, false, false, false, false, false, false, false, false, false, false] rfl rfl (zma HT_.out (by kernel_rfl)) (fun _ _ _ h => h) (Or.inl ⟨by rfl, ?_⟩) ?_ ?_
        rotate_left
        ·intro w'
         go_simp
         with_reducible rfl
        rotate_left
        ·simp only [Act.put, List.setIfInBounds_toArray, List.set_cons_zero, List.set_cons_succ, zp, zq]
         rfl
        refine pure_ (i := 3) (N := some 17) (v := ?_) (a' := ?_) #[true, true, true, true, false, false, false, false, false, false, false, false, false, false, false] rfl rfl (zma HT_.out (by kernel_rfl)) (fun _ _ _ h => h) (Or.inl ⟨by rfl, ?_⟩) ?_ ?_
        rotate_left
        ·intro w'
         go_simp
         with_reducible rfl
        rotate_left
        ·simp only [Act.put, List.setIfInBounds_toArray, List.set_cons_zero, List.set_cons_succ, zp, zq]
         rfl
        refine pure_ (i := 4) (N := some 18) (v := ?_) (a' := ?_) #[true, true, true, true, true, false, false, false, false, false, false, false, false, false, false] rfl rfl (zma HT_.out (by kernel_rfl)) (fun _ _ _ h => h) (Or.inl ⟨by rfl, ?_⟩) ?_ ?_
        rotate_left
        ·intro w'
         go_simp
         with_reducible rfl
        rotate_left
        ·simp only [Act.put, List.setIfInBounds_toArray, List.set_cons_zero, List.set_cons_succ, zp, zq]
         rfl
        refine pure_ (i := 5) (N := some 19) (v := ?_) (a' := ?_) #[true, true, true, true, true, true, false, false, false, false, false, false, false, false, false] rfl rfl (zma HT_.out (by kernel_rfl)) (fun _ _ _ h => h) (Or.inl ⟨by rfl, ?_⟩) ?_ ?_
        rotate_left
        ·intro w'
         go_simp
         with_reducible rfl
        rotate_left
        ·simp only [Act.put, List.setIfInBounds_toArray, List.set_cons_zero, List.set_cons_succ, zp, zq]
         rfl
        refine pure_ (i := 10) (N := some 24) (v := ?_) (a' := ?_) #[true, true, true, true, true, true, false, false, false, false, true, false, false, false, false] rfl rfl (zma HT_.out (by kernel_rfl)) (fun _ _ _ h => h) (Or.inl ⟨by rfl, ?_⟩) ?_ ?_
        rotate_left
        ·intro w'
         go_simp
         with_reducible rfl
        rotate_left
        ·simp only [Act.put, List.setIfInBounds_toArray, List.set_cons_zero, List.set_cons_succ, zp, zq]
         rfl
        refine pure_ (i := 11) (N := some 25) (v := ?_) (a' := ?_) #[true, true, true, true, true, true, false, false, false, false, true, true, false, false, false] rfl rfl (zma HT_.out (by kernel_rfl)) (fun _ _ _ h => h) (Or.inl ⟨by rfl, ?_⟩) ?_ ?_
        rotate_left
        ·intro w'
         go_simp
         with_reducible rfl
        rotate_left
        ·simp only [Act.put, List.setIfInBounds_toArray, List.set_cons_zero, List.set_cons_succ, zp, zq]
         rfl
        refine take_ (i := 6) (N := some 20) (v := ?_) (a' := ?_) #[true, true, true, true, true, true, true, false, false, false, true, true, false, false, false] rfl rfl (zaa HT_.out HW_.out (by kernel_rfl)) (fun _ _ _ h => h) (Or.inl ⟨by rfl, ?_⟩) hHeld ?_ ?_
        rotate_left
        ·rintro w' ⟨s0, s1, s2, s3, s4, s5, s6, s7, s8, s9, s10, s11, s12, s13, s14, s15, s16, s17, s18, s19, s20, s21, s22, s23, s24, s25, s26, s27, s28, s29, s30, s31, s32, s33, s34, s35, s36, s37, s38, s39, s40, s41, s42⟩
         go_simp
         with_reducible rfl
        rotate_left
        ·simp only [Act.put, List.setIfInBounds_toArray, List.set_cons_zero, List.set_cons_succ, zp, zq]
         rfl
        refine take_ (i := 7) (N := some 21) (v := ?_) (a' := ?_) #[true, true, true, true, true, true, true, true, false, false, true, true, false, false, false] rfl rfl (zaa HT_.out HW_.out (by kernel_rfl)) (fun _ _ _ h => h) (Or.inl ⟨by rfl, ?_⟩) hHeld ?_ ?_
        rotate_left
        ·rintro w' ⟨s0, s1, s2, s3, s4, s5, s6, s7, s8, s9, s10, s11, s12, s13, s14, s15, s16, s17, s18, s19, s20, s21, s22, s23, s24, s25, s26, s27, s28, s29, s30, s31, s32, s33, s34, s35, s36, s37, s38, s39, s40, s41, s42⟩
         go_simp
         with_reducible rfl
        rotate_left
        ·simp only [Act.put, List.setIfInBounds_toArray, List.set_cons_zero, List.set_cons_succ, zp, zq]
         rfl
        refine one_ (i := 8) (N := some 22) #[true, true, true, true, true, true, true, true, true, false, true, true, false, false, false] rfl rfl (one_of HT_.out (by kernel_rfl)) (by decide) (fun K hK => ?_)
        refine goes_ Try.func50 (by kernel_rfl) rfl #[.agg #[.int .i8 ((rd_T54 l0 x6_1).f0.f0), .int .i8 ((rd_T54 l0 x6_1).f0.f1), .int .i8 ((rd_T54 l0 x6_1).f0.f2), .int .i8 ((rd_T54 l0 x6_1).f0.f3), .int .i8 ((rd_T54 l0 x6_1).f0.f4), .int .i8 ((rd_T54 l0 x6_1).f0.f5), .int .i8 ((rd_T54 l0 x6_1).f0.f6), .int .i8 ((rd_T54 l0 x6_1).f0.f7), .int .i8 ((rd_T54 l0 x6_1).f0.f8), .int .i8 ((rd_T54 l0 x6_1).f0.f9), .int .i8 ((rd_T54 l0 x6_1).f0.f10), .int .i8 ((rd_T54 l0 x6_1).f0.f11), .int .i8 ((rd_T54 l0 x6_1).f0.f12), .int .i8 ((rd_T54 l0 x6_1).f0.f13)], .agg #[.int .i8 a1_0, .bool a1_1]] (by rfl) rfl rfl (by (try simp only [List.map_toArray, List.map_cons, List.map_nil]); first | done | rfl | (simp only [List.length_drop, List.length_take]; rfl)) ?_
        with_reducible refine (impl_resultOf.calls ((rd_T54 l0 x6_1).f0.f0) ((rd_T54 l0 x6_1).f0.f1) ((rd_T54 l0 x6_1).f0.f2) ((rd_T54 l0 x6_1).f0.f3) ((rd_T54 l0 x6_1).f0.f4) ((rd_T54 l0 x6_1).f0.f5) ((rd_T54 l0 x6_1).f0.f6) ((rd_T54 l0 x6_1).f0.f7) ((rd_T54 l0 x6_1).f0.f8) ((rd_T54 l0 x6_1).f0.f9) ((rd_T54 l0 x6_1).f0.f10) ((rd_T54 l0 x6_1).f0.f11) ((rd_T54 l0 x6_1).f0.f12) ((rd_T54 l0 x6_1).f0.f13) a1_0 a1_1 t307 _ A11.out).mono ?_
        rintro e w16 ⟨rfl, hb⟩
        refine ⟨_, rfl, ?_⟩
        have n0_ := zd.mk (zj (g := gb302) (o := .cells #[.int .i8 a1_0, .bool a1_1] 46 (0, 0)) (by (with_reducible repeat (first | refine zf ?_ _ | refine zh ?_ | refine zg ?_ _)); exact BK302.out) hb)
        have n1_ := zd.mk (zj (g := gb303) (o := .cells #[.int .i8 0, .bool false] 46 (0, 0)) (by (with_reducible repeat (first | refine zf ?_ _ | refine zh ?_ | refine zg ?_ _)); exact BK303.out) hb)
        have n2_ := zd.mk (zk (by repeat (first | (with_reducible first | exact HB.out | apply zc | apply za | apply zb | refine ze ?_ GE302.out | refine ze ?_ GE303.out) | exact HB.out)) hb)
        clear BK302
        clear BK303
        clear HB
        have BK302 := n0_
        have BK303 := n1_
        have HB := n2_
        clear n0_ n1_ n2_
        (try clear hb)
        (try clear hb2)
        (try clear hk)
        (try clear hi)
        refine hK.out _ _ ⟨(zl BK302.out 0).trans rfl, (zl BK302.out 1).trans rfl, (bc HB.out hw306_0), (bc HB.out hw306_1), (bc HB.out hw306_2), (bc HB.out hw306_3), (bc HB.out hw306_4), (bc HB.out hw306_5), (bc HB.out hw306_6), (bc HB.out hw306_7), (bc HB.out hw306_8), (bc HB.out hw306_9), (bc HB.out hw306_10), (bc HB.out hw306_11), (bc HB.out hw306_12), (bc HB.out hw306_13), (bc HB.out hw306_14), (bc HB.out hw306_15), (bc HB.out hw306_16), (bc HB.out hw306_17), (by first | exact (bc HB.out hw306_18) | (have h_ := (bc HB.out hw306_18); rw [← Nbq7.out] at h_; exact h_)), (by first | exact (bc HB.out hw306_19) | (have h_ := (bc HB.out hw306_19); rw [← Nbq7.out] at h_; exact h_)), (bc HB.out hw308_0), (bc HB.out hw308_1), (bc HB.out hw308_2), (bc HB.out hw308_3), (bc HB.out hw308_4), (bc HB.out hw308_5), (bc HB.out hw308_6), (bc HB.out hw308_7), (bc HB.out hw308_8), (bc HB.out hw308_9), (bc HB.out hw308_10), (bc HB.out hw308_11), (bc HB.out hw308_12), (bc HB.out hw308_13), (bc HB.out hw308_14), (bc HB.out hw308_15), (bc HB.out hw308_16), (bc HB.out hw308_17), (by first | exact (bc HB.out hw308_18) | (have h_ := (bc HB.out hw308_18); rw [← Nbq7.out] at h_; exact h_)), (by first | exact (bc HB.out hw308_19) | (have h_ := (bc HB.out hw308_19); rw [← Nbq7.out] at h_; exact h_)), (bc HB.out hw17_0)⟩ (fun hHeld => ?_)
        clear hK K
        refine norm_ (a' := ?_) ?_ ?_
        rotate_left
        ·show Act.put _ (some 22) _ = _
         simp only [Act.put, List.setIfInBounds_toArray, List.set_cons_zero, List.set_cons_succ, zp, zq]
         rfl
        refine pure_ (i := 9) (N := some 23) (v := ?_) (a' := ?_) #[true, true, true, true, true, true, true, true, true, true, true, true, false, false, false] rfl rfl (zma HT_.out (by kernel_rfl)) (fun _ _ _ h => h) (Or.inl ⟨by rfl, ?_⟩) ?_ ?_
        rotate_left
        ·intro w'
         go_simp
         with_reducible rfl
        rotate_left
        ·simp only [Act.put, List.setIfInBounds_toArray, List.set_cons_zero, List.set_cons_succ, zp, zq]
         rfl
        refine pure_ (i := 12) (N := some 26) (v := ?_) (a' := ?_) #[true, true, true, true, true, true, true, true, true, true, true, true, true, false, false] rfl rfl (zma HT_.out (by kernel_rfl)) (fun _ _ _ h => h) (Or.inl ⟨by rfl, ?_⟩) ?_ ?_
        rotate_left
        ·intro w'
         go_simp
         with_reducible rfl
        rotate_left
        ·simp only [Act.put, List.setIfInBounds_toArray, List.set_cons_zero, List.set_cons_succ, zp, zq]
         rfl
        refine take_ (i := 13) (N := some 27) (v := ?_) (a' := ?_) #[true, true, true, true, true, true, true, true, true, true, true, true, true, true, false] rfl rfl (zaa HT_.out HW_.out (by kernel_rfl)) (fun _ _ _ h => h) (Or.inl ⟨by rfl, ?_⟩) hHeld ?_ ?_
        rotate_left
        ·rintro w' ⟨s0, s1, s2, s3, s4, s5, s6, s7, s8, s9, s10, s11, s12, s13, s14, s15, s16, s17, s18, s19, s20, s21, s22, s23, s24, s25, s26, s27, s28, s29, s30, s31, s32, s33, s34, s35, s36, s37, s38, s39, s40, s41, s42⟩
         go_simp
         with_reducible rfl
        rotate_left
        ·simp only [Act.put, List.setIfInBounds_toArray, List.set_cons_zero, List.set_cons_succ, zp, zq]
         rfl
        refine pure_ (i := 14) (N := some 6) (v := ?_) (a' := ?_) #[true, true, true, true, true, true, true, true, true, true, true, true, true, true, true] rfl rfl (zma HT_.out (by kernel_rfl)) (fun _ _ _ h => h) (Or.inl ⟨by rfl, ?_⟩) ?_ ?_
        rotate_left
        ·intro w'
         go_simp
         with_reducible rfl
        rotate_left
        ·simp only [Act.put, List.setIfInBounds_toArray, List.set_cons_zero, List.set_cons_succ, zp, zq]
         rfl
        refine done_ (done_of HT_.out (by kernel_rfl)) ?_
        try go_wp2
        go_roundg k1
        case measure => have := HK1.out; omega
        case rel => exact ⟨(rd [(rd_T54 l0 x6_1).f1.f0, (rd_T54 l0 x6_1).f1.f1, (rd_T54 l0 x6_1).f1.f2] (ji12)), (wrap64 (x7_1 + 1)), (by first | rfl | (simp; done) | (simp only [← hji12] <;> (first | rfl | simp)) | (simp [*]; done)), (by first | rfl | (simp; done) | (simp [*]; done)), H', ⟨by have := HK1.out; omega⟩, ⟨by (with_reducible repeat (first | refine zf ?_ _ | refine zh ?_ | refine zg ?_ _)); exact BK302.out⟩, ⟨by (with_reducible repeat (first | refine zf ?_ _ | refine zh ?_ | refine zg ?_ _)); exact BK303.out⟩, ⟨by repeat (first | (with_reducible first | exact HB.out | apply zc | apply za | apply zb | refine ze ?_ GE302.out | refine ze ?_ GE303.out) | exact HB.out)⟩⟩
       ·rw [if_neg c14] at H
        exact absurd H (by simp)
      ·rw [if_neg c13] at H
       exact absurd H (by simp)
    ·rw [if_neg c6] at H
     exact absurd H (by simp)
   ·rw [if_neg c5] at H
    exact absurd H (by simp)

end Go.Proofs.Ytmmonhpjjjdnjaa.U
