-- Written by wip/tools/myprint.py, a program of this session, by way of the kit's print.
import Derived.Test.YtmmonhpjjjdnjaaUx0
import Derived.Test.YtmmonhpjjjdnjaaLLoadU
import Derived.Test.YtmmonhpjjjdnjaaUx15
namespace Go.Proofs.Ytmmonhpjjjdnjaa.U
open Go.RowKit Go.Proofs.YtmmonhpjjjdnjaaW.PrintWords Go.Proofs.YtmmonhpjjjdnjaaW.PrintLast Go.Proofs.YtmmonhpjjjdnjaaW.PrintMore
attribute [local go_sem] zba zea zha zia zy zz zda zca   -- for this text's walks alone
set_option linter.unusedVariables false
set_option linter.unusedSimpArgs false

/-! ### spec_l03Run: function 26 -/
def spec_l03Run.l0 : Nat → List (S54) → Int → Int → Int → Bool → Option (Int × Bool × Int)
 | 0, _, _, _, _, _ => none
 | k + 1, x0, x6, x7, x165000, x165001 => if 0 ≤ x6 then (if x6 < (x0.length : Int) then (if ((rd_T54 x0 x6).f3 = true) then (some ((rd_T54 x0 x6).f2.f0, (rd_T54 x0 x6).f2.f1, x7)) else ((spec_l03Result.f ((rd_T54 x0 x6).f0.f0) ((rd_T54 x0 x6).f0.f1) ((rd_T54 x0 x6).f0.f2) ((rd_T54 x0 x6).f0.f3) ((rd_T54 x0 x6).f0.f4) ((rd_T54 x0 x6).f0.f5) ((rd_T54 x0 x6).f0.f6) ((rd_T54 x0 x6).f0.f7) ((rd_T54 x0 x6).f0.f8) ((rd_T54 x0 x6).f0.f9) ((rd_T54 x0 x6).f0.f10) ((rd_T54 x0 x6).f0.f11) ((rd_T54 x0 x6).f0.f12) ((rd_T54 x0 x6).f0.f13) x165000 x165001).bind fun t169 => (if 0 ≤ (wrap64 (t169 + 1)) then (if (wrap64 (t169 + 1)) < 3 then (spec_l03Run.l0 k x0 (rd [(rd_T54 x0 x6).f1.f0, (rd_T54 x0 x6).f1.f1, (rd_T54 x0 x6).f1.f2] (wrap64 (t169 + 1))) (wrap64 (x7 + 1)) x165000 x165001) else (none)) else (none)))) else (none)) else (none)
def spec_l03Run.f (k : Nat) (l0 : List (S54)) (a1_0 : Int) (a1_1 : Bool) : Option (Int × Bool × Int) := spec_l03Run.l0 k l0 0 0 a1_0 a1_1
def spec_l03Run.T4 : Bool × List (List Nat × List Nat) := (true, [([], []), ([], []), ([], []), ([], []), ([2, 3], [2, 3]), ([4], [4]), ([5], [5]), ([], []), ([6, 7], [6, 7]), ([8], [8]), ([0, 1], [0, 1]), ([10], [10]), ([11, 9], [9, 11]), ([12], [12]), ([13, 8, 0, 1, 2, 3, 4, 5, 6, 7, 8, 9, 10, 11, 12, 13], [1, 3, 13])])
def spec_l03Run.B4 : List Nat := [0, 0, 0, 0, 12, 28, 60, 0, 252, 508, 3, 1027, 4095, 8191, 16383]
theorem spec_l03Run.tab4 : rtab .any (opsOf Try.f26 4) = spec_l03Run.T4 := by kernel_rfl
theorem spec_l03Run.bits4 : waitsOk spec_l03Run.T4.2 spec_l03Run.B4 = true := by kernel_rfl
set_option maxHeartbeats 8000000 in
set_option maxRecDepth 100000 in
theorem spec_l03Run.calls (k : Nat) (A0 : Option Addr) (c0 : Nat) (l0 : List (S54)) (a1_0 : Int) (a1_1 : Bool) (r1 : Int) (r2 : Bool) (r3 : Int) (w : World) (hr0 : Kd.C k54 w A0 l0.length l0) (hc0 : l0.length ≤ c0) (h : spec_l03Run.f k l0 a1_0 a1_1 = some (r1, r2, r3)) :
  Calls Try.prog 26 #[.slice A0 l0.length c0, .agg #[.int .i8 a1_0, .bool a1_1]] w fun e w' => e = .returned (.tuple #[.agg #[.int .i8 r1, .bool r2], .int .i64 r3]) ∧ Below w.heap.size w w' := by
 have hu46 := Try.underlying46
 have hu50 := Try.underlying50
 have HR0 := zd.mk hr0
 have HC0 := zd.mk hc0
 clear hr0 hc0
 have HB := zd.mk (Below.refl w.heap.size w)
 have H : (spec_l03Run.l0 k l0 0 0 a1_0 a1_1) = some (r1, r2, r3) := h
 clear h
 have H' := zd.mk H
 clear H
 go_enter Try.func26, Try.ntmps26
 go_wp2_with (first | ((with_reducible refine zo (N := 3) rfl ?_); refine zn ?hg (N := 3) ?hd (cs := #[.int .i8 a1_0, .bool a1_1]) (t := 46) ?hr ?_; (case hd => rfl); (case hg => rfl); (case hr => first | (go_simp; done) | (go_simp; rfl)); intro gb164 hg w3 hbox hb; have n0_ := zd.mk (zk (by repeat (first | (with_reducible first | exact HB.out | apply zc | apply za | apply zb) | exact HB.out)) hb); have n1_ := zd.mk (hbox); have n2_ := zd.mk ((by rw [hg]; exact (zm (by repeat (first | (with_reducible first | exact HB.out | apply zc | apply za | apply zb) | exact HB.out))) : w.heap.size ≤ gb164)); have n3_ := zd.mk ((by rw [hg]; exact (zm (by repeat (first | (with_reducible first | exact HB.out | apply zc | apply za | apply zb) | exact HB.out))) : w.heap.size ≤ gb164)); clear HB; have HB := n0_; have BK164 := n1_; have GW164 := n2_; have GE164 := n3_; clear n0_ n1_ n2_ n3_; clear hb hbox hg) | ((with_reducible refine zo (N := 4) rfl ?_); refine zn ?hg (N := 4) ?hd (cs := #[.int .i8 0, .bool false]) (t := 46) ?hr ?_; (case hd => rfl); (case hg => rfl); (case hr => first | (go_simp; done) | (go_simp; rfl)); intro gb165 hg w4 hbox hb; have n0_ := zd.mk (zj (g := gb164) (o := .cells #[.int .i8 a1_0, .bool a1_1] 46 (0, 0)) (by (with_reducible repeat (first | refine zf ?_ _ | refine zh ?_ | refine zg ?_ _)); exact BK164.out) hb); have n1_ := zd.mk (zk (by repeat (first | (with_reducible first | exact HB.out | apply zc | apply za | apply zb | refine ze ?_ GE164.out) | exact HB.out)) hb); have n2_ := zd.mk (hbox); have n3_ := zd.mk ((by rw [hg]; exact (zm (by repeat (first | (with_reducible first | exact HB.out | apply zc | apply za | apply zb | refine ze ?_ GE164.out) | exact HB.out))) : w.heap.size ≤ gb165)); have n4_ := zd.mk ((by rw [hg]; exact (zm (by repeat (first | (with_reducible first | exact HB.out | apply zc | apply za | apply zb | refine ze ?_ GE164.out) | exact HB.out))) : w.heap.size ≤ gb165)); have n5_ := zd.mk ((by rw [hg]; exact Nat.ne_of_lt (zv (g := gb164) (o := .cells #[.int .i8 a1_0, .bool a1_1] 46 (0, 0)) (by (with_reducible repeat (first | refine zf ?_ _ | refine zh ?_ | refine zg ?_ _)); exact BK164.out)) : gb164 ≠ gb165)); have n6_ := zd.mk ((by rw [hg]; exact Nat.ne_of_gt (zv (g := gb164) (o := .cells #[.int .i8 a1_0, .bool a1_1] 46 (0, 0)) (by (with_reducible repeat (first | refine zf ?_ _ | refine zh ?_ | refine zg ?_ _)); exact BK164.out)) : gb165 ≠ gb164)); clear BK164; clear HB; have BK164 := n0_; have HB := n1_; have BK165 := n2_; have GW165 := n3_; have GE165 := n4_; have NB164_165 := n5_; have NB165_164 := n6_; clear n0_ n1_ n2_ n3_ n4_ n5_ n6_; clear hb hbox hg))
 go_loopg [6, 7] k (fun kq v6 v7 w' => ∃ (x6_1 : Int) (x7_1 : Int), v6 = .int .i16 x6_1 ∧ v7 = .int .i64 x7_1 ∧ zd (spec_l03Run.l0 kq l0 x6_1 x7_1 a1_0 a1_1 = some (r1, r2, r3)) ∧ zd (kq ≤ k) ∧ zd (w'.heap[gb164]? = some (.cells #[.int .i8 a1_0, .bool a1_1] 46 (0, 0))) ∧ zd (w'.heap[gb165]? = some (.cells #[.int .i8 0, .bool false] 46 (0, 0))) ∧ zd (Below w.heap.size w w'))
 case atStart => exact ⟨(0), (0), (by first | rfl | (simp; done) | (simp [*]; done)), (by first | rfl | (simp; done) | (simp [*]; done)), H', ⟨Nat.le_refl _⟩, ⟨by (with_reducible repeat (first | refine zf ?_ _ | refine zh ?_ | refine zg ?_ _)); exact BK164.out⟩, ⟨by (with_reducible repeat (first | refine zf ?_ _ | refine zh ?_ | refine zg ?_ _)); exact BK165.out⟩, ⟨by repeat (first | (with_reducible first | exact HB.out | apply zc | apply za | apply zb | refine ze ?_ GE164.out | refine ze ?_ GE165.out) | exact HB.out)⟩⟩
 case round =>
  clear H'
  try clear c2
  try clear p2
  obtain ⟨x6_1, x7_1, rfl, rfl, HA, HK1, BK164, BK165, HB⟩ := hrel
  cases gk with
  | zero => exact absurd HA.out (by simp [spec_l03Run.l0])
  | succ k1 =>
   have H := HA.out
   clear HA
   simp only [spec_l03Run.l0] at H
   by_cases c5 : 0 ≤ x6_1
   ·rw [if_pos c5] at H
    have c5b0 : decide (0 ≤ x6_1) = true := decide_eq_true c5
    clear c5
    by_cases c6 : x6_1 < (l0.length : Int)
    ·rw [if_pos c6] at H
     have c6b0 : decide (x6_1 < (l0.length : Int)) = true := decide_eq_true c6
     clear c6
     obtain ⟨bq7, hbq7⟩ : ∃ b_ : Bool, b_ = ((rd_T54 l0 x6_1).f3) := ⟨_, rfl⟩
     replace H : (if (bq7 = true) then (some ((rd_T54 l0 x6_1).f2.f0, (rd_T54 l0 x6_1).f2.f1, x7_1)) else ((spec_l03Result.f ((rd_T54 l0 x6_1).f0.f0) ((rd_T54 l0 x6_1).f0.f1) ((rd_T54 l0 x6_1).f0.f2) ((rd_T54 l0 x6_1).f0.f3) ((rd_T54 l0 x6_1).f0.f4) ((rd_T54 l0 x6_1).f0.f5) ((rd_T54 l0 x6_1).f0.f6) ((rd_T54 l0 x6_1).f0.f7) ((rd_T54 l0 x6_1).f0.f8) ((rd_T54 l0 x6_1).f0.f9) ((rd_T54 l0 x6_1).f0.f10) ((rd_T54 l0 x6_1).f0.f11) ((rd_T54 l0 x6_1).f0.f12) ((rd_T54 l0 x6_1).f0.f13) a1_0 a1_1).bind fun t169 => (if 0 ≤ (wrap64 (t169 + 1)) then (if (wrap64 (t169 + 1)) < 3 then (spec_l03Run.l0 k1 l0 (rd [(rd_T54 l0 x6_1).f1.f0, (rd_T54 l0 x6_1).f1.f1, (rd_T54 l0 x6_1).f1.f2] (wrap64 (t169 + 1))) (wrap64 (x7_1 + 1)) a1_0 a1_1) else (none)) else (none)))) = some (r1, r2, r3) := by rw [← hbq7] at H; exact H
     have Nbq7 := zd.mk hbq7
     clear hbq7
     by_cases c8 : (bq7 = true)
     ·subst c8
      have H1 : (some ((rd_T54 l0 x6_1).f2.f0, (rd_T54 l0 x6_1).f2.f1, x7_1)) = some (r1, r2, r3) := by rw [if_pos rfl] at H; exact H
      clear H
      have H := H1
      clear H1
      simp only [Option.some.injEq, Prod.mk.injEq] at H
      obtain ⟨rfl, rfl, rfl⟩ := H
      have p166 : 0 ≤ (x6_1 : Int) := of_decide_eq_true (by first | (with_reducible assumption) | assumption)
      have q166 : x6_1 < (l0.length : Int) := of_decide_eq_true (by first | (with_reducible assumption) | assumption)
      obtain ⟨ad166, e166, hx166_0, hx166_1, hx166_2, hx166_3, hx166_4, hx166_5, hx166_6, hx166_7, hx166_8, hx166_9, hx166_10, hx166_11, hx166_12, hx166_13, hx166_14, hx166_15, hx166_16, hx166_17, hx166_18, hx166_19⟩ := at_T54 HR0.out x6_1 p166 q166
      (try rw [← Nbq7.out] at hx166_18)
      (try rw [← Nbq7.out] at hx166_19)
      cases e166
      replace hx166_0 := bc HB.out hx166_0
      replace hx166_1 := bc HB.out hx166_1
      replace hx166_2 := bc HB.out hx166_2
      replace hx166_3 := bc HB.out hx166_3
      replace hx166_4 := bc HB.out hx166_4
      replace hx166_5 := bc HB.out hx166_5
      replace hx166_6 := bc HB.out hx166_6
      replace hx166_7 := bc HB.out hx166_7
      replace hx166_8 := bc HB.out hx166_8
      replace hx166_9 := bc HB.out hx166_9
      replace hx166_10 := bc HB.out hx166_10
      replace hx166_11 := bc HB.out hx166_11
      replace hx166_12 := bc HB.out hx166_12
      replace hx166_13 := bc HB.out hx166_13
      replace hx166_14 := bc HB.out hx166_14
      replace hx166_15 := bc HB.out hx166_15
      replace hx166_16 := bc HB.out hx166_16
      replace hx166_17 := bc HB.out hx166_17
      replace hx166_18 := bc HB.out hx166_18
      replace hx166_19 := bc HB.out hx166_19
      replace p166 := eq_true p166
      replace q166 := eq_true q166
      have p167 : 0 ≤ (x6_1 : Int) := of_decide_eq_true (by first | (with_reducible assumption) | assumption)
      have q167 : x6_1 < (l0.length : Int) := of_decide_eq_true (by first | (with_reducible assumption) | assumption)
      obtain ⟨ad167, e167, hx167_0, hx167_1, hx167_2, hx167_3, hx167_4, hx167_5, hx167_6, hx167_7, hx167_8, hx167_9, hx167_10, hx167_11, hx167_12, hx167_13, hx167_14, hx167_15, hx167_16, hx167_17, hx167_18, hx167_19⟩ := at_T54 HR0.out x6_1 p167 q167
      (try rw [← Nbq7.out] at hx167_18)
      (try rw [← Nbq7.out] at hx167_19)
      obtain rfl : ad166 = ad167 := (by injection e167)
      replace hx167_0 := bc HB.out hx167_0
      replace hx167_1 := bc HB.out hx167_1
      replace hx167_2 := bc HB.out hx167_2
      replace hx167_3 := bc HB.out hx167_3
      replace hx167_4 := bc HB.out hx167_4
      replace hx167_5 := bc HB.out hx167_5
      replace hx167_6 := bc HB.out hx167_6
      replace hx167_7 := bc HB.out hx167_7
      replace hx167_8 := bc HB.out hx167_8
      replace hx167_9 := bc HB.out hx167_9
      replace hx167_10 := bc HB.out hx167_10
      replace hx167_11 := bc HB.out hx167_11
      replace hx167_12 := bc HB.out hx167_12
      replace hx167_13 := bc HB.out hx167_13
      replace hx167_14 := bc HB.out hx167_14
      replace hx167_15 := bc HB.out hx167_15
      replace hx167_16 := bc HB.out hx167_16
      replace hx167_17 := bc HB.out hx167_17
      replace hx167_18 := bc HB.out hx167_18
      replace hx167_19 := bc HB.out hx167_19
      replace p167 := eq_true p167
      replace q167 := eq_true q167
      have hnb9 := NB165_164.out
      have hnc9 := NB164_165.out
      have hcz10_0 := cz BK165.out 0 rfl
      have hcz10_1 := cz BK165.out 1 rfl
      have hfz10_0 := zi BK165.out 0
      have hfz10_1 := zi BK165.out 1
      go_wp2
      refine bodyPost_ret (results_ct rfl _ _ gb165 46 #[.int .i8 ((rd_T54 l0 x6_1).f2.f0), .bool ((rd_T54 l0 x6_1).f2.f1)] (0, 0) _ rfl (by (with_reducible repeat (first | refine zf ?_ _ | refine zh ?_ | refine zg ?_ _)); refine zu (cs := #[.int .i8 ((rd_T54 l0 x6_1).f2.f0), .bool false]) ?_ 1 _ rfl; (with_reducible repeat (first | refine zf ?_ _ | refine zh ?_ | refine zg ?_ _)); refine zu (cs := #[.int .i8 0, .bool false]) ?_ 0 _ rfl; (with_reducible repeat (first | refine zf ?_ _ | refine zh ?_ | refine zg ?_ _)); exact BK165.out) Try.underlying46 rfl (by kernel_rfl)) rfl ?_
      exact ⟨by first | rfl | (simp [errW_none, errW_some] <;> rfl) | (simp [*, errW_none, errW_some] <;> rfl), by repeat (first | (with_reducible first | exact HB.out | apply zc | apply za | apply zb | refine ze ?_ GE164.out | refine ze ?_ GE165.out) | exact HB.out)⟩
     ·replace c8 := Bool.eq_false_iff.mpr c8
      subst c8
      have H1 : ((spec_l03Result.f ((rd_T54 l0 x6_1).f0.f0) ((rd_T54 l0 x6_1).f0.f1) ((rd_T54 l0 x6_1).f0.f2) ((rd_T54 l0 x6_1).f0.f3) ((rd_T54 l0 x6_1).f0.f4) ((rd_T54 l0 x6_1).f0.f5) ((rd_T54 l0 x6_1).f0.f6) ((rd_T54 l0 x6_1).f0.f7) ((rd_T54 l0 x6_1).f0.f8) ((rd_T54 l0 x6_1).f0.f9) ((rd_T54 l0 x6_1).f0.f10) ((rd_T54 l0 x6_1).f0.f11) ((rd_T54 l0 x6_1).f0.f12) ((rd_T54 l0 x6_1).f0.f13) a1_0 a1_1).bind fun t169 => (if 0 ≤ (wrap64 (t169 + 1)) then (if (wrap64 (t169 + 1)) < 3 then (spec_l03Run.l0 k1 l0 (rd [(rd_T54 l0 x6_1).f1.f0, (rd_T54 l0 x6_1).f1.f1, (rd_T54 l0 x6_1).f1.f2] (wrap64 (t169 + 1))) (wrap64 (x7_1 + 1)) a1_0 a1_1) else (none)) else (none))) = some (r1, r2, r3) := by rw [if_neg (show ¬ (false = true) by decide)] at H; exact H
      clear H
      have H := H1
      clear H1
      replace H := Option.bind_eq_some_iff.mp H
      obtain ⟨t169, A110, H⟩ := H
      replace H : (if 0 ≤ (wrap64 (t169 + 1)) then (if (wrap64 (t169 + 1)) < 3 then (spec_l03Run.l0 k1 l0 (rd [(rd_T54 l0 x6_1).f1.f0, (rd_T54 l0 x6_1).f1.f1, (rd_T54 l0 x6_1).f1.f2] (wrap64 (t169 + 1))) (wrap64 (x7_1 + 1)) a1_0 a1_1) else (none)) else (none)) = some (r1, r2, r3) := H
      have A11 := zd.mk A110
      clear A110
      obtain ⟨ji12, hji12⟩ : ∃ j_ : Int, (wrap64 (t169 + 1)) = j_ := ⟨_, rfl⟩
      replace H : (if 0 ≤ (ji12) then (if (ji12) < 3 then (spec_l03Run.l0 k1 l0 (rd [(rd_T54 l0 x6_1).f1.f0, (rd_T54 l0 x6_1).f1.f1, (rd_T54 l0 x6_1).f1.f2] (ji12)) (wrap64 (x7_1 + 1)) a1_0 a1_1) else (none)) else (none)) = some (r1, r2, r3) := by first | (rw [hji12] at H; exact H) | (simp only [hji12] at H ⊢; exact H)
      (try rw [hji12] at A11)
      have hji12w : (IntKind.i64.wrap (t169 + 1)) = ji12 := (zp _).trans hji12
      by_cases c13 : 0 ≤ (ji12)
      ·rw [if_pos c13] at H
       have c13b0 : decide (0 ≤ (ji12)) = true := decide_eq_true c13
       clear c13
       by_cases c14 : (ji12) < 3
       ·rw [if_pos c14] at H
        have c14b0 : decide ((ji12) < 3) = true := decide_eq_true c14
        clear c14
        have H' := zd.mk H
        clear H
        have p166 : 0 ≤ (x6_1 : Int) := of_decide_eq_true (by first | (with_reducible assumption) | assumption)
        have q166 : x6_1 < (l0.length : Int) := of_decide_eq_true (by first | (with_reducible assumption) | assumption)
        obtain ⟨ad166, e166, hx166_0, hx166_1, hx166_2, hx166_3, hx166_4, hx166_5, hx166_6, hx166_7, hx166_8, hx166_9, hx166_10, hx166_11, hx166_12, hx166_13, hx166_14, hx166_15, hx166_16, hx166_17, hx166_18, hx166_19⟩ := at_T54 HR0.out x6_1 p166 q166
        (try rw [← Nbq7.out] at hx166_18)
        (try rw [← Nbq7.out] at hx166_19)
        cases e166
        replace hx166_0 := bc HB.out hx166_0
        replace hx166_1 := bc HB.out hx166_1
        replace hx166_2 := bc HB.out hx166_2
        replace hx166_3 := bc HB.out hx166_3
        replace hx166_4 := bc HB.out hx166_4
        replace hx166_5 := bc HB.out hx166_5
        replace hx166_6 := bc HB.out hx166_6
        replace hx166_7 := bc HB.out hx166_7
        replace hx166_8 := bc HB.out hx166_8
        replace hx166_9 := bc HB.out hx166_9
        replace hx166_10 := bc HB.out hx166_10
        replace hx166_11 := bc HB.out hx166_11
        replace hx166_12 := bc HB.out hx166_12
        replace hx166_13 := bc HB.out hx166_13
        replace hx166_14 := bc HB.out hx166_14
        replace hx166_15 := bc HB.out hx166_15
        replace hx166_16 := bc HB.out hx166_16
        replace hx166_17 := bc HB.out hx166_17
        replace hx166_18 := bc HB.out hx166_18
        replace hx166_19 := bc HB.out hx166_19
        replace p166 := eq_true p166
        replace q166 := eq_true q166
        try go_wp2
        have n0_ := zd.mk (zh BK164.out)
        have n1_ := zd.mk (zh BK165.out)
        have n2_ := zd.mk (zb HB.out)
        clear BK164
        clear BK165
        clear HB
        have BK164 := n0_
        have BK165 := n1_
        have HB := n2_
        clear n0_ n1_ n2_
        have p168 : 0 ≤ (x6_1 : Int) := of_decide_eq_true (by first | (with_reducible assumption) | assumption)
        have q168 : x6_1 < (l0.length : Int) := of_decide_eq_true (by first | (with_reducible assumption) | assumption)
        obtain ⟨ad168, e168, hx168_0, hx168_1, hx168_2, hx168_3, hx168_4, hx168_5, hx168_6, hx168_7, hx168_8, hx168_9, hx168_10, hx168_11, hx168_12, hx168_13, hx168_14, hx168_15, hx168_16, hx168_17, hx168_18, hx168_19⟩ := at_T54 HR0.out x6_1 p168 q168
        have hw168_19 := hx168_19
        have hw168_18 := hx168_18
        have hw168_17 := hx168_17
        have hw168_16 := hx168_16
        have hw168_15 := hx168_15
        have hw168_14 := hx168_14
        have hw168_13 := hx168_13
        have hw168_12 := hx168_12
        have hw168_11 := hx168_11
        have hw168_10 := hx168_10
        have hw168_9 := hx168_9
        have hw168_8 := hx168_8
        have hw168_7 := hx168_7
        have hw168_6 := hx168_6
        have hw168_5 := hx168_5
        have hw168_4 := hx168_4
        have hw168_3 := hx168_3
        have hw168_2 := hx168_2
        have hw168_1 := hx168_1
        have hw168_0 := hx168_0
        (try rw [← Nbq7.out] at hx168_18)
        (try rw [← Nbq7.out] at hx168_19)
        obtain rfl : ad166 = ad168 := (by injection e168)
        replace hx168_0 := bc HB.out hx168_0
        replace hx168_1 := bc HB.out hx168_1
        replace hx168_2 := bc HB.out hx168_2
        replace hx168_3 := bc HB.out hx168_3
        replace hx168_4 := bc HB.out hx168_4
        replace hx168_5 := bc HB.out hx168_5
        replace hx168_6 := bc HB.out hx168_6
        replace hx168_7 := bc HB.out hx168_7
        replace hx168_8 := bc HB.out hx168_8
        replace hx168_9 := bc HB.out hx168_9
        replace hx168_10 := bc HB.out hx168_10
        replace hx168_11 := bc HB.out hx168_11
        replace hx168_12 := bc HB.out hx168_12
        replace hx168_13 := bc HB.out hx168_13
        replace hx168_14 := bc HB.out hx168_14
        replace hx168_15 := bc HB.out hx168_15
        replace hx168_16 := bc HB.out hx168_16
        replace hx168_17 := bc HB.out hx168_17
        replace hx168_18 := bc HB.out hx168_18
        replace hx168_19 := bc HB.out hx168_19
        replace p168 := eq_true p168
        replace q168 := eq_true q168
        have p170 : 0 ≤ (x6_1 : Int) := of_decide_eq_true (by first | (with_reducible assumption) | assumption)
        have q170 : x6_1 < (l0.length : Int) := of_decide_eq_true (by first | (with_reducible assumption) | assumption)
        obtain ⟨ad170, e170, hx170_0, hx170_1, hx170_2, hx170_3, hx170_4, hx170_5, hx170_6, hx170_7, hx170_8, hx170_9, hx170_10, hx170_11, hx170_12, hx170_13, hx170_14, hx170_15, hx170_16, hx170_17, hx170_18, hx170_19⟩ := at_T54 HR0.out x6_1 p170 q170
        have hw170_19 := hx170_19
        have hw170_18 := hx170_18
        have hw170_17 := hx170_17
        have hw170_16 := hx170_16
        have hw170_15 := hx170_15
        have hw170_14 := hx170_14
        have hw170_13 := hx170_13
        have hw170_12 := hx170_12
        have hw170_11 := hx170_11
        have hw170_10 := hx170_10
        have hw170_9 := hx170_9
        have hw170_8 := hx170_8
        have hw170_7 := hx170_7
        have hw170_6 := hx170_6
        have hw170_5 := hx170_5
        have hw170_4 := hx170_4
        have hw170_3 := hx170_3
        have hw170_2 := hx170_2
        have hw170_1 := hx170_1
        have hw170_0 := hx170_0
        (try rw [← Nbq7.out] at hx170_18)
        (try rw [← Nbq7.out] at hx170_19)
        obtain rfl : ad166 = ad170 := (by injection e170)
        replace hx170_0 := bc HB.out hx170_0
        replace hx170_1 := bc HB.out hx170_1
        replace hx170_2 := bc HB.out hx170_2
        replace hx170_3 := bc HB.out hx170_3
        replace hx170_4 := bc HB.out hx170_4
        replace hx170_5 := bc HB.out hx170_5
        replace hx170_6 := bc HB.out hx170_6
        replace hx170_7 := bc HB.out hx170_7
        replace hx170_8 := bc HB.out hx170_8
        replace hx170_9 := bc HB.out hx170_9
        replace hx170_10 := bc HB.out hx170_10
        replace hx170_11 := bc HB.out hx170_11
        replace hx170_12 := bc HB.out hx170_12
        replace hx170_13 := bc HB.out hx170_13
        replace hx170_14 := bc HB.out hx170_14
        replace hx170_15 := bc HB.out hx170_15
        replace hx170_16 := bc HB.out hx170_16
        replace hx170_17 := bc HB.out hx170_17
        replace hx170_18 := bc HB.out hx170_18
        replace hx170_19 := bc HB.out hx170_19
        replace p170 := eq_true p170
        replace q170 := eq_true q170
        have hw17_0 : w.cell? ⟨(ad166.add ((x6_1).toNat * 20)).block, (ad166.add ((x6_1).toNat * 20)).off + 14 + ((ji12)).toNat, none⟩ = some (.int .i16 (rd [(rd_T54 l0 x6_1).f1.f0, (rd_T54 l0 x6_1).f1.f1, (rd_T54 l0 x6_1).f1.f2] (ji12))) := by rcases (show ((ji12) : Int) = 0 ∨ ((ji12) : Int) = 1 ∨ ((ji12) : Int) = 2 by have hp_ : 0 ≤ ((ji12) : Int) := of_decide_eq_true (by first | (with_reducible assumption) | assumption); have hq_ : (ji12) < (3 : Int) := of_decide_eq_true (by first | (with_reducible assumption) | assumption); omega) with h_ | h_ | h_ <;> rw [h_] <;> first | exact hw170_14 | exact hw170_15 | exact hw170_16
        have p17 : 0 ≤ ((ji12) : Int) := of_decide_eq_true (by first | (with_reducible assumption) | assumption)
        have q17 : (ji12) < (3 : Int) := of_decide_eq_true (by first | (with_reducible assumption) | assumption)
        replace p17 := eq_true p17
        replace q17 := eq_true q17
        refine start_ (n := 15) (S := fun w' => w'.cell? ⟨gb164, 0, none⟩ = some (.int .i8 a1_0) ∧ w'.cell? ⟨gb164, 1, none⟩ = some (.bool a1_1) ∧ w'.cell? (ad166.add ((x6_1).toNat * 20)) = some (.int .i8 ((rd_T54 l0 x6_1).f0.f0)) ∧ w'.cell? ⟨(ad166.add ((x6_1).toNat * 20)).block, (ad166.add ((x6_1).toNat * 20)).off + 1, none⟩ = some (.int .i8 ((rd_T54 l0 x6_1).f0.f1)) ∧ w'.cell? ⟨(ad166.add ((x6_1).toNat * 20)).block, (ad166.add ((x6_1).toNat * 20)).off + 2, none⟩ = some (.int .i8 ((rd_T54 l0 x6_1).f0.f2)) ∧ w'.cell? ⟨(ad166.add ((x6_1).toNat * 20)).block, (ad166.add ((x6_1).toNat * 20)).off + 3, none⟩ = some (.int .i8 ((rd_T54 l0 x6_1).f0.f3)) ∧ w'.cell? ⟨(ad166.add ((x6_1).toNat * 20)).block, (ad166.add ((x6_1).toNat * 20)).off + 4, none⟩ = some (.int .i8 ((rd_T54 l0 x6_1).f0.f4)) ∧ w'.cell? ⟨(ad166.add ((x6_1).toNat * 20)).block, (ad166.add ((x6_1).toNat * 20)).off + 5, none⟩ = some (.int .i8 ((rd_T54 l0 x6_1).f0.f5)) ∧ w'.cell? ⟨(ad166.add ((x6_1).toNat * 20)).block, (ad166.add ((x6_1).toNat * 20)).off + 6, none⟩ = some (.int .i8 ((rd_T54 l0 x6_1).f0.f6)) ∧ w'.cell? ⟨(ad166.add ((x6_1).toNat * 20)).block, (ad166.add ((x6_1).toNat * 20)).off + 7, none⟩ = some (.int .i8 ((rd_T54 l0 x6_1).f0.f7)) ∧ w'.cell? ⟨(ad166.add ((x6_1).toNat * 20)).block, (ad166.add ((x6_1).toNat * 20)).off + 8, none⟩ = some (.int .i8 ((rd_T54 l0 x6_1).f0.f8)) ∧ w'.cell? ⟨(ad166.add ((x6_1).toNat * 20)).block, (ad166.add ((x6_1).toNat * 20)).off + 9, none⟩ = some (.int .i8 ((rd_T54 l0 x6_1).f0.f9)) ∧ w'.cell? ⟨(ad166.add ((x6_1).toNat * 20)).block, (ad166.add ((x6_1).toNat * 20)).off + 10, none⟩ = some (.int .i8 ((rd_T54 l0 x6_1).f0.f10)) ∧ w'.cell? ⟨(ad166.add ((x6_1).toNat * 20)).block, (ad166.add ((x6_1).toNat * 20)).off + 11, none⟩ = some (.int .i8 ((rd_T54 l0 x6_1).f0.f11)) ∧ w'.cell? ⟨(ad166.add ((x6_1).toNat * 20)).block, (ad166.add ((x6_1).toNat * 20)).off + 12, none⟩ = some (.int .i8 ((rd_T54 l0 x6_1).f0.f12)) ∧ w'.cell? ⟨(ad166.add ((x6_1).toNat * 20)).block, (ad166.add ((x6_1).toNat * 20)).off + 13, none⟩ = some (.int .i8 ((rd_T54 l0 x6_1).f0.f13)) ∧ w'.cell? ⟨(ad166.add ((x6_1).toNat * 20)).block, (ad166.add ((x6_1).toNat * 20)).off + 14, none⟩ = some (.int .i16 ((rd_T54 l0 x6_1).f1.f0)) ∧ w'.cell? ⟨(ad166.add ((x6_1).toNat * 20)).block, (ad166.add ((x6_1).toNat * 20)).off + 15, none⟩ = some (.int .i16 ((rd_T54 l0 x6_1).f1.f1)) ∧ w'.cell? ⟨(ad166.add ((x6_1).toNat * 20)).block, (ad166.add ((x6_1).toNat * 20)).off + 16, none⟩ = some (.int .i16 ((rd_T54 l0 x6_1).f1.f2)) ∧ w'.cell? ⟨(ad166.add ((x6_1).toNat * 20)).block, (ad166.add ((x6_1).toNat * 20)).off + 17, none⟩ = some (.int .i8 ((rd_T54 l0 x6_1).f2.f0)) ∧ w'.cell? ⟨(ad166.add ((x6_1).toNat * 20)).block, (ad166.add ((x6_1).toNat * 20)).off + 18, none⟩ = some (.bool ((rd_T54 l0 x6_1).f2.f1)) ∧ w'.cell? ⟨(ad166.add ((x6_1).toNat * 20)).block, (ad166.add ((x6_1).toNat * 20)).off + 19, none⟩ = some (.bool (false)) ∧ w'.cell? (ad166.add ((x6_1).toNat * 20)) = some (.int .i8 ((rd_T54 l0 x6_1).f0.f0)) ∧ w'.cell? ⟨(ad166.add ((x6_1).toNat * 20)).block, (ad166.add ((x6_1).toNat * 20)).off + 1, none⟩ = some (.int .i8 ((rd_T54 l0 x6_1).f0.f1)) ∧ w'.cell? ⟨(ad166.add ((x6_1).toNat * 20)).block, (ad166.add ((x6_1).toNat * 20)).off + 2, none⟩ = some (.int .i8 ((rd_T54 l0 x6_1).f0.f2)) ∧ w'.cell? ⟨(ad166.add ((x6_1).toNat * 20)).block, (ad166.add ((x6_1).toNat * 20)).off + 3, none⟩ = some (.int .i8 ((rd_T54 l0 x6_1).f0.f3)) ∧ w'.cell? ⟨(ad166.add ((x6_1).toNat * 20)).block, (ad166.add ((x6_1).toNat * 20)).off + 4, none⟩ = some (.int .i8 ((rd_T54 l0 x6_1).f0.f4)) ∧ w'.cell? ⟨(ad166.add ((x6_1).toNat * 20)).block, (ad166.add ((x6_1).toNat * 20)).off + 5, none⟩ = some (.int .i8 ((rd_T54 l0 x6_1).f0.f5)) ∧ w'.cell? ⟨(ad166.add ((x6_1).toNat * 20)).block, (ad166.add ((x6_1).toNat * 20)).off + 6, none⟩ = some (.int .i8 ((rd_T54 l0 x6_1).f0.f6)) ∧ w'.cell? ⟨(ad166.add ((x6_1).toNat * 20)).block, (ad166.add ((x6_1).toNat * 20)).off + 7, none⟩ = some (.int .i8 ((rd_T54 l0 x6_1).f0.f7)) ∧ w'.cell? ⟨(ad166.add ((x6_1).toNat * 20)).block, (ad166.add ((x6_1).toNat * 20)).off + 8, none⟩ = some (.int .i8 ((rd_T54 l0 x6_1).f0.f8)) ∧ w'.cell? ⟨(ad166.add ((x6_1).toNat * 20)).block, (ad166.add ((x6_1).toNat * 20)).off + 9, none⟩ = some (.int .i8 ((rd_T54 l0 x6_1).f0.f9)) ∧ w'.cell? ⟨(ad166.add ((x6_1).toNat * 20)).block, (ad166.add ((x6_1).toNat * 20)).off + 10, none⟩ = some (.int .i8 ((rd_T54 l0 x6_1).f0.f10)) ∧ w'.cell? ⟨(ad166.add ((x6_1).toNat * 20)).block, (ad166.add ((x6_1).toNat * 20)).off + 11, none⟩ = some (.int .i8 ((rd_T54 l0 x6_1).f0.f11)) ∧ w'.cell? ⟨(ad166.add ((x6_1).toNat * 20)).block, (ad166.add ((x6_1).toNat * 20)).off + 12, none⟩ = some (.int .i8 ((rd_T54 l0 x6_1).f0.f12)) ∧ w'.cell? ⟨(ad166.add ((x6_1).toNat * 20)).block, (ad166.add ((x6_1).toNat * 20)).off + 13, none⟩ = some (.int .i8 ((rd_T54 l0 x6_1).f0.f13)) ∧ w'.cell? ⟨(ad166.add ((x6_1).toNat * 20)).block, (ad166.add ((x6_1).toNat * 20)).off + 14, none⟩ = some (.int .i16 ((rd_T54 l0 x6_1).f1.f0)) ∧ w'.cell? ⟨(ad166.add ((x6_1).toNat * 20)).block, (ad166.add ((x6_1).toNat * 20)).off + 15, none⟩ = some (.int .i16 ((rd_T54 l0 x6_1).f1.f1)) ∧ w'.cell? ⟨(ad166.add ((x6_1).toNat * 20)).block, (ad166.add ((x6_1).toNat * 20)).off + 16, none⟩ = some (.int .i16 ((rd_T54 l0 x6_1).f1.f2)) ∧ w'.cell? ⟨(ad166.add ((x6_1).toNat * 20)).block, (ad166.add ((x6_1).toNat * 20)).off + 17, none⟩ = some (.int .i8 ((rd_T54 l0 x6_1).f2.f0)) ∧ w'.cell? ⟨(ad166.add ((x6_1).toNat * 20)).block, (ad166.add ((x6_1).toNat * 20)).off + 18, none⟩ = some (.bool ((rd_T54 l0 x6_1).f2.f1)) ∧ w'.cell? ⟨(ad166.add ((x6_1).toNat * 20)).block, (ad166.add ((x6_1).toNat * 20)).off + 19, none⟩ = some (.bool (false)) ∧ w'.cell? ⟨(ad166.add ((x6_1).toNat * 20)).block, (ad166.add ((x6_1).toNat * 20)).off + 14 + ((ji12)).toNat, none⟩ = some (.int .i16 (rd [(rd_T54 l0 x6_1).f1.f0, (rd_T54 l0 x6_1).f1.f1, (rd_T54 l0 x6_1).f1.f2] (ji12)))) (ds := []) #[false, false, false, false, false, false, false, false, false, false, false, false, false, false, false] (by kernel_rfl) rfl rfl ⟨(zl BK164.out 0).trans rfl, (zl BK164.out 1).trans rfl, (bc HB.out hw168_0), (bc HB.out hw168_1), (bc HB.out hw168_2), (bc HB.out hw168_3), (bc HB.out hw168_4), (bc HB.out hw168_5), (bc HB.out hw168_6), (bc HB.out hw168_7), (bc HB.out hw168_8), (bc HB.out hw168_9), (bc HB.out hw168_10), (bc HB.out hw168_11), (bc HB.out hw168_12), (bc HB.out hw168_13), (bc HB.out hw168_14), (bc HB.out hw168_15), (bc HB.out hw168_16), (bc HB.out hw168_17), (by first | exact (bc HB.out hw168_18) | (have h_ := (bc HB.out hw168_18); rw [← Nbq7.out] at h_; exact h_)), (by first | exact (bc HB.out hw168_19) | (have h_ := (bc HB.out hw168_19); rw [← Nbq7.out] at h_; exact h_)), (bc HB.out hw170_0), (bc HB.out hw170_1), (bc HB.out hw170_2), (bc HB.out hw170_3), (bc HB.out hw170_4), (bc HB.out hw170_5), (bc HB.out hw170_6), (bc HB.out hw170_7), (bc HB.out hw170_8), (bc HB.out hw170_9), (bc HB.out hw170_10), (bc HB.out hw170_11), (bc HB.out hw170_12), (bc HB.out hw170_13), (bc HB.out hw170_14), (bc HB.out hw170_15), (bc HB.out hw170_16), (bc HB.out hw170_17), (by first | exact (bc HB.out hw170_18) | (have h_ := (bc HB.out hw170_18); rw [← Nbq7.out] at h_; exact h_)), (by first | exact (bc HB.out hw170_19) | (have h_ := (bc HB.out hw170_19); rw [← Nbq7.out] at h_; exact h_)), (bc HB.out hw17_0)⟩ (fun hHeld => ?_); refine zna spec_l03Run.tab4 spec_l03Run.bits4 (fun HT_ HW_ => ?_)
        generalize wr.drew = w15 at BK164 BK165 HB hx168_0 hx168_1 hx168_10 hx168_11 hx168_12 hx168_13 hx168_14 hx168_15 hx168_16 hx168_17 hx168_18 hx168_19 hx168_2 hx168_3 hx168_4 hx168_5 hx168_6 hx168_7 hx168_8 hx168_9 hx170_0 hx170_1 hx170_10 hx170_11 hx170_12 hx170_13 hx170_14 hx170_15 hx170_16 hx170_17 hx170_18 hx170_19 hx170_2 hx170_3 hx170_4 hx170_5 hx170_6 hx170_7 hx170_8 hx170_9 hHeld ⊢
        refine pure_ (i := 0) (N := some 14) (v := ?_) (a' := ?_) #[true, false, false, false, false, false, false, false, false, false, false, false, false, false, false] rfl rfl (zma HT_.out (by kernel_rfl)) (fun _ _ _ h => h) (Or.inl ⟨by rfl, ?_⟩) ?_ ?_
        rotate_left
        ·intro w'
         go_simp
         with_reducible rfl
        rotate_left
        ·simp only [Act.put, List.setIfInBounds_toArray, List.set_cons_zero, List.set_cons_succ, zp, zq]
         rfl
        refine pure_ (i := 1) (N := some 15) (v := ?_) (a' := ?_) #[true, true, false, false, false, false, false, false, false, false, false, false, false, false, false] rfl rfl (zma HT_.out (by kernel_rfl)) (fun _ _ _ h => h) (Or.inl ⟨by rfl, ?_⟩) ?_ ?_
        rotate_left
        ·intro w'
         go_simp
         with_reducible rfl
        rotate_left
        ·simp only [Act.put, List.setIfInBounds_toArray, List.set_cons_zero, List.set_cons_succ, zp, zq]
         rfl
        refine pure_ (i := 2) (N := some 16) (v := ?_) (a' := ?_) #[true, true, true, false, false, false, false, false, false, false, false, false, false, false, false] rfl rfl (zma HT_.out (by kernel_rfl)) (fun _ _ _ h => h) (Or.inl ⟨by rfl, ?_⟩) ?_ ?_
        rotate_left
        ·intro w'
         go_simp
         with_reducible rfl
        rotate_left
        ·simp only [Act.put, List.setIfInBounds_toArray, List.set_cons_zero, List.set_cons_succ, zp, zq]
         rfl
        refine pure_ (i := 3) (N := some 17) (v := ?_) (a' := ?_) #[true, true, true, true, false, false, false, false, false, false, false, false, false, false, false] rfl rfl (zma HT_.out (by kernel_rfl)) (fun _ _ _ h => h) (Or.inl ⟨by rfl, ?_⟩) ?_ ?_
        rotate_left
        ·intro w'
         go_simp
         with_reducible rfl
        rotate_left
        ·simp only [Act.put, List.setIfInBounds_toArray, List.set_cons_zero, List.set_cons_succ, zp, zq]
         rfl
        refine pure_ (i := 4) (N := some 18) (v := ?_) (a' := ?_) #[true, true, true, true, true, false, false, false, false, false, false, false, false, false, false] rfl rfl (zma HT_.out (by kernel_rfl)) (fun _ _ _ h => h) (Or.inl ⟨by rfl, ?_⟩) ?_ ?_
        rotate_left
        ·intro w'
         go_simp
         with_reducible rfl
        rotate_left
        ·simp only [Act.put, List.setIfInBounds_toArray, List.set_cons_zero, List.set_cons_succ, zp, zq]
         rfl
        refine pure_ (i := 5) (N := some 19) (v := ?_) (a' := ?_) #[true, true, true, true, true, true, false, false, false, false, false, false, false, false, false] rfl rfl (zma HT_.out (by kernel_rfl)) (fun _ _ _ h => h) (Or.inl ⟨by rfl, ?_⟩) ?_ ?_
        rotate_left
        ·intro w'
         go_simp
         with_reducible rfl
        rotate_left
        ·simp only [Act.put, List.setIfInBounds_toArray, List.set_cons_zero, List.set_cons_succ, zp, zq]
         rfl
        refine pure_ (i := 10) (N := some 24) (v := ?_) (a' := ?_) #[true, true, true, true, true, true, false, false, false, false, true, false, false, false, false] rfl rfl (zma HT_.out (by kernel_rfl)) (fun _ _ _ h => h) (Or.inl ⟨by rfl, ?_⟩) ?_ ?_
        rotate_left
        ·intro w'
         go_simp
         with_reducible rfl
        rotate_left
        ·simp only [Act.put, List.setIfInBounds_toArray, List.set_cons_zero, List.set_cons_succ, zp, zq]
         rfl
        refine pure_ (i := 11) (N := some 25) (v := ?_) (a' := ?_) #[true, true, true, true, true, true, false, false, false, false, true, true, false, false, false] rfl rfl (zma HT_.out (by kernel_rfl)) (fun _ _ _ h => h) (Or.inl ⟨by rfl, ?_⟩) ?_ ?_
        rotate_left
        ·intro w'
         go_simp
         with_reducible rfl
        rotate_left
        ·simp only [Act.put, List.setIfInBounds_toArray, List.set_cons_zero, List.set_cons_succ, zp, zq]
         rfl
        refine take_ (i := 6) (N := some 20) (v := ?_) (a' := ?_) #[true, true, true, true, true, true, true, false, false, false, true, true, false, false, false] rfl rfl (zaa HT_.out HW_.out (by kernel_rfl)) (fun _ _ _ h => h) (Or.inl ⟨by rfl, ?_⟩) hHeld ?_ ?_
        rotate_left
        ·rintro w' ⟨s0, s1, s2, s3, s4, s5, s6, s7, s8, s9, s10, s11, s12, s13, s14, s15, s16, s17, s18, s19, s20, s21, s22, s23, s24, s25, s26, s27, s28, s29, s30, s31, s32, s33, s34, s35, s36, s37, s38, s39, s40, s41, s42⟩
         go_simp
         with_reducible rfl
        rotate_left
        ·simp only [Act.put, List.setIfInBounds_toArray, List.set_cons_zero, List.set_cons_succ, zp, zq]
         rfl
        refine take_ (i := 7) (N := some 21) (v := ?_) (a' := ?_) #[true, true, true, true, true, true, true, true, false, false, true, true, false, false, false] rfl rfl (zaa HT_.out HW_.out (by kernel_rfl)) (fun _ _ _ h => h) (Or.inl ⟨by rfl, ?_⟩) hHeld ?_ ?_
        rotate_left
        ·rintro w' ⟨s0, s1, s2, s3, s4, s5, s6, s7, s8, s9, s10, s11, s12, s13, s14, s15, s16, s17, s18, s19, s20, s21, s22, s23, s24, s25, s26, s27, s28, s29, s30, s31, s32, s33, s34, s35, s36, s37, s38, s39, s40, s41, s42⟩
         go_simp
         with_reducible rfl
        rotate_left
        ·simp only [Act.put, List.setIfInBounds_toArray, List.set_cons_zero, List.set_cons_succ, zp, zq]
         rfl
        refine one_ (i := 8) (N := some 22) #[true, true, true, true, true, true, true, true, true, false, true, true, false, false, false] rfl rfl (one_of HT_.out (by kernel_rfl)) (by decide) (fun K hK => ?_)
        refine goes_ Try.func41 (by kernel_rfl) rfl #[.agg #[.int .i8 ((rd_T54 l0 x6_1).f0.f0), .int .i8 ((rd_T54 l0 x6_1).f0.f1), .int .i8 ((rd_T54 l0 x6_1).f0.f2), .int .i8 ((rd_T54 l0 x6_1).f0.f3), .int .i8 ((rd_T54 l0 x6_1).f0.f4), .int .i8 ((rd_T54 l0 x6_1).f0.f5), .int .i8 ((rd_T54 l0 x6_1).f0.f6), .int .i8 ((rd_T54 l0 x6_1).f0.f7), .int .i8 ((rd_T54 l0 x6_1).f0.f8), .int .i8 ((rd_T54 l0 x6_1).f0.f9), .int .i8 ((rd_T54 l0 x6_1).f0.f10), .int .i8 ((rd_T54 l0 x6_1).f0.f11), .int .i8 ((rd_T54 l0 x6_1).f0.f12), .int .i8 ((rd_T54 l0 x6_1).f0.f13)], .agg #[.int .i8 a1_0, .bool a1_1]] (by rfl) rfl rfl (by (try simp only [List.map_toArray, List.map_cons, List.map_nil]); first | done | rfl | (simp only [List.length_drop, List.length_take]; rfl)) ?_
        with_reducible refine (spec_l03Result.calls ((rd_T54 l0 x6_1).f0.f0) ((rd_T54 l0 x6_1).f0.f1) ((rd_T54 l0 x6_1).f0.f2) ((rd_T54 l0 x6_1).f0.f3) ((rd_T54 l0 x6_1).f0.f4) ((rd_T54 l0 x6_1).f0.f5) ((rd_T54 l0 x6_1).f0.f6) ((rd_T54 l0 x6_1).f0.f7) ((rd_T54 l0 x6_1).f0.f8) ((rd_T54 l0 x6_1).f0.f9) ((rd_T54 l0 x6_1).f0.f10) ((rd_T54 l0 x6_1).f0.f11) ((rd_T54 l0 x6_1).f0.f12) ((rd_T54 l0 x6_1).f0.f13) a1_0 a1_1 t169 _ A11.out).mono ?_
        rintro e w16 ⟨rfl, hb⟩
        refine ⟨_, rfl, ?_⟩
        have n0_ := zd.mk (zj (g := gb164) (o := .cells #[.int .i8 a1_0, .bool a1_1] 46 (0, 0)) (by (with_reducible repeat (first | refine zf ?_ _ | refine zh ?_ | refine zg ?_ _)); exact BK164.out) hb)
        have n1_ := zd.mk (zj (g := gb165) (o := .cells #[.int .i8 0, .bool false] 46 (0, 0)) (by (with_reducible repeat (first | refine zf ?_ _ | refine zh ?_ | refine zg ?_ _)); exact BK165.out) hb)
        have n2_ := zd.mk (zk (by repeat (first | (with_reducible first | exact HB.out | apply zc | apply za | apply zb | refine ze ?_ GE164.out | refine ze ?_ GE165.out) | exact HB.out)) hb)
        clear BK164
        clear BK165
        clear HB
        have BK164 := n0_
        have BK165 := n1_
        have HB := n2_
        clear n0_ n1_ n2_
        (try clear hb)
        (try clear hb2)
        (try clear hk)
        (try clear hi)
        refine hK.out _ _ ⟨(zl BK164.out 0).trans rfl, (zl BK164.out 1).trans rfl, (bc HB.out hw168_0), (bc HB.out hw168_1), (bc HB.out hw168_2), (bc HB.out hw168_3), (bc HB.out hw168_4), (bc HB.out hw168_5), (bc HB.out hw168_6), (bc HB.out hw168_7), (bc HB.out hw168_8), (bc HB.out hw168_9), (bc HB.out hw168_10), (bc HB.out hw168_11), (bc HB.out hw168_12), (bc HB.out hw168_13), (bc HB.out hw168_14), (bc HB.out hw168_15), (bc HB.out hw168_16), (bc HB.out hw168_17), (by first | exact (bc HB.out hw168_18) | (have h_ := (bc HB.out hw168_18); rw [← Nbq7.out] at h_; exact h_)), (by first | exact (bc HB.out hw168_19) | (have h_ := (bc HB.out hw168_19); rw [← Nbq7.out] at h_; exact h_)), (bc HB.out hw170_0), (bc HB.out hw170_1), (bc HB.out hw170_2), (bc HB.out hw170_3), (bc HB.out hw170_4), (bc HB.out hw170_5), (bc HB.out hw170_6), (bc HB.out hw170_7), (bc HB.out hw170_8), (bc HB.out hw170_9), (bc HB.out hw170_10), (bc HB.out hw170_11), (bc HB.out hw170_12), (bc HB.out hw170_13), (bc HB.out hw170_14), (bc HB.out hw170_15), (bc HB.out hw170_16), (bc HB.out hw170_17), (by first | exact (bc HB.out hw170_18) | (have h_ := (bc HB.out hw170_18); rw [← Nbq7.out] at h_; exact h_)), (by first | exact (bc HB.out hw170_19) | (have h_ := (bc HB.out hw170_19); rw [← Nbq7.out] at h_; exact h_)), (bc HB.out hw17_0)⟩ (fun hHeld => ?_)
        clear hK K
        refine norm_ (a' := ?_) ?_ ?_
        rotate_left
        ·show Act.put _ (some 22) _ = _
         simp only [Act.put, List.setIfInBounds_toArray, List.set_cons_zero, List.set_cons_succ, zp, zq]
         rfl
        refine pure_ (i := 9) (N := some 23) (v := ?_) (a' := ?_) #[true, true, true, true, true, true, true, true, true, true, true, true, false, false, false] rfl rfl (zma HT_.out (by kernel_rfl)) (fun _ _ _ h => h) (Or.inl ⟨by rfl, ?_⟩) ?_ ?_
        rotate_left
        ·intro w'
         go_simp
         with_reducible rfl
        rotate_left
        ·simp only [Act.put, List.setIfInBounds_toArray, List.set_cons_zero, List.set_cons_succ, zp, zq]
         rfl
        refine pure_ (i := 12) (N := some 26) (v := ?_) (a' := ?_) #[true, true, true, true, true, true, true, true, true, true, true, true, true, false, false] rfl rfl (zma HT_.out (by kernel_rfl)) (fun _ _ _ h => h) (Or.inl ⟨by rfl, ?_⟩) ?_ ?_
        rotate_left
        ·intro w'
         go_simp
         with_reducible rfl
        rotate_left
        ·simp only [Act.put, List.setIfInBounds_toArray, List.set_cons_zero, List.set_cons_succ, zp, zq]
         rfl
        refine take_ (i := 13) (N := some 27) (v := ?_) (a' := ?_) #[true, true, true, true, true, true, true, true, true, true, true, true, true, true, false] rfl rfl (zaa HT_.out HW_.out (by kernel_rfl)) (fun _ _ _ h => h) (Or.inl ⟨by rfl, ?_⟩) hHeld ?_ ?_
        rotate_left
        ·rintro w' ⟨s0, s1, s2, s3, s4, s5, s6, s7, s8, s9, s10, s11, s12, s13, s14, s15, s16, s17, s18, s19, s20, s21, s22, s23, s24, s25, s26, s27, s28, s29, s30, s31, s32, s33, s34, s35, s36, s37, s38, s39, s40, s41, s42⟩
         go_simp
         with_reducible rfl
        rotate_left
        ·simp only [Act.put, List.setIfInBounds_toArray, List.set_cons_zero, List.set_cons_succ, zp, zq]
         rfl
        refine pure_ (i := 14) (N := some 6) (v := ?_) (a' := ?_) #[true, true, true, true, true, true, true, true, true, true, true, true, true, true, true] rfl rfl (zma HT_.out (by kernel_rfl)) (fun _ _ _ h => h) (Or.inl ⟨by rfl, ?_⟩) ?_ ?_
        rotate_left
        ·intro w'
         go_simp
         with_reducible rfl
        rotate_left
        ·simp only [Act.put, List.setIfInBounds_toArray, List.set_cons_zero, List.set_cons_succ, zp, zq]
         rfl
        refine done_ (done_of HT_.out (by kernel_rfl)) ?_
        try go_wp2
        go_roundg k1
        case measure => have := HK1.out; omega
        case rel => exact ⟨(rd [(rd_T54 l0 x6_1).f1.f0, (rd_T54 l0 x6_1).f1.f1, (rd_T54 l0 x6_1).f1.f2] (ji12)), (wrap64 (x7_1 + 1)), (by first | rfl | (simp; done) | (simp only [← hji12] <;> (first | rfl | simp)) | (simp [*]; done)), (by first | rfl | (simp; done) | (simp [*]; done)), H', ⟨by have := HK1.out; omega⟩, ⟨by (with_reducible repeat (first | refine zf ?_ _ | refine zh ?_ | refine zg ?_ _)); exact BK164.out⟩, ⟨by (with_reducible repeat (first | refine zf ?_ _ | refine zh ?_ | refine zg ?_ _)); exact BK165.out⟩, ⟨by repeat (first | (with_reducible first | exact HB.out | apply zc | apply za | apply zb | refine ze ?_ GE164.out | refine ze ?_ GE165.out) | exact HB.out)⟩⟩
       ·rw [if_neg c14] at H
        exact absurd H (by simp)
      ·rw [if_neg c13] at H
       exact absurd H (by simp)
    ·rw [if_neg c6] at H
     exact absurd H (by simp)
   ·rw [if_neg c5] at H
    exact absurd H (by simp)

end Go.Proofs.Ytmmonhpjjjdnjaa.U
