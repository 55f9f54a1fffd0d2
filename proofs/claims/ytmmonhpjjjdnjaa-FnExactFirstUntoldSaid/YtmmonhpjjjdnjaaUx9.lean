-- Written by wip/tools/myprint.py, a program of this session, by way of the kit's print.
import Derived.Test.YtmmonhpjjjdnjaaUx0
import Derived.Test.YtmmonhpjjjdnjaaLLoadU
import Derived.Test.YtmmonhpjjjdnjaaUx8
namespace Go.Proofs.Ytmmonhpjjjdnjaa.U
open Go.RowKit Go.Proofs.YtmmonhpjjjdnjaaW.PrintWords Go.Proofs.YtmmonhpjjjdnjaaW.PrintLast Go.Proofs.YtmmonhpjjjdnjaaW.PrintMore
attribute [local go_sem] zba zea zha zia zy zz zda zca   -- for this text's walks alone
set_option linter.unusedVariables false
set_option linter.unusedSimpArgs false

/-! ### laws_eqNodeS: function 13 -/
def laws_eqNodeS.l0 : Nat → List (S54) → List (S54) → Int → Option (Bool)
 | 0, _, _, _ => none
 | k + 1, x0, x1, x5 => if x5 < (x0.length : Int) then (if 0 ≤ x5 then (if x5 < (x1.length : Int) then ((laws_eqNode.f k ((rd_T54 x0 x5).f0.f0) ((rd_T54 x0 x5).f0.f1) ((rd_T54 x0 x5).f0.f2) ((rd_T54 x0 x5).f0.f3) ((rd_T54 x0 x5).f0.f4) ((rd_T54 x0 x5).f0.f5) ((rd_T54 x0 x5).f0.f6) ((rd_T54 x0 x5).f0.f7) ((rd_T54 x0 x5).f0.f8) ((rd_T54 x0 x5).f0.f9) ((rd_T54 x0 x5).f0.f10) ((rd_T54 x0 x5).f0.f11) ((rd_T54 x0 x5).f0.f12) ((rd_T54 x0 x5).f0.f13) ((rd_T54 x0 x5).f1.f0) ((rd_T54 x0 x5).f1.f1) ((rd_T54 x0 x5).f1.f2) ((rd_T54 x0 x5).f2.f0) ((rd_T54 x0 x5).f2.f1) ((rd_T54 x0 x5).f3) ((rd_T54 x1 x5).f0.f0) ((rd_T54 x1 x5).f0.f1) ((rd_T54 x1 x5).f0.f2) ((rd_T54 x1 x5).f0.f3) ((rd_T54 x1 x5).f0.f4) ((rd_T54 x1 x5).f0.f5) ((rd_T54 x1 x5).f0.f6) ((rd_T54 x1 x5).f0.f7) ((rd_T54 x1 x5).f0.f8) ((rd_T54 x1 x5).f0.f9) ((rd_T54 x1 x5).f0.f10) ((rd_T54 x1 x5).f0.f11) ((rd_T54 x1 x5).f0.f12) ((rd_T54 x1 x5).f0.f13) ((rd_T54 x1 x5).f1.f0) ((rd_T54 x1 x5).f1.f1) ((rd_T54 x1 x5).f1.f2) ((rd_T54 x1 x5).f2.f0) ((rd_T54 x1 x5).f2.f1) ((rd_T54 x1 x5).f3)).bind fun t346 => (if t346 = true then (laws_eqNodeS.l0 k x0 x1 (wrap64 (x5 + 1))) else (some false))) else (none)) else (none)) else (some true)
def laws_eqNodeS.f (k : Nat) (l0 : List (S54)) (l1 : List (S54)) : Option (Bool) := if (l0.length : Int) = (l1.length : Int) then (laws_eqNodeS.l0 k l0 l1 0) else (some false)
def laws_eqNodeS.T6 : Bool × List (List Nat × List Nat) := (true, [([], []), ([], []), ([0, 1], [0, 1]), ([2], [2]), ([], []), ([], []), ([4, 5], [4, 5]), ([6], [6]), ([3, 7], [3, 7]), ([8], [8])])
def laws_eqNodeS.B6 : List Nat := [0, 0, 3, 7, 0, 0, 48, 112, 255, 511]
theorem laws_eqNodeS.tab6 : rtab .any (opsOf Try.f13 6) = laws_eqNodeS.T6 := by kernel_rfl
theorem laws_eqNodeS.bits6 : waitsOk laws_eqNodeS.T6.2 laws_eqNodeS.B6 = true := by kernel_rfl
set_option maxHeartbeats 8000000 in
set_option maxRecDepth 100000 in
theorem laws_eqNodeS.calls (k : Nat) (A0 : Option Addr) (c0 : Nat) (l0 : List (S54)) (A1 : Option Addr) (c1 : Nat) (l1 : List (S54)) (r : Bool) (w : World) (hr0 : Kd.C k54 w A0 l0.length l0) (hc0 : l0.length ≤ c0) (hr1 : Kd.C k54 w A1 l1.length l1) (hc1 : l1.length ≤ c1) (h : laws_eqNodeS.f k l0 l1 = some r) :
  Calls Try.prog 13 #[.slice A0 l0.length c0, .slice A1 l1.length c1] w fun e w' => e = .returned (.bool r) ∧ Below w.heap.size w w' := by
 have hu54 := Try.underlying54
 have HR0 := zd.mk hr0
 have HC0 := zd.mk hc0
 clear hr0 hc0
 have HR1 := zd.mk hr1
 have HC1 := zd.mk hc1
 clear hr1 hc1
 have HB := zd.mk (Below.refl w.heap.size w)
 have H : (if (l0.length : Int) = (l1.length : Int) then (laws_eqNodeS.l0 k l0 l1 0) else (some false)) = some r := h
 clear h
 by_cases c3 : (l0.length : Int) = (l1.length : Int)
 ·rw [if_pos c3] at H
  have c3b0 : ((l0.length : Int) == (l1.length : Int)) = true := beq_iff_eq.mpr c3
  have c3b1 : ((l0.length : Int) != (l1.length : Int)) = false := bne_eq_false_iff_eq.mpr c3
  have c3b2 : (l0.length == l1.length) = true := by first | simpa using c3 | (simp at c3 ⊢; omega)
  clear c3
  have H' := zd.mk H
  clear H
  go_enter Try.func13, Try.ntmps13
  go_wp2
  go_loopg [5] k (fun kq v5 w' => ∃ (x5_1 : Int), v5 = .int .i64 x5_1 ∧ zd (laws_eqNodeS.l0 kq l0 l1 x5_1 = some r) ∧ zd (kq ≤ k) ∧ zd (Below w.heap.size w w'))
  case atStart => exact ⟨(0), (by first | rfl | (simp; done) | (simp [*]; done)), H', ⟨Nat.le_refl _⟩, ⟨by repeat (first | (with_reducible first | exact HB.out | apply zc | apply za | apply zb) | exact HB.out)⟩⟩
  case round =>
   clear H'
   try clear c1
   try clear p2
   try clear c3
   try clear c3b0
   try clear c3b1
   try clear c3b2
   obtain ⟨x5_1, rfl, HA, HK1, HB⟩ := hrel
   cases gk with
   | zero => exact absurd HA.out (by simp [laws_eqNodeS.l0])
   | succ k1 =>
    have H := HA.out
    clear HA
    simp only [laws_eqNodeS.l0] at H
    by_cases c4 : x5_1 < (l0.length : Int)
    ·rw [if_pos c4] at H
     have c4b0 : decide (x5_1 < (l0.length : Int)) = true := decide_eq_true c4
     clear c4
     by_cases c5 : 0 ≤ x5_1
     ·rw [if_pos c5] at H
      have c5b0 : decide (0 ≤ x5_1) = true := decide_eq_true c5
      clear c5
      by_cases c6 : x5_1 < (l1.length : Int)
      ·rw [if_pos c6] at H
       have c6b0 : decide (x5_1 < (l1.length : Int)) = true := decide_eq_true c6
       clear c6
       replace H := Option.bind_eq_some_iff.mp H
       obtain ⟨t346, A70, H⟩ := H
       replace H : (if t346 = true then (laws_eqNodeS.l0 k1 l0 l1 (wrap64 (x5_1 + 1))) else (some false)) = some r := H
       have A7 := zd.mk A70
       clear A70
       by_cases c8 : t346 = true
       ·subst c8
        have H1 : (laws_eqNodeS.l0 k1 l0 l1 (wrap64 (x5_1 + 1))) = some r := by rw [if_pos rfl] at H; exact H
        clear H
        have H := H1
        clear H1
        have H' := zd.mk H
        clear H
        try go_wp2
        have n0_ := zd.mk (zb HB.out)
        clear HB
        have HB := n0_
        clear n0_
        have p344 : 0 ≤ (x5_1 : Int) := od (by first | (with_reducible assumption) | assumption)
        have q344 : x5_1 < (l0.length : Int) := od (by first | (with_reducible assumption) | assumption)
        obtain ⟨ad344, e344, u1_0, u1_1, u1_2, u1_3, u1_4, u1_5, u1_6, u1_7, u1_8, u1_9, u1_10, u1_11, u1_12, u1_13, u1_14, u1_15, u1_16, u1_17, u1_18, u1_19, v1_0, v1_1, v1_2, v1_3, v1_4, v1_5, v1_6, v1_7, v1_8, v1_9, v1_10, v1_11, v1_12, v1_13, v1_14, v1_15, v1_16, v1_17, v1_18, v1_19⟩ := ab_T54 HB.out HR0.out x5_1 p344 q344
        cases e344
        replace p344 := eq_true p344
        replace q344 := eq_true q344
        have p345 : 0 ≤ (x5_1 : Int) := od (by first | (with_reducible assumption) | assumption)
        have q345 : x5_1 < (l1.length : Int) := od (by first | (with_reducible assumption) | assumption)
        obtain ⟨ad345, e345, u2_0, u2_1, u2_2, u2_3, u2_4, u2_5, u2_6, u2_7, u2_8, u2_9, u2_10, u2_11, u2_12, u2_13, u2_14, u2_15, u2_16, u2_17, u2_18, u2_19, v2_0, v2_1, v2_2, v2_3, v2_4, v2_5, v2_6, v2_7, v2_8, v2_9, v2_10, v2_11, v2_12, v2_13, v2_14, v2_15, v2_16, v2_17, v2_18, v2_19⟩ := ab_T54 HB.out HR1.out x5_1 p345 q345
        cases e345
        replace p345 := eq_true p345
        replace q345 := eq_true q345
        refine start_ (n := 10) (S := fun w' => EA w' (ad344.add ((x5_1).toNat * 20)) (rd_T54 l0 x5_1) ((rd_T54 l0 x5_1).f2.f1) ((rd_T54 l0 x5_1).f3) (EA0 w' (ad345.add ((x5_1).toNat * 20)) (rd_T54 l1 x5_1) ((rd_T54 l1 x5_1).f2.f1) ((rd_T54 l1 x5_1).f3))) (ds := []) (fm 10 0) (by kernel_rfl) rfl rfl ⟨(bc HB.out v1_0), (bc HB.out v1_1), (bc HB.out v1_2), (bc HB.out v1_3), (bc HB.out v1_4), (bc HB.out v1_5), (bc HB.out v1_6), (bc HB.out v1_7), (bc HB.out v1_8), (bc HB.out v1_9), (bc HB.out v1_10), (bc HB.out v1_11), (bc HB.out v1_12), (bc HB.out v1_13), (bc HB.out v1_14), (bc HB.out v1_15), (bc HB.out v1_16), (bc HB.out v1_17), (bc HB.out v1_18), (bc HB.out v1_19), (bc HB.out v2_0), (bc HB.out v2_1), (bc HB.out v2_2), (bc HB.out v2_3), (bc HB.out v2_4), (bc HB.out v2_5), (bc HB.out v2_6), (bc HB.out v2_7), (bc HB.out v2_8), (bc HB.out v2_9), (bc HB.out v2_10), (bc HB.out v2_11), (bc HB.out v2_12), (bc HB.out v2_13), (bc HB.out v2_14), (bc HB.out v2_15), (bc HB.out v2_16), (bc HB.out v2_17), (bc HB.out v2_18), (bc HB.out v2_19)⟩ (fun hHeld => ?_); refine zna laws_eqNodeS.tab6 laws_eqNodeS.bits6 (fun HT_ HW_ => ?_)
        generalize wr.drew = w9 at HB u1_0 u1_1 u1_10 u1_11 u1_12 u1_13 u1_14 u1_15 u1_16 u1_17 u1_18 u1_19 u1_2 u1_3 u1_4 u1_5 u1_6 u1_7 u1_8 u1_9 u2_0 u2_1 u2_10 u2_11 u2_12 u2_13 u2_14 u2_15 u2_16 u2_17 u2_18 u2_19 u2_2 u2_3 u2_4 u2_5 u2_6 u2_7 u2_8 u2_9 hHeld ⊢
        refine pb 0 17 (fm 10 1) rfl rfl HT_.out (by kernel_rfl) pq (by rfl) (by intro w'; go_simp; with_reducible rfl) (by simp only [Act.put, ea, eb, ec, zp, zq]; rfl) ?_
        refine pb 1 18 (fm 10 2) rfl rfl HT_.out (by kernel_rfl) pq (by rfl) (by intro w'; go_simp; with_reducible rfl) (by simp only [Act.put, ea, eb, ec, zp, zq]; rfl) ?_
        refine pb 2 19 (fm 10 3) rfl rfl HT_.out (by kernel_rfl) pq (by rfl) (by intro w'; go_simp; with_reducible rfl) (by simp only [Act.put, ea, eb, ec, zp, zq]; rfl) ?_
        refine pb 4 21 #[T, T, T, F, T, F, F, F, F, F] rfl rfl HT_.out (by kernel_rfl) pq (by rfl) (by intro w'; go_simp; with_reducible rfl) (by simp only [Act.put, ea, eb, ec, zp, zq]; rfl) ?_
        refine pb 5 22 #[T, T, T, F, T, T, F, F, F, F] rfl rfl HT_.out (by kernel_rfl) pq (by rfl) (by intro w'; go_simp; with_reducible rfl) (by simp only [Act.put, ea, eb, ec, zp, zq]; rfl) ?_
        refine pb 6 23 #[T, T, T, F, T, T, T, F, F, F] rfl rfl HT_.out (by kernel_rfl) pq (by rfl) (by intro w'; go_simp; with_reducible rfl) (by simp only [Act.put, ea, eb, ec, zp, zq]; rfl) ?_
        refine take_ (i := 3) (N := some 20) (v := ?_) (a' := ?_) (fm 10 7) rfl rfl (zaa HT_.out HW_.out (by kernel_rfl)) (fun _ _ _ h => h) (Or.inl ⟨by rfl, ?_⟩) hHeld ?_ ?_
        rotate_left
        ·rintro w' ⟨s0, s1, s2, s3, s4, s5, s6, s7, s8, s9, s10, s11, s12, s13, s14, s15, s16, s17, s18, s19, s20, s21, s22, s23, s24, s25, s26, s27, s28, s29, s30, s31, s32, s33, s34, s35, s36, s37, s38, s39⟩
         first | (refine load20_go (x := ?ldx0_0) ?lda0_0 ?ldb0_0 hu54 ?ldc0_0 ?ldd0_0 s0 s1 s2 s3 s4 s5 s6 s7 s8 s9 s10 s11 s12 s13 s14 s15 s16 s17 s18 s19; (case lda0_0 => rfl); (case ldb0_0 => rfl); (case ldc0_0 => rfl); (case ldd0_0 => kernel_rfl)) | (refine load20_go (x := ?ldx0_1) ?lda0_1 ?ldb0_1 hu54 ?ldc0_1 ?ldd0_1 s20 s21 s22 s23 s24 s25 s26 s27 s28 s29 s30 s31 s32 s33 s34 s35 s36 s37 s38 s39; (case lda0_1 => rfl); (case ldb0_1 => rfl); (case ldc0_1 => rfl); (case ldd0_1 => kernel_rfl))
        rotate_left
        ·simp only [Act.put, List.setIfInBounds_toArray, List.set_cons_zero, List.set_cons_succ, zp, zq]
         rfl
        refine take_ (i := 7) (N := some 24) (v := ?_) (a' := ?_) (fm 10 8) rfl rfl (zaa HT_.out HW_.out (by kernel_rfl)) (fun _ _ _ h => h) (Or.inl ⟨by rfl, ?_⟩) hHeld ?_ ?_
        rotate_left
        ·rintro w' ⟨s0, s1, s2, s3, s4, s5, s6, s7, s8, s9, s10, s11, s12, s13, s14, s15, s16, s17, s18, s19, s20, s21, s22, s23, s24, s25, s26, s27, s28, s29, s30, s31, s32, s33, s34, s35, s36, s37, s38, s39⟩
         first | (refine load20_go (x := ?ldx1_0) ?lda1_0 ?ldb1_0 hu54 ?ldc1_0 ?ldd1_0 s0 s1 s2 s3 s4 s5 s6 s7 s8 s9 s10 s11 s12 s13 s14 s15 s16 s17 s18 s19; (case lda1_0 => rfl); (case ldb1_0 => rfl); (case ldc1_0 => rfl); (case ldd1_0 => kernel_rfl)) | (refine load20_go (x := ?ldx1_1) ?lda1_1 ?ldb1_1 hu54 ?ldc1_1 ?ldd1_1 s20 s21 s22 s23 s24 s25 s26 s27 s28 s29 s30 s31 s32 s33 s34 s35 s36 s37 s38 s39; (case lda1_1 => rfl); (case ldb1_1 => rfl); (case ldc1_1 => rfl); (case ldd1_1 => kernel_rfl))
        rotate_left
        ·simp only [Act.put, List.setIfInBounds_toArray, List.set_cons_zero, List.set_cons_succ, zp, zq]
         rfl
        refine one_ (i := 8) (N := some 25) (fm 10 9) rfl rfl (one_of HT_.out (by kernel_rfl)) (by decide) (fun K hK => ?_)
        refine goes_ Try.func32 (by kernel_rfl) rfl #[.agg #[.int .i8 ((rd_T54 l0 x5_1).f0.f0), .int .i8 ((rd_T54 l0 x5_1).f0.f1), .int .i8 ((rd_T54 l0 x5_1).f0.f2), .int .i8 ((rd_T54 l0 x5_1).f0.f3), .int .i8 ((rd_T54 l0 x5_1).f0.f4), .int .i8 ((rd_T54 l0 x5_1).f0.f5), .int .i8 ((rd_T54 l0 x5_1).f0.f6), .int .i8 ((rd_T54 l0 x5_1).f0.f7), .int .i8 ((rd_T54 l0 x5_1).f0.f8), .int .i8 ((rd_T54 l0 x5_1).f0.f9), .int .i8 ((rd_T54 l0 x5_1).f0.f10), .int .i8 ((rd_T54 l0 x5_1).f0.f11), .int .i8 ((rd_T54 l0 x5_1).f0.f12), .int .i8 ((rd_T54 l0 x5_1).f0.f13), .int .i16 ((rd_T54 l0 x5_1).f1.f0), .int .i16 ((rd_T54 l0 x5_1).f1.f1), .int .i16 ((rd_T54 l0 x5_1).f1.f2), .int .i8 ((rd_T54 l0 x5_1).f2.f0), .bool ((rd_T54 l0 x5_1).f2.f1), .bool ((rd_T54 l0 x5_1).f3)], .agg #[.int .i8 ((rd_T54 l1 x5_1).f0.f0), .int .i8 ((rd_T54 l1 x5_1).f0.f1), .int .i8 ((rd_T54 l1 x5_1).f0.f2), .int .i8 ((rd_T54 l1 x5_1).f0.f3), .int .i8 ((rd_T54 l1 x5_1).f0.f4), .int .i8 ((rd_T54 l1 x5_1).f0.f5), .int .i8 ((rd_T54 l1 x5_1).f0.f6), .int .i8 ((rd_T54 l1 x5_1).f0.f7), .int .i8 ((rd_T54 l1 x5_1).f0.f8), .int .i8 ((rd_T54 l1 x5_1).f0.f9), .int .i8 ((rd_T54 l1 x5_1).f0.f10), .int .i8 ((rd_T54 l1 x5_1).f0.f11), .int .i8 ((rd_T54 l1 x5_1).f0.f12), .int .i8 ((rd_T54 l1 x5_1).f0.f13), .int .i16 ((rd_T54 l1 x5_1).f1.f0), .int .i16 ((rd_T54 l1 x5_1).f1.f1), .int .i16 ((rd_T54 l1 x5_1).f1.f2), .int .i8 ((rd_T54 l1 x5_1).f2.f0), .bool ((rd_T54 l1 x5_1).f2.f1), .bool ((rd_T54 l1 x5_1).f3)]] (by rfl) rfl rfl (by (try simp only [List.map_toArray, List.map_cons, List.map_nil]); first | done | rfl | (simp only [List.length_drop, List.length_take]; rfl)) ?_
        with_reducible refine (laws_eqNode.calls k1 ((rd_T54 l0 x5_1).f0.f0) ((rd_T54 l0 x5_1).f0.f1) ((rd_T54 l0 x5_1).f0.f2) ((rd_T54 l0 x5_1).f0.f3) ((rd_T54 l0 x5_1).f0.f4) ((rd_T54 l0 x5_1).f0.f5) ((rd_T54 l0 x5_1).f0.f6) ((rd_T54 l0 x5_1).f0.f7) ((rd_T54 l0 x5_1).f0.f8) ((rd_T54 l0 x5_1).f0.f9) ((rd_T54 l0 x5_1).f0.f10) ((rd_T54 l0 x5_1).f0.f11) ((rd_T54 l0 x5_1).f0.f12) ((rd_T54 l0 x5_1).f0.f13) ((rd_T54 l0 x5_1).f1.f0) ((rd_T54 l0 x5_1).f1.f1) ((rd_T54 l0 x5_1).f1.f2) ((rd_T54 l0 x5_1).f2.f0) ((rd_T54 l0 x5_1).f2.f1) ((rd_T54 l0 x5_1).f3) ((rd_T54 l1 x5_1).f0.f0) ((rd_T54 l1 x5_1).f0.f1) ((rd_T54 l1 x5_1).f0.f2) ((rd_T54 l1 x5_1).f0.f3) ((rd_T54 l1 x5_1).f0.f4) ((rd_T54 l1 x5_1).f0.f5) ((rd_T54 l1 x5_1).f0.f6) ((rd_T54 l1 x5_1).f0.f7) ((rd_T54 l1 x5_1).f0.f8) ((rd_T54 l1 x5_1).f0.f9) ((rd_T54 l1 x5_1).f0.f10) ((rd_T54 l1 x5_1).f0.f11) ((rd_T54 l1 x5_1).f0.f12) ((rd_T54 l1 x5_1).f0.f13) ((rd_T54 l1 x5_1).f1.f0) ((rd_T54 l1 x5_1).f1.f1) ((rd_T54 l1 x5_1).f1.f2) ((rd_T54 l1 x5_1).f2.f0) ((rd_T54 l1 x5_1).f2.f1) ((rd_T54 l1 x5_1).f3) true _ A7.out).mono ?_
        rintro e w10 ⟨rfl, hb⟩
        refine ⟨_, rfl, ?_⟩
        have n0_ := zd.mk (zk (by repeat (first | (with_reducible first | exact HB.out | apply zc | apply za | apply zb) | exact HB.out)) hb)
        clear HB
        have HB := n0_
        clear n0_
        (try clear hb)
        (try clear hb2)
        (try clear hk)
        (try clear hi)
        refine hK.out _ _ ⟨(bc HB.out v1_0), (bc HB.out v1_1), (bc HB.out v1_2), (bc HB.out v1_3), (bc HB.out v1_4), (bc HB.out v1_5), (bc HB.out v1_6), (bc HB.out v1_7), (bc HB.out v1_8), (bc HB.out v1_9), (bc HB.out v1_10), (bc HB.out v1_11), (bc HB.out v1_12), (bc HB.out v1_13), (bc HB.out v1_14), (bc HB.out v1_15), (bc HB.out v1_16), (bc HB.out v1_17), (bc HB.out v1_18), (bc HB.out v1_19), (bc HB.out v2_0), (bc HB.out v2_1), (bc HB.out v2_2), (bc HB.out v2_3), (bc HB.out v2_4), (bc HB.out v2_5), (bc HB.out v2_6), (bc HB.out v2_7), (bc HB.out v2_8), (bc HB.out v2_9), (bc HB.out v2_10), (bc HB.out v2_11), (bc HB.out v2_12), (bc HB.out v2_13), (bc HB.out v2_14), (bc HB.out v2_15), (bc HB.out v2_16), (bc HB.out v2_17), (bc HB.out v2_18), (bc HB.out v2_19)⟩ (fun hHeld => ?_)
        clear hK K
        refine norm_ (a' := ?_) ?_ ?_
        rotate_left
        ·show Act.put _ (some 25) _ = _
         simp only [Act.put, List.setIfInBounds_toArray, List.set_cons_zero, List.set_cons_succ, zp, zq]
         rfl
        refine pb 9 26 (fm 10 10) rfl rfl HT_.out (by kernel_rfl) pq (by rfl) (by intro w'; go_simp; with_reducible rfl) (by simp only [Act.put, ea, eb, ec, zp, zq]; rfl) ?_
        refine done_ (done_of HT_.out (by kernel_rfl)) ?_
        try go_wp2
        go_roundg k1
        case measure => have := HK1.out; omega
        case rel => exact ⟨(wrap64 (x5_1 + 1)), (by first | rfl | (simp; done) | (simp [*]; done)), H', ⟨by have := HK1.out; omega⟩, ⟨by repeat (first | (with_reducible first | exact HB.out | apply zc | apply za | apply zb) | exact HB.out)⟩⟩
       replace c8 := Bool.eq_false_iff.mpr c8
       subst c8
       have H1 : (some false) = some r := by rw [if_neg (show ¬ (false = true) by decide)] at H; exact H
       clear H
       have H := H1
       clear H1
       obtain rfl := Option.some.inj H
       try go_wp2
       have n0_ := zd.mk (zb HB.out)
       clear HB
       have HB := n0_
       clear n0_
       have p344 : 0 ≤ (x5_1 : Int) := od (by first | (with_reducible assumption) | assumption)
       have q344 : x5_1 < (l0.length : Int) := od (by first | (with_reducible assumption) | assumption)
       obtain ⟨ad344, e344, u1_0, u1_1, u1_2, u1_3, u1_4, u1_5, u1_6, u1_7, u1_8, u1_9, u1_10, u1_11, u1_12, u1_13, u1_14, u1_15, u1_16, u1_17, u1_18, u1_19, v1_0, v1_1, v1_2, v1_3, v1_4, v1_5, v1_6, v1_7, v1_8, v1_9, v1_10, v1_11, v1_12, v1_13, v1_14, v1_15, v1_16, v1_17, v1_18, v1_19⟩ := ab_T54 HB.out HR0.out x5_1 p344 q344
       cases e344
       replace p344 := eq_true p344
       replace q344 := eq_true q344
       have p345 : 0 ≤ (x5_1 : Int) := od (by first | (with_reducible assumption) | assumption)
       have q345 : x5_1 < (l1.length : Int) := od (by first | (with_reducible assumption) | assumption)
       obtain ⟨ad345, e345, u2_0, u2_1, u2_2, u2_3, u2_4, u2_5, u2_6, u2_7, u2_8, u2_9, u2_10, u2_11, u2_12, u2_13, u2_14, u2_15, u2_16, u2_17, u2_18, u2_19, v2_0, v2_1, v2_2, v2_3, v2_4, v2_5, v2_6, v2_7, v2_8, v2_9, v2_10, v2_11, v2_12, v2_13, v2_14, v2_15, v2_16, v2_17, v2_18, v2_19⟩ := ab_T54 HB.out HR1.out x5_1 p345 q345
       cases e345
       replace p345 := eq_true p345
       replace q345 := eq_true q345
       refine start_ (n := 10) (S := fun w' => EA w' (ad344.add ((x5_1).toNat * 20)) (rd_T54 l0 x5_1) ((rd_T54 l0 x5_1).f2.f1) ((rd_T54 l0 x5_1).f3) (EA0 w' (ad345.add ((x5_1).toNat * 20)) (rd_T54 l1 x5_1) ((rd_T54 l1 x5_1).f2.f1) ((rd_T54 l1 x5_1).f3))) (ds := []) (fm 10 0) (by kernel_rfl) rfl rfl ⟨(bc HB.out v1_0), (bc HB.out v1_1), (bc HB.out v1_2), (bc HB.out v1_3), (bc HB.out v1_4), (bc HB.out v1_5), (bc HB.out v1_6), (bc HB.out v1_7), (bc HB.out v1_8), (bc HB.out v1_9), (bc HB.out v1_10), (bc HB.out v1_11), (bc HB.out v1_12), (bc HB.out v1_13), (bc HB.out v1_14), (bc HB.out v1_15), (bc HB.out v1_16), (bc HB.out v1_17), (bc HB.out v1_18), (bc HB.out v1_19), (bc HB.out v2_0), (bc HB.out v2_1), (bc HB.out v2_2), (bc HB.out v2_3), (bc HB.out v2_4), (bc HB.out v2_5), (bc HB.out v2_6), (bc HB.out v2_7), (bc HB.out v2_8), (bc HB.out v2_9), (bc HB.out v2_10), (bc HB.out v2_11), (bc HB.out v2_12), (bc HB.out v2_13), (bc HB.out v2_14), (bc HB.out v2_15), (bc HB.out v2_16), (bc HB.out v2_17), (bc HB.out v2_18), (bc HB.out v2_19)⟩ (fun hHeld => ?_); refine zna laws_eqNodeS.tab6 laws_eqNodeS.bits6 (fun HT_ HW_ => ?_)
       generalize wr.drew = w11 at HB u1_0 u1_1 u1_10 u1_11 u1_12 u1_13 u1_14 u1_15 u1_16 u1_17 u1_18 u1_19 u1_2 u1_3 u1_4 u1_5 u1_6 u1_7 u1_8 u1_9 u2_0 u2_1 u2_10 u2_11 u2_12 u2_13 u2_14 u2_15 u2_16 u2_17 u2_18 u2_19 u2_2 u2_3 u2_4 u2_5 u2_6 u2_7 u2_8 u2_9 hHeld ⊢
       refine pb 0 17 (fm 10 1) rfl rfl HT_.out (by kernel_rfl) pq (by rfl) (by intro w'; go_simp; with_reducible rfl) (by simp only [Act.put, ea, eb, ec, zp, zq]; rfl) ?_
       refine pb 1 18 (fm 10 2) rfl rfl HT_.out (by kernel_rfl) pq (by rfl) (by intro w'; go_simp; with_reducible rfl) (by simp only [Act.put, ea, eb, ec, zp, zq]; rfl) ?_
       refine pb 2 19 (fm 10 3) rfl rfl HT_.out (by kernel_rfl) pq (by rfl) (by intro w'; go_simp; with_reducible rfl) (by simp only [Act.put, ea, eb, ec, zp, zq]; rfl) ?_
       refine pb 4 21 #[T, T, T, F, T, F, F, F, F, F] rfl rfl HT_.out (by kernel_rfl) pq (by rfl) (by intro w'; go_simp; with_reducible rfl) (by simp only [Act.put, ea, eb, ec, zp, zq]; rfl) ?_
       refine pb 5 22 #[T, T, T, F, T, T, F, F, F, F] rfl rfl HT_.out (by kernel_rfl) pq (by rfl) (by intro w'; go_simp; with_reducible rfl) (by simp only [Act.put, ea, eb, ec, zp, zq]; rfl) ?_
       refine pb 6 23 #[T, T, T, F, T, T, T, F, F, F] rfl rfl HT_.out (by kernel_rfl) pq (by rfl) (by intro w'; go_simp; with_reducible rfl) (by simp only [Act.put, ea, eb, ec, zp, zq]; rfl) ?_
       refine take_ (i := 3) (N := some 20) (v := ?_) (a' := ?_) (fm 10 7) rfl rfl (zaa HT_.out HW_.out (by kernel_rfl)) (fun _ _ _ h => h) (Or.inl ⟨by rfl, ?_⟩) hHeld ?_ ?_
       rotate_left
       ·rintro w' ⟨s0, s1, s2, s3, s4, s5, s6, s7, s8, s9, s10, s11, s12, s13, s14, s15, s16, s17, s18, s19, s20, s21, s22, s23, s24, s25, s26, s27, s28, s29, s30, s31, s32, s33, s34, s35, s36, s37, s38, s39⟩
        first | (refine load20_go (x := ?ldx2_0) ?lda2_0 ?ldb2_0 hu54 ?ldc2_0 ?ldd2_0 s0 s1 s2 s3 s4 s5 s6 s7 s8 s9 s10 s11 s12 s13 s14 s15 s16 s17 s18 s19; (case lda2_0 => rfl); (case ldb2_0 => rfl); (case ldc2_0 => rfl); (case ldd2_0 => kernel_rfl)) | (refine load20_go (x := ?ldx2_1) ?lda2_1 ?ldb2_1 hu54 ?ldc2_1 ?ldd2_1 s20 s21 s22 s23 s24 s25 s26 s27 s28 s29 s30 s31 s32 s33 s34 s35 s36 s37 s38 s39; (case lda2_1 => rfl); (case ldb2_1 => rfl); (case ldc2_1 => rfl); (case ldd2_1 => kernel_rfl))
       rotate_left
       ·simp only [Act.put, List.setIfInBounds_toArray, List.set_cons_zero, List.set_cons_succ, zp, zq]
        rfl
       refine take_ (i := 7) (N := some 24) (v := ?_) (a' := ?_) (fm 10 8) rfl rfl (zaa HT_.out HW_.out (by kernel_rfl)) (fun _ _ _ h => h) (Or.inl ⟨by rfl, ?_⟩) hHeld ?_ ?_
       rotate_left
       ·rintro w' ⟨s0, s1, s2, s3, s4, s5, s6, s7, s8, s9, s10, s11, s12, s13, s14, s15, s16, s17, s18, s19, s20, s21, s22, s23, s24, s25, s26, s27, s28, s29, s30, s31, s32, s33, s34, s35, s36, s37, s38, s39⟩
        first | (refine load20_go (x := ?ldx3_0) ?lda3_0 ?ldb3_0 hu54 ?ldc3_0 ?ldd3_0 s0 s1 s2 s3 s4 s5 s6 s7 s8 s9 s10 s11 s12 s13 s14 s15 s16 s17 s18 s19; (case lda3_0 => rfl); (case ldb3_0 => rfl); (case ldc3_0 => rfl); (case ldd3_0 => kernel_rfl)) | (refine load20_go (x := ?ldx3_1) ?lda3_1 ?ldb3_1 hu54 ?ldc3_1 ?ldd3_1 s20 s21 s22 s23 s24 s25 s26 s27 s28 s29 s30 s31 s32 s33 s34 s35 s36 s37 s38 s39; (case lda3_1 => rfl); (case ldb3_1 => rfl); (case ldc3_1 => rfl); (case ldd3_1 => kernel_rfl))
       rotate_left
       ·simp only [Act.put, List.setIfInBounds_toArray, List.set_cons_zero, List.set_cons_succ, zp, zq]
        rfl
       refine one_ (i := 8) (N := some 25) (fm 10 9) rfl rfl (one_of HT_.out (by kernel_rfl)) (by decide) (fun K hK => ?_)
       refine goes_ Try.func32 (by kernel_rfl) rfl #[.agg #[.int .i8 ((rd_T54 l0 x5_1).f0.f0), .int .i8 ((rd_T54 l0 x5_1).f0.f1), .int .i8 ((rd_T54 l0 x5_1).f0.f2), .int .i8 ((rd_T54 l0 x5_1).f0.f3), .int .i8 ((rd_T54 l0 x5_1).f0.f4), .int .i8 ((rd_T54 l0 x5_1).f0.f5), .int .i8 ((rd_T54 l0 x5_1).f0.f6), .int .i8 ((rd_T54 l0 x5_1).f0.f7), .int .i8 ((rd_T54 l0 x5_1).f0.f8), .int .i8 ((rd_T54 l0 x5_1).f0.f9), .int .i8 ((rd_T54 l0 x5_1).f0.f10), .int .i8 ((rd_T54 l0 x5_1).f0.f11), .int .i8 ((rd_T54 l0 x5_1).f0.f12), .int .i8 ((rd_T54 l0 x5_1).f0.f13), .int .i16 ((rd_T54 l0 x5_1).f1.f0), .int .i16 ((rd_T54 l0 x5_1).f1.f1), .int .i16 ((rd_T54 l0 x5_1).f1.f2), .int .i8 ((rd_T54 l0 x5_1).f2.f0), .bool ((rd_T54 l0 x5_1).f2.f1), .bool ((rd_T54 l0 x5_1).f3)], .agg #[.int .i8 ((rd_T54 l1 x5_1).f0.f0), .int .i8 ((rd_T54 l1 x5_1).f0.f1), .int .i8 ((rd_T54 l1 x5_1).f0.f2), .int .i8 ((rd_T54 l1 x5_1).f0.f3), .int .i8 ((rd_T54 l1 x5_1).f0.f4), .int .i8 ((rd_T54 l1 x5_1).f0.f5), .int .i8 ((rd_T54 l1 x5_1).f0.f6), .int .i8 ((rd_T54 l1 x5_1).f0.f7), .int .i8 ((rd_T54 l1 x5_1).f0.f8), .int .i8 ((rd_T54 l1 x5_1).f0.f9), .int .i8 ((rd_T54 l1 x5_1).f0.f10), .int .i8 ((rd_T54 l1 x5_1).f0.f11), .int .i8 ((rd_T54 l1 x5_1).f0.f12), .int .i8 ((rd_T54 l1 x5_1).f0.f13), .int .i16 ((rd_T54 l1 x5_1).f1.f0), .int .i16 ((rd_T54 l1 x5_1).f1.f1), .int .i16 ((rd_T54 l1 x5_1).f1.f2), .int .i8 ((rd_T54 l1 x5_1).f2.f0), .bool ((rd_T54 l1 x5_1).f2.f1), .bool ((rd_T54 l1 x5_1).f3)]] (by rfl) rfl rfl (by (try simp only [List.map_toArray, List.map_cons, List.map_nil]); first | done | rfl | (simp only [List.length_drop, List.length_take]; rfl)) ?_
       with_reducible refine (laws_eqNode.calls k1 ((rd_T54 l0 x5_1).f0.f0) ((rd_T54 l0 x5_1).f0.f1) ((rd_T54 l0 x5_1).f0.f2) ((rd_T54 l0 x5_1).f0.f3) ((rd_T54 l0 x5_1).f0.f4) ((rd_T54 l0 x5_1).f0.f5) ((rd_T54 l0 x5_1).f0.f6) ((rd_T54 l0 x5_1).f0.f7) ((rd_T54 l0 x5_1).f0.f8) ((rd_T54 l0 x5_1).f0.f9) ((rd_T54 l0 x5_1).f0.f10) ((rd_T54 l0 x5_1).f0.f11) ((rd_T54 l0 x5_1).f0.f12) ((rd_T54 l0 x5_1).f0.f13) ((rd_T54 l0 x5_1).f1.f0) ((rd_T54 l0 x5_1).f1.f1) ((rd_T54 l0 x5_1).f1.f2) ((rd_T54 l0 x5_1).f2.f0) ((rd_T54 l0 x5_1).f2.f1) ((rd_T54 l0 x5_1).f3) ((rd_T54 l1 x5_1).f0.f0) ((rd_T54 l1 x5_1).f0.f1) ((rd_T54 l1 x5_1).f0.f2) ((rd_T54 l1 x5_1).f0.f3) ((rd_T54 l1 x5_1).f0.f4) ((rd_T54 l1 x5_1).f0.f5) ((rd_T54 l1 x5_1).f0.f6) ((rd_T54 l1 x5_1).f0.f7) ((rd_T54 l1 x5_1).f0.f8) ((rd_T54 l1 x5_1).f0.f9) ((rd_T54 l1 x5_1).f0.f10) ((rd_T54 l1 x5_1).f0.f11) ((rd_T54 l1 x5_1).f0.f12) ((rd_T54 l1 x5_1).f0.f13) ((rd_T54 l1 x5_1).f1.f0) ((rd_T54 l1 x5_1).f1.f1) ((rd_T54 l1 x5_1).f1.f2) ((rd_T54 l1 x5_1).f2.f0) ((rd_T54 l1 x5_1).f2.f1) ((rd_T54 l1 x5_1).f3) false _ A7.out).mono ?_
       rintro e w12 ⟨rfl, hb⟩
       refine ⟨_, rfl, ?_⟩
       have n0_ := zd.mk (zk (by repeat (first | (with_reducible first | exact HB.out | apply zc | apply za | apply zb) | exact HB.out)) hb)
       clear HB
       have HB := n0_
       clear n0_
       (try clear hb)
       (try clear hb2)
       (try clear hk)
       (try clear hi)
       refine hK.out _ _ ⟨(bc HB.out v1_0), (bc HB.out v1_1), (bc HB.out v1_2), (bc HB.out v1_3), (bc HB.out v1_4), (bc HB.out v1_5), (bc HB.out v1_6), (bc HB.out v1_7), (bc HB.out v1_8), (bc HB.out v1_9), (bc HB.out v1_10), (bc HB.out v1_11), (bc HB.out v1_12), (bc HB.out v1_13), (bc HB.out v1_14), (bc HB.out v1_15), (bc HB.out v1_16), (bc HB.out v1_17), (bc HB.out v1_18), (bc HB.out v1_19), (bc HB.out v2_0), (bc HB.out v2_1), (bc HB.out v2_2), (bc HB.out v2_3), (bc HB.out v2_4), (bc HB.out v2_5), (bc HB.out v2_6), (bc HB.out v2_7), (bc HB.out v2_8), (bc HB.out v2_9), (bc HB.out v2_10), (bc HB.out v2_11), (bc HB.out v2_12), (bc HB.out v2_13), (bc HB.out v2_14), (bc HB.out v2_15), (bc HB.out v2_16), (bc HB.out v2_17), (bc HB.out v2_18), (bc HB.out v2_19)⟩ (fun hHeld => ?_)
       clear hK K
       refine norm_ (a' := ?_) ?_ ?_
       rotate_left
       ·show Act.put _ (some 25) _ = _
        simp only [Act.put, List.setIfInBounds_toArray, List.set_cons_zero, List.set_cons_succ, zp, zq]
        rfl
       refine pb 9 26 (fm 10 10) rfl rfl HT_.out (by kernel_rfl) pq (by rfl) (by intro w'; go_simp; with_reducible rfl) (by simp only [Act.put, ea, eb, ec, zp, zq]; rfl) ?_
       refine done_ (done_of HT_.out (by kernel_rfl)) ?_
       try go_wp2
       go_ret
       exact ⟨by first | rfl | (simp [errW_none, errW_some] <;> rfl) | (simp [*, errW_none, errW_some] <;> rfl), by repeat (first | (with_reducible first | exact HB.out | apply zc | apply za | apply zb) | exact HB.out)⟩
      rw [if_neg c6] at H
      exact absurd H (by simp)
     rw [if_neg c5] at H
     exact absurd H (by simp)
    rw [if_neg c4] at H
    have c4b0 : decide (x5_1 < (l0.length : Int)) = false := decide_eq_false c4
    clear c4
    obtain rfl := Option.some.inj H
    go_wp2
    go_ret
    exact ⟨by first | rfl | (simp [errW_none, errW_some] <;> rfl) | (simp [*, errW_none, errW_some] <;> rfl), by repeat (first | (with_reducible first | exact HB.out | apply zc | apply za | apply zb) | exact HB.out)⟩
 rw [if_neg c3] at H
 have c3b0 : ((l0.length : Int) == (l1.length : Int)) = false := beq_eq_false_iff_ne.mpr c3
 have c3b1 : ((l0.length : Int) != (l1.length : Int)) = true := bne_iff_ne.mpr c3
 have c3b2 : (l0.length == l1.length) = false := by first | simpa using c3 | (simp at c3 ⊢; omega)
 obtain rfl := Option.some.inj H
 go_enter Try.func13, Try.ntmps13
 go_wp2
 go_ret
 exact ⟨by first | rfl | (simp [errW_none, errW_some] <;> rfl) | (simp [*, errW_none, errW_some] <;> rfl), by repeat (first | (with_reducible first | exact HB.out | apply zc | apply za | apply zb) | exact HB.out)⟩

attribute [local go_sem] zba zea zha zia zy zz zda zca   -- for this text's walks alone

/-! ### spec_l00In: function 37 -/
def spec_l00In.f (a0 : Int) (a1 : Int) (a2 : Int) : Option (Bool) := if a0 ≥ a1 then (some (decide (a0 ≤ a2))) else (some false)
set_option maxHeartbeats 8000000 in
set_option maxRecDepth 100000 in
theorem spec_l00In.calls (a0 : Int) (a1 : Int) (a2 : Int) (r : Bool) (w : World) (h : spec_l00In.f a0 a1 a2 = some r) :
  Calls Try.prog 37 #[.int .i64 a0, .int .i64 a1, .int .i64 a2] w fun e w' => e = .returned (.bool r) ∧ zka w w' := by
 have H : (if a0 ≥ a1 then (some (decide (a0 ≤ a2))) else (some false)) = some r := h
 clear h
 by_cases c4 : a0 ≥ a1
 ·rw [if_pos c4] at H
  have c4b0 : decide (a1 ≤ a0) = true := decide_eq_true c4
  clear c4
  obtain rfl := Option.some.inj H
  go_enter Try.func37, Try.ntmps37
  go_wp2
  go_ret
  exact ⟨by first | rfl | (simp; done) | (simp [*]; done), by repeat (first | exact zka.refl _ | apply zka.step)⟩
 rw [if_neg c4] at H
 have c4b0 : decide (a1 ≤ a0) = false := decide_eq_false c4
 clear c4
 obtain rfl := Option.some.inj H
 go_enter Try.func37, Try.ntmps37
 go_wp2
 go_ret
 exact ⟨by first | rfl | (simp; done) | (simp [*]; done), by repeat (first | exact zka.refl _ | apply zka.step)⟩

/-! ### spec_l03Ok: function 39 -/
def spec_l03Ok.f (a0_0 : Int) (a0_1 : Int) (a0_2 : Bool) (a0_3 : Bool) : Option (Bool) := (spec_l00In.f (wrap64 (a0_0)) 1 13).bind fun t102 => (if t102 = true then ((spec_l00In.f (wrap64 (a0_1)) 0 2).bind fun t103 => (some t103)) else (some false))
set_option maxHeartbeats 8000000 in
set_option maxRecDepth 100000 in
theorem spec_l03Ok.calls (a0_0 : Int) (a0_1 : Int) (a0_2 : Bool) (a0_3 : Bool) (r : Bool) (w : World) (h : spec_l03Ok.f a0_0 a0_1 a0_2 a0_3 = some r) :
  Calls Try.prog 39 #[.agg #[.int .i8 a0_0, .int .i8 a0_1, .bool a0_2, .bool a0_3]] w fun e w' => e = .returned (.bool r) ∧ Below w.heap.size w w' := by
 have hu29 := Try.underlying29
 have HB := zd.mk (Below.refl w.heap.size w)
 have H : ((spec_l00In.f (wrap64 (a0_0)) 1 13).bind fun t102 => (if t102 = true then ((spec_l00In.f (wrap64 (a0_1)) 0 2).bind fun t103 => (some t103)) else (some false))) = some r := h
 clear h
 replace H := Option.bind_eq_some_iff.mp H
 obtain ⟨t102, A20, H⟩ := H
 replace H : (if t102 = true then ((spec_l00In.f (wrap64 (a0_1)) 0 2).bind fun t103 => (some t103)) else (some false)) = some r := H
 have A2 := zd.mk A20
 clear A20
 by_cases c3 : t102 = true
 ·subst c3
  have H1 : ((spec_l00In.f (wrap64 (a0_1)) 0 2).bind fun t103 => (some t103)) = some r := by rw [if_pos rfl] at H; exact H
  clear H
  have H := H1
  clear H1
  replace H := Option.bind_eq_some_iff.mp H
  obtain ⟨t103, A40, H⟩ := H
  replace H : (some t103) = some r := H
  have A4 := zd.mk A40
  clear A40
  obtain rfl := Option.some.inj H
  go_enter Try.func39, Try.ntmps39
  go_wp2_with (first | ((with_reducible refine zo (N := 1) rfl ?_); refine zn ?hg (N := 1) ?hd (cs := #[.int .i8 a0_0, .int .i8 a0_1, .bool a0_2, .bool a0_3]) (t := 29) ?hr ?_; (case hd => rfl); (case hg => rfl); (case hr => first | (go_simp; done) | (go_simp; rfl)); intro gb101 hg w5 hbox hb; obtain ⟨n0_, n2_⟩ := bx (by repeat (first | (with_reducible first | exact HB.out | apply zc | apply za | apply zb) | exact HB.out)) hb hg; have n1_ := zd.mk (hbox); have n3_ := n2_; clear HB; have HB := n0_; have BK101 := n1_; have GW101 := n2_; have GE101 := n3_; clear n0_ n1_ n2_ n3_; clear hb hbox hg; obtain ⟨y1_0, y1_1, y1_2, y1_3, z1_0, z1_1, z1_2, z1_3⟩ := cf4 BK101.out) | ((with_reducible refine zr (f := 37) rfl ?_); refine zx (some 6) rfl rfl Try.func37 (by kernel_rfl) rfl #[.int .i64 (wrap64 (a0_0)), .int .i64 1, .int .i64 13] rfl (by (try simp only [List.map_toArray, List.map_cons, List.map_nil]); first | done | rfl | (simp only [List.length_drop, List.length_take]; rfl)) ?_; (with_reducible refine (spec_l00In.calls (wrap64 (a0_0)) 1 13 true _ A2.out).mono ?_); rintro e w' ⟨rfl, ⟨nd, rfl⟩⟩; refine ⟨_, rfl, ?_⟩) | (go_at_call 37; (with_reducible refine (spec_l00In.calls (wrap64 (a0_1)) 0 2 t103 _ A4.out).mono ?_); rintro e w' ⟨rfl, ⟨nd, rfl⟩⟩))
  go_ret
  exact ⟨by first | rfl | (simp [errW_none, errW_some] <;> rfl) | (simp [*, errW_none, errW_some] <;> rfl), by repeat (first | (with_reducible first | exact HB.out | apply zc | apply za | apply zb | refine ze ?_ GE101.out) | exact HB.out)⟩
 replace c3 := Bool.eq_false_iff.mpr c3
 subst c3
 have H1 : (some false) = some r := by rw [if_neg (show ¬ (false = true) by decide)] at H; exact H
 clear H
 have H := H1
 clear H1
 obtain rfl := Option.some.inj H
 go_enter Try.func39, Try.ntmps39
 go_wp2_with (first | ((with_reducible refine zo (N := 1) rfl ?_); refine zn ?hg (N := 1) ?hd (cs := #[.int .i8 a0_0, .int .i8 a0_1, .bool a0_2, .bool a0_3]) (t := 29) ?hr ?_; (case hd => rfl); (case hg => rfl); (case hr => first | (go_simp; done) | (go_simp; rfl)); intro gb101 hg w7 hbox hb; obtain ⟨n0_, n2_⟩ := bx (by repeat (first | (with_reducible first | exact HB.out | apply zc | apply za | apply zb) | exact HB.out)) hb hg; have n1_ := zd.mk (hbox); have n3_ := n2_; clear HB; have HB := n0_; have BK101 := n1_; have GW101 := n2_; have GE101 := n3_; clear n0_ n1_ n2_ n3_; clear hb hbox hg; obtain ⟨y2_0, y2_1, y2_2, y2_3, z2_0, z2_1, z2_2, z2_3⟩ := cf4 BK101.out) | ((with_reducible refine zr (f := 37) rfl ?_); refine zx (some 6) rfl rfl Try.func37 (by kernel_rfl) rfl #[.int .i64 (wrap64 (a0_0)), .int .i64 1, .int .i64 13] rfl (by (try simp only [List.map_toArray, List.map_cons, List.map_nil]); first | done | rfl | (simp only [List.length_drop, List.length_take]; rfl)) ?_; (with_reducible refine (spec_l00In.calls (wrap64 (a0_0)) 1 13 false _ A2.out).mono ?_); rintro e w' ⟨rfl, ⟨nd, rfl⟩⟩; refine ⟨_, rfl, ?_⟩))
 go_ret
 exact ⟨by first | rfl | (simp [errW_none, errW_some] <;> rfl) | (simp [*, errW_none, errW_some] <;> rfl), by repeat (first | (with_reducible first | exact HB.out | apply zc | apply za | apply zb | refine ze ?_ GE101.out) | exact HB.out)⟩

attribute [local go_sem] zba zea zha zia zy zz zda zca   -- for this text's walks alone

/-! ### spec_l03Cases: function 25 -/
mutual
def spec_l03Cases.j0 : Nat → List (S46) → Int → Int → Bool → Bool → Option ((List (S46)))
 | 0, _, _, _, _, _ => none
 | k + 1, x3, x105000, x105001, x105002, x105003 => spec_l03Cases.l0 k x3 0 x105000 x105001 x105002 x105003
def spec_l03Cases.l0 : Nat → List (S46) → Int → Int → Int → Bool → Bool → Option ((List (S46)))
 | 0, _, _, _, _, _, _ => none
 | k + 1, x3, x4, x105000, x105001, x105002, x105003 => if x4 < x105000 then (if x105001 = 1 then (if x105001 = 0 then (spec_l03Cases.l0 k x3 (IntKind.i8.wrap (x4 + 1)) x105000 x105001 x105002 x105003) else (if x3.length < 70368744177664 then (spec_l03Cases.l0 k (x3 ++ [(⟨x4, false⟩ : S46)]) (IntKind.i8.wrap (x4 + 1)) x105000 x105001 x105002 x105003) else (none))) else (if x3.length < 70368744177664 then ((some (x3 ++ [(⟨x4, true⟩ : S46)] : List (S46))).bind fun y114 => (if x105001 = 0 then (spec_l03Cases.l0 k y114 (IntKind.i8.wrap (x4 + 1)) x105000 x105001 x105002 x105003) else (if y114.length < 70368744177664 then (spec_l03Cases.l0 k (y114 ++ [(⟨x4, false⟩ : S46)]) (IntKind.i8.wrap (x4 + 1)) x105000 x105001 x105002 x105003) else (none)))) else (none))) else (some x3)
end
def spec_l03Cases.f (k : Nat) (a0_0 : Int) (a0_1 : Int) (a0_2 : Bool) (a0_3 : Bool) : Option ((List (S46))) := (some (([] : List (S46)) : List (S46))).bind fun y105 => (if a0_2 = true then (if y105.length < 70368744177664 then (spec_l03Cases.j0 k (y105 ++ [(⟨(-1), false⟩ : S46)]) a0_0 a0_1 a0_2 a0_3) else (none)) else (spec_l03Cases.j0 k y105 a0_0 a0_1 a0_2 a0_3))
set_option maxHeartbeats 8000000 in
set_option maxRecDepth 100000 in
theorem spec_l03Cases.calls (k : Nat) (a0_0 : Int) (a0_1 : Int) (a0_2 : Bool) (a0_3 : Bool) (r : List (S46)) (w : World) (h : spec_l03Cases.f k a0_0 a0_1 a0_2 a0_3 = some r) :
  Calls Try.prog 25 #[.agg #[.int .i8 a0_0, .int .i8 a0_1, .bool a0_2, .bool a0_3]] w fun e w' => ∃ v0_ : Value, e = .returned (v0_) ∧ Kd.R k46 46 w' w.heap.size (fun _ => True) v0_ r ∧ Below w.heap.size w w' := by
 have hu29 := Try.underlying29
 have hu46 := Try.underlying46
 have HB := zd.mk (Below.refl w.heap.size w)
 have H : ((some (([] : List (S46)) : List (S46))).bind fun y105 => (if a0_2 = true then (if y105.length < 70368744177664 then (spec_l03Cases.j0 k (y105 ++ [(⟨(-1), false⟩ : S46)]) a0_0 a0_1 a0_2 a0_3) else (none)) else (spec_l03Cases.j0 k y105 a0_0 a0_1 a0_2 a0_3))) = some r := h
 clear h
 obtain ⟨y105, hy105⟩ : ∃ y_ : List (S46), y_ = (([] : List (S46))) := ⟨_, rfl⟩
 replace H : (if a0_2 = true then (if y105.length < 70368744177664 then (spec_l03Cases.j0 k (y105 ++ [(⟨(-1), false⟩ : S46)]) a0_0 a0_1 a0_2 a0_3) else (none)) else (spec_l03Cases.j0 k y105 a0_0 a0_1 a0_2 a0_3)) = some r := by first | (rw [hy105]; with_reducible exact H) | (have H2_ := (Option.bind_some _ _).symm.trans H; rw [hy105]; with_reducible exact H2_) | (have H2_ := (Option.bind_some _ _).symm.trans H; with_reducible exact H2_) | with_reducible exact H | (rw [hy105]; exact H) | exact H
 have Ny105 := zd.mk hy105
 clear hy105
 have HC2 := zd.mk H
 clear H
 go_enter Try.func25, Try.ntmps25
 go_upto_if 7 with (first | ((with_reducible refine zo (N := 1) rfl ?_); refine zn ?hg (N := 1) ?hd (cs := #[.int .i8 a0_0, .int .i8 a0_1, .bool a0_2, .bool a0_3]) (t := 29) ?hr ?_; (case hd => rfl); (case hg => rfl); (case hr => first | (go_simp; done) | (go_simp; rfl)); intro gb104 hg w3 hbox hb; obtain ⟨n0_, n2_⟩ := bx (by repeat (first | (with_reducible first | exact HB.out | apply zc | apply za | apply zb) | exact HB.out)) hb hg; have n1_ := zd.mk (hbox); have n3_ := n2_; clear HB; have HB := n0_; have BK104 := n1_; have GW104 := n2_; have GE104 := n3_; clear n0_ n1_ n2_ n3_; clear hb hbox hg) | ((with_reducible refine zo (N := 5) rfl ?_); refine Kd.R_lit k46 _ 46 ?hg (N := 5) ?hd (xs := ([] : List (S46))) (inner := []) (ok := fun _ => True) (okp := fun _ => True) ?hr ?hp (fun _ hk => hk) trivial (Below.refl _ _) (Nat.le_refl _) (by simp) ?_; (case hd => rfl); (case hg => rfl); (case hr => first | (go_simp; done) | (go_simp; rfl)); (case hp => exact (Reps.none _ _)); intro v106 w4 ho5 hb hg_ hnew_; clear hg_ hnew_; (first | rw [← Ny105.out] at ho5 | (simp only [Int.reduceToNat] at ho5; rw [← Ny105.out] at ho5)); have n0_ := zd.mk (Kd.R_lower ho5 (zm (by repeat (first | (with_reducible first | exact HB.out | apply zc | apply za | apply zb | refine ze ?_ GE104.out) | exact HB.out)))); have n1_ := zd.mk (zj (by (with_reducible repeat (first | refine zf ?_ _ | refine zh ?_ | refine zg ?_ _)); exact BK104.out) hb); have n2_ := zd.mk (zk (by repeat (first | (with_reducible first | exact HB.out | apply zc | apply za | apply zb | refine ze ?_ GE104.out) | exact HB.out)) hb); clear BK104; clear HB; have HO107 := n0_; have BK104 := n1_; have HB := n2_; clear n0_ n1_ n2_; clear hb ho5; obtain ⟨y1_0, y1_1, y1_2, y1_3, z1_0, z1_1, z1_2, z1_3⟩ := cf4 BK104.out))
 (try simp only [Act.put, List.setIfInBounds_toArray, List.set_cons_zero, List.set_cons_succ])
 go_cut [3] (fun v3 wc => ∃ (kq : Nat) (x3_1 : List (S46)), zd (spec_l03Cases.j0 kq x3_1 a0_0 a0_1 a0_2 a0_3 = some r) ∧ zd (kq ≤ k) ∧ zd (Kd.R k46 46 wc w.heap.size (fun _ => True) v3 x3_1) ∧ zd (wc.heap[gb104]? = some (.cells #[.int .i8 a0_0, .int .i8 a0_1, .bool a0_2, .bool a0_3] 29 (0, 0))) ∧ zd (Below w.heap.size w wc))
 case first =>
  have H := HC2.out
  clear HC2
  by_cases c7 : a0_2 = true
  ·subst c7
   have H1 : (if y105.length < 70368744177664 then (spec_l03Cases.j0 k (y105 ++ [(⟨(-1), false⟩ : S46)]) a0_0 a0_1 true a0_3) else (none)) = some r := by rw [if_pos rfl] at H; exact H
   clear H
   have H := H1
   clear H1
   by_cases c8 : y105.length < 70368744177664
   ·rw [if_pos c8] at H
    have LMc8 := zd.mk c8
    clear c8
    obtain ⟨y108, hy108⟩ : ∃ y_ : List (S46), y_ = (y105 ++ [(⟨(-1), false⟩ : S46)]) := ⟨_, rfl⟩
    replace H : (spec_l03Cases.j0 k y108 a0_0 a0_1 true a0_3) = some r := by first | (rw [hy108]; with_reducible exact H) | (have H2_ := (Option.bind_some _ _).symm.trans H; rw [hy108]; with_reducible exact H2_) | (have H2_ := (Option.bind_some _ _).symm.trans H; with_reducible exact H2_) | with_reducible exact H | (rw [hy108]; exact H) | exact H
    have Ny108 := zd.mk hy108
    clear hy108
    have H' := zd.mk H
    clear H
    go_wp2_with (first | ((with_reducible refine zja (b := .append) (xs := #[.tmp 8, .tmp 10]) rfl ?_); at_builtin; refine Kd.R_append k46 (w0 := w) w.heap.size rfl (.tmp 8) (.tmp 10) 43 46 (.agg #[(.int .i8 0), (.bool false)]) 2 rfl Try.underlying43 info46 rfl (by decide) (by omega) v106 y105 (⟨(-1), false⟩ : S46) [.int .i8 (-1), .bool false] (fun _ => True) (fun _ => False) rfl rfl ?aP (fun _ hk => hk.elim) ?aF ?aO ?aB ?aS ?aL ?_; (case aP => exact k46_mkM _ _ _ (⟨(-1), false⟩ : S46)); (case aB => exact (by repeat (first | (with_reducible first | exact HB.out | apply zc | apply za | apply zb | refine ze ?_ GE104.out) | exact HB.out))); (case aF => exact (fun _ _ => trivial)); (case aO => exact (by (with_reducible repeat (first | apply Kd.R_alloc | apply Kd.R_drewN | apply Kd.R_drew)); exact HO107.out)); (case aS => exact (zm (by repeat (first | (with_reducible first | exact HB.out | apply zc | apply za | apply zb | refine ze ?_ GE104.out) | exact HB.out)))); (case aL => have := LMc8.out; omega); intro v109 w9 ho hb hg hat; rw [← Ny108.out] at ho; have n0_ := zd.mk (blk_grown (g := gb104) (o := .cells #[.int .i8 a0_0, .int .i8 a0_1, .bool true, .bool a0_3] 29 (0, 0)) (by (with_reducible repeat (first | refine zf ?_ _ | refine zh ?_ | refine zg ?_ _)); exact BK104.out) hg (Kd.R_ne HO107.out BK104.out (by decide))); have n1_ := zd.mk (hb); have n2_ := zd.mk (ho); clear BK104; clear HB; clear HO107; have BK104 := n0_; have HB := n1_; have HO110 := n2_; clear n0_ n1_ n2_; clear ho hb hg hat))
    go_meet
    case rel => exact ⟨_, (y108), H', ⟨by first | omega | exact Nat.le_refl _⟩, ⟨by (with_reducible repeat (first | apply Kd.R_alloc | apply Kd.R_drewN | apply Kd.R_drew)); exact HO110.out⟩, ⟨by (with_reducible repeat (first | refine zf ?_ _ | refine zh ?_ | refine zg ?_ _)); exact BK104.out⟩, ⟨by repeat (first | (with_reducible first | exact HB.out | apply zc | apply za | apply zb | refine ze ?_ GE104.out) | exact HB.out)⟩⟩
   rw [if_neg c8] at H
   exact absurd H (by simp)
  replace c7 := Bool.eq_false_iff.mpr c7
  subst c7
  have H1 : (spec_l03Cases.j0 k y105 a0_0 a0_1 false a0_3) = some r := by rw [if_neg (show ¬ (false = true) by decide)] at H; exact H
  clear H
  have H := H1
  clear H1
  have H' := zd.mk H
  clear H
  go_wp2
  go_meet
  case rel => exact ⟨_, (y105), H', ⟨by first | omega | exact Nat.le_refl _⟩, ⟨by (with_reducible repeat (first | apply Kd.R_alloc | apply Kd.R_drewN | apply Kd.R_drew)); exact HO107.out⟩, ⟨by (with_reducible repeat (first | refine zf ?_ _ | refine zh ?_ | refine zg ?_ _)); exact BK104.out⟩, ⟨by repeat (first | (with_reducible first | exact HB.out | apply zc | apply za | apply zb | refine ze ?_ GE104.out) | exact HB.out)⟩⟩
 case rest =>
  clear HC2
  try clear c2
  try clear p2
  try clear c7
  try clear c8
  try clear y1_0 y1_1 y1_2 y1_3
  try clear z1_0 z1_1 z1_2 z1_3
  obtain ⟨kq, x3_1, HA, HJ1, HO_3, BK104, HB⟩ := hcut
  cases kq with
  | zero => exact absurd HA.out (by simp [spec_l03Cases.j0])
  | succ kj1 =>
   have H := HA.out
   clear HA
   simp only [spec_l03Cases.j0] at H
   have H' := zd.mk H
   clear H
   go_wp2
   go_loopg [3, 4] kj1 (fun kq v3 v4 w' => ∃ (x3_2 : List (S46)) (x4_2 : Int), v4 = .int .i8 x4_2 ∧ zd (spec_l03Cases.l0 kq x3_2 x4_2 a0_0 a0_1 a0_2 a0_3 = some r) ∧ zd (kq ≤ kj1) ∧ zd (Kd.R k46 46 w' w.heap.size (fun _ => True) v3 x3_2) ∧ zd (w'.heap[gb104]? = some (.cells #[.int .i8 a0_0, .int .i8 a0_1, .bool a0_2, .bool a0_3] 29 (0, 0))) ∧ zd (Below w.heap.size w w'))
   case atStart => exact ⟨(x3_1), (0), (by first | rfl | (simp; done) | (simp [*]; done)), H', ⟨Nat.le_refl _⟩, ⟨by (with_reducible repeat (first | apply Kd.R_alloc | apply Kd.R_drewN | apply Kd.R_drew)); exact HO_3.out⟩, ⟨by (with_reducible repeat (first | refine zf ?_ _ | refine zh ?_ | refine zg ?_ _)); exact BK104.out⟩, ⟨by repeat (first | (with_reducible first | exact HB.out | apply zc | apply za | apply zb | refine ze ?_ GE104.out) | exact HB.out)⟩⟩
   case round =>
    clear H'
    try clear c2
    try clear p2
    try clear c7
    try clear c8
    try clear y1_0 y1_1 y1_2 y1_3
    try clear z1_0 z1_1 z1_2 z1_3
    try clear p2
    obtain ⟨x3_2, x4_2, rfl, HA, HK2, HO_3, BK104, HB⟩ := hrel
    cases gk with
    | zero => exact absurd HA.out (by simp [spec_l03Cases.l0])
    | succ k2 =>
     have H := HA.out
     clear HA
     simp only [spec_l03Cases.l0] at H
     by_cases c10 : x4_2 < a0_0
     ·rw [if_pos c10] at H
      have c10b0 : decide (x4_2 < a0_0) = true := decide_eq_true c10
      clear c10
      by_cases c11 : a0_1 = 1
      ·rw [if_pos c11] at H
       have c11b0 : (a0_1 == 1) = true := beq_iff_eq.mpr c11
       have c11b1 : (a0_1 != 1) = false := bne_eq_false_iff_eq.mpr c11
       clear c11
       by_cases c12 : a0_1 = 0
       ·rw [if_pos c12] at H
        have c12b0 : (a0_1 == 0) = true := beq_iff_eq.mpr c12
        have c12b1 : (a0_1 != 0) = false := bne_eq_false_iff_eq.mpr c12
        clear c12
        have H' := zd.mk H
        clear H
        obtain ⟨y2_0, y2_1, y2_2, y2_3, z2_0, z2_1, z2_2, z2_3⟩ := cf4 BK104.out
        go_wp2
        go_roundg k2
        case measure => have := HJ1.out; have := HK2.out; omega
        case rel => exact ⟨(x3_2), (IntKind.i8.wrap (x4_2 + 1)), (by first | rfl | (simp; done) | (simp [*]; done)), H', ⟨by have := HJ1.out; have := HK2.out; omega⟩, ⟨by (with_reducible repeat (first | apply Kd.R_alloc | apply Kd.R_drewN | apply Kd.R_drew)); exact HO_3.out⟩, ⟨by (with_reducible repeat (first | refine zf ?_ _ | refine zh ?_ | refine zg ?_ _)); exact BK104.out⟩, ⟨by repeat (first | (with_reducible first | exact HB.out | apply zc | apply za | apply zb | refine ze ?_ GE104.out) | exact HB.out)⟩⟩
       rw [if_neg c12] at H
       have c12b0 : (a0_1 == 0) = false := beq_eq_false_iff_ne.mpr c12
       have c12b1 : (a0_1 != 0) = true := bne_iff_ne.mpr c12
       by_cases c14 : x3_2.length < 70368744177664
       ·rw [if_pos c14] at H
        have LMc14 := zd.mk c14
        clear c14
        obtain ⟨y111, hy111⟩ : ∃ y_ : List (S46), y_ = (x3_2 ++ [(⟨x4_2, false⟩ : S46)]) := ⟨_, rfl⟩
        replace H : (spec_l03Cases.l0 k2 y111 (IntKind.i8.wrap (x4_2 + 1)) a0_0 a0_1 a0_2 a0_3) = some r := by first | (rw [hy111]; with_reducible exact H) | (have H2_ := (Option.bind_some _ _).symm.trans H; rw [hy111]; with_reducible exact H2_) | (have H2_ := (Option.bind_some _ _).symm.trans H; with_reducible exact H2_) | with_reducible exact H | (rw [hy111]; exact H) | exact H
        have Ny111 := zd.mk hy111
        clear hy111
        have H' := zd.mk H
        clear H
        obtain ⟨y3_0, y3_1, y3_2, y3_3, z3_0, z3_1, z3_2, z3_3⟩ := cf4 BK104.out
        go_wp2_with (first | ((with_reducible refine zja (b := .append) (xs := #[.tmp 29, .tmp 32]) rfl ?_); at_builtin; refine Kd.R_append k46 (w0 := w) w.heap.size rfl (.tmp 29) (.tmp 32) 43 46 (.agg #[(.int .i8 0), (.bool false)]) 2 rfl Try.underlying43 info46 rfl (by decide) (by omega) u3 x3_2 (⟨x4_2, false⟩ : S46) [.int .i8 x4_2, .bool false] (fun _ => True) (fun _ => False) rfl rfl ?aP (fun _ hk => hk.elim) ?aF ?aO ?aB ?aS ?aL ?_; (case aP => exact k46_mkM _ _ _ (⟨x4_2, false⟩ : S46)); (case aB => exact (by repeat (first | (with_reducible first | exact HB.out | apply zc | apply za | apply zb | refine ze ?_ GE104.out) | exact HB.out))); (case aF => exact (fun _ _ => trivial)); (case aO => exact (by (with_reducible repeat (first | apply Kd.R_alloc | apply Kd.R_drewN | apply Kd.R_drew)); exact HO_3.out)); (case aS => exact (zm (by repeat (first | (with_reducible first | exact HB.out | apply zc | apply za | apply zb | refine ze ?_ GE104.out) | exact HB.out)))); (case aL => have := LMc14.out; omega); intro v112 w16 ho hb hg hat; rw [← Ny111.out] at ho; have n0_ := zd.mk (blk_grown (g := gb104) (o := .cells #[.int .i8 a0_0, .int .i8 a0_1, .bool a0_2, .bool a0_3] 29 (0, 0)) (by (with_reducible repeat (first | refine zf ?_ _ | refine zh ?_ | refine zg ?_ _)); exact BK104.out) hg (Kd.R_ne HO_3.out BK104.out (by decide))); have n1_ := zd.mk (hb); have n2_ := zd.mk (ho); clear BK104; clear HB; clear HO_3; have BK104 := n0_; have HB := n1_; have HO113 := n2_; clear n0_ n1_ n2_; clear ho hb hg hat))
        go_roundg k2
        case measure => have := HJ1.out; have := HK2.out; omega
        case rel => exact ⟨(y111), (IntKind.i8.wrap (x4_2 + 1)), (by first | rfl | (simp; done) | (simp [*]; done)), H', ⟨by have := HJ1.out; have := HK2.out; omega⟩, ⟨by (with_reducible repeat (first | apply Kd.R_alloc | apply Kd.R_drewN | apply Kd.R_drew)); exact HO113.out⟩, ⟨by (with_reducible repeat (first | refine zf ?_ _ | refine zh ?_ | refine zg ?_ _)); exact BK104.out⟩, ⟨by repeat (first | (with_reducible first | exact HB.out | apply zc | apply za | apply zb | refine ze ?_ GE104.out) | exact HB.out)⟩⟩
       rw [if_neg c14] at H
       exact absurd H (by simp)
      rw [if_neg c11] at H
      have c11b0 : (a0_1 == 1) = false := beq_eq_false_iff_ne.mpr c11
      have c11b1 : (a0_1 != 1) = true := bne_iff_ne.mpr c11
      by_cases c17 : x3_2.length < 70368744177664
      ·rw [if_pos c17] at H
       have LMc17 := zd.mk c17
       clear c17
       obtain ⟨y114, hy114⟩ : ∃ y_ : List (S46), y_ = (x3_2 ++ [(⟨x4_2, true⟩ : S46)]) := ⟨_, rfl⟩
       replace H : (if a0_1 = 0 then (spec_l03Cases.l0 k2 y114 (IntKind.i8.wrap (x4_2 + 1)) a0_0 a0_1 a0_2 a0_3) else (if y114.length < 70368744177664 then (spec_l03Cases.l0 k2 (y114 ++ [(⟨x4_2, false⟩ : S46)]) (IntKind.i8.wrap (x4_2 + 1)) a0_0 a0_1 a0_2 a0_3) else (none))) = some r := by first | (rw [hy114]; with_reducible exact H) | (have H2_ := (Option.bind_some _ _).symm.trans H; rw [hy114]; with_reducible exact H2_) | (have H2_ := (Option.bind_some _ _).symm.trans H; with_reducible exact H2_) | with_reducible exact H | (rw [hy114]; exact H) | exact H
       have Ny114 := zd.mk hy114
       clear hy114
       by_cases c18 : a0_1 = 0
       ·rw [if_pos c18] at H
        have c18b0 : (a0_1 == 0) = true := beq_iff_eq.mpr c18
        have c18b1 : (a0_1 != 0) = false := bne_eq_false_iff_eq.mpr c18
        clear c18
        have H' := zd.mk H
        clear H
        obtain ⟨y4_0, y4_1, y4_2, y4_3, z4_0, z4_1, z4_2, z4_3⟩ := cf4 BK104.out
        go_wp2_with (first | ((with_reducible refine zja (b := .append) (xs := #[.tmp 21, .tmp 24]) rfl ?_); at_builtin; refine Kd.R_append k46 (w0 := w) w.heap.size rfl (.tmp 21) (.tmp 24) 43 46 (.agg #[(.int .i8 0), (.bool false)]) 2 rfl Try.underlying43 info46 rfl (by decide) (by omega) u3 x3_2 (⟨x4_2, true⟩ : S46) [.int .i8 x4_2, .bool true] (fun _ => True) (fun _ => False) rfl rfl ?aP (fun _ hk => hk.elim) ?aF ?aO ?aB ?aS ?aL ?_; (case aP => exact k46_mkM _ _ _ (⟨x4_2, true⟩ : S46)); (case aB => exact (by repeat (first | (with_reducible first | exact HB.out | apply zc | apply za | apply zb | refine ze ?_ GE104.out) | exact HB.out))); (case aF => exact (fun _ _ => trivial)); (case aO => exact (by (with_reducible repeat (first | apply Kd.R_alloc | apply Kd.R_drewN | apply Kd.R_drew)); exact HO_3.out)); (case aS => exact (zm (by repeat (first | (with_reducible first | exact HB.out | apply zc | apply za | apply zb | refine ze ?_ GE104.out) | exact HB.out)))); (case aL => have := LMc17.out; omega); intro v115 w20 ho hb hg hat; rw [← Ny114.out] at ho; have n0_ := zd.mk (blk_grown (g := gb104) (o := .cells #[.int .i8 a0_0, .int .i8 a0_1, .bool a0_2, .bool a0_3] 29 (0, 0)) (by (with_reducible repeat (first | refine zf ?_ _ | refine zh ?_ | refine zg ?_ _)); exact BK104.out) hg (Kd.R_ne HO_3.out BK104.out (by decide))); have n1_ := zd.mk (hb); have n2_ := zd.mk (ho); clear BK104; clear HB; clear HO_3; have BK104 := n0_; have HB := n1_; have HO116 := n2_; clear n0_ n1_ n2_; clear ho hb hg hat; obtain ⟨y5_0, y5_1, y5_2, y5_3, z5_0, z5_1, z5_2, z5_3⟩ := cf4 BK104.out))
        go_roundg k2
        case measure => have := HJ1.out; have := HK2.out; omega
        case rel => exact ⟨(y114), (IntKind.i8.wrap (x4_2 + 1)), (by first | rfl | (simp; done) | (simp [*]; done)), H', ⟨by have := HJ1.out; have := HK2.out; omega⟩, ⟨by (with_reducible repeat (first | apply Kd.R_alloc | apply Kd.R_drewN | apply Kd.R_drew)); exact HO116.out⟩, ⟨by (with_reducible repeat (first | refine zf ?_ _ | refine zh ?_ | refine zg ?_ _)); exact BK104.out⟩, ⟨by repeat (first | (with_reducible first | exact HB.out | apply zc | apply za | apply zb | refine ze ?_ GE104.out) | exact HB.out)⟩⟩
       rw [if_neg c18] at H
       have c18b0 : (a0_1 == 0) = false := beq_eq_false_iff_ne.mpr c18
       have c18b1 : (a0_1 != 0) = true := bne_iff_ne.mpr c18
       by_cases c22 : y114.length < 70368744177664
       ·rw [if_pos c22] at H
        have LMc22 := zd.mk c22
        clear c22
        obtain ⟨y117, hy117⟩ : ∃ y_ : List (S46), y_ = (y114 ++ [(⟨x4_2, false⟩ : S46)]) := ⟨_, rfl⟩
        replace H : (spec_l03Cases.l0 k2 y117 (IntKind.i8.wrap (x4_2 + 1)) a0_0 a0_1 a0_2 a0_3) = some r := by first | (rw [hy117]; with_reducible exact H) | (have H2_ := (Option.bind_some _ _).symm.trans H; rw [hy117]; with_reducible exact H2_) | (have H2_ := (Option.bind_some _ _).symm.trans H; with_reducible exact H2_) | with_reducible exact H | (rw [hy117]; exact H) | exact H
        have Ny117 := zd.mk hy117
        clear hy117
        have H' := zd.mk H
        clear H
        obtain ⟨y6_0, y6_1, y6_2, y6_3, z6_0, z6_1, z6_2, z6_3⟩ := cf4 BK104.out
        go_wp2_with (first | ((with_reducible refine zja (b := .append) (xs := #[.tmp 21, .tmp 24]) rfl ?_); at_builtin; refine Kd.R_append k46 (w0 := w) w.heap.size rfl (.tmp 21) (.tmp 24) 43 46 (.agg #[(.int .i8 0), (.bool false)]) 2 rfl Try.underlying43 info46 rfl (by decide) (by omega) u3 x3_2 (⟨x4_2, true⟩ : S46) [.int .i8 x4_2, .bool true] (fun _ => True) (fun _ => False) rfl rfl ?aP (fun _ hk => hk.elim) ?aF ?aO ?aB ?aS ?aL ?_; (case aP => exact k46_mkM _ _ _ (⟨x4_2, true⟩ : S46)); (case aB => exact (by repeat (first | (with_reducible first | exact HB.out | apply zc | apply za | apply zb | refine ze ?_ GE104.out) | exact HB.out))); (case aF => exact (fun _ _ => trivial)); (case aO => exact (by (with_reducible repeat (first | apply Kd.R_alloc | apply Kd.R_drewN | apply Kd.R_drew)); exact HO_3.out)); (case aS => exact (zm (by repeat (first | (with_reducible first | exact HB.out | apply zc | apply za | apply zb | refine ze ?_ GE104.out) | exact HB.out)))); (case aL => have := LMc17.out; omega); intro v115 w24 ho hb hg hat; rw [← Ny114.out] at ho; have n0_ := zd.mk (blk_grown (g := gb104) (o := .cells #[.int .i8 a0_0, .int .i8 a0_1, .bool a0_2, .bool a0_3] 29 (0, 0)) (by (with_reducible repeat (first | refine zf ?_ _ | refine zh ?_ | refine zg ?_ _)); exact BK104.out) hg (Kd.R_ne HO_3.out BK104.out (by decide))); have n1_ := zd.mk (hb); have n2_ := zd.mk (ho); clear BK104; clear HB; clear HO_3; have BK104 := n0_; have HB := n1_; have HO116 := n2_; clear n0_ n1_ n2_; clear ho hb hg hat; obtain ⟨y7_0, y7_1, y7_2, y7_3, z7_0, z7_1, z7_2, z7_3⟩ := cf4 BK104.out) | ((with_reducible refine zja (b := .append) (xs := #[.tmp 29, .tmp 32]) rfl ?_); at_builtin; refine Kd.R_append k46 (w0 := w) w.heap.size rfl (.tmp 29) (.tmp 32) 43 46 (.agg #[(.int .i8 0), (.bool false)]) 2 rfl Try.underlying43 info46 rfl (by decide) (by omega) v115 y114 (⟨x4_2, false⟩ : S46) [.int .i8 x4_2, .bool false] (fun _ => True) (fun _ => False) rfl rfl ?aP (fun _ hk => hk.elim) ?aF ?aO ?aB ?aS ?aL ?_; (case aP => exact k46_mkM _ _ _ (⟨x4_2, false⟩ : S46)); (case aB => exact (by repeat (first | (with_reducible first | exact HB.out | apply zc | apply za | apply zb | refine ze ?_ GE104.out) | exact HB.out))); (case aF => exact (fun _ _ => trivial)); (case aO => exact (by (with_reducible repeat (first | apply Kd.R_alloc | apply Kd.R_drewN | apply Kd.R_drew)); exact HO116.out)); (case aS => exact (zm (by repeat (first | (with_reducible first | exact HB.out | apply zc | apply za | apply zb | refine ze ?_ GE104.out) | exact HB.out)))); (case aL => have := LMc22.out; omega); intro v118 w26 ho hb hg hat; rw [← Ny117.out] at ho; have n0_ := zd.mk (blk_grown (g := gb104) (o := .cells #[.int .i8 a0_0, .int .i8 a0_1, .bool a0_2, .bool a0_3] 29 (0, 0)) (by (with_reducible repeat (first | refine zf ?_ _ | refine zh ?_ | refine zg ?_ _)); exact BK104.out) hg (Kd.R_ne HO116.out BK104.out (by decide))); have n1_ := zd.mk (hb); have n2_ := zd.mk (ho); clear BK104; clear HB; clear HO116; have BK104 := n0_; have HB := n1_; have HO119 := n2_; clear n0_ n1_ n2_; clear ho hb hg hat))
        go_roundg k2
        case measure => have := HJ1.out; have := HK2.out; omega
        case rel => exact ⟨(y117), (IntKind.i8.wrap (x4_2 + 1)), (by first | rfl | (simp; done) | (simp [*]; done)), H', ⟨by have := HJ1.out; have := HK2.out; omega⟩, ⟨by (with_reducible repeat (first | apply Kd.R_alloc | apply Kd.R_drewN | apply Kd.R_drew)); exact HO119.out⟩, ⟨by (with_reducible repeat (first | refine zf ?_ _ | refine zh ?_ | refine zg ?_ _)); exact BK104.out⟩, ⟨by repeat (first | (with_reducible first | exact HB.out | apply zc | apply za | apply zb | refine ze ?_ GE104.out) | exact HB.out)⟩⟩
       rw [if_neg c22] at H
       exact absurd H (by simp)
      rw [if_neg c17] at H
      exact absurd H (by simp)
     rw [if_neg c10] at H
     have c10b0 : decide (x4_2 < a0_0) = false := decide_eq_false c10
     clear c10
     obtain rfl := Option.some.inj H
     obtain ⟨y8_0, y8_1, y8_2, y8_3, z8_0, z8_1, z8_2, z8_3⟩ := cf4 BK104.out
     go_wp2
     go_ret
     exact ⟨_, by first | rfl | (simp [errW_none, errW_some] <;> rfl) | (simp [*, errW_none, errW_some] <;> rfl), by (with_reducible repeat (first | apply Kd.R_alloc | apply Kd.R_drewN | apply Kd.R_drew)); exact HO_3.out, by repeat (first | (with_reducible first | exact HB.out | apply zc | apply za | apply zb | refine ze ?_ GE104.out) | exact HB.out)⟩

end Go.Proofs.Ytmmonhpjjjdnjaa.U
