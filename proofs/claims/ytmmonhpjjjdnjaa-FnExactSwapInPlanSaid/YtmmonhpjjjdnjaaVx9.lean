-- Written by wip/tools/myprint.py.
import Derived.Test.YtmmonhpjjjdnjaaVx0
import Derived.Test.YtmmonhpjjjdnjaaLLoadV
import Derived.Test.YtmmonhpjjjdnjaaVx8
namespace Go.Proofs.Ytmmonhpjjjdnjaa.V
open Go.RowKit Go.Proofs.YtmmonhpjjjdnjaaW.PrintWords Go.Proofs.YtmmonhpjjjdnjaaW.PrintLast Go.Proofs.YtmmonhpjjjdnjaaW.PrintMore
attribute [local go_sem] zoa zqa zwa zva zia zga zra zpa
set_option linter.unusedVariables false
set_option linter.unusedSimpArgs false
def laws_eqNodeS.l0 : Nat → List (S54) → List (S54) → Int → Option (Bool)
 | 0, _, _, _ => none
 | k + 1, x0, x1, x5 => if x5 < (x0.length : Int) then (if 0 ≤ x5 then (if x5 < (x1.length : Int) then ((laws_eqNode.f k ((za x0 x5).f0.f0) ((za x0 x5).f0.f1) ((za x0 x5).f0.f2) ((za x0 x5).f0.f3) ((za x0 x5).f0.f4) ((za x0 x5).f0.f5) ((za x0 x5).f0.f6) ((za x0 x5).f0.f7) ((za x0 x5).f0.f8) ((za x0 x5).f0.f9) ((za x0 x5).f0.f10) ((za x0 x5).f0.f11) ((za x0 x5).f0.f12) ((za x0 x5).f0.f13) ((za x0 x5).f1.f0) ((za x0 x5).f1.f1) ((za x0 x5).f1.f2) ((za x0 x5).f2.f0) ((za x0 x5).f2.f1) ((za x0 x5).f3) ((za x1 x5).f0.f0) ((za x1 x5).f0.f1) ((za x1 x5).f0.f2) ((za x1 x5).f0.f3) ((za x1 x5).f0.f4) ((za x1 x5).f0.f5) ((za x1 x5).f0.f6) ((za x1 x5).f0.f7) ((za x1 x5).f0.f8) ((za x1 x5).f0.f9) ((za x1 x5).f0.f10) ((za x1 x5).f0.f11) ((za x1 x5).f0.f12) ((za x1 x5).f0.f13) ((za x1 x5).f1.f0) ((za x1 x5).f1.f1) ((za x1 x5).f1.f2) ((za x1 x5).f2.f0) ((za x1 x5).f2.f1) ((za x1 x5).f3)).bind fun t346 => (if t346 = true then (laws_eqNodeS.l0 k x0 x1 (wrap64 (x5 + 1))) else (some false))) else (none)) else (none)) else (some true)
def laws_eqNodeS.f (k : Nat) (l0 : List (S54)) (l1 : List (S54)) : Option (Bool) := if (l0.length : Int) = (l1.length : Int) then (laws_eqNodeS.l0 k l0 l1 0) else (some false)
def laws_eqNodeS.T6 : Bool × List (List Nat × List Nat) := (true, [([], []), ([], []), ([0, 1], [0, 1]), ([2], [2]), ([], []), ([], []), ([4, 5], [4, 5]), ([6], [6]), ([3, 7], [3, 7]), ([8], [8])])
def laws_eqNodeS.B6 : List Nat := [0, 0, 3, 7, 0, 0, 48, 112, 255, 511]
theorem laws_eqNodeS.tab6 : rtab .any (zse Try.f13 6) = laws_eqNodeS.T6 := by kernel_rfl
theorem laws_eqNodeS.bits6 : zzb laws_eqNodeS.T6.2 laws_eqNodeS.B6 = true := by kernel_rfl
set_option maxHeartbeats 8000000 in
set_option maxRecDepth 100000 in
theorem laws_eqNodeS.calls (k : Nat) (A0 : Option Addr) (c0 : Nat) (l0 : List (S54)) (A1 : Option Addr) (c1 : Nat) (l1 : List (S54)) (r : Bool) (w : World) (hr0 : Kd.C k54 w A0 l0.length l0) (hc0 : l0.length ≤ c0) (hr1 : Kd.C k54 w A1 l1.length l1) (hc1 : l1.length ≤ c1) (h : laws_eqNodeS.f k l0 l1 = some r) :
  Calls Try.prog 13 #[.slice A0 l0.length c0, .slice A1 l1.length c1] w fun e w' => e = .returned (.bool r) ∧ Below w.heap.size w w' := by
 have hu54 := Try.underlying54
 have HR0 := zc.mk hr0
 have HC0 := zc.mk hc0
 clear hr0 hc0
 have HR1 := zc.mk hr1
 have HC1 := zc.mk hc1
 clear hr1 hc1
 have HB := zc.mk (Below.refl w.heap.size w)
 have H : (if (l0.length : Int) = (l1.length : Int) then (laws_eqNodeS.l0 k l0 l1 0) else (some false)) = some r := h
 clear h
 by_cases c3 : (l0.length : Int) = (l1.length : Int)
 ·rw [if_pos c3] at H
  have c3b0 : ((l0.length : Int) == (l1.length : Int)) = true := beq_iff_eq.mpr c3
  have c3b1 : ((l0.length : Int) != (l1.length : Int)) = false := bne_eq_false_iff_eq.mpr c3
  have c3b2 : (l0.length == l1.length) = true := by first | simpa using c3 | (simp at c3 ⊢; omega)
  clear c3
  have H' := zc.mk H
  clear H
  go_enter Try.func13, Try.ntmps13
  go_wp2
  go_loopg [5] k (fun kq v5 w' => ∃ (x5_1 : Int), v5 = .int .i64 x5_1 ∧ zc (laws_eqNodeS.l0 kq l0 l1 x5_1 = some r) ∧ zc (kq ≤ k) ∧ zc (Below w.heap.size w w'))
  case atStart => exact ⟨(0), (by first | rfl | (simp; done) | (simp [*]; done)), H', ⟨Nat.le_refl _⟩, ⟨by repeat (first | (with_reducible first | exact HB.out | apply ze | apply zb | apply zd) | exact HB.out)⟩⟩
  case round =>
   clear H'
   try clear c1
   try clear p2
   try clear c3
   try clear c3b0
   try clear c3b1
   try clear c3b2
   obtain ⟨x5_1, rfl, HA, HK1, HB⟩ := hrel
   cases gk with
   | zero => exact absurd HA.out (by simp [laws_eqNodeS.l0])
   | succ k1 =>
    have H := HA.out
    clear HA
    simp only [laws_eqNodeS.l0] at H
    by_cases c4 : x5_1 < (l0.length : Int)
    ·rw [if_pos c4] at H
     have c4b0 : decide (x5_1 < (l0.length : Int)) = true := decide_eq_true c4
     clear c4
     by_cases c5 : 0 ≤ x5_1
     ·rw [if_pos c5] at H
      have c5b0 : decide (0 ≤ x5_1) = true := decide_eq_true c5
      clear c5
      by_cases c6 : x5_1 < (l1.length : Int)
      ·rw [if_pos c6] at H
       have c6b0 : decide (x5_1 < (l1.length : Int)) = true := decide_eq_true c6
       clear c6
       replace H := Option.bind_eq_some_iff.mp H
       obtain ⟨t346, A70, H⟩ := H
       replace H : (if t346 = true then (laws_eqNodeS.l0 k1 l0 l1 (wrap64 (x5_1 + 1))) else (some false)) = some r := H
       have A7 := zc.mk A70
       clear A70
       by_cases c8 : t346 = true
       ·subst c8
        have H1 : (laws_eqNodeS.l0 k1 l0 l1 (wrap64 (x5_1 + 1))) = some r := by rw [if_pos rfl] at H; exact H
        clear H
        have H := H1
        clear H1
        have H' := zc.mk H
        clear H
        try go_wp2
        have n0_ := zc.mk (zd HB.out)
        clear HB
        have HB := n0_
        clear n0_
        have p344 : 0 ≤ (x5_1 : Int) := od (by first | (with_reducible assumption) | assumption)
        have q344 : x5_1 < (l0.length : Int) := od (by first | (with_reducible assumption) | assumption)
        obtain ⟨ad344, e344, u1_0, u1_1, u1_2, u1_3, u1_4, u1_5, u1_6, u1_7, u1_8, u1_9, u1_10, u1_11, u1_12, u1_13, u1_14, u1_15, u1_16, u1_17, u1_18, u1_19, v1_0, v1_1, v1_2, v1_3, v1_4, v1_5, v1_6, v1_7, v1_8, v1_9, v1_10, v1_11, v1_12, v1_13, v1_14, v1_15, v1_16, v1_17, v1_18, v1_19⟩ := zcb HB.out HR0.out x5_1 p344 q344
        cases e344
        replace p344 := eq_true p344
        replace q344 := eq_true q344
        have p345 : 0 ≤ (x5_1 : Int) := od (by first | (with_reducible assumption) | assumption)
        have q345 : x5_1 < (l1.length : Int) := od (by first | (with_reducible assumption) | assumption)
        obtain ⟨ad345, e345, u2_0, u2_1, u2_2, u2_3, u2_4, u2_5, u2_6, u2_7, u2_8, u2_9, u2_10, u2_11, u2_12, u2_13, u2_14, u2_15, u2_16, u2_17, u2_18, u2_19, v2_0, v2_1, v2_2, v2_3, v2_4, v2_5, v2_6, v2_7, v2_8, v2_9, v2_10, v2_11, v2_12, v2_13, v2_14, v2_15, v2_16, v2_17, v2_18, v2_19⟩ := zcb HB.out HR1.out x5_1 p345 q345
        cases e345
        replace p345 := eq_true p345
        replace q345 := eq_true q345
        refine zjb (n := 10) (S := fun w' => EA w' (ad344.add ((x5_1).toNat * 20)) (za l0 x5_1) ((za l0 x5_1).f2.f1) ((za l0 x5_1).f3) (EA0 w' (ad345.add ((x5_1).toNat * 20)) (za l1 x5_1) ((za l1 x5_1).f2.f1) ((za l1 x5_1).f3))) (ds := []) (fm 10 0) (by kernel_rfl) rfl rfl ⟨(bc HB.out v1_0), (bc HB.out v1_1), (bc HB.out v1_2), (bc HB.out v1_3), (bc HB.out v1_4), (bc HB.out v1_5), (bc HB.out v1_6), (bc HB.out v1_7), (bc HB.out v1_8), (bc HB.out v1_9), (bc HB.out v1_10), (bc HB.out v1_11), (bc HB.out v1_12), (bc HB.out v1_13), (bc HB.out v1_14), (bc HB.out v1_15), (bc HB.out v1_16), (bc HB.out v1_17), (bc HB.out v1_18), (bc HB.out v1_19), (bc HB.out v2_0), (bc HB.out v2_1), (bc HB.out v2_2), (bc HB.out v2_3), (bc HB.out v2_4), (bc HB.out v2_5), (bc HB.out v2_6), (bc HB.out v2_7), (bc HB.out v2_8), (bc HB.out v2_9), (bc HB.out v2_10), (bc HB.out v2_11), (bc HB.out v2_12), (bc HB.out v2_13), (bc HB.out v2_14), (bc HB.out v2_15), (bc HB.out v2_16), (bc HB.out v2_17), (bc HB.out v2_18), (bc HB.out v2_19)⟩ (fun hHeld => ?_); refine zsa laws_eqNodeS.tab6 laws_eqNodeS.bits6 (fun HT_ HW_ => ?_)
        generalize wr.drew = w9 at HB u1_0 u1_1 u1_10 u1_11 u1_12 u1_13 u1_14 u1_15 u1_16 u1_17 u1_18 u1_19 u1_2 u1_3 u1_4 u1_5 u1_6 u1_7 u1_8 u1_9 u2_0 u2_1 u2_10 u2_11 u2_12 u2_13 u2_14 u2_15 u2_16 u2_17 u2_18 u2_19 u2_2 u2_3 u2_4 u2_5 u2_6 u2_7 u2_8 u2_9 hHeld ⊢
        refine pb 0 17 (fm 10 1) rfl rfl HT_.out (by kernel_rfl) pq (by rfl) (by intro w'; go_simp; with_reducible rfl) (by simp only [Act.put, ea, eb, ec, zm, zl]; rfl) ?_
        refine pb 1 18 (fm 10 2) rfl rfl HT_.out (by kernel_rfl) pq (by rfl) (by intro w'; go_simp; with_reducible rfl) (by simp only [Act.put, ea, eb, ec, zm, zl]; rfl) ?_
        refine pb 2 19 (fm 10 3) rfl rfl HT_.out (by kernel_rfl) pq (by rfl) (by intro w'; go_simp; with_reducible rfl) (by simp only [Act.put, ea, eb, ec, zm, zl]; rfl) ?_
        refine pb 4 21 #[T, T, T, F, T, F, F, F, F, F] rfl rfl HT_.out (by kernel_rfl) pq (by rfl) (by intro w'; go_simp; with_reducible rfl) (by simp only [Act.put, ea, eb, ec, zm, zl]; rfl) ?_
        refine pb 5 22 #[T, T, T, F, T, T, F, F, F, F] rfl rfl HT_.out (by kernel_rfl) pq (by rfl) (by intro w'; go_simp; with_reducible rfl) (by simp only [Act.put, ea, eb, ec, zm, zl]; rfl) ?_
        refine pb 6 23 #[T, T, T, F, T, T, T, F, F, F] rfl rfl HT_.out (by kernel_rfl) pq (by rfl) (by intro w'; go_simp; with_reducible rfl) (by simp only [Act.put, ea, eb, ec, zm, zl]; rfl) ?_
        refine take_ (i := 3) (N := some 20) (v := ?_) (a' := ?_) (fm 10 7) rfl rfl (zca HT_.out HW_.out (by kernel_rfl)) (fun _ _ _ h => h) (Or.inl ⟨by rfl, ?_⟩) hHeld ?_ ?_
        rotate_left
        ·rintro w' ⟨s0, s1, s2, s3, s4, s5, s6, s7, s8, s9, s10, s11, s12, s13, s14, s15, s16, s17, s18, s19, s20, s21, s22, s23, s24, s25, s26, s27, s28, s29, s30, s31, s32, s33, s34, s35, s36, s37, s38, s39⟩
         first | (refine zmb (x := ?ldx0_0) ?lda0_0 ?ldb0_0 hu54 ?ldc0_0 ?ldd0_0 s0 s1 s2 s3 s4 s5 s6 s7 s8 s9 s10 s11 s12 s13 s14 s15 s16 s17 s18 s19; (case lda0_0 => rfl); (case ldb0_0 => rfl); (case ldc0_0 => rfl); (case ldd0_0 => kernel_rfl)) | (refine zmb (x := ?ldx0_1) ?lda0_1 ?ldb0_1 hu54 ?ldc0_1 ?ldd0_1 s20 s21 s22 s23 s24 s25 s26 s27 s28 s29 s30 s31 s32 s33 s34 s35 s36 s37 s38 s39; (case lda0_1 => rfl); (case ldb0_1 => rfl); (case ldc0_1 => rfl); (case ldd0_1 => kernel_rfl))
        rotate_left
        ·simp only [Act.put, List.setIfInBounds_toArray, List.set_cons_zero, List.set_cons_succ, zm, zl]
         rfl
        refine take_ (i := 7) (N := some 24) (v := ?_) (a' := ?_) (fm 10 8) rfl rfl (zca HT_.out HW_.out (by kernel_rfl)) (fun _ _ _ h => h) (Or.inl ⟨by rfl, ?_⟩) hHeld ?_ ?_
        rotate_left
        ·rintro w' ⟨s0, s1, s2, s3, s4, s5, s6, s7, s8, s9, s10, s11, s12, s13, s14, s15, s16, s17, s18, s19, s20, s21, s22, s23, s24, s25, s26, s27, s28, s29, s30, s31, s32, s33, s34, s35, s36, s37, s38, s39⟩
         first | (refine zmb (x := ?ldx1_0) ?lda1_0 ?ldb1_0 hu54 ?ldc1_0 ?ldd1_0 s0 s1 s2 s3 s4 s5 s6 s7 s8 s9 s10 s11 s12 s13 s14 s15 s16 s17 s18 s19; (case lda1_0 => rfl); (case ldb1_0 => rfl); (case ldc1_0 => rfl); (case ldd1_0 => kernel_rfl)) | (refine zmb (x := ?ldx1_1) ?lda1_1 ?ldb1_1 hu54 ?ldc1_1 ?ldd1_1 s20 s21 s22 s23 s24 s25 s26 s27 s28 s29 s30 s31 s32 s33 s34 s35 s36 s37 s38 s39; (case lda1_1 => rfl); (case ldb1_1 => rfl); (case ldc1_1 => rfl); (case ldd1_1 => kernel_rfl))
        rotate_left
        ·simp only [Act.put, List.setIfInBounds_toArray, List.set_cons_zero, List.set_cons_succ, zm, zl]
         rfl
        refine one_ (i := 8) (N := some 25) (fm 10 9) rfl rfl (zhb HT_.out (by kernel_rfl)) (by decide) (fun K hK => ?_)
        refine goes_ Try.func32 (by kernel_rfl) rfl #[.agg #[.int .i8 ((za l0 x5_1).f0.f0), .int .i8 ((za l0 x5_1).f0.f1), .int .i8 ((za l0 x5_1).f0.f2), .int .i8 ((za l0 x5_1).f0.f3), .int .i8 ((za l0 x5_1).f0.f4), .int .i8 ((za l0 x5_1).f0.f5), .int .i8 ((za l0 x5_1).f0.f6), .int .i8 ((za l0 x5_1).f0.f7), .int .i8 ((za l0 x5_1).f0.f8), .int .i8 ((za l0 x5_1).f0.f9), .int .i8 ((za l0 x5_1).f0.f10), .int .i8 ((za l0 x5_1).f0.f11), .int .i8 ((za l0 x5_1).f0.f12), .int .i8 ((za l0 x5_1).f0.f13), .int .i16 ((za l0 x5_1).f1.f0), .int .i16 ((za l0 x5_1).f1.f1), .int .i16 ((za l0 x5_1).f1.f2), .int .i8 ((za l0 x5_1).f2.f0), .bool ((za l0 x5_1).f2.f1), .bool ((za l0 x5_1).f3)], .agg #[.int .i8 ((za l1 x5_1).f0.f0), .int .i8 ((za l1 x5_1).f0.f1), .int .i8 ((za l1 x5_1).f0.f2), .int .i8 ((za l1 x5_1).f0.f3), .int .i8 ((za l1 x5_1).f0.f4), .int .i8 ((za l1 x5_1).f0.f5), .int .i8 ((za l1 x5_1).f0.f6), .int .i8 ((za l1 x5_1).f0.f7), .int .i8 ((za l1 x5_1).f0.f8), .int .i8 ((za l1 x5_1).f0.f9), .int .i8 ((za l1 x5_1).f0.f10), .int .i8 ((za l1 x5_1).f0.f11), .int .i8 ((za l1 x5_1).f0.f12), .int .i8 ((za l1 x5_1).f0.f13), .int .i16 ((za l1 x5_1).f1.f0), .int .i16 ((za l1 x5_1).f1.f1), .int .i16 ((za l1 x5_1).f1.f2), .int .i8 ((za l1 x5_1).f2.f0), .bool ((za l1 x5_1).f2.f1), .bool ((za l1 x5_1).f3)]] (by rfl) rfl rfl (by (try simp only [List.map_toArray, List.map_cons, List.map_nil]); first | done | rfl | (simp only [List.length_drop, List.length_take]; rfl)) ?_
        with_reducible refine (laws_eqNode.calls k1 ((za l0 x5_1).f0.f0) ((za l0 x5_1).f0.f1) ((za l0 x5_1).f0.f2) ((za l0 x5_1).f0.f3) ((za l0 x5_1).f0.f4) ((za l0 x5_1).f0.f5) ((za l0 x5_1).f0.f6) ((za l0 x5_1).f0.f7) ((za l0 x5_1).f0.f8) ((za l0 x5_1).f0.f9) ((za l0 x5_1).f0.f10) ((za l0 x5_1).f0.f11) ((za l0 x5_1).f0.f12) ((za l0 x5_1).f0.f13) ((za l0 x5_1).f1.f0) ((za l0 x5_1).f1.f1) ((za l0 x5_1).f1.f2) ((za l0 x5_1).f2.f0) ((za l0 x5_1).f2.f1) ((za l0 x5_1).f3) ((za l1 x5_1).f0.f0) ((za l1 x5_1).f0.f1) ((za l1 x5_1).f0.f2) ((za l1 x5_1).f0.f3) ((za l1 x5_1).f0.f4) ((za l1 x5_1).f0.f5) ((za l1 x5_1).f0.f6) ((za l1 x5_1).f0.f7) ((za l1 x5_1).f0.f8) ((za l1 x5_1).f0.f9) ((za l1 x5_1).f0.f10) ((za l1 x5_1).f0.f11) ((za l1 x5_1).f0.f12) ((za l1 x5_1).f0.f13) ((za l1 x5_1).f1.f0) ((za l1 x5_1).f1.f1) ((za l1 x5_1).f1.f2) ((za l1 x5_1).f2.f0) ((za l1 x5_1).f2.f1) ((za l1 x5_1).f3) true _ A7.out).mono ?_
        rintro e w10 ⟨rfl, hb⟩
        refine ⟨_, rfl, ?_⟩
        have n0_ := zc.mk (zq (by repeat (first | (with_reducible first | exact HB.out | apply ze | apply zb | apply zd) | exact HB.out)) hb)
        clear HB
        have HB := n0_
        clear n0_
        (try clear hb)
        (try clear hb2)
        (try clear hk)
        (try clear hi)
        refine hK.out _ _ ⟨(bc HB.out v1_0), (bc HB.out v1_1), (bc HB.out v1_2), (bc HB.out v1_3), (bc HB.out v1_4), (bc HB.out v1_5), (bc HB.out v1_6), (bc HB.out v1_7), (bc HB.out v1_8), (bc HB.out v1_9), (bc HB.out v1_10), (bc HB.out v1_11), (bc HB.out v1_12), (bc HB.out v1_13), (bc HB.out v1_14), (bc HB.out v1_15), (bc HB.out v1_16), (bc HB.out v1_17), (bc HB.out v1_18), (bc HB.out v1_19), (bc HB.out v2_0), (bc HB.out v2_1), (bc HB.out v2_2), (bc HB.out v2_3), (bc HB.out v2_4), (bc HB.out v2_5), (bc HB.out v2_6), (bc HB.out v2_7), (bc HB.out v2_8), (bc HB.out v2_9), (bc HB.out v2_10), (bc HB.out v2_11), (bc HB.out v2_12), (bc HB.out v2_13), (bc HB.out v2_14), (bc HB.out v2_15), (bc HB.out v2_16), (bc HB.out v2_17), (bc HB.out v2_18), (bc HB.out v2_19)⟩ (fun hHeld => ?_)
        clear hK K
        refine norm_ (a' := ?_) ?_ ?_
        rotate_left
        ·show Act.put _ (some 25) _ = _
         simp only [Act.put, List.setIfInBounds_toArray, List.set_cons_zero, List.set_cons_succ, zm, zl]
         rfl
        refine pb 9 26 (fm 10 10) rfl rfl HT_.out (by kernel_rfl) pq (by rfl) (by intro w'; go_simp; with_reducible rfl) (by simp only [Act.put, ea, eb, ec, zm, zl]; rfl) ?_
        refine zac (zab HT_.out (by kernel_rfl)) ?_
        try go_wp2
        go_roundg k1
        case measure => have := HK1.out; omega
        case rel => exact ⟨(wrap64 (x5_1 + 1)), (by first | rfl | (simp; done) | (simp [*]; done)), H', ⟨by have := HK1.out; omega⟩, ⟨by repeat (first | (with_reducible first | exact HB.out | apply ze | apply zb | apply zd) | exact HB.out)⟩⟩
       replace c8 := Bool.eq_false_iff.mpr c8
       subst c8
       have H1 : (some false) = some r := by rw [if_neg (show ¬ (false = true) by decide)] at H; exact H
       clear H
       have H := H1
       clear H1
       obtain rfl := Option.some.inj H
       try go_wp2
       have n0_ := zc.mk (zd HB.out)
       clear HB
       have HB := n0_
       clear n0_
       have p344 : 0 ≤ (x5_1 : Int) := od (by first | (with_reducible assumption) | assumption)
       have q344 : x5_1 < (l0.length : Int) := od (by first | (with_reducible assumption) | assumption)
       obtain ⟨ad344, e344, u1_0, u1_1, u1_2, u1_3, u1_4, u1_5, u1_6, u1_7, u1_8, u1_9, u1_10, u1_11, u1_12, u1_13, u1_14, u1_15, u1_16, u1_17, u1_18, u1_19, v1_0, v1_1, v1_2, v1_3, v1_4, v1_5, v1_6, v1_7, v1_8, v1_9, v1_10, v1_11, v1_12, v1_13, v1_14, v1_15, v1_16, v1_17, v1_18, v1_19⟩ := zcb HB.out HR0.out x5_1 p344 q344
       cases e344
       replace p344 := eq_true p344
       replace q344 := eq_true q344
       have p345 : 0 ≤ (x5_1 : Int) := od (by first | (with_reducible assumption) | assumption)
       have q345 : x5_1 < (l1.length : Int) := od (by first | (with_reducible assumption) | assumption)
       obtain ⟨ad345, e345, u2_0, u2_1, u2_2, u2_3, u2_4, u2_5, u2_6, u2_7, u2_8, u2_9, u2_10, u2_11, u2_12, u2_13, u2_14, u2_15, u2_16, u2_17, u2_18, u2_19, v2_0, v2_1, v2_2, v2_3, v2_4, v2_5, v2_6, v2_7, v2_8, v2_9, v2_10, v2_11, v2_12, v2_13, v2_14, v2_15, v2_16, v2_17, v2_18, v2_19⟩ := zcb HB.out HR1.out x5_1 p345 q345
       cases e345
       replace p345 := eq_true p345
       replace q345 := eq_true q345
       refine zjb (n := 10) (S := fun w' => EA w' (ad344.add ((x5_1).toNat * 20)) (za l0 x5_1) ((za l0 x5_1).f2.f1) ((za l0 x5_1).f3) (EA0 w' (ad345.add ((x5_1).toNat * 20)) (za l1 x5_1) ((za l1 x5_1).f2.f1) ((za l1 x5_1).f3))) (ds := []) (fm 10 0) (by kernel_rfl) rfl rfl ⟨(bc HB.out v1_0), (bc HB.out v1_1), (bc HB.out v1_2), (bc HB.out v1_3), (bc HB.out v1_4), (bc HB.out v1_5), (bc HB.out v1_6), (bc HB.out v1_7), (bc HB.out v1_8), (bc HB.out v1_9), (bc HB.out v1_10), (bc HB.out v1_11), (bc HB.out v1_12), (bc HB.out v1_13), (bc HB.out v1_14), (bc HB.out v1_15), (bc HB.out v1_16), (bc HB.out v1_17), (bc HB.out v1_18), (bc HB.out v1_19), (bc HB.out v2_0), (bc HB.out v2_1), (bc HB.out v2_2), (bc HB.out v2_3), (bc HB.out v2_4), (bc HB.out v2_5), (bc HB.out v2_6), (bc HB.out v2_7), (bc HB.out v2_8), (bc HB.out v2_9), (bc HB.out v2_10), (bc HB.out v2_11), (bc HB.out v2_12), (bc HB.out v2_13), (bc HB.out v2_14), (bc HB.out v2_15), (bc HB.out v2_16), (bc HB.out v2_17), (bc HB.out v2_18), (bc HB.out v2_19)⟩ (fun hHeld => ?_); refine zsa laws_eqNodeS.tab6 laws_eqNodeS.bits6 (fun HT_ HW_ => ?_)
       generalize wr.drew = w11 at HB u1_0 u1_1 u1_10 u1_11 u1_12 u1_13 u1_14 u1_15 u1_16 u1_17 u1_18 u1_19 u1_2 u1_3 u1_4 u1_5 u1_6 u1_7 u1_8 u1_9 u2_0 u2_1 u2_10 u2_11 u2_12 u2_13 u2_14 u2_15 u2_16 u2_17 u2_18 u2_19 u2_2 u2_3 u2_4 u2_5 u2_6 u2_7 u2_8 u2_9 hHeld ⊢
       refine pb 0 17 (fm 10 1) rfl rfl HT_.out (by kernel_rfl) pq (by rfl) (by intro w'; go_simp; with_reducible rfl) (by simp only [Act.put, ea, eb, ec, zm, zl]; rfl) ?_
       refine pb 1 18 (fm 10 2) rfl rfl HT_.out (by kernel_rfl) pq (by rfl) (by intro w'; go_simp; with_reducible rfl) (by simp only [Act.put, ea, eb, ec, zm, zl]; rfl) ?_
       refine pb 2 19 (fm 10 3) rfl rfl HT_.out (by kernel_rfl) pq (by rfl) (by intro w'; go_simp; with_reducible rfl) (by simp only [Act.put, ea, eb, ec, zm, zl]; rfl) ?_
       refine pb 4 21 #[T, T, T, F, T, F, F, F, F, F] rfl rfl HT_.out (by kernel_rfl) pq (by rfl) (by intro w'; go_simp; with_reducible rfl) (by simp only [Act.put, ea, eb, ec, zm, zl]; rfl) ?_
       refine pb 5 22 #[T, T, T, F, T, T, F, F, F, F] rfl rfl HT_.out (by kernel_rfl) pq (by rfl) (by intro w'; go_simp; with_reducible rfl) (by simp only [Act.put, ea, eb, ec, zm, zl]; rfl) ?_
       refine pb 6 23 #[T, T, T, F, T, T, T, F, F, F] rfl rfl HT_.out (by kernel_rfl) pq (by rfl) (by intro w'; go_simp; with_reducible rfl) (by simp only [Act.put, ea, eb, ec, zm, zl]; rfl) ?_
       refine take_ (i := 3) (N := some 20) (v := ?_) (a' := ?_) (fm 10 7) rfl rfl (zca HT_.out HW_.out (by kernel_rfl)) (fun _ _ _ h => h) (Or.inl ⟨by rfl, ?_⟩) hHeld ?_ ?_
       rotate_left
       ·rintro w' ⟨s0, s1, s2, s3, s4, s5, s6, s7, s8, s9, s10, s11, s12, s13, s14, s15, s16, s17, s18, s19, s20, s21, s22, s23, s24, s25, s26, s27, s28, s29, s30, s31, s32, s33, s34, s35, s36, s37, s38, s39⟩
        first | (refine zmb (x := ?ldx2_0) ?lda2_0 ?ldb2_0 hu54 ?ldc2_0 ?ldd2_0 s0 s1 s2 s3 s4 s5 s6 s7 s8 s9 s10 s11 s12 s13 s14 s15 s16 s17 s18 s19; (case lda2_0 => rfl); (case ldb2_0 => rfl); (case ldc2_0 => rfl); (case ldd2_0 => kernel_rfl)) | (refine zmb (x := ?ldx2_1) ?lda2_1 ?ldb2_1 hu54 ?ldc2_1 ?ldd2_1 s20 s21 s22 s23 s24 s25 s26 s27 s28 s29 s30 s31 s32 s33 s34 s35 s36 s37 s38 s39; (case lda2_1 => rfl); (case ldb2_1 => rfl); (case ldc2_1 => rfl); (case ldd2_1 => kernel_rfl))
       rotate_left
       ·simp only [Act.put, List.setIfInBounds_toArray, List.set_cons_zero, List.set_cons_succ, zm, zl]
        rfl
       refine take_ (i := 7) (N := some 24) (v := ?_) (a' := ?_) (fm 10 8) rfl rfl (zca HT_.out HW_.out (by kernel_rfl)) (fun _ _ _ h => h) (Or.inl ⟨by rfl, ?_⟩) hHeld ?_ ?_
       rotate_left
       ·rintro w' ⟨s0, s1, s2, s3, s4, s5, s6, s7, s8, s9, s10, s11, s12, s13, s14, s15, s16, s17, s18, s19, s20, s21, s22, s23, s24, s25, s26, s27, s28, s29, s30, s31, s32, s33, s34, s35, s36, s37, s38, s39⟩
        first | (refine zmb (x := ?ldx3_0) ?lda3_0 ?ldb3_0 hu54 ?ldc3_0 ?ldd3_0 s0 s1 s2 s3 s4 s5 s6 s7 s8 s9 s10 s11 s12 s13 s14 s15 s16 s17 s18 s19; (case lda3_0 => rfl); (case ldb3_0 => rfl); (case ldc3_0 => rfl); (case ldd3_0 => kernel_rfl)) | (refine zmb (x := ?ldx3_1) ?lda3_1 ?ldb3_1 hu54 ?ldc3_1 ?ldd3_1 s20 s21 s22 s23 s24 s25 s26 s27 s28 s29 s30 s31 s32 s33 s34 s35 s36 s37 s38 s39; (case lda3_1 => rfl); (case ldb3_1 => rfl); (case ldc3_1 => rfl); (case ldd3_1 => kernel_rfl))
       rotate_left
       ·simp only [Act.put, List.setIfInBounds_toArray, List.set_cons_zero, List.set_cons_succ, zm, zl]
        rfl
       refine one_ (i := 8) (N := some 25) (fm 10 9) rfl rfl (zhb HT_.out (by kernel_rfl)) (by decide) (fun K hK => ?_)
       refine goes_ Try.func32 (by kernel_rfl) rfl #[.agg #[.int .i8 ((za l0 x5_1).f0.f0), .int .i8 ((za l0 x5_1).f0.f1), .int .i8 ((za l0 x5_1).f0.f2), .int .i8 ((za l0 x5_1).f0.f3), .int .i8 ((za l0 x5_1).f0.f4), .int .i8 ((za l0 x5_1).f0.f5), .int .i8 ((za l0 x5_1).f0.f6), .int .i8 ((za l0 x5_1).f0.f7), .int .i8 ((za l0 x5_1).f0.f8), .int .i8 ((za l0 x5_1).f0.f9), .int .i8 ((za l0 x5_1).f0.f10), .int .i8 ((za l0 x5_1).f0.f11), .int .i8 ((za l0 x5_1).f0.f12), .int .i8 ((za l0 x5_1).f0.f13), .int .i16 ((za l0 x5_1).f1.f0), .int .i16 ((za l0 x5_1).f1.f1), .int .i16 ((za l0 x5_1).f1.f2), .int .i8 ((za l0 x5_1).f2.f0), .bool ((za l0 x5_1).f2.f1), .bool ((za l0 x5_1).f3)], .agg #[.int .i8 ((za l1 x5_1).f0.f0), .int .i8 ((za l1 x5_1).f0.f1), .int .i8 ((za l1 x5_1).f0.f2), .int .i8 ((za l1 x5_1).f0.f3), .int .i8 ((za l1 x5_1).f0.f4), .int .i8 ((za l1 x5_1).f0.f5), .int .i8 ((za l1 x5_1).f0.f6), .int .i8 ((za l1 x5_1).f0.f7), .int .i8 ((za l1 x5_1).f0.f8), .int .i8 ((za l1 x5_1).f0.f9), .int .i8 ((za l1 x5_1).f0.f10), .int .i8 ((za l1 x5_1).f0.f11), .int .i8 ((za l1 x5_1).f0.f12), .int .i8 ((za l1 x5_1).f0.f13), .int .i16 ((za l1 x5_1).f1.f0), .int .i16 ((za l1 x5_1).f1.f1), .int .i16 ((za l1 x5_1).f1.f2), .int .i8 ((za l1 x5_1).f2.f0), .bool ((za l1 x5_1).f2.f1), .bool ((za l1 x5_1).f3)]] (by rfl) rfl rfl (by (try simp only [List.map_toArray, List.map_cons, List.map_nil]); first | done | rfl | (simp only [List.length_drop, List.length_take]; rfl)) ?_
       with_reducible refine (laws_eqNode.calls k1 ((za l0 x5_1).f0.f0) ((za l0 x5_1).f0.f1) ((za l0 x5_1).f0.f2) ((za l0 x5_1).f0.f3) ((za l0 x5_1).f0.f4) ((za l0 x5_1).f0.f5) ((za l0 x5_1).f0.f6) ((za l0 x5_1).f0.f7) ((za l0 x5_1).f0.f8) ((za l0 x5_1).f0.f9) ((za l0 x5_1).f0.f10) ((za l0 x5_1).f0.f11) ((za l0 x5_1).f0.f12) ((za l0 x5_1).f0.f13) ((za l0 x5_1).f1.f0) ((za l0 x5_1).f1.f1) ((za l0 x5_1).f1.f2) ((za l0 x5_1).f2.f0) ((za l0 x5_1).f2.f1) ((za l0 x5_1).f3) ((za l1 x5_1).f0.f0) ((za l1 x5_1).f0.f1) ((za l1 x5_1).f0.f2) ((za l1 x5_1).f0.f3) ((za l1 x5_1).f0.f4) ((za l1 x5_1).f0.f5) ((za l1 x5_1).f0.f6) ((za l1 x5_1).f0.f7) ((za l1 x5_1).f0.f8) ((za l1 x5_1).f0.f9) ((za l1 x5_1).f0.f10) ((za l1 x5_1).f0.f11) ((za l1 x5_1).f0.f12) ((za l1 x5_1).f0.f13) ((za l1 x5_1).f1.f0) ((za l1 x5_1).f1.f1) ((za l1 x5_1).f1.f2) ((za l1 x5_1).f2.f0) ((za l1 x5_1).f2.f1) ((za l1 x5_1).f3) false _ A7.out).mono ?_
       rintro e w12 ⟨rfl, hb⟩
       refine ⟨_, rfl, ?_⟩
       have n0_ := zc.mk (zq (by repeat (first | (with_reducible first | exact HB.out | apply ze | apply zb | apply zd) | exact HB.out)) hb)
       clear HB
       have HB := n0_
       clear n0_
       (try clear hb)
       (try clear hb2)
       (try clear hk)
       (try clear hi)
       refine hK.out _ _ ⟨(bc HB.out v1_0), (bc HB.out v1_1), (bc HB.out v1_2), (bc HB.out v1_3), (bc HB.out v1_4), (bc HB.out v1_5), (bc HB.out v1_6), (bc HB.out v1_7), (bc HB.out v1_8), (bc HB.out v1_9), (bc HB.out v1_10), (bc HB.out v1_11), (bc HB.out v1_12), (bc HB.out v1_13), (bc HB.out v1_14), (bc HB.out v1_15), (bc HB.out v1_16), (bc HB.out v1_17), (bc HB.out v1_18), (bc HB.out v1_19), (bc HB.out v2_0), (bc HB.out v2_1), (bc HB.out v2_2), (bc HB.out v2_3), (bc HB.out v2_4), (bc HB.out v2_5), (bc HB.out v2_6), (bc HB.out v2_7), (bc HB.out v2_8), (bc HB.out v2_9), (bc HB.out v2_10), (bc HB.out v2_11), (bc HB.out v2_12), (bc HB.out v2_13), (bc HB.out v2_14), (bc HB.out v2_15), (bc HB.out v2_16), (bc HB.out v2_17), (bc HB.out v2_18), (bc HB.out v2_19)⟩ (fun hHeld => ?_)
       clear hK K
       refine norm_ (a' := ?_) ?_ ?_
       rotate_left
       ·show Act.put _ (some 25) _ = _
        simp only [Act.put, List.setIfInBounds_toArray, List.set_cons_zero, List.set_cons_succ, zm, zl]
        rfl
       refine pb 9 26 (fm 10 10) rfl rfl HT_.out (by kernel_rfl) pq (by rfl) (by intro w'; go_simp; with_reducible rfl) (by simp only [Act.put, ea, eb, ec, zm, zl]; rfl) ?_
       refine zac (zab HT_.out (by kernel_rfl)) ?_
       try go_wp2
       go_ret
       exact ⟨by first | rfl | (simp [zj, zk] <;> rfl) | (simp [*, zj, zk] <;> rfl), by repeat (first | (with_reducible first | exact HB.out | apply ze | apply zb | apply zd) | exact HB.out)⟩
      rw [if_neg c6] at H
      exact absurd H (by simp)
     rw [if_neg c5] at H
     exact absurd H (by simp)
    rw [if_neg c4] at H
    have c4b0 : decide (x5_1 < (l0.length : Int)) = false := decide_eq_false c4
    clear c4
    obtain rfl := Option.some.inj H
    go_wp2
    go_ret
    exact ⟨by first | rfl | (simp [zj, zk] <;> rfl) | (simp [*, zj, zk] <;> rfl), by repeat (first | (with_reducible first | exact HB.out | apply ze | apply zb | apply zd) | exact HB.out)⟩
 rw [if_neg c3] at H
 have c3b0 : ((l0.length : Int) == (l1.length : Int)) = false := beq_eq_false_iff_ne.mpr c3
 have c3b1 : ((l0.length : Int) != (l1.length : Int)) = true := bne_iff_ne.mpr c3
 have c3b2 : (l0.length == l1.length) = false := by first | simpa using c3 | (simp at c3 ⊢; omega)
 obtain rfl := Option.some.inj H
 go_enter Try.func13, Try.ntmps13
 go_wp2
 go_ret
 exact ⟨by first | rfl | (simp [zj, zk] <;> rfl) | (simp [*, zj, zk] <;> rfl), by repeat (first | (with_reducible first | exact HB.out | apply ze | apply zb | apply zd) | exact HB.out)⟩
end Go.Proofs.Ytmmonhpjjjdnjaa.V
