-- Written by wip/find/mk.py, a program of this session.
import Derived.Test.YtgcbhknpfpgffaaLFstC
import Derived.Test.YtgcbhknpfpgffaaCx2
import Derived.Test.YtgcbhknpfpgffaaCx1
namespace Go.Proofs.Ytgcbhknpfpgffaa.C
open Go.RowKit Go.Proofs.YtgcbhknpfpgffaaW.PrintWords Go.Proofs.YtgcbhknpfpgffaaW.PrintLast Go.Proofs.YtgcbhknpfpgffaaW.PrintMore
attribute [local go_sem] zdb zcb zkb zjb zva zwa zbb zab   -- for this text's walks alone
set_option linter.unusedVariables false
set_option linter.unusedSimpArgs false

def spec_l06Finder_can.j0 (C : CT) (K : Nat) : Nat → Int → Bool → List Int → Int → Int → Int → Int → Int → Option (Bool × List Int)
 | 0, _, _, _, _, _, _, _, _ => none
 | k + 1, x2, x27, x1000, x1001, x125000, x125001, x125002, x125003 => if x27 = true then (some (false, x1000)) else (if 0 ≤ (wrap64 ((wrap64 ((wrap64 ((wrap64 ((wrap64 ((wrap64 ((wrap64 ((wrap64 (x125000 * 9)) + x125001)) * 9)) + x125002)) * 9)) + x125003)) * 21)) + x2)) then (if (wrap64 ((wrap64 ((wrap64 ((wrap64 ((wrap64 ((wrap64 ((wrap64 ((wrap64 (x125000 * 9)) + x125001)) * 9)) + x125002)) * 9)) + x125003)) * 21)) + x2)) < 137781 then (if rd x1000 (wrap64 ((wrap64 ((wrap64 ((wrap64 ((wrap64 ((wrap64 ((wrap64 ((wrap64 (x125000 * 9)) + x125001)) * 9)) + x125002)) * 9)) + x125003)) * 21)) + x2)) = 0 then ((spec_l06Finder_first.f C K (wr x1000 (wrap64 ((wrap64 ((wrap64 ((wrap64 ((wrap64 ((wrap64 ((wrap64 ((wrap64 (x125000 * 9)) + x125001)) * 9)) + x125002)) * 9)) + x125003)) * 21)) + x2)) 1) x1001 x125000 x125001 x125002 x125003 x2).bind fun bt => (if bt.2.2.2.2.1 = true then (some ((rd (wr bt.2.2.2.2.2 (wrap64 ((wrap64 ((wrap64 ((wrap64 ((wrap64 ((wrap64 ((wrap64 ((wrap64 (x125000 * 9)) + x125001)) * 9)) + x125002)) * 9)) + x125003)) * 21)) + x2)) 2) (wrap64 ((wrap64 ((wrap64 ((wrap64 ((wrap64 ((wrap64 ((wrap64 ((wrap64 (x125000 * 9)) + x125001)) * 9)) + x125002)) * 9)) + x125003)) * 21)) + x2)) == 2), wr bt.2.2.2.2.2 (wrap64 ((wrap64 ((wrap64 ((wrap64 ((wrap64 ((wrap64 ((wrap64 ((wrap64 (x125000 * 9)) + x125001)) * 9)) + x125002)) * 9)) + x125003)) * 21)) + x2)) 2)) else (some ((rd bt.2.2.2.2.2 (wrap64 ((wrap64 ((wrap64 ((wrap64 ((wrap64 ((wrap64 ((wrap64 ((wrap64 (x125000 * 9)) + x125001)) * 9)) + x125002)) * 9)) + x125003)) * 21)) + x2)) == 2), bt.2.2.2.2.2)))) else (some ((rd x1000 (wrap64 ((wrap64 ((wrap64 ((wrap64 ((wrap64 ((wrap64 ((wrap64 ((wrap64 (x125000 * 9)) + x125001)) * 9)) + x125002)) * 9)) + x125003)) * 21)) + x2)) == 2), x1000))) else (none)) else (none))
def spec_l06Finder_can.f (C : CT) (K k : Nat) (s0_0 : List Int) (s0_1 : Int) (a1_0 : Int) (a1_1 : Int) (a1_2 : Int) (a1_3 : Int) (a2 : Int) : Option (Bool × List Int) := (spec_l06Total.f a1_0 a1_1 a1_2 a1_3).bind fun t125 => (if t125 ≤ 1 then (some (true, s0_0)) else (if a2 ≤ 0 then (spec_l06Finder_can.j0 C K k a2 true s0_0 s0_1 a1_0 a1_1 a1_2 a1_3) else ((spec_l06Weight.f k s0_1 a1_0 a1_1 a1_2 a1_3 a2).bind fun t126 => (if 0 ≤ (IntKind.u64.wrap (a2)) then (spec_l06Finder_can.j0 C K k a2 (decide (t126 > (shl .i64 1 (IntKind.u64.wrap (a2))))) s0_0 s0_1 a1_0 a1_1 a1_2 a1_3) else (none)))))
def spec_l06Finder_can.T3 : Bool × List (List Nat × List Nat) := (true, [([], []), ([0], [0]), ([1], [1]), ([2], [2]), ([3, 2], [2, 3]), ([4, 2], [2, 4]), ([5, 2], [2, 5]), ([2], [2]), ([2], [2]), ([6, 7, 8, 2, 2], [2, 6, 7, 8]), ([2], [2]), ([10, 2], [2, 10]), ([11, 2], [2, 11]), ([9, 12, 2], [2, 9, 12]), ([2, 13], [2, 13])])
def spec_l06Finder_can.B3 : List Nat := [0, 1, 3, 7, 15, 31, 63, 7, 7, 511, 7, 1031, 3079, 8191, 16383]
theorem spec_l06Finder_can.tab3 : rtab .any (zzc Try.f8 3) = spec_l06Finder_can.T3 := by kernel_rfl
theorem spec_l06Finder_can.bits3 : znb spec_l06Finder_can.T3.2 spec_l06Finder_can.B3 = true := by kernel_rfl
set_option maxHeartbeats 8000000 in
set_option maxRecDepth 100000 in
theorem spec_l06Finder_can.calls (C : CT) (K k : Nat) (p0 g : Nat) (s0_0 : List Int) (s0_1 : Int) (a1_0 : Int) (a1_1 : Int) (a1_2 : Int) (a1_3 : Int) (a2 : Int) (r1 : Bool) (r2 : List Int) (w0 w : World) (HCAN : CanOK C (wrap64 (a2 - 1))) (hI : IsF p0 w0 w g s0_0 s0_1) (hB : Below w0.heap.size w0 w) (h : spec_l06Finder_can.f C K k s0_0 s0_1 a1_0 a1_1 a1_2 a1_3 a2 = some (r1, r2)) :
  Calls Try.prog 8 #[.pointer (some ⟨p0, 0, none⟩), .agg #[.int .i64 a1_0, .int .i64 a1_1, .int .i64 a1_2, .int .i64 a1_3], .int .i64 a2] w fun e w' => e = .returned (.bool r1) ∧ IsF p0 w0 w' g r2 s0_1 ∧ Below w0.heap.size w0 w' ∧ zm w w' g none := by
 have hu25 := Try.underlying25
 have HI0 := zg.mk hI
 have HP := zg.mk hI.ltp
 have HK := zg.mk (zm.refl w g none)
 have HL := zg.mk hB.size
 clear hI
 have HW0 := zg.mk hB.size
 have HB := zg.mk hB
 clear hB
 have H : ((spec_l06Total.f a1_0 a1_1 a1_2 a1_3).bind fun t125 => (if t125 ≤ 1 then (some (true, s0_0)) else (if a2 ≤ 0 then (spec_l06Finder_can.j0 C K k a2 true s0_0 s0_1 a1_0 a1_1 a1_2 a1_3) else ((spec_l06Weight.f k s0_1 a1_0 a1_1 a1_2 a1_3 a2).bind fun t126 => (if 0 ≤ (IntKind.u64.wrap (a2)) then (spec_l06Finder_can.j0 C K k a2 (decide (t126 > (shl .i64 1 (IntKind.u64.wrap (a2))))) s0_0 s0_1 a1_0 a1_1 a1_2 a1_3) else (none)))))) = some (r1, r2) := h
 clear h
 replace H := Option.bind_eq_some_iff.mp H
 obtain ⟨t125, A40, H⟩ := H
 replace H : (if t125 ≤ 1 then (some (true, s0_0)) else (if a2 ≤ 0 then (spec_l06Finder_can.j0 C K k a2 true s0_0 s0_1 a1_0 a1_1 a1_2 a1_3) else ((spec_l06Weight.f k s0_1 a1_0 a1_1 a1_2 a1_3 a2).bind fun t126 => (if 0 ≤ (IntKind.u64.wrap (a2)) then (spec_l06Finder_can.j0 C K k a2 (decide (t126 > (shl .i64 1 (IntKind.u64.wrap (a2))))) s0_0 s0_1 a1_0 a1_1 a1_2 a1_3) else (none))))) = some (r1, r2) := H
 have A4 := zg.mk A40
 clear A40
 by_cases c5 : t125 ≤ 1
 ·rw [if_pos c5] at H
  have c5b0 : decide (t125 ≤ 1) = true := decide_eq_true c5
  clear c5
  simp only [Option.some.injEq, Prod.mk.injEq] at H
  obtain ⟨rfl, rfl⟩ := H
  go_enter Try.func8, Try.ntmps8
  go_wp2_with (first | ((with_reducible refine zga (N := 4) rfl ?_); refine zia ?hg (N := 4) ?hd (cs := #[.int .i64 a1_0, .int .i64 a1_1, .int .i64 a1_2, .int .i64 a1_3]) (t := 25) ?hr ?_; (case hd => rfl); (case hg => rfl); (case hr => first | (go_simp; done) | (go_simp; rfl)); intro gb124 hg w6 hbox hb; have n0_ := zg.mk (IsF.below (by repeat (first | (with_reducible first | exact HI0.out | apply IsF.alloc | apply IsF.drewN | apply IsF.drew) | exact HI0.out)) hb); have n1_ := zg.mk (zm.trans (by repeat (first | (with_reducible first | exact HK.out | apply zm.set_ | apply zr | apply zt | apply zs) | exact HK.out)) (zm.of_below hb g none) (.inl rfl)); have n2_ := zg.mk (zx (by repeat (first | (with_reducible first | exact HB.out | apply zq | apply zn | apply zo | refine zi ?_ (IsF.ge HI0.out)) | exact HB.out)) hb); have n3_ := zg.mk (hbox); have n4_ := zg.mk ((by rw [hg]; exact (zfa (w := w) (g := g) (row := none) (by repeat (first | (with_reducible first | exact HK.out | apply zm.set_ | apply zr | apply zt | apply zs) | exact HK.out))) : w.heap.size ≤ gb124)); have n5_ := zg.mk ((Nat.le_trans HW0.out (by rw [hg]; exact (zfa (w := w) (g := g) (row := none) (by repeat (first | (with_reducible first | exact HK.out | apply zm.set_ | apply zr | apply zt | apply zs) | exact HK.out))) : w.heap.size ≤ gb124) : w0.heap.size ≤ gb124)); have n6_ := zg.mk ((by rw [hg]; exact Nat.ne_of_lt (IsF.lt (show IsF p0 w0 _ g s0_0 s0_1 from by repeat (first | (with_reducible first | exact HI0.out | apply IsF.alloc | apply IsF.drewN | apply IsF.drew) | exact HI0.out))) : g ≠ gb124)); have n7_ := zg.mk ((by rw [hg]; exact Nat.ne_of_gt (IsF.lt (show IsF p0 w0 _ g s0_0 s0_1 from by repeat (first | (with_reducible first | exact HI0.out | apply IsF.alloc | apply IsF.drewN | apply IsF.drew) | exact HI0.out))) : gb124 ≠ g)); clear HI0; clear HK; clear HB; have HI0 := n0_; have HK := n1_; have HB := n2_; have BK124 := n3_; have GW124 := n4_; have GE124 := n5_; have NB0_124 := n6_; have NB124_0 := n7_; clear n0_ n1_ n2_ n3_ n4_ n5_ n6_ n7_; clear hb hbox hg; have hnb7 := NB124_0.out; have hnc7 := NB0_124.out; have hcz8_0 : w6.cell? ⟨gb124, 0, none⟩ = some (.int .i64 a1_0) := (zh BK124.out 0).trans rfl; have hcz8_1 : w6.cell? ⟨gb124, 1, none⟩ = some (.int .i64 a1_1) := (zh BK124.out 1).trans rfl; have hcz8_2 : w6.cell? ⟨gb124, 2, none⟩ = some (.int .i64 a1_2) := (zh BK124.out 2).trans rfl; have hcz8_3 : w6.cell? ⟨gb124, 3, none⟩ = some (.int .i64 a1_3) := (zh BK124.out 3).trans rfl; have hfz8_0 := zj BK124.out 0; have hfz8_1 := zj BK124.out 1; have hfz8_2 := zj BK124.out 2; have hfz8_3 := zj BK124.out 3) | ((with_reducible refine zha (f := 13) rfl ?_); refine zxb (some 11) rfl rfl Try.func13 (by kernel_rfl) rfl #[.agg #[.int .i64 a1_0, .int .i64 a1_1, .int .i64 a1_2, .int .i64 a1_3]] rfl (by (try simp only [List.map_toArray, List.map_cons, List.map_nil]); first | done | rfl | (simp only [List.length_drop, List.length_take]; rfl)) ?_; (with_reducible refine (spec_l06Total.calls a1_0 a1_1 a1_2 a1_3 t125 _ A4.out).mono ?_); rintro e w9 ⟨rfl, hb⟩; refine ⟨_, rfl, ?_⟩; have n0_ := zg.mk (IsF.below (by repeat (first | (with_reducible first | exact HI0.out | apply IsF.alloc | apply IsF.drewN | apply IsF.drew | refine IsF.far ?_ NB0_124.out (nelt HP.out GW124.out) _) | exact HI0.out)) hb); have n1_ := zg.mk (zz (g := gb124) (o := .cells #[.int .i64 a1_0, .int .i64 a1_1, .int .i64 a1_2, .int .i64 a1_3] 25 (0, 0)) (by (with_reducible repeat (first | refine ze ?_ _ | refine zf ?_ | refine za ?_ _)); exact BK124.out) hb); have n2_ := zg.mk (zm.trans (by repeat (first | (with_reducible first | exact HK.out | apply zm.set_ | apply zr | apply zt | apply zs | refine zl ?_ GW124.out _) | exact HK.out)) (zm.of_below hb g none) (.inl rfl)); have n3_ := zg.mk (zx (by repeat (first | (with_reducible first | exact HB.out | apply zq | apply zn | apply zo | refine zi ?_ (IsF.ge HI0.out) | refine zi ?_ GE124.out) | exact HB.out)) hb); clear HI0; clear BK124; clear HK; clear HB; have HI0 := n0_; have BK124 := n1_; have HK := n2_; have HB := n3_; clear n0_ n1_ n2_ n3_; (try clear hb); (try clear hb2); (try clear hk); (try clear hi)))
  go_ret
  exact ⟨by first | rfl | (simp [zca, zda] <;> rfl) | (simp [*, zca, zda] <;> rfl), by repeat (first | (with_reducible first | exact HI0.out | apply IsF.alloc | apply IsF.drewN | apply IsF.drew | refine IsF.far ?_ NB0_124.out (nelt HP.out GW124.out) _) | exact HI0.out), by repeat (first | (with_reducible first | exact HB.out | apply zq | apply zn | apply zo | refine zi ?_ (IsF.ge HI0.out) | refine zi ?_ GE124.out) | exact HB.out), by repeat (first | (with_reducible first | exact HK.out | apply zm.set_ | apply zr | apply zt | apply zs | refine zl ?_ GW124.out _) | exact HK.out)⟩
 ·rw [if_neg c5] at H
  have c5b0 : decide (t125 ≤ 1) = false := decide_eq_false c5
  clear c5
  have HC10 := zg.mk H
  clear H
  go_enter Try.func8, Try.ntmps8
  go_upto_region 3 with (first | ((with_reducible refine zga (N := 4) rfl ?_); refine zia ?hg (N := 4) ?hd (cs := #[.int .i64 a1_0, .int .i64 a1_1, .int .i64 a1_2, .int .i64 a1_3]) (t := 25) ?hr ?_; (case hd => rfl); (case hg => rfl); (case hr => first | (go_simp; done) | (go_simp; rfl)); intro gb124 hg w11 hbox hb; have n0_ := zg.mk (IsF.below (by repeat (first | (with_reducible first | exact HI0.out | apply IsF.alloc | apply IsF.drewN | apply IsF.drew) | exact HI0.out)) hb); have n1_ := zg.mk (zm.trans (by repeat (first | (with_reducible first | exact HK.out | apply zm.set_ | apply zr | apply zt | apply zs) | exact HK.out)) (zm.of_below hb g none) (.inl rfl)); have n2_ := zg.mk (zx (by repeat (first | (with_reducible first | exact HB.out | apply zq | apply zn | apply zo | refine zi ?_ (IsF.ge HI0.out)) | exact HB.out)) hb); have n3_ := zg.mk (hbox); have n4_ := zg.mk ((by rw [hg]; exact (zfa (w := w) (g := g) (row := none) (by repeat (first | (with_reducible first | exact HK.out | apply zm.set_ | apply zr | apply zt | apply zs) | exact HK.out))) : w.heap.size ≤ gb124)); have n5_ := zg.mk ((Nat.le_trans HW0.out (by rw [hg]; exact (zfa (w := w) (g := g) (row := none) (by repeat (first | (with_reducible first | exact HK.out | apply zm.set_ | apply zr | apply zt | apply zs) | exact HK.out))) : w.heap.size ≤ gb124) : w0.heap.size ≤ gb124)); have n6_ := zg.mk ((by rw [hg]; exact Nat.ne_of_lt (IsF.lt (show IsF p0 w0 _ g s0_0 s0_1 from by repeat (first | (with_reducible first | exact HI0.out | apply IsF.alloc | apply IsF.drewN | apply IsF.drew) | exact HI0.out))) : g ≠ gb124)); have n7_ := zg.mk ((by rw [hg]; exact Nat.ne_of_gt (IsF.lt (show IsF p0 w0 _ g s0_0 s0_1 from by repeat (first | (with_reducible first | exact HI0.out | apply IsF.alloc | apply IsF.drewN | apply IsF.drew) | exact HI0.out))) : gb124 ≠ g)); clear HI0; clear HK; clear HB; have HI0 := n0_; have HK := n1_; have HB := n2_; have BK124 := n3_; have GW124 := n4_; have GE124 := n5_; have NB0_124 := n6_; have NB124_0 := n7_; clear n0_ n1_ n2_ n3_ n4_ n5_ n6_ n7_; clear hb hbox hg; have hnb12 := NB124_0.out; have hnc12 := NB0_124.out; have hcz13_0 : w11.cell? ⟨gb124, 0, none⟩ = some (.int .i64 a1_0) := (zh BK124.out 0).trans rfl; have hcz13_1 : w11.cell? ⟨gb124, 1, none⟩ = some (.int .i64 a1_1) := (zh BK124.out 1).trans rfl; have hcz13_2 : w11.cell? ⟨gb124, 2, none⟩ = some (.int .i64 a1_2) := (zh BK124.out 2).trans rfl; have hcz13_3 : w11.cell? ⟨gb124, 3, none⟩ = some (.int .i64 a1_3) := (zh BK124.out 3).trans rfl; have hfz13_0 := zj BK124.out 0; have hfz13_1 := zj BK124.out 1; have hfz13_2 := zj BK124.out 2; have hfz13_3 := zj BK124.out 3) | ((with_reducible refine zha (f := 13) rfl ?_); refine zxb (some 11) rfl rfl Try.func13 (by kernel_rfl) rfl #[.agg #[.int .i64 a1_0, .int .i64 a1_1, .int .i64 a1_2, .int .i64 a1_3]] rfl (by (try simp only [List.map_toArray, List.map_cons, List.map_nil]); first | done | rfl | (simp only [List.length_drop, List.length_take]; rfl)) ?_; (with_reducible refine (spec_l06Total.calls a1_0 a1_1 a1_2 a1_3 t125 _ A4.out).mono ?_); rintro e w14 ⟨rfl, hb⟩; refine ⟨_, rfl, ?_⟩; have n0_ := zg.mk (IsF.below (by repeat (first | (with_reducible first | exact HI0.out | apply IsF.alloc | apply IsF.drewN | apply IsF.drew | refine IsF.far ?_ NB0_124.out (nelt HP.out GW124.out) _) | exact HI0.out)) hb); have n1_ := zg.mk (zz (g := gb124) (o := .cells #[.int .i64 a1_0, .int .i64 a1_1, .int .i64 a1_2, .int .i64 a1_3] 25 (0, 0)) (by (with_reducible repeat (first | refine ze ?_ _ | refine zf ?_ | refine za ?_ _)); exact BK124.out) hb); have n2_ := zg.mk (zm.trans (by repeat (first | (with_reducible first | exact HK.out | apply zm.set_ | apply zr | apply zt | apply zs | refine zl ?_ GW124.out _) | exact HK.out)) (zm.of_below hb g none) (.inl rfl)); have n3_ := zg.mk (zx (by repeat (first | (with_reducible first | exact HB.out | apply zq | apply zn | apply zo | refine zi ?_ (IsF.ge HI0.out) | refine zi ?_ GE124.out) | exact HB.out)) hb); clear HI0; clear BK124; clear HK; clear HB; have HI0 := n0_; have BK124 := n1_; have HK := n2_; have HB := n3_; clear n0_ n1_ n2_ n3_; (try clear hb); (try clear hb2); (try clear hk); (try clear hi)))
  (try simp only [Act.put, List.setIfInBounds_toArray, List.set_cons_zero, List.set_cons_succ])
  go_cut [27] (fun v27 wc => ∃ (kq : Nat) (x27_9 : Bool), v27 = .bool x27_9 ∧ zg (spec_l06Finder_can.j0 C K kq a2 x27_9 s0_0 s0_1 a1_0 a1_1 a1_2 a1_3 = some (r1, r2)) ∧ zg (kq ≤ k) ∧ zg (wc.heap[gb124]? = some (.cells #[.int .i64 a1_0, .int .i64 a1_1, .int .i64 a1_2, .int .i64 a1_3] 25 (0, 0))) ∧ zg (IsF p0 w0 wc g s0_0 s0_1) ∧ zg (zm w wc g none) ∧ zg (Below w0.heap.size w0 wc))
  case first =>
   have H := HC10.out
   clear HC10
   by_cases c15 : a2 ≤ 0
   ·rw [if_pos c15] at H
    have c15b0 : decide (a2 ≤ 0) = true := decide_eq_true c15
    clear c15
    (first | rw [c15b0] | (simp only [zv, zw]; rw [c15b0]) | skip)
    have H' := zg.mk H
    clear H
    try go_wp2
    have n0_ := zg.mk (zf BK124.out)
    have n1_ := zg.mk (IsF.drew HI0.out)
    have n2_ := zg.mk (zt HK.out)
    have n3_ := zg.mk (zo HB.out)
    clear BK124
    clear HI0
    clear HK
    clear HB
    have BK124 := n0_
    have HI0 := n1_
    have HK := n2_
    have HB := n3_
    clear n0_ n1_ n2_ n3_
    refine zra (n := 15) (S := fun w' => True) (ds := []) #[false, false, false, false, false, false, false, false, false, false, false, false, false, false, false] (by kernel_rfl) rfl rfl trivial (fun hHeld => ?_); refine zka spec_l06Finder_can.tab3 spec_l06Finder_can.bits3 (fun HT_ HW_ => ?_)
    generalize w14.drew = w16 at BK124 HI0 HK HB hHeld ⊢
    refine zaa (i := 0) (N := some 13) (v := ?_) (a' := ?_) #[true, false, false, false, false, false, false, false, false, false, false, false, false, false, false] rfl rfl (zu HT_.out (by kernel_rfl)) (fun _ _ _ h => h) (Or.inl ⟨by rfl, ?_⟩) ?_ ?_
    rotate_left
    ·intro w'
     go_simp
     with_reducible rfl
    rotate_left
    ·simp only [Act.put, List.setIfInBounds_toArray, List.set_cons_zero, List.set_cons_succ, zv, zw]
     rfl
    refine zaa (i := 1) (N := some 14) (v := ?_) (a' := ?_) #[true, true, false, false, false, false, false, false, false, false, false, false, false, false, false] rfl rfl (zu HT_.out (by kernel_rfl)) (fun _ _ _ h => h) (Or.inl ⟨by rfl, ?_⟩) ?_ ?_
    rotate_left
    ·intro w'
     go_simp
     with_reducible rfl
    rotate_left
    ·simp only [Act.put, List.setIfInBounds_toArray, List.set_cons_zero, List.set_cons_succ, zv, zw]
     rfl
    refine zaa (i := 2) (N := some 15) (v := ?_) (a' := ?_) #[true, true, true, false, false, false, false, false, false, false, false, false, false, false, false] rfl rfl (zu HT_.out (by kernel_rfl)) (fun _ _ _ h => h) (Or.inl ⟨by rfl, ?_⟩) ?_ ?_
    rotate_left
    ·intro w'
     go_simp
     with_reducible rfl
    rotate_left
    ·simp only [Act.put, List.setIfInBounds_toArray, List.set_cons_zero, List.set_cons_succ, zv, zw]
     rfl
    refine zaa (i := 3) (N := some 16) (v := undef) (a' := ?_) #[true, true, true, true, false, false, false, false, false, false, false, false, false, false, false] rfl rfl (zu HT_.out (by kernel_rfl)) (fun _ _ _ h => h) (Or.inr ⟨by rfl, rfl⟩) ?_ ?_
    rotate_left
    ·simp only [Act.put, List.setIfInBounds_toArray, List.set_cons_zero, List.set_cons_succ, zv, zw]
     rfl
    refine zaa (i := 4) (N := some 17) (v := undef) (a' := ?_) #[true, true, true, true, true, false, false, false, false, false, false, false, false, false, false] rfl rfl (zu HT_.out (by kernel_rfl)) (fun _ _ _ h => h) (Or.inr ⟨by rfl, rfl⟩) ?_ ?_
    rotate_left
    ·simp only [Act.put, List.setIfInBounds_toArray, List.set_cons_zero, List.set_cons_succ, zv, zw]
     rfl
    refine zaa (i := 5) (N := some 18) (v := undef) (a' := ?_) #[true, true, true, true, true, true, false, false, false, false, false, false, false, false, false] rfl rfl (zu HT_.out (by kernel_rfl)) (fun _ _ _ h => h) (Or.inr ⟨by rfl, rfl⟩) ?_ ?_
    rotate_left
    ·simp only [Act.put, List.setIfInBounds_toArray, List.set_cons_zero, List.set_cons_succ, zv, zw]
     rfl
    refine zaa (i := 6) (N := some 19) (v := undef) (a' := ?_) #[true, true, true, true, true, true, true, false, false, false, false, false, false, false, false] rfl rfl (zu HT_.out (by kernel_rfl)) (fun _ _ _ h => h) (Or.inr ⟨by rfl, rfl⟩) ?_ ?_
    rotate_left
    ·simp only [Act.put, List.setIfInBounds_toArray, List.set_cons_zero, List.set_cons_succ, zv, zw]
     rfl
    refine zaa (i := 7) (N := some 20) (v := undef) (a' := ?_) #[true, true, true, true, true, true, true, true, false, false, false, false, false, false, false] rfl rfl (zu HT_.out (by kernel_rfl)) (fun _ _ _ h => h) (Or.inr ⟨by rfl, rfl⟩) ?_ ?_
    rotate_left
    ·simp only [Act.put, List.setIfInBounds_toArray, List.set_cons_zero, List.set_cons_succ, zv, zw]
     rfl
    refine zaa (i := 8) (N := some 21) (v := undef) (a' := ?_) #[true, true, true, true, true, true, true, true, true, false, false, false, false, false, false] rfl rfl (zu HT_.out (by kernel_rfl)) (fun _ _ _ h => h) (Or.inr ⟨by rfl, rfl⟩) ?_ ?_
    rotate_left
    ·simp only [Act.put, List.setIfInBounds_toArray, List.set_cons_zero, List.set_cons_succ, zv, zw]
     rfl
    refine zaa (i := 9) (N := some 22) (v := undef) (a' := ?_) #[true, true, true, true, true, true, true, true, true, true, false, false, false, false, false] rfl rfl (zu HT_.out (by kernel_rfl)) (fun _ _ _ h => h) (Or.inr ⟨by rfl, rfl⟩) ?_ ?_
    rotate_left
    ·simp only [Act.put, List.setIfInBounds_toArray, List.set_cons_zero, List.set_cons_succ, zv, zw]
     rfl
    refine zaa (i := 10) (N := some 23) (v := undef) (a' := ?_) #[true, true, true, true, true, true, true, true, true, true, true, false, false, false, false] rfl rfl (zu HT_.out (by kernel_rfl)) (fun _ _ _ h => h) (Or.inr ⟨by rfl, rfl⟩) ?_ ?_
    rotate_left
    ·simp only [Act.put, List.setIfInBounds_toArray, List.set_cons_zero, List.set_cons_succ, zv, zw]
     rfl
    refine zaa (i := 11) (N := some 24) (v := undef) (a' := ?_) #[true, true, true, true, true, true, true, true, true, true, true, true, false, false, false] rfl rfl (zu HT_.out (by kernel_rfl)) (fun _ _ _ h => h) (Or.inr ⟨by rfl, rfl⟩) ?_ ?_
    rotate_left
    ·simp only [Act.put, List.setIfInBounds_toArray, List.set_cons_zero, List.set_cons_succ, zv, zw]
     rfl
    refine zaa (i := 12) (N := some 25) (v := undef) (a' := ?_) #[true, true, true, true, true, true, true, true, true, true, true, true, true, false, false] rfl rfl (zu HT_.out (by kernel_rfl)) (fun _ _ _ h => h) (Or.inr ⟨by rfl, rfl⟩) ?_ ?_
    rotate_left
    ·simp only [Act.put, List.setIfInBounds_toArray, List.set_cons_zero, List.set_cons_succ, zv, zw]
     rfl
    refine zaa (i := 13) (N := some 26) (v := undef) (a' := ?_) #[true, true, true, true, true, true, true, true, true, true, true, true, true, true, false] rfl rfl (zu HT_.out (by kernel_rfl)) (fun _ _ _ h => h) (Or.inr ⟨by rfl, rfl⟩) ?_ ?_
    rotate_left
    ·simp only [Act.put, List.setIfInBounds_toArray, List.set_cons_zero, List.set_cons_succ, zv, zw]
     rfl
    refine zaa (i := 14) (N := some 27) (v := ?_) (a' := ?_) #[true, true, true, true, true, true, true, true, true, true, true, true, true, true, true] rfl rfl (zu HT_.out (by kernel_rfl)) (fun _ _ _ h => h) (Or.inl ⟨by rfl, ?_⟩) ?_ ?_
    rotate_left
    ·intro w'
     go_simp
     with_reducible rfl
    rotate_left
    ·simp only [Act.put, List.setIfInBounds_toArray, List.set_cons_zero, List.set_cons_succ, zv, zw]
     rfl
    refine zeb (zla HT_.out (by kernel_rfl)) ?_
    try go_wp2
    go_meet
    case rel => exact ⟨_, (true), (by first | rfl | (simp; done) | (simp [*]; done)), H', ⟨by first | omega | exact Nat.le_refl _⟩, ⟨by (with_reducible repeat (first | refine ze ?_ _ | refine zf ?_ | refine za ?_ _)); exact BK124.out⟩, ⟨by repeat (first | (with_reducible first | exact HI0.out | apply IsF.alloc | apply IsF.drewN | apply IsF.drew | refine IsF.far ?_ NB0_124.out (nelt HP.out GW124.out) _) | exact HI0.out)⟩, ⟨by repeat (first | (with_reducible first | exact HK.out | apply zm.set_ | apply zr | apply zt | apply zs | refine zl ?_ GW124.out _) | exact HK.out)⟩, ⟨by repeat (first | (with_reducible first | exact HB.out | apply zq | apply zn | apply zo | refine zi ?_ (IsF.ge HI0.out) | refine zi ?_ GE124.out) | exact HB.out)⟩⟩
   ·rw [if_neg c15] at H
    have c15b0 : decide (a2 ≤ 0) = false := decide_eq_false c15
    clear c15
    (first | rw [c15b0] | (simp only [zv, zw]; rw [c15b0]) | skip)
    replace H := Option.bind_eq_some_iff.mp H
    obtain ⟨t126, A170, H⟩ := H
    replace H : (if 0 ≤ (IntKind.u64.wrap (a2)) then (spec_l06Finder_can.j0 C K k a2 (decide (t126 > (shl .i64 1 (IntKind.u64.wrap (a2))))) s0_0 s0_1 a1_0 a1_1 a1_2 a1_3) else (none)) = some (r1, r2) := H
    have A17 := zg.mk A170
    clear A170
    obtain ⟨ji18, hji18⟩ : ∃ j_ : Int, (IntKind.u64.wrap (a2)) = j_ := ⟨_, rfl⟩
    replace H : (if 0 ≤ (ji18) then (spec_l06Finder_can.j0 C K k a2 (decide (t126 > (shl .i64 1 (ji18)))) s0_0 s0_1 a1_0 a1_1 a1_2 a1_3) else (none)) = some (r1, r2) := by first | (rw [hji18] at H; exact H) | (simp only [hji18] at H ⊢; exact H)
    (try rw [hji18] at A17)
    by_cases c19 : 0 ≤ (ji18)
    ·rw [if_pos c19] at H
     have c19b0 := eq_true c19
     have c19b1 : decide (0 ≤ (ji18)) = true := decide_eq_true c19
     clear c19
     obtain ⟨ji20, hji20⟩ : ∃ j_ : Int, (shl .i64 1 (ji18)) = j_ := ⟨_, rfl⟩
     replace H : (spec_l06Finder_can.j0 C K k a2 (decide (t126 > (ji20))) s0_0 s0_1 a1_0 a1_1 a1_2 a1_3) = some (r1, r2) := by first | (rw [hji20] at H; exact H) | (simp only [hji20] at H ⊢; exact H)
     (try rw [hji20] at A17)
     have hji20_ : (IntKind.i64.wrap (1 * 2 ^ min (ji18).toNat 64)) = ji20 := hji20
     have hji20z : (ji18) ≤ 64 → (IntKind.i64.wrap (1 * 2 ^ (ji18).toNat)) = ji20 := zud hji20
     have hji20u : (IntKind.i64.wrap (2 ^ min (ji18).toNat 64)) = ji20 := by have h_ := hji20_; rw [Int.one_mul] at h_; exact h_
     have hji20v : (ji18) ≤ 64 → (IntKind.i64.wrap (2 ^ (ji18).toNat)) = ji20 := fun hle_ => by have h_ := hji20z hle_; rw [Int.one_mul] at h_; exact h_
     have hji20y : (wrap64 (1 * 2 ^ min (ji18).toNat 64)) = ji20 := (zv _).symm.trans hji20_
     have hji20x : (ji18) ≤ 64 → (wrap64 (1 * 2 ^ (ji18).toNat)) = ji20 := fun h_ => (zv _).symm.trans (hji20z h_)
     have H' := zg.mk H
     clear H
     try go_wp2
     have n0_ := zg.mk (zf BK124.out)
     have n1_ := zg.mk (IsF.drew HI0.out)
     have n2_ := zg.mk (zt HK.out)
     have n3_ := zg.mk (zo HB.out)
     clear BK124
     clear HI0
     clear HK
     clear HB
     have BK124 := n0_
     have HI0 := n1_
     have HK := n2_
     have HB := n3_
     clear n0_ n1_ n2_ n3_
     refine zra (n := 15) (S := fun w' => w'.cell? ⟨gb124, 0, none⟩ = some (.int .i64 a1_0) ∧ w'.cell? ⟨gb124, 1, none⟩ = some (.int .i64 a1_1) ∧ w'.cell? ⟨gb124, 2, none⟩ = some (.int .i64 a1_2) ∧ w'.cell? ⟨gb124, 3, none⟩ = some (.int .i64 a1_3) ∧ w'.cell? ⟨p0, 0, none⟩ = some (.int .i64 s0_1)) (ds := []) #[false, false, false, false, false, false, false, false, false, false, false, false, false, false, false] (by kernel_rfl) rfl rfl ⟨(zh BK124.out 0).trans rfl, (zh BK124.out 1).trans rfl, (zh BK124.out 2).trans rfl, (zh BK124.out 3).trans rfl, HI0.out.c0⟩ (fun hHeld => ?_); refine zka spec_l06Finder_can.tab3 spec_l06Finder_can.bits3 (fun HT_ HW_ => ?_)
     generalize w14.drew = w21 at BK124 HI0 HK HB hHeld ⊢
     refine zaa (i := 0) (N := some 13) (v := ?_) (a' := ?_) #[true, false, false, false, false, false, false, false, false, false, false, false, false, false, false] rfl rfl (zu HT_.out (by kernel_rfl)) (fun _ _ _ h => h) (Or.inl ⟨by rfl, ?_⟩) ?_ ?_
     rotate_left
     ·intro w'
      go_simp
      with_reducible rfl
     rotate_left
     ·simp only [Act.put, List.setIfInBounds_toArray, List.set_cons_zero, List.set_cons_succ, zv, zw]
      rfl
     refine zaa (i := 1) (N := some 14) (v := ?_) (a' := ?_) #[true, true, false, false, false, false, false, false, false, false, false, false, false, false, false] rfl rfl (zu HT_.out (by kernel_rfl)) (fun _ _ _ h => h) (Or.inl ⟨by rfl, ?_⟩) ?_ ?_
     rotate_left
     ·intro w'
      go_simp
      with_reducible rfl
     rotate_left
     ·simp only [Act.put, List.setIfInBounds_toArray, List.set_cons_zero, List.set_cons_succ, zv, zw]
      rfl
     refine zaa (i := 2) (N := some 15) (v := ?_) (a' := ?_) #[true, true, true, false, false, false, false, false, false, false, false, false, false, false, false] rfl rfl (zu HT_.out (by kernel_rfl)) (fun _ _ _ h => h) (Or.inl ⟨by rfl, ?_⟩) ?_ ?_
     rotate_left
     ·intro w'
      go_simp
      with_reducible rfl
     rotate_left
     ·simp only [Act.put, List.setIfInBounds_toArray, List.set_cons_zero, List.set_cons_succ, zv, zw]
      rfl
     refine zaa (i := 3) (N := some 16) (v := ?_) (a' := ?_) #[true, true, true, true, false, false, false, false, false, false, false, false, false, false, false] rfl rfl (zu HT_.out (by kernel_rfl)) (fun _ _ _ h => h) (Or.inl ⟨by rfl, ?_⟩) ?_ ?_
     rotate_left
     ·intro w'
      go_simp
      with_reducible rfl
     rotate_left
     ·simp only [Act.put, List.setIfInBounds_toArray, List.set_cons_zero, List.set_cons_succ, zv, zw]
      rfl
     refine zaa (i := 4) (N := some 17) (v := ?_) (a' := ?_) #[true, true, true, true, true, false, false, false, false, false, false, false, false, false, false] rfl rfl (zu HT_.out (by kernel_rfl)) (fun _ _ _ h => h) (Or.inl ⟨by rfl, ?_⟩) ?_ ?_
     rotate_left
     ·intro w'
      go_simp
      with_reducible rfl
     rotate_left
     ·simp only [Act.put, List.setIfInBounds_toArray, List.set_cons_zero, List.set_cons_succ, zv, zw]
      rfl
     refine zaa (i := 5) (N := some 18) (v := ?_) (a' := ?_) #[true, true, true, true, true, true, false, false, false, false, false, false, false, false, false] rfl rfl (zu HT_.out (by kernel_rfl)) (fun _ _ _ h => h) (Or.inl ⟨by rfl, ?_⟩) ?_ ?_
     rotate_left
     ·intro w'
      go_simp
      with_reducible rfl
     rotate_left
     ·simp only [Act.put, List.setIfInBounds_toArray, List.set_cons_zero, List.set_cons_succ, zv, zw]
      rfl
     refine take_ (i := 6) (N := some 19) (v := ?_) (a' := ?_) #[true, true, true, true, true, true, true, false, false, false, false, false, false, false, false] rfl rfl (zea HT_.out HW_.out (by kernel_rfl)) (fun _ _ _ h => h) (Or.inl ⟨by rfl, ?_⟩) hHeld ?_ ?_
     rotate_left
     ·rintro w' ⟨s0, s1, s2, s3, s4⟩
      go_simp
      with_reducible rfl
     rotate_left
     ·simp only [Act.put, List.setIfInBounds_toArray, List.set_cons_zero, List.set_cons_succ, zv, zw]
      rfl
     refine zaa (i := 8) (N := some 21) (v := ?_) (a' := ?_) #[true, true, true, true, true, true, true, false, true, false, false, false, false, false, false] rfl rfl (zu HT_.out (by kernel_rfl)) (fun _ _ _ h => h) (Or.inl ⟨by rfl, ?_⟩) ?_ ?_
     rotate_left
     ·intro w'
      go_simp
      with_reducible rfl
     rotate_left
     ·simp only [Act.put, List.setIfInBounds_toArray, List.set_cons_zero, List.set_cons_succ, zv, zw]
      rfl
     refine zaa (i := 10) (N := some 23) (v := ?_) (a' := ?_) #[true, true, true, true, true, true, true, false, true, false, true, false, false, false, false] rfl rfl (zu HT_.out (by kernel_rfl)) (fun _ _ _ h => h) (Or.inl ⟨by rfl, ?_⟩) ?_ ?_
     rotate_left
     ·intro w'
      go_simp
      with_reducible rfl
     rotate_left
     ·simp only [Act.put, List.setIfInBounds_toArray, List.set_cons_zero, List.set_cons_succ, zv, zw]
      rfl
     refine zaa (i := 11) (N := some 24) (v := ?_) (a' := ?_) #[true, true, true, true, true, true, true, false, true, false, true, true, false, false, false] rfl rfl (zu HT_.out (by kernel_rfl)) (fun _ _ _ h => h) (Or.inl ⟨by rfl, ?_⟩) ?_ ?_
     rotate_left
     ·intro w'
      go_simp
      with_reducible rfl
     rotate_left
     ·simp only [Act.put, List.setIfInBounds_toArray, List.set_cons_zero, List.set_cons_succ, zv, zw]
      rfl
     refine zaa (i := 12) (N := some 25) (v := ?_) (a' := ?_) #[true, true, true, true, true, true, true, false, true, false, true, true, true, false, false] rfl rfl (zu HT_.out (by kernel_rfl)) (fun _ _ _ h => h) (Or.inl ⟨by rfl, ?_⟩) ?_ ?_
     rotate_left
     ·intro w'
      go_simp
      with_reducible rfl
     rotate_left
     ·simp only [Act.put, List.setIfInBounds_toArray, List.set_cons_zero, List.set_cons_succ, zv, zw]
      rfl
     refine take_ (i := 7) (N := some 20) (v := ?_) (a' := ?_) #[true, true, true, true, true, true, true, true, true, false, true, true, true, false, false] rfl rfl (zea HT_.out HW_.out (by kernel_rfl)) (fun _ _ _ h => h) (Or.inl ⟨by rfl, ?_⟩) hHeld ?_ ?_
     rotate_left
     ·rintro w' ⟨s0, s1, s2, s3, s4⟩
      go_simp
      with_reducible rfl
     rotate_left
     ·simp only [Act.put, List.setIfInBounds_toArray, List.set_cons_zero, List.set_cons_succ, zv, zw]
      rfl
     refine one_ (i := 9) (N := some 22) #[true, true, true, true, true, true, true, true, true, true, true, true, true, false, false] rfl rfl (zna HT_.out (by kernel_rfl)) (by decide) (fun K hK => ?_)
     refine zhe Try.func14 (by kernel_rfl) rfl #[.int .i64 s0_1, .agg #[.int .i64 a1_0, .int .i64 a1_1, .int .i64 a1_2, .int .i64 a1_3], .int .i64 a2] (by rfl) rfl rfl (by (try simp only [List.map_toArray, List.map_cons, List.map_nil]); first | done | rfl | (simp only [List.length_drop, List.length_take]; rfl)) ?_
     with_reducible refine (spec_l06Weight.calls k s0_1 a1_0 a1_1 a1_2 a1_3 a2 t126 _ A17.out).mono ?_
     rintro e w22 ⟨rfl, hb⟩
     refine ⟨_, rfl, ?_⟩
     have n0_ := zg.mk (IsF.below (by repeat (first | (with_reducible first | exact HI0.out | apply IsF.alloc | apply IsF.drewN | apply IsF.drew | refine IsF.far ?_ NB0_124.out (nelt HP.out GW124.out) _) | exact HI0.out)) hb)
     have n1_ := zg.mk (zz (g := gb124) (o := .cells #[.int .i64 a1_0, .int .i64 a1_1, .int .i64 a1_2, .int .i64 a1_3] 25 (0, 0)) (by (with_reducible repeat (first | refine ze ?_ _ | refine zf ?_ | refine za ?_ _)); exact BK124.out) hb)
     have n2_ := zg.mk (zm.trans (by repeat (first | (with_reducible first | exact HK.out | apply zm.set_ | apply zr | apply zt | apply zs | refine zl ?_ GW124.out _) | exact HK.out)) (zm.of_below hb g none) (.inl rfl))
     have n3_ := zg.mk (zx (by repeat (first | (with_reducible first | exact HB.out | apply zq | apply zn | apply zo | refine zi ?_ (IsF.ge HI0.out) | refine zi ?_ GE124.out) | exact HB.out)) hb)
     clear HI0
     clear BK124
     clear HK
     clear HB
     have HI0 := n0_
     have BK124 := n1_
     have HK := n2_
     have HB := n3_
     clear n0_ n1_ n2_ n3_
     (try clear hb)
     (try clear hb2)
     (try clear hk)
     (try clear hi)
     refine hK.out _ _ ⟨(zh BK124.out 0).trans rfl, (zh BK124.out 1).trans rfl, (zh BK124.out 2).trans rfl, (zh BK124.out 3).trans rfl, HI0.out.c0⟩ (fun hHeld => ?_)
     clear hK K
     refine zhb (a' := ?_) ?_ ?_
     rotate_left
     ·show Act.put _ (some 22) _ = _
      simp only [Act.put, List.setIfInBounds_toArray, List.set_cons_zero, List.set_cons_succ, zv, zw]
      rfl
     refine zaa (i := 13) (N := some 26) (v := ?_) (a' := ?_) #[true, true, true, true, true, true, true, true, true, true, true, true, true, true, false] rfl rfl (zu HT_.out (by kernel_rfl)) (fun _ _ _ h => h) (Or.inl ⟨by rfl, ?_⟩) ?_ ?_
     rotate_left
     ·intro w'
      go_simp
      with_reducible rfl
     rotate_left
     ·simp only [Act.put, List.setIfInBounds_toArray, List.set_cons_zero, List.set_cons_succ, zv, zw]
      rfl
     refine zaa (i := 14) (N := some 27) (v := ?_) (a' := ?_) #[true, true, true, true, true, true, true, true, true, true, true, true, true, true, true] rfl rfl (zu HT_.out (by kernel_rfl)) (fun _ _ _ h => h) (Or.inl ⟨by rfl, ?_⟩) ?_ ?_
     rotate_left
     ·intro w'
      go_simp
      with_reducible rfl
     rotate_left
     ·simp only [Act.put, List.setIfInBounds_toArray, List.set_cons_zero, List.set_cons_succ, zv, zw]
      rfl
     refine zeb (zla HT_.out (by kernel_rfl)) ?_
     try go_wp2
     go_meet
     case rel => exact ⟨_, (decide (t126 > (ji20))), (by first | rfl | (simp; done) | (simp only [← hji20] <;> (first | rfl | simp)) | (simp [*]; done)), H', ⟨by first | omega | exact Nat.le_refl _⟩, ⟨by (with_reducible repeat (first | refine ze ?_ _ | refine zf ?_ | refine za ?_ _)); exact BK124.out⟩, ⟨by repeat (first | (with_reducible first | exact HI0.out | apply IsF.alloc | apply IsF.drewN | apply IsF.drew | refine IsF.far ?_ NB0_124.out (nelt HP.out GW124.out) _) | exact HI0.out)⟩, ⟨by repeat (first | (with_reducible first | exact HK.out | apply zm.set_ | apply zr | apply zt | apply zs | refine zl ?_ GW124.out _) | exact HK.out)⟩, ⟨by repeat (first | (with_reducible first | exact HB.out | apply zq | apply zn | apply zo | refine zi ?_ (IsF.ge HI0.out) | refine zi ?_ GE124.out) | exact HB.out)⟩⟩
    ·rw [if_neg c19] at H
     exact absurd H (by simp)
  case rest =>
   clear HC10
   try clear c1
   try clear p2
   try clear c5
   try clear c5b0
   try clear p6
   try clear c7
   try clear c8
   try clear c12
   try clear c13
   try clear c14
   try clear c15
   try clear c15b0
   try clear c19
   try clear c19b0
   try clear c19b1
   try clear hcz13_0
   try clear hcz13_1
   try clear hcz13_2
   try clear hcz13_3
   try clear hcz8_0
   try clear hcz8_1
   try clear hcz8_2
   try clear hcz8_3
   try clear hfz13_0
   try clear hfz13_1
   try clear hfz13_2
   try clear hfz13_3
   try clear hfz8_0
   try clear hfz8_1
   try clear hfz8_2
   try clear hfz8_3
   obtain ⟨kq, x27_9, rfl, HA, HJ9, BK124, HI0, HK, HB⟩ := hcut
   cases kq with
   | zero => exact absurd HA.out (by simp [spec_l06Finder_can.j0])
   | succ kj9 =>
    have H := HA.out
    clear HA
    simp only [spec_l06Finder_can.j0] at H
    by_cases c23 : x27_9 = true
    ·subst c23
     have H1 : (some (false, s0_0)) = some (r1, r2) := by rw [if_pos rfl] at H; exact H
     clear H
     have H := H1
     clear H1
     simp only [Option.some.injEq, Prod.mk.injEq] at H
     obtain ⟨rfl, rfl⟩ := H
     go_wp2
     go_ret
     exact ⟨by first | rfl | (simp [zca, zda] <;> rfl) | (simp [*, zca, zda] <;> rfl), by repeat (first | (with_reducible first | exact HI0.out | apply IsF.alloc | apply IsF.drewN | apply IsF.drew | refine IsF.far ?_ NB0_124.out (nelt HP.out GW124.out) _) | exact HI0.out), by repeat (first | (with_reducible first | exact HB.out | apply zq | apply zn | apply zo | refine zi ?_ (IsF.ge HI0.out) | refine zi ?_ GE124.out) | exact HB.out), by repeat (first | (with_reducible first | exact HK.out | apply zm.set_ | apply zr | apply zt | apply zs | refine zl ?_ GW124.out _) | exact HK.out)⟩
    ·replace c23 := Bool.eq_false_iff.mpr c23
     subst c23
     have H1 : (if 0 ≤ (wrap64 ((wrap64 ((wrap64 ((wrap64 ((wrap64 ((wrap64 ((wrap64 ((wrap64 (a1_0 * 9)) + a1_1)) * 9)) + a1_2)) * 9)) + a1_3)) * 21)) + a2)) then (if (wrap64 ((wrap64 ((wrap64 ((wrap64 ((wrap64 ((wrap64 ((wrap64 ((wrap64 (a1_0 * 9)) + a1_1)) * 9)) + a1_2)) * 9)) + a1_3)) * 21)) + a2)) < 137781 then (if rd s0_0 (wrap64 ((wrap64 ((wrap64 ((wrap64 ((wrap64 ((wrap64 ((wrap64 ((wrap64 (a1_0 * 9)) + a1_1)) * 9)) + a1_2)) * 9)) + a1_3)) * 21)) + a2)) = 0 then ((spec_l06Finder_first.f C K (wr s0_0 (wrap64 ((wrap64 ((wrap64 ((wrap64 ((wrap64 ((wrap64 ((wrap64 ((wrap64 (a1_0 * 9)) + a1_1)) * 9)) + a1_2)) * 9)) + a1_3)) * 21)) + a2)) 1) s0_1 a1_0 a1_1 a1_2 a1_3 a2).bind fun bt => (if bt.2.2.2.2.1 = true then (some ((rd (wr bt.2.2.2.2.2 (wrap64 ((wrap64 ((wrap64 ((wrap64 ((wrap64 ((wrap64 ((wrap64 ((wrap64 (a1_0 * 9)) + a1_1)) * 9)) + a1_2)) * 9)) + a1_3)) * 21)) + a2)) 2) (wrap64 ((wrap64 ((wrap64 ((wrap64 ((wrap64 ((wrap64 ((wrap64 ((wrap64 (a1_0 * 9)) + a1_1)) * 9)) + a1_2)) * 9)) + a1_3)) * 21)) + a2)) == 2), wr bt.2.2.2.2.2 (wrap64 ((wrap64 ((wrap64 ((wrap64 ((wrap64 ((wrap64 ((wrap64 ((wrap64 (a1_0 * 9)) + a1_1)) * 9)) + a1_2)) * 9)) + a1_3)) * 21)) + a2)) 2)) else (some ((rd bt.2.2.2.2.2 (wrap64 ((wrap64 ((wrap64 ((wrap64 ((wrap64 ((wrap64 ((wrap64 ((wrap64 (a1_0 * 9)) + a1_1)) * 9)) + a1_2)) * 9)) + a1_3)) * 21)) + a2)) == 2), bt.2.2.2.2.2)))) else (some ((rd s0_0 (wrap64 ((wrap64 ((wrap64 ((wrap64 ((wrap64 ((wrap64 ((wrap64 ((wrap64 (a1_0 * 9)) + a1_1)) * 9)) + a1_2)) * 9)) + a1_3)) * 21)) + a2)) == 2), s0_0))) else (none)) else (none)) = some (r1, r2) := by rw [if_neg (show ¬ (false = true) by decide)] at H; exact H
     clear H
     have H := H1
     clear H1
     obtain ⟨ji24, hji24⟩ : ∃ j_ : Int, (wrap64 ((wrap64 ((wrap64 ((wrap64 ((wrap64 ((wrap64 ((wrap64 ((wrap64 (a1_0 * 9)) + a1_1)) * 9)) + a1_2)) * 9)) + a1_3)) * 21)) + a2)) = j_ := ⟨_, rfl⟩
     replace H : (if 0 ≤ ji24 then (if ji24 < 137781 then (if rd s0_0 ji24 = 0 then ((spec_l06Finder_first.f C K (wr s0_0 ji24 1) s0_1 a1_0 a1_1 a1_2 a1_3 a2).bind fun bt => (if bt.2.2.2.2.1 = true then (some ((rd (wr bt.2.2.2.2.2 ji24 2) ji24 == 2), wr bt.2.2.2.2.2 ji24 2)) else (some ((rd bt.2.2.2.2.2 ji24 == 2), bt.2.2.2.2.2)))) else (some ((rd s0_0 ji24 == 2), s0_0))) else (none)) else (none)) = some (r1, r2) := by first | (rw [hji24] at H; exact H) | (simp only [hji24] at H ⊢; exact H)
     have hji24w : (IntKind.i64.wrap (((wrap64 ((wrap64 ((wrap64 ((wrap64 ((wrap64 ((wrap64 ((wrap64 (a1_0 * 9)) + a1_1)) * 9)) + a1_2)) * 9)) + a1_3)) * 21)) + a2))) = ji24 := (zv _).trans hji24
     by_cases c25 : 0 ≤ ji24
     ·rw [if_pos c25] at H
      by_cases c26 : ji24 < 137781
      ·rw [if_pos c26] at H
       have HJI := zg.mk c25
       have HJJ := zg.mk c26
       have p24 := eq_true c25
       have q24 := eq_true c26
       have p24b : decide (0 ≤ ji24) = true := decide_eq_true c25
       have q24b : decide (ji24 < 137781) = true := decide_eq_true c26
       clear c25 c26
       have hnb30 := NB124_0.out
       have hnc30 := NB0_124.out
       have hcx_wc_0 : wc.cell? ⟨gb124, 0, none⟩ = some (.int .i64 a1_0) := (zh BK124.out 0).trans rfl
       have hcx_wc_1 : wc.cell? ⟨gb124, 1, none⟩ = some (.int .i64 a1_1) := (zh BK124.out 1).trans rfl
       have hcx_wc_2 : wc.cell? ⟨gb124, 2, none⟩ = some (.int .i64 a1_2) := (zh BK124.out 2).trans rfl
       have hcx_wc_3 : wc.cell? ⟨gb124, 3, none⟩ = some (.int .i64 a1_3) := (zh BK124.out 3).trans rfl
       have hfx_wc_0 := zj BK124.out 0
       have hfx_wc_1 := zj BK124.out 1
       have hfx_wc_2 := zj BK124.out 2
       have hfx_wc_3 := zj BK124.out 3
       have hcp_wc_0 := HI0.out.c0
       have hcp_wc_1 := HI0.out.c1
       have hfp_wc_0 := HI0.out.f0
       have hfp_wc_1 := HI0.out.f1
       have hcm_wc := HI0.out.at_cell HJI.out HJJ.out
       have hfm_wc := HI0.out.fm (ji24).toNat
       by_cases c27 : (rd s0_0 ji24) = 0
       ·rw [if_pos c27] at H
        have c27b0 : ((rd s0_0 ji24) == 0) = true := beq_iff_eq.mpr c27
        have c27b1 : ((rd s0_0 ji24) != 0) = false := bne_eq_false_iff_eq.mpr c27
        clear c27
        replace H := Option.bind_eq_some_iff.mp H
        obtain ⟨⟨t129, t130, t131, t132, t133, t134⟩, A280, H⟩ := H
        replace H : (if t133 = true then (some ((rd (wr t134 ji24 2) ji24 == 2), wr t134 ji24 2)) else (some ((rd t134 ji24 == 2), t134))) = some (r1, r2) := H
        have A28 := zg.mk A280
        clear A280
        by_cases c29 : t133 = true
        ·subst c29
         rw [if_pos rfl] at H
         simp only [Option.some.injEq, Prod.mk.injEq] at H
         obtain ⟨rfl, rfl⟩ := H
         go_wp2_with (first | ((with_reducible refine zua (t := 43) (p := 58) rfl ?_); refine zoa (t := 43) (p := 58) (v := ?vo_w33) (w1 := (wc.setCell ⟨g, (ji24).toNat, none⟩ (.int .i8 1))) ?hg ?ho ?hn ?hr ?_; (case ho => rfl); (case hg => rfl); (case hn => rfl); (case hr => first | (go_simp; done) | (go_simp; rfl)); intro w33 hw; have n0_ : zg (w33.heap[gb124]? = some (.cells #[.int .i64 a1_0, .int .i64 a1_1, .int .i64 a1_2, .int .i64 a1_3] 25 (0, 0))) := ⟨(by rw [hw]; exact zk BK124.out NB124_0.out _)⟩; have n1_ : zg (IsF p0 w0 w33 g (wr s0_0 ji24 1) s0_1) := ⟨(by rw [hw]; exact IsF.put HI0.out HJI.out _)⟩; have n2_ : zg (zm w w33 g none) := ⟨(by rw [hw]; exact zm.set_ HK.out _ _)⟩; have n3_ : zg (Below w0.heap.size w0 w33) := ⟨(by rw [hw]; exact zi HB.out (IsF.ge HI0.out))⟩; clear hw; clear BK124 HI0 HK HB; have BK124 := n0_; have HI0 := n1_; have HK := n2_; have HB := n3_; clear n0_ n1_ n2_ n3_; have hcx_w33_0 : w33.cell? ⟨gb124, 0, none⟩ = some (.int .i64 a1_0) := (zh BK124.out 0).trans rfl; have hcx_w33_1 : w33.cell? ⟨gb124, 1, none⟩ = some (.int .i64 a1_1) := (zh BK124.out 1).trans rfl; have hcx_w33_2 : w33.cell? ⟨gb124, 2, none⟩ = some (.int .i64 a1_2) := (zh BK124.out 2).trans rfl; have hcx_w33_3 : w33.cell? ⟨gb124, 3, none⟩ = some (.int .i64 a1_3) := (zh BK124.out 3).trans rfl; have hfx_w33_0 := zj BK124.out 0; have hfx_w33_1 := zj BK124.out 1; have hfx_w33_2 := zj BK124.out 2; have hfx_w33_3 := zj BK124.out 3; have hcp_w33_0 := HI0.out.c0; have hcp_w33_1 := HI0.out.c1; have hfp_w33_0 := HI0.out.f0; have hfp_w33_1 := HI0.out.f1; have hcm_w33 := HI0.out.at_cell HJI.out HJJ.out; have hfm_w33 := HI0.out.fm (ji24).toNat) | ((with_reducible refine zha (f := 15) rfl ?_); refine zxb (some 63) rfl rfl Try.func15 (by kernel_rfl) rfl #[.pointer (some ⟨p0, 0, none⟩), .agg #[.int .i64 a1_0, .int .i64 a1_1, .int .i64 a1_2, .int .i64 a1_3], .int .i64 a2] rfl (by (try simp only [List.map_toArray, List.map_cons, List.map_nil]); first | done | rfl | (simp only [List.length_drop, List.length_take]; rfl)) ?_; (with_reducible refine (spec_l06Finder_first.calls C K p0 g (wr s0_0 ji24 1) s0_1 a1_0 a1_1 a1_2 a1_3 a2 t129 t130 t131 t132 true t134 w0 _ HCAN ?side1 ?side2 A28.out).mono ?_); (case side1 => repeat (first | (with_reducible first | exact HI0.out | apply IsF.alloc | apply IsF.drewN | apply IsF.drew | refine IsF.far ?_ NB0_124.out (nelt HP.out GW124.out) _) | exact HI0.out)); (case side2 => repeat (first | (with_reducible first | exact HB.out | apply zq | apply zn | apply zo | refine zi ?_ (IsF.ge HI0.out) | refine zi ?_ GE124.out) | exact HB.out)); rintro e w43 ⟨rfl, hi, hb, hk⟩; refine ⟨_, rfl, ?_⟩; have n0_ := zg.mk (zm.blk hk (g' := gb124) (o := .cells #[.int .i64 a1_0, .int .i64 a1_1, .int .i64 a1_2, .int .i64 a1_3] 25 (0, 0)) (by (with_reducible repeat (first | refine ze ?_ _ | refine zf ?_ | refine za ?_ _)); exact BK124.out) NB124_0.out (by simp)); have n1_ := zg.mk (zm.trans (by repeat (first | (with_reducible first | exact HK.out | apply zm.set_ | apply zr | apply zt | apply zs | refine zl ?_ GW124.out _) | exact HK.out)) hk (.inl rfl)); have n2_ := zg.mk (hb); have n3_ := zg.mk (hi); clear BK124; clear HK; clear HB; clear HI0; have BK124 := n0_; have HK := n1_; have HB := n2_; have HI0 := n3_; clear n0_ n1_ n2_ n3_; (try clear hb); (try clear hb2); (try clear hk); (try clear hi)) | ((with_reducible refine zga (N := 8) rfl ?_); refine zia ?hg (N := 8) ?hd (cs := #[.int .i64 0, .int .i64 0, .int .i64 0, .int .i64 0]) (t := 25) ?hr ?_; (case hd => rfl); (case hg => rfl); (case hr => first | (go_simp; done) | (go_simp; rfl)); intro gb135 hg w44 hbox hb; have n0_ := zg.mk (zz (g := gb124) (o := .cells #[.int .i64 a1_0, .int .i64 a1_1, .int .i64 a1_2, .int .i64 a1_3] 25 (0, 0)) (by (with_reducible repeat (first | refine ze ?_ _ | refine zf ?_ | refine za ?_ _)); exact BK124.out) hb); have n1_ := zg.mk (IsF.below (by repeat (first | (with_reducible first | exact HI0.out | apply IsF.alloc | apply IsF.drewN | apply IsF.drew | refine IsF.far ?_ NB0_124.out (nelt HP.out GW124.out) _) | exact HI0.out)) hb); have n2_ := zg.mk (zm.trans (by repeat (first | (with_reducible first | exact HK.out | apply zm.set_ | apply zr | apply zt | apply zs | refine zl ?_ GW124.out _) | exact HK.out)) (zm.of_below hb g none) (.inl rfl)); have n3_ := zg.mk (zx (by repeat (first | (with_reducible first | exact HB.out | apply zq | apply zn | apply zo | refine zi ?_ (IsF.ge HI0.out) | refine zi ?_ GE124.out) | exact HB.out)) hb); have n4_ := zg.mk (hbox); have n5_ := zg.mk ((by rw [hg]; exact (zfa (w := w) (g := g) (row := none) (by repeat (first | (with_reducible first | exact HK.out | apply zm.set_ | apply zr | apply zt | apply zs | refine zl ?_ GW124.out _) | exact HK.out))) : w.heap.size ≤ gb135)); have n6_ := zg.mk ((Nat.le_trans HW0.out (by rw [hg]; exact (zfa (w := w) (g := g) (row := none) (by repeat (first | (with_reducible first | exact HK.out | apply zm.set_ | apply zr | apply zt | apply zs | refine zl ?_ GW124.out _) | exact HK.out))) : w.heap.size ≤ gb135) : w0.heap.size ≤ gb135)); have n7_ := zg.mk ((by rw [hg]; exact Nat.ne_of_lt (zba (g := gb124) (o := .cells #[.int .i64 a1_0, .int .i64 a1_1, .int .i64 a1_2, .int .i64 a1_3] 25 (0, 0)) (by (with_reducible repeat (first | refine ze ?_ _ | refine zf ?_ | refine za ?_ _)); exact BK124.out)) : gb124 ≠ gb135)); have n8_ := zg.mk ((by rw [hg]; exact Nat.ne_of_gt (zba (g := gb124) (o := .cells #[.int .i64 a1_0, .int .i64 a1_1, .int .i64 a1_2, .int .i64 a1_3] 25 (0, 0)) (by (with_reducible repeat (first | refine ze ?_ _ | refine zf ?_ | refine za ?_ _)); exact BK124.out)) : gb135 ≠ gb124)); have n9_ := zg.mk ((by rw [hg]; exact Nat.ne_of_lt (IsF.lt (show IsF p0 w0 _ g t134 s0_1 from by repeat (first | (with_reducible first | exact HI0.out | apply IsF.alloc | apply IsF.drewN | apply IsF.drew | refine IsF.far ?_ NB0_124.out (nelt HP.out GW124.out) _) | exact HI0.out))) : g ≠ gb135)); have n10_ := zg.mk ((by rw [hg]; exact Nat.ne_of_gt (IsF.lt (show IsF p0 w0 _ g t134 s0_1 from by repeat (first | (with_reducible first | exact HI0.out | apply IsF.alloc | apply IsF.drewN | apply IsF.drew | refine IsF.far ?_ NB0_124.out (nelt HP.out GW124.out) _) | exact HI0.out))) : gb135 ≠ g)); clear BK124; clear HI0; clear HK; clear HB; have BK124 := n0_; have HI0 := n1_; have HK := n2_; have HB := n3_; have BK135 := n4_; have GW135 := n5_; have GE135 := n6_; have NB124_135 := n7_; have NB135_124 := n8_; have NB0_135 := n9_; have NB135_0 := n10_; clear n0_ n1_ n2_ n3_ n4_ n5_ n6_ n7_ n8_ n9_ n10_; clear hb hbox hg; have hnb35 := NB135_124.out; have hnc35 := NB124_135.out; have hnb36 := NB135_0.out; have hnc36 := NB0_135.out; have hcz37_0 : w44.cell? ⟨gb135, 0, none⟩ = some (.int .i64 0) := (zh BK135.out 0).trans rfl; have hcz37_1 : w44.cell? ⟨gb135, 1, none⟩ = some (.int .i64 0) := (zh BK135.out 1).trans rfl; have hcz37_2 : w44.cell? ⟨gb135, 2, none⟩ = some (.int .i64 0) := (zh BK135.out 2).trans rfl; have hcz37_3 : w44.cell? ⟨gb135, 3, none⟩ = some (.int .i64 0) := (zh BK135.out 3).trans rfl; have hfz37_0 := zj BK135.out 0; have hfz37_1 := zj BK135.out 1; have hfz37_2 := zj BK135.out 2; have hfz37_3 := zj BK135.out 3) | ((with_reducible refine zua (t := 25) (p := 8) rfl ?_); refine zoa (t := 25) (p := 8) (v := ?vo_w45) (w1 := ((((w44.setCell ⟨gb135, 0, none⟩ (.int .i64 t129)).setCell ⟨gb135, 1, none⟩ (.int .i64 t130)).setCell ⟨gb135, 2, none⟩ (.int .i64 t131)).setCell ⟨gb135, 3, none⟩ (.int .i64 t132))) ?hg ?ho ?hn ?hr ?_; (case ho => rfl); (case hg => rfl); (case hn => rfl); (case hr => first | (go_simp; done) | (go_simp; rfl)); intro w45 hw; have n0_ : zg (w45.heap[gb124]? = some (.cells #[.int .i64 a1_0, .int .i64 a1_1, .int .i64 a1_2, .int .i64 a1_3] 25 (0, 0))) := ⟨(by rw [hw]; exact zk (zk (zk (zk BK124.out NB124_135.out _) NB124_135.out _) NB124_135.out _) NB124_135.out _)⟩; have n1_ : zg (IsF p0 w0 w45 g t134 s0_1) := ⟨(by rw [hw]; exact (IsF.far (IsF.far (IsF.far (IsF.far HI0.out NB0_135.out (nelt HP.out GW135.out) _) NB0_135.out (nelt HP.out GW135.out) _) NB0_135.out (nelt HP.out GW135.out) _) NB0_135.out (nelt HP.out GW135.out) _))⟩; have n2_ : zg (zm w w45 g none) := ⟨(by rw [hw]; exact (zl (zl (zl (zl HK.out GW135.out _) GW135.out _) GW135.out _) GW135.out _))⟩; have n3_ : zg (Below w0.heap.size w0 w45) := ⟨(by rw [hw]; exact (zi (zi (zi (zi HB.out GE135.out) GE135.out) GE135.out) GE135.out))⟩; clear hw; clear BK124 HI0 HK HB; have BK124 := n0_; have HI0 := n1_; have HK := n2_; have HB := n3_; clear n0_ n1_ n2_ n3_; have hcx_w45_0 : w45.cell? ⟨gb124, 0, none⟩ = some (.int .i64 a1_0) := (zh BK124.out 0).trans rfl; have hcx_w45_1 : w45.cell? ⟨gb124, 1, none⟩ = some (.int .i64 a1_1) := (zh BK124.out 1).trans rfl; have hcx_w45_2 : w45.cell? ⟨gb124, 2, none⟩ = some (.int .i64 a1_2) := (zh BK124.out 2).trans rfl; have hcx_w45_3 : w45.cell? ⟨gb124, 3, none⟩ = some (.int .i64 a1_3) := (zh BK124.out 3).trans rfl; have hfx_w45_0 := zj BK124.out 0; have hfx_w45_1 := zj BK124.out 1; have hfx_w45_2 := zj BK124.out 2; have hfx_w45_3 := zj BK124.out 3; have hcp_w45_0 := HI0.out.c0; have hcp_w45_1 := HI0.out.c1; have hfp_w45_0 := HI0.out.f0; have hfp_w45_1 := HI0.out.f1; have hcm_w45 := HI0.out.at_cell HJI.out HJJ.out; have hfm_w45 := HI0.out.fm (ji24).toNat) | ((with_reducible refine zua (t := 43) (p := 72) rfl ?_); refine zoa (t := 43) (p := 72) (v := ?vo_w46) (w1 := (w45.setCell ⟨g, (ji24).toNat, none⟩ (.int .i8 2))) ?hg ?ho ?hn ?hr ?_; (case ho => rfl); (case hg => rfl); (case hn => rfl); (case hr => first | (go_simp; done) | (go_simp; rfl)); intro w46 hw; have n0_ : zg (w46.heap[gb124]? = some (.cells #[.int .i64 a1_0, .int .i64 a1_1, .int .i64 a1_2, .int .i64 a1_3] 25 (0, 0))) := ⟨(by rw [hw]; exact zk BK124.out NB124_0.out _)⟩; have n1_ : zg (IsF p0 w0 w46 g (wr t134 ji24 2) s0_1) := ⟨(by rw [hw]; exact IsF.put HI0.out HJI.out _)⟩; have n2_ : zg (zm w w46 g none) := ⟨(by rw [hw]; exact zm.set_ HK.out _ _)⟩; have n3_ : zg (Below w0.heap.size w0 w46) := ⟨(by rw [hw]; exact zi HB.out (IsF.ge HI0.out))⟩; clear hw; clear BK124 HI0 HK HB; have BK124 := n0_; have HI0 := n1_; have HK := n2_; have HB := n3_; clear n0_ n1_ n2_ n3_; have hcx_w46_0 : w46.cell? ⟨gb124, 0, none⟩ = some (.int .i64 a1_0) := (zh BK124.out 0).trans rfl; have hcx_w46_1 : w46.cell? ⟨gb124, 1, none⟩ = some (.int .i64 a1_1) := (zh BK124.out 1).trans rfl; have hcx_w46_2 : w46.cell? ⟨gb124, 2, none⟩ = some (.int .i64 a1_2) := (zh BK124.out 2).trans rfl; have hcx_w46_3 : w46.cell? ⟨gb124, 3, none⟩ = some (.int .i64 a1_3) := (zh BK124.out 3).trans rfl; have hfx_w46_0 := zj BK124.out 0; have hfx_w46_1 := zj BK124.out 1; have hfx_w46_2 := zj BK124.out 2; have hfx_w46_3 := zj BK124.out 3; have hcp_w46_0 := HI0.out.c0; have hcp_w46_1 := HI0.out.c1; have hfp_w46_0 := HI0.out.f0; have hfp_w46_1 := HI0.out.f1; have hcm_w46 := HI0.out.at_cell HJI.out HJJ.out; have hfm_w46 := HI0.out.fm (ji24).toNat))
         go_ret
         exact ⟨by first | rfl | (simp [zca, zda] <;> rfl) | (simp only [← hji24]; first | rfl | (simp [zca, zda] <;> rfl)) | (simp [*, zca, zda] <;> rfl), HI0.out, HB.out, HK.out⟩
        ·replace c29 := Bool.eq_false_iff.mpr c29
         subst c29
         rw [if_neg (show ¬ (false = true) by decide)] at H
         simp only [Option.some.injEq, Prod.mk.injEq] at H
         obtain ⟨rfl, rfl⟩ := H
         go_wp2_with (first | ((with_reducible refine zua (t := 43) (p := 58) rfl ?_); refine zoa (t := 43) (p := 58) (v := ?vo_w33) (w1 := (wc.setCell ⟨g, (ji24).toNat, none⟩ (.int .i8 1))) ?hg ?ho ?hn ?hr ?_; (case ho => rfl); (case hg => rfl); (case hn => rfl); (case hr => first | (go_simp; done) | (go_simp; rfl)); intro w33 hw; have n0_ : zg (w33.heap[gb124]? = some (.cells #[.int .i64 a1_0, .int .i64 a1_1, .int .i64 a1_2, .int .i64 a1_3] 25 (0, 0))) := ⟨(by rw [hw]; exact zk BK124.out NB124_0.out _)⟩; have n1_ : zg (IsF p0 w0 w33 g (wr s0_0 ji24 1) s0_1) := ⟨(by rw [hw]; exact IsF.put HI0.out HJI.out _)⟩; have n2_ : zg (zm w w33 g none) := ⟨(by rw [hw]; exact zm.set_ HK.out _ _)⟩; have n3_ : zg (Below w0.heap.size w0 w33) := ⟨(by rw [hw]; exact zi HB.out (IsF.ge HI0.out))⟩; clear hw; clear BK124 HI0 HK HB; have BK124 := n0_; have HI0 := n1_; have HK := n2_; have HB := n3_; clear n0_ n1_ n2_ n3_; have hcx_w33_0 : w33.cell? ⟨gb124, 0, none⟩ = some (.int .i64 a1_0) := (zh BK124.out 0).trans rfl; have hcx_w33_1 : w33.cell? ⟨gb124, 1, none⟩ = some (.int .i64 a1_1) := (zh BK124.out 1).trans rfl; have hcx_w33_2 : w33.cell? ⟨gb124, 2, none⟩ = some (.int .i64 a1_2) := (zh BK124.out 2).trans rfl; have hcx_w33_3 : w33.cell? ⟨gb124, 3, none⟩ = some (.int .i64 a1_3) := (zh BK124.out 3).trans rfl; have hfx_w33_0 := zj BK124.out 0; have hfx_w33_1 := zj BK124.out 1; have hfx_w33_2 := zj BK124.out 2; have hfx_w33_3 := zj BK124.out 3; have hcp_w33_0 := HI0.out.c0; have hcp_w33_1 := HI0.out.c1; have hfp_w33_0 := HI0.out.f0; have hfp_w33_1 := HI0.out.f1; have hcm_w33 := HI0.out.at_cell HJI.out HJJ.out; have hfm_w33 := HI0.out.fm (ji24).toNat) | ((with_reducible refine zha (f := 15) rfl ?_); refine zxb (some 63) rfl rfl Try.func15 (by kernel_rfl) rfl #[.pointer (some ⟨p0, 0, none⟩), .agg #[.int .i64 a1_0, .int .i64 a1_1, .int .i64 a1_2, .int .i64 a1_3], .int .i64 a2] rfl (by (try simp only [List.map_toArray, List.map_cons, List.map_nil]); first | done | rfl | (simp only [List.length_drop, List.length_take]; rfl)) ?_; (with_reducible refine (spec_l06Finder_first.calls C K p0 g (wr s0_0 ji24 1) s0_1 a1_0 a1_1 a1_2 a1_3 a2 t129 t130 t131 t132 false t134 w0 _ HCAN ?side1 ?side2 A28.out).mono ?_); (case side1 => repeat (first | (with_reducible first | exact HI0.out | apply IsF.alloc | apply IsF.drewN | apply IsF.drew | refine IsF.far ?_ NB0_124.out (nelt HP.out GW124.out) _) | exact HI0.out)); (case side2 => repeat (first | (with_reducible first | exact HB.out | apply zq | apply zn | apply zo | refine zi ?_ (IsF.ge HI0.out) | refine zi ?_ GE124.out) | exact HB.out)); rintro e w43 ⟨rfl, hi, hb, hk⟩; refine ⟨_, rfl, ?_⟩; have n0_ := zg.mk (zm.blk hk (g' := gb124) (o := .cells #[.int .i64 a1_0, .int .i64 a1_1, .int .i64 a1_2, .int .i64 a1_3] 25 (0, 0)) (by (with_reducible repeat (first | refine ze ?_ _ | refine zf ?_ | refine za ?_ _)); exact BK124.out) NB124_0.out (by simp)); have n1_ := zg.mk (zm.trans (by repeat (first | (with_reducible first | exact HK.out | apply zm.set_ | apply zr | apply zt | apply zs | refine zl ?_ GW124.out _) | exact HK.out)) hk (.inl rfl)); have n2_ := zg.mk (hb); have n3_ := zg.mk (hi); clear BK124; clear HK; clear HB; clear HI0; have BK124 := n0_; have HK := n1_; have HB := n2_; have HI0 := n3_; clear n0_ n1_ n2_ n3_; (try clear hb); (try clear hb2); (try clear hk); (try clear hi)) | ((with_reducible refine zga (N := 8) rfl ?_); refine zia ?hg (N := 8) ?hd (cs := #[.int .i64 0, .int .i64 0, .int .i64 0, .int .i64 0]) (t := 25) ?hr ?_; (case hd => rfl); (case hg => rfl); (case hr => first | (go_simp; done) | (go_simp; rfl)); intro gb135 hg w44 hbox hb; have n0_ := zg.mk (zz (g := gb124) (o := .cells #[.int .i64 a1_0, .int .i64 a1_1, .int .i64 a1_2, .int .i64 a1_3] 25 (0, 0)) (by (with_reducible repeat (first | refine ze ?_ _ | refine zf ?_ | refine za ?_ _)); exact BK124.out) hb); have n1_ := zg.mk (IsF.below (by repeat (first | (with_reducible first | exact HI0.out | apply IsF.alloc | apply IsF.drewN | apply IsF.drew | refine IsF.far ?_ NB0_124.out (nelt HP.out GW124.out) _) | exact HI0.out)) hb); have n2_ := zg.mk (zm.trans (by repeat (first | (with_reducible first | exact HK.out | apply zm.set_ | apply zr | apply zt | apply zs | refine zl ?_ GW124.out _) | exact HK.out)) (zm.of_below hb g none) (.inl rfl)); have n3_ := zg.mk (zx (by repeat (first | (with_reducible first | exact HB.out | apply zq | apply zn | apply zo | refine zi ?_ (IsF.ge HI0.out) | refine zi ?_ GE124.out) | exact HB.out)) hb); have n4_ := zg.mk (hbox); have n5_ := zg.mk ((by rw [hg]; exact (zfa (w := w) (g := g) (row := none) (by repeat (first | (with_reducible first | exact HK.out | apply zm.set_ | apply zr | apply zt | apply zs | refine zl ?_ GW124.out _) | exact HK.out))) : w.heap.size ≤ gb135)); have n6_ := zg.mk ((Nat.le_trans HW0.out (by rw [hg]; exact (zfa (w := w) (g := g) (row := none) (by repeat (first | (with_reducible first | exact HK.out | apply zm.set_ | apply zr | apply zt | apply zs | refine zl ?_ GW124.out _) | exact HK.out))) : w.heap.size ≤ gb135) : w0.heap.size ≤ gb135)); have n7_ := zg.mk ((by rw [hg]; exact Nat.ne_of_lt (zba (g := gb124) (o := .cells #[.int .i64 a1_0, .int .i64 a1_1, .int .i64 a1_2, .int .i64 a1_3] 25 (0, 0)) (by (with_reducible repeat (first | refine ze ?_ _ | refine zf ?_ | refine za ?_ _)); exact BK124.out)) : gb124 ≠ gb135)); have n8_ := zg.mk ((by rw [hg]; exact Nat.ne_of_gt (zba (g := gb124) (o := .cells #[.int .i64 a1_0, .int .i64 a1_1, .int .i64 a1_2, .int .i64 a1_3] 25 (0, 0)) (by (with_reducible repeat (first | refine ze ?_ _ | refine zf ?_ | refine za ?_ _)); exact BK124.out)) : gb135 ≠ gb124)); have n9_ := zg.mk ((by rw [hg]; exact Nat.ne_of_lt (IsF.lt (show IsF p0 w0 _ g t134 s0_1 from by repeat (first | (with_reducible first | exact HI0.out | apply IsF.alloc | apply IsF.drewN | apply IsF.drew | refine IsF.far ?_ NB0_124.out (nelt HP.out GW124.out) _) | exact HI0.out))) : g ≠ gb135)); have n10_ := zg.mk ((by rw [hg]; exact Nat.ne_of_gt (IsF.lt (show IsF p0 w0 _ g t134 s0_1 from by repeat (first | (with_reducible first | exact HI0.out | apply IsF.alloc | apply IsF.drewN | apply IsF.drew | refine IsF.far ?_ NB0_124.out (nelt HP.out GW124.out) _) | exact HI0.out))) : gb135 ≠ g)); clear BK124; clear HI0; clear HK; clear HB; have BK124 := n0_; have HI0 := n1_; have HK := n2_; have HB := n3_; have BK135 := n4_; have GW135 := n5_; have GE135 := n6_; have NB124_135 := n7_; have NB135_124 := n8_; have NB0_135 := n9_; have NB135_0 := n10_; clear n0_ n1_ n2_ n3_ n4_ n5_ n6_ n7_ n8_ n9_ n10_; clear hb hbox hg; have hnb35 := NB135_124.out; have hnc35 := NB124_135.out; have hnb36 := NB135_0.out; have hnc36 := NB0_135.out; have hcz37_0 : w44.cell? ⟨gb135, 0, none⟩ = some (.int .i64 0) := (zh BK135.out 0).trans rfl; have hcz37_1 : w44.cell? ⟨gb135, 1, none⟩ = some (.int .i64 0) := (zh BK135.out 1).trans rfl; have hcz37_2 : w44.cell? ⟨gb135, 2, none⟩ = some (.int .i64 0) := (zh BK135.out 2).trans rfl; have hcz37_3 : w44.cell? ⟨gb135, 3, none⟩ = some (.int .i64 0) := (zh BK135.out 3).trans rfl; have hfz37_0 := zj BK135.out 0; have hfz37_1 := zj BK135.out 1; have hfz37_2 := zj BK135.out 2; have hfz37_3 := zj BK135.out 3) | ((with_reducible refine zua (t := 25) (p := 8) rfl ?_); refine zoa (t := 25) (p := 8) (v := ?vo_w45) (w1 := ((((w44.setCell ⟨gb135, 0, none⟩ (.int .i64 t129)).setCell ⟨gb135, 1, none⟩ (.int .i64 t130)).setCell ⟨gb135, 2, none⟩ (.int .i64 t131)).setCell ⟨gb135, 3, none⟩ (.int .i64 t132))) ?hg ?ho ?hn ?hr ?_; (case ho => rfl); (case hg => rfl); (case hn => rfl); (case hr => first | (go_simp; done) | (go_simp; rfl)); intro w45 hw; have n0_ : zg (w45.heap[gb124]? = some (.cells #[.int .i64 a1_0, .int .i64 a1_1, .int .i64 a1_2, .int .i64 a1_3] 25 (0, 0))) := ⟨(by rw [hw]; exact zk (zk (zk (zk BK124.out NB124_135.out _) NB124_135.out _) NB124_135.out _) NB124_135.out _)⟩; have n1_ : zg (IsF p0 w0 w45 g t134 s0_1) := ⟨(by rw [hw]; exact (IsF.far (IsF.far (IsF.far (IsF.far HI0.out NB0_135.out (nelt HP.out GW135.out) _) NB0_135.out (nelt HP.out GW135.out) _) NB0_135.out (nelt HP.out GW135.out) _) NB0_135.out (nelt HP.out GW135.out) _))⟩; have n2_ : zg (zm w w45 g none) := ⟨(by rw [hw]; exact (zl (zl (zl (zl HK.out GW135.out _) GW135.out _) GW135.out _) GW135.out _))⟩; have n3_ : zg (Below w0.heap.size w0 w45) := ⟨(by rw [hw]; exact (zi (zi (zi (zi HB.out GE135.out) GE135.out) GE135.out) GE135.out))⟩; clear hw; clear BK124 HI0 HK HB; have BK124 := n0_; have HI0 := n1_; have HK := n2_; have HB := n3_; clear n0_ n1_ n2_ n3_; have hcx_w45_0 : w45.cell? ⟨gb124, 0, none⟩ = some (.int .i64 a1_0) := (zh BK124.out 0).trans rfl; have hcx_w45_1 : w45.cell? ⟨gb124, 1, none⟩ = some (.int .i64 a1_1) := (zh BK124.out 1).trans rfl; have hcx_w45_2 : w45.cell? ⟨gb124, 2, none⟩ = some (.int .i64 a1_2) := (zh BK124.out 2).trans rfl; have hcx_w45_3 : w45.cell? ⟨gb124, 3, none⟩ = some (.int .i64 a1_3) := (zh BK124.out 3).trans rfl; have hfx_w45_0 := zj BK124.out 0; have hfx_w45_1 := zj BK124.out 1; have hfx_w45_2 := zj BK124.out 2; have hfx_w45_3 := zj BK124.out 3; have hcp_w45_0 := HI0.out.c0; have hcp_w45_1 := HI0.out.c1; have hfp_w45_0 := HI0.out.f0; have hfp_w45_1 := HI0.out.f1; have hcm_w45 := HI0.out.at_cell HJI.out HJJ.out; have hfm_w45 := HI0.out.fm (ji24).toNat))
         go_ret
         exact ⟨by first | rfl | (simp [zca, zda] <;> rfl) | (simp only [← hji24]; first | rfl | (simp [zca, zda] <;> rfl)) | (simp [*, zca, zda] <;> rfl), HI0.out, HB.out, HK.out⟩
       ·rw [if_neg c27] at H
        have c27b0 : ((rd s0_0 ji24) == 0) = false := beq_eq_false_iff_ne.mpr c27
        have c27b1 : ((rd s0_0 ji24) != 0) = true := bne_iff_ne.mpr c27
        simp only [Option.some.injEq, Prod.mk.injEq] at H
        obtain ⟨rfl, rfl⟩ := H
        go_wp2
        go_ret
        exact ⟨by first | rfl | (simp [zca, zda] <;> rfl) | (simp only [← hji24]; first | rfl | (simp [zca, zda] <;> rfl)) | (simp [*, zca, zda] <;> rfl), HI0.out, HB.out, HK.out⟩
      ·rw [if_neg c26] at H
       exact absurd H (by simp)
     ·rw [if_neg c25] at H
      exact absurd H (by simp)

end Go.Proofs.Ytgcbhknpfpgffaa.C
