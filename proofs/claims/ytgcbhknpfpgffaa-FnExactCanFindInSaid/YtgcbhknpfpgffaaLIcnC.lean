-- Written by wip/find/mk.py, a program of this session.
import Derived.Test.YtgcbhknpfpgffaaLAskC
import Derived.Test.YtgcbhknpfpgffaaCx6
import Derived.Test.YtgcbhknpfpgffaaCx4
namespace Go.Proofs.Ytgcbhknpfpgffaa.C
open Go.RowKit Go.Proofs.YtgcbhknpfpgffaaW.PrintWords Go.Proofs.YtgcbhknpfpgffaaW.PrintLast Go.Proofs.YtgcbhknpfpgffaaW.PrintMore
attribute [local go_sem] zdb zcb zkb zjb zva zwa zbb zab   -- for this text's walks alone
set_option linter.unusedVariables false
set_option linter.unusedSimpArgs false

def impl_searcher_can.j0 (C : CI) (K : Nat) : Nat → Int → Bool → MS → Int → Int → Int → Int → Int → Option (Bool × MS)
 | 0, _, _, _, _, _, _, _, _ => none
 | k + 1, x2, x14, x1000, x1001, x171000, x171001, x171002, x171003 => if x14 = true then (some (false, x1000)) else (if wfK (x171000, x171001, x171002, x171003, x2) then (if (kn x1000 (x171000, x171001, x171002, x171003, x2)).isSome = true then (some ((kn x1000 (x171000, x171001, x171002, x171003, x2)).getD false, x1000)) else ((impl_searcher_ask.f C K x1000 x1001 x171000 x171001 x171002 x171003 x2).bind fun bt => (if bt.2.2.2.2.2.length < 1000000 then (some (bt.2.2.2.2.1, ((x171000, x171001, x171002, x171003, x2), bt.2.2.2.2.1) :: bt.2.2.2.2.2)) else (none)))) else (none))
def impl_searcher_can.f (C : CI) (K k : Nat) (s0_0 : MS) (s0_1 : Int) (a1_0 : Int) (a1_1 : Int) (a1_2 : Int) (a1_3 : Int) (a2 : Int) : Option (Bool × MS) := (impl_State_sum.f a1_0 a1_1 a1_2 a1_3).bind fun t171 => (if t171 ≤ 1 then (some (true, s0_0)) else (if a2 = 0 then (impl_searcher_can.j0 C K k a2 true s0_0 s0_1 a1_0 a1_1 a1_2 a1_3) else ((impl_weight.f k s0_1 a1_0 a1_1 a1_2 a1_3 a2).bind fun t172 => (if 0 ≤ a2 then (impl_searcher_can.j0 C K k a2 (decide (t172 > (shl .i64 1 a2))) s0_0 s0_1 a1_0 a1_1 a1_2 a1_3) else (none)))))
def impl_searcher_can.T3 : Bool × List (List Nat × List Nat) := (true, [([], []), ([0], [0]), ([1], [1]), ([2], [2]), ([3, 2], [2, 3]), ([2], [2]), ([2], [2]), ([4, 5, 6, 2, 2], [2, 4, 5, 6]), ([2], [2]), ([8, 2], [2, 8]), ([7, 9, 2], [2, 7, 9]), ([2, 10], [2, 10]), ([11, 7], [11])])
def impl_searcher_can.B3 : List Nat := [0, 1, 3, 7, 15, 7, 7, 127, 7, 263, 1023, 2047, 4095]
theorem impl_searcher_can.tab3 : rtab .any (zzc Try.f10 3) = impl_searcher_can.T3 := by kernel_rfl
theorem impl_searcher_can.bits3 : znb impl_searcher_can.T3.2 impl_searcher_can.B3 = true := by kernel_rfl
set_option maxHeartbeats 8000000 in
set_option maxRecDepth 100000 in
theorem impl_searcher_can.calls (C : CI) (K k : Nat) (g : Nat) (s0_0 : MS) (s0_1 : Int) (a1_0 : Int) (a1_1 : Int) (a1_2 : Int) (a1_3 : Int) (a2 : Int) (r1 : Bool) (r2 : MS) (w0 wq : World) (HCAN : CaniOK C (wrap64 (a2 - 1))) (hI : IsB w0 wq g s0_0) (hB : Below w0.heap.size w0 wq) (h : impl_searcher_can.f C K k s0_0 s0_1 a1_0 a1_1 a1_2 a1_3 a2 = some (r1, r2)) :
  Calls Try.prog 10 #[.agg #[.int .i64 s0_1, .map (some g)], .agg #[.int .i64 a1_0, .int .i64 a1_1, .int .i64 a1_2, .int .i64 a1_3], .int .i64 a2] wq fun e w' => e = .returned (.bool r1) ∧ IsB w0 w' g r2 ∧ Below w0.heap.size w0 w' ∧ zm wq w' g none := by
 have hu25 := Try.underlying25
 have hu49 := Try.underlying49
 have HIq := zg.mk hI
 have HBq := zg.mk hB
 clear hI hB
 have H : ((impl_State_sum.f a1_0 a1_1 a1_2 a1_3).bind fun t171 => (if t171 ≤ 1 then (some (true, s0_0)) else (if a2 = 0 then (impl_searcher_can.j0 C K k a2 true s0_0 s0_1 a1_0 a1_1 a1_2 a1_3) else ((impl_weight.f k s0_1 a1_0 a1_1 a1_2 a1_3 a2).bind fun t172 => (if 0 ≤ a2 then (impl_searcher_can.j0 C K k a2 (decide (t172 > (shl .i64 1 a2))) s0_0 s0_1 a1_0 a1_1 a1_2 a1_3) else (none)))))) = some (r1, r2) := h
 clear h
 replace H := Option.bind_eq_some_iff.mp H
 obtain ⟨t171, A40, H⟩ := H
 replace H : (if t171 ≤ 1 then (some (true, s0_0)) else (if a2 = 0 then (impl_searcher_can.j0 C K k a2 true s0_0 s0_1 a1_0 a1_1 a1_2 a1_3) else ((impl_weight.f k s0_1 a1_0 a1_1 a1_2 a1_3 a2).bind fun t172 => (if 0 ≤ a2 then (impl_searcher_can.j0 C K k a2 (decide (t172 > (shl .i64 1 a2))) s0_0 s0_1 a1_0 a1_1 a1_2 a1_3) else (none))))) = some (r1, r2) := H
 have A4 := zg.mk A40
 clear A40
 by_cases c5 : t171 ≤ 1
 ·rw [if_pos c5] at H
  have c5b0 : decide (t171 ≤ 1) = true := decide_eq_true c5
  clear c5
  simp only [Option.some.injEq, Prod.mk.injEq] at H
  obtain ⟨rfl, rfl⟩ := H
  go_enter Try.func10, Try.ntmps10
  go_wp2_with (first | ((with_reducible refine zga (N := 3) rfl ?_); refine zia ?hg (N := 3) ?hd (cs := #[.int .i64 s0_1, .map (some g)]) (t := 35) ?hr ?_; (case hd => rfl); (case hg => rfl); (case hr => first | (go_simp; done) | (go_simp; rfl)); intro p0 hg w hbox hb; have HI0 : zg (IsQ p0 w0 w g s0_0 s0_1) := ⟨⟨HIq.out.below hb, by rw [hg]; exact HBq.out.size, by rw [hg]; exact Nat.ne_of_gt HIq.out.lt, hbox⟩⟩; have HP := zg.mk HI0.out.ltp; have HK := zg.mk (zm.refl w g none); have HB := zg.mk (zx HBq.out hb); have HL := zg.mk HB.out.size; have HW0 := zg.mk HB.out.size; have HQ := zg.mk hb; clear hg hbox hb) | ((with_reducible refine zga (N := 4) rfl ?_); refine zia ?hg (N := 4) ?hd (cs := #[.int .i64 a1_0, .int .i64 a1_1, .int .i64 a1_2, .int .i64 a1_3]) (t := 25) ?hr ?_; (case hd => rfl); (case hg => rfl); (case hr => first | (go_simp; done) | (go_simp; rfl)); intro gb170 hg w6 hbox hb; have n0_ := zg.mk (IsQ.below (by repeat (first | (with_reducible first | exact HI0.out | apply IsQ.alloc | apply IsQ.drewN | apply IsQ.drew) | exact HI0.out)) hb); have n1_ := zg.mk (zm.trans (by repeat (first | (with_reducible first | exact HK.out | apply zm.set_ | apply zr | apply zt | apply zs) | exact HK.out)) (zm.of_below hb g none) (.inl rfl)); have n2_ := zg.mk (zx (by repeat (first | (with_reducible first | exact HB.out | apply zq | apply zn | apply zo | refine zi ?_ (IsQ.ge HI0.out)) | exact HB.out)) hb); have n3_ := zg.mk (hbox); have n4_ := zg.mk ((by rw [hg]; exact (zfa (w := w) (g := g) (row := none) (by repeat (first | (with_reducible first | exact HK.out | apply zm.set_ | apply zr | apply zt | apply zs) | exact HK.out))) : w.heap.size ≤ gb170)); have n5_ := zg.mk ((Nat.le_trans HW0.out (by rw [hg]; exact (zfa (w := w) (g := g) (row := none) (by repeat (first | (with_reducible first | exact HK.out | apply zm.set_ | apply zr | apply zt | apply zs) | exact HK.out))) : w.heap.size ≤ gb170) : w0.heap.size ≤ gb170)); have n6_ := zg.mk ((by rw [hg]; exact Nat.ne_of_lt (IsQ.lt (show IsQ p0 w0 _ g s0_0 s0_1 from by repeat (first | (with_reducible first | exact HI0.out | apply IsQ.alloc | apply IsQ.drewN | apply IsQ.drew) | exact HI0.out))) : g ≠ gb170)); have n7_ := zg.mk ((by rw [hg]; exact Nat.ne_of_gt (IsQ.lt (show IsQ p0 w0 _ g s0_0 s0_1 from by repeat (first | (with_reducible first | exact HI0.out | apply IsQ.alloc | apply IsQ.drewN | apply IsQ.drew) | exact HI0.out))) : gb170 ≠ g)); clear HI0; clear HK; clear HB; have HI0 := n0_; have HK := n1_; have HB := n2_; have BK170 := n3_; have GW170 := n4_; have GE170 := n5_; have NB0_170 := n6_; have NB170_0 := n7_; clear n0_ n1_ n2_ n3_ n4_ n5_ n6_ n7_; clear hb hbox hg; have hnb7 := NB170_0.out; have hnc7 := NB0_170.out; have hcz8_0 : w6.cell? ⟨gb170, 0, none⟩ = some (.int .i64 a1_0) := (zh BK170.out 0).trans rfl; have hcz8_1 : w6.cell? ⟨gb170, 1, none⟩ = some (.int .i64 a1_1) := (zh BK170.out 1).trans rfl; have hcz8_2 : w6.cell? ⟨gb170, 2, none⟩ = some (.int .i64 a1_2) := (zh BK170.out 2).trans rfl; have hcz8_3 : w6.cell? ⟨gb170, 3, none⟩ = some (.int .i64 a1_3) := (zh BK170.out 3).trans rfl; have hfz8_0 := zj BK170.out 0; have hfz8_1 := zj BK170.out 1; have hfz8_2 := zj BK170.out 2; have hfz8_3 := zj BK170.out 3) | ((with_reducible refine zha (f := 19) rfl ?_); refine zxb (some 12) rfl rfl Try.func19 (by kernel_rfl) rfl #[.agg #[.int .i64 a1_0, .int .i64 a1_1, .int .i64 a1_2, .int .i64 a1_3]] rfl (by (try simp only [List.map_toArray, List.map_cons, List.map_nil]); first | done | rfl | (simp only [List.length_drop, List.length_take]; rfl)) ?_; (with_reducible refine (impl_State_sum.calls a1_0 a1_1 a1_2 a1_3 t171 _ A4.out).mono ?_); rintro e w9 ⟨rfl, hb⟩; refine ⟨_, rfl, ?_⟩; have n0_ := zg.mk (IsQ.below (by repeat (first | (with_reducible first | exact HI0.out | apply IsQ.alloc | apply IsQ.drewN | apply IsQ.drew | refine IsQ.far ?_ NB0_170.out (nelt HP.out GW170.out) _) | exact HI0.out)) hb); have n1_ := zg.mk (zz (g := gb170) (o := .cells #[.int .i64 a1_0, .int .i64 a1_1, .int .i64 a1_2, .int .i64 a1_3] 25 (0, 0)) (by (with_reducible repeat (first | refine ze ?_ _ | refine zf ?_ | refine za ?_ _)); exact BK170.out) hb); have n2_ := zg.mk (zm.trans (by repeat (first | (with_reducible first | exact HK.out | apply zm.set_ | apply zr | apply zt | apply zs | refine zl ?_ GW170.out _) | exact HK.out)) (zm.of_below hb g none) (.inl rfl)); have n3_ := zg.mk (zx (by repeat (first | (with_reducible first | exact HB.out | apply zq | apply zn | apply zo | refine zi ?_ (IsQ.ge HI0.out) | refine zi ?_ GE170.out) | exact HB.out)) hb); clear HI0; clear BK170; clear HK; clear HB; have HI0 := n0_; have BK170 := n1_; have HK := n2_; have HB := n3_; clear n0_ n1_ n2_ n3_; (try clear hb); (try clear hb2); (try clear hk); (try clear hi)))
  go_ret
  refine (fun h => ⟨h.1, h.2.1.base, h.2.2.1, zm.trans (zm.of_below HQ.out g none) h.2.2.2 (.inl rfl)⟩) (?_ : _ ∧ IsQ p0 w0 _ g _ s0_1 ∧ Below w0.heap.size w0 _ ∧ zm w _ g none); exact ⟨by first | rfl | (simp [zca, zda] <;> rfl) | (simp [*, zca, zda] <;> rfl), by repeat (first | (with_reducible first | exact HI0.out | apply IsQ.alloc | apply IsQ.drewN | apply IsQ.drew | refine IsQ.far ?_ NB0_170.out (nelt HP.out GW170.out) _) | exact HI0.out), by repeat (first | (with_reducible first | exact HB.out | apply zq | apply zn | apply zo | refine zi ?_ (IsQ.ge HI0.out) | refine zi ?_ GE170.out) | exact HB.out), by repeat (first | (with_reducible first | exact HK.out | apply zm.set_ | apply zr | apply zt | apply zs | refine zl ?_ GW170.out _) | exact HK.out)⟩
 ·rw [if_neg c5] at H
  have c5b0 : decide (t171 ≤ 1) = false := decide_eq_false c5
  clear c5
  have HC10 := zg.mk H
  clear H
  go_enter Try.func10, Try.ntmps10
  go_upto_region 3 with (first | ((with_reducible refine zga (N := 3) rfl ?_); refine zia ?hg (N := 3) ?hd (cs := #[.int .i64 s0_1, .map (some g)]) (t := 35) ?hr ?_; (case hd => rfl); (case hg => rfl); (case hr => first | (go_simp; done) | (go_simp; rfl)); intro p0 hg w hbox hb; have HI0 : zg (IsQ p0 w0 w g s0_0 s0_1) := ⟨⟨HIq.out.below hb, by rw [hg]; exact HBq.out.size, by rw [hg]; exact Nat.ne_of_gt HIq.out.lt, hbox⟩⟩; have HP := zg.mk HI0.out.ltp; have HK := zg.mk (zm.refl w g none); have HB := zg.mk (zx HBq.out hb); have HL := zg.mk HB.out.size; have HW0 := zg.mk HB.out.size; have HQ := zg.mk hb; clear hg hbox hb) | ((with_reducible refine zga (N := 4) rfl ?_); refine zia ?hg (N := 4) ?hd (cs := #[.int .i64 a1_0, .int .i64 a1_1, .int .i64 a1_2, .int .i64 a1_3]) (t := 25) ?hr ?_; (case hd => rfl); (case hg => rfl); (case hr => first | (go_simp; done) | (go_simp; rfl)); intro gb170 hg w11 hbox hb; have n0_ := zg.mk (IsQ.below (by repeat (first | (with_reducible first | exact HI0.out | apply IsQ.alloc | apply IsQ.drewN | apply IsQ.drew) | exact HI0.out)) hb); have n1_ := zg.mk (zm.trans (by repeat (first | (with_reducible first | exact HK.out | apply zm.set_ | apply zr | apply zt | apply zs) | exact HK.out)) (zm.of_below hb g none) (.inl rfl)); have n2_ := zg.mk (zx (by repeat (first | (with_reducible first | exact HB.out | apply zq | apply zn | apply zo | refine zi ?_ (IsQ.ge HI0.out)) | exact HB.out)) hb); have n3_ := zg.mk (hbox); have n4_ := zg.mk ((by rw [hg]; exact (zfa (w := w) (g := g) (row := none) (by repeat (first | (with_reducible first | exact HK.out | apply zm.set_ | apply zr | apply zt | apply zs) | exact HK.out))) : w.heap.size ≤ gb170)); have n5_ := zg.mk ((Nat.le_trans HW0.out (by rw [hg]; exact (zfa (w := w) (g := g) (row := none) (by repeat (first | (with_reducible first | exact HK.out | apply zm.set_ | apply zr | apply zt | apply zs) | exact HK.out))) : w.heap.size ≤ gb170) : w0.heap.size ≤ gb170)); have n6_ := zg.mk ((by rw [hg]; exact Nat.ne_of_lt (IsQ.lt (show IsQ p0 w0 _ g s0_0 s0_1 from by repeat (first | (with_reducible first | exact HI0.out | apply IsQ.alloc | apply IsQ.drewN | apply IsQ.drew) | exact HI0.out))) : g ≠ gb170)); have n7_ := zg.mk ((by rw [hg]; exact Nat.ne_of_gt (IsQ.lt (show IsQ p0 w0 _ g s0_0 s0_1 from by repeat (first | (with_reducible first | exact HI0.out | apply IsQ.alloc | apply IsQ.drewN | apply IsQ.drew) | exact HI0.out))) : gb170 ≠ g)); clear HI0; clear HK; clear HB; have HI0 := n0_; have HK := n1_; have HB := n2_; have BK170 := n3_; have GW170 := n4_; have GE170 := n5_; have NB0_170 := n6_; have NB170_0 := n7_; clear n0_ n1_ n2_ n3_ n4_ n5_ n6_ n7_; clear hb hbox hg; have hnb12 := NB170_0.out; have hnc12 := NB0_170.out; have hcz13_0 : w11.cell? ⟨gb170, 0, none⟩ = some (.int .i64 a1_0) := (zh BK170.out 0).trans rfl; have hcz13_1 : w11.cell? ⟨gb170, 1, none⟩ = some (.int .i64 a1_1) := (zh BK170.out 1).trans rfl; have hcz13_2 : w11.cell? ⟨gb170, 2, none⟩ = some (.int .i64 a1_2) := (zh BK170.out 2).trans rfl; have hcz13_3 : w11.cell? ⟨gb170, 3, none⟩ = some (.int .i64 a1_3) := (zh BK170.out 3).trans rfl; have hfz13_0 := zj BK170.out 0; have hfz13_1 := zj BK170.out 1; have hfz13_2 := zj BK170.out 2; have hfz13_3 := zj BK170.out 3) | ((with_reducible refine zha (f := 19) rfl ?_); refine zxb (some 12) rfl rfl Try.func19 (by kernel_rfl) rfl #[.agg #[.int .i64 a1_0, .int .i64 a1_1, .int .i64 a1_2, .int .i64 a1_3]] rfl (by (try simp only [List.map_toArray, List.map_cons, List.map_nil]); first | done | rfl | (simp only [List.length_drop, List.length_take]; rfl)) ?_; (with_reducible refine (impl_State_sum.calls a1_0 a1_1 a1_2 a1_3 t171 _ A4.out).mono ?_); rintro e w14 ⟨rfl, hb⟩; refine ⟨_, rfl, ?_⟩; have n0_ := zg.mk (IsQ.below (by repeat (first | (with_reducible first | exact HI0.out | apply IsQ.alloc | apply IsQ.drewN | apply IsQ.drew | refine IsQ.far ?_ NB0_170.out (nelt HP.out GW170.out) _) | exact HI0.out)) hb); have n1_ := zg.mk (zz (g := gb170) (o := .cells #[.int .i64 a1_0, .int .i64 a1_1, .int .i64 a1_2, .int .i64 a1_3] 25 (0, 0)) (by (with_reducible repeat (first | refine ze ?_ _ | refine zf ?_ | refine za ?_ _)); exact BK170.out) hb); have n2_ := zg.mk (zm.trans (by repeat (first | (with_reducible first | exact HK.out | apply zm.set_ | apply zr | apply zt | apply zs | refine zl ?_ GW170.out _) | exact HK.out)) (zm.of_below hb g none) (.inl rfl)); have n3_ := zg.mk (zx (by repeat (first | (with_reducible first | exact HB.out | apply zq | apply zn | apply zo | refine zi ?_ (IsQ.ge HI0.out) | refine zi ?_ GE170.out) | exact HB.out)) hb); clear HI0; clear BK170; clear HK; clear HB; have HI0 := n0_; have BK170 := n1_; have HK := n2_; have HB := n3_; clear n0_ n1_ n2_ n3_; (try clear hb); (try clear hb2); (try clear hk); (try clear hi)))
  (try simp only [Act.put, List.setIfInBounds_toArray, List.set_cons_zero, List.set_cons_succ])
  go_cut [14] (fun v14 wc => ∃ (kq : Nat) (x14_9 : Bool), v14 = .bool x14_9 ∧ zg (impl_searcher_can.j0 C K kq a2 x14_9 s0_0 s0_1 a1_0 a1_1 a1_2 a1_3 = some (r1, r2)) ∧ zg (kq ≤ k) ∧ zg (wc.heap[gb170]? = some (.cells #[.int .i64 a1_0, .int .i64 a1_1, .int .i64 a1_2, .int .i64 a1_3] 25 (0, 0))) ∧ zg (IsQ p0 w0 wc g s0_0 s0_1) ∧ zg (zm w wc g none) ∧ zg (Below w0.heap.size w0 wc))
  case first =>
   have H := HC10.out
   clear HC10
   by_cases c15 : a2 = 0
   ·rw [if_pos c15] at H
    have c15b0 : (a2 == 0) = true := beq_iff_eq.mpr c15
    have c15b1 : (a2 != 0) = false := bne_eq_false_iff_eq.mpr c15
    clear c15
    (first | rw [c15b0] | (simp only [zv, zw]; rw [c15b0]) | skip)
    have H' := zg.mk H
    clear H
    try go_wp2
    have n0_ := zg.mk (zf BK170.out)
    have n1_ := zg.mk (IsQ.drew HI0.out)
    have n2_ := zg.mk (zt HK.out)
    have n3_ := zg.mk (zo HB.out)
    clear BK170
    clear HI0
    clear HK
    clear HB
    have BK170 := n0_
    have HI0 := n1_
    have HK := n2_
    have HB := n3_
    clear n0_ n1_ n2_ n3_
    refine zra (n := 13) (S := fun w' => True) (ds := []) #[false, false, false, false, false, false, false, false, false, false, false, false, false] (by kernel_rfl) rfl rfl trivial (fun hHeld => ?_); refine zka impl_searcher_can.tab3 impl_searcher_can.bits3 (fun HT_ HW_ => ?_)
    generalize w14.drew = w16 at BK170 HI0 HK HB hHeld ⊢
    refine zaa (i := 0) (N := some 15) (v := ?_) (a' := ?_) #[true, false, false, false, false, false, false, false, false, false, false, false, false] rfl rfl (zu HT_.out (by kernel_rfl)) (fun _ _ _ h => h) (Or.inl ⟨by rfl, ?_⟩) ?_ ?_
    rotate_left
    ·intro w'
     go_simp
     with_reducible rfl
    rotate_left
    ·simp only [Act.put, List.setIfInBounds_toArray, List.set_cons_zero, List.set_cons_succ, zv, zw]
     rfl
    refine zaa (i := 1) (N := some 16) (v := ?_) (a' := ?_) #[true, true, false, false, false, false, false, false, false, false, false, false, false] rfl rfl (zu HT_.out (by kernel_rfl)) (fun _ _ _ h => h) (Or.inl ⟨by rfl, ?_⟩) ?_ ?_
    rotate_left
    ·intro w'
     go_simp
     with_reducible rfl
    rotate_left
    ·simp only [Act.put, List.setIfInBounds_toArray, List.set_cons_zero, List.set_cons_succ, zv, zw]
     rfl
    refine zaa (i := 2) (N := some 17) (v := ?_) (a' := ?_) #[true, true, true, false, false, false, false, false, false, false, false, false, false] rfl rfl (zu HT_.out (by kernel_rfl)) (fun _ _ _ h => h) (Or.inl ⟨by rfl, ?_⟩) ?_ ?_
    rotate_left
    ·intro w'
     go_simp
     with_reducible rfl
    rotate_left
    ·simp only [Act.put, List.setIfInBounds_toArray, List.set_cons_zero, List.set_cons_succ, zv, zw]
     rfl
    refine zaa (i := 3) (N := some 18) (v := undef) (a' := ?_) #[true, true, true, true, false, false, false, false, false, false, false, false, false] rfl rfl (zu HT_.out (by kernel_rfl)) (fun _ _ _ h => h) (Or.inr ⟨by rfl, rfl⟩) ?_ ?_
    rotate_left
    ·simp only [Act.put, List.setIfInBounds_toArray, List.set_cons_zero, List.set_cons_succ, zv, zw]
     rfl
    refine zaa (i := 4) (N := some 19) (v := undef) (a' := ?_) #[true, true, true, true, true, false, false, false, false, false, false, false, false] rfl rfl (zu HT_.out (by kernel_rfl)) (fun _ _ _ h => h) (Or.inr ⟨by rfl, rfl⟩) ?_ ?_
    rotate_left
    ·simp only [Act.put, List.setIfInBounds_toArray, List.set_cons_zero, List.set_cons_succ, zv, zw]
     rfl
    refine zaa (i := 5) (N := some 20) (v := undef) (a' := ?_) #[true, true, true, true, true, true, false, false, false, false, false, false, false] rfl rfl (zu HT_.out (by kernel_rfl)) (fun _ _ _ h => h) (Or.inr ⟨by rfl, rfl⟩) ?_ ?_
    rotate_left
    ·simp only [Act.put, List.setIfInBounds_toArray, List.set_cons_zero, List.set_cons_succ, zv, zw]
     rfl
    refine zaa (i := 6) (N := some 21) (v := undef) (a' := ?_) #[true, true, true, true, true, true, true, false, false, false, false, false, false] rfl rfl (zu HT_.out (by kernel_rfl)) (fun _ _ _ h => h) (Or.inr ⟨by rfl, rfl⟩) ?_ ?_
    rotate_left
    ·simp only [Act.put, List.setIfInBounds_toArray, List.set_cons_zero, List.set_cons_succ, zv, zw]
     rfl
    refine zaa (i := 7) (N := some 22) (v := undef) (a' := ?_) #[true, true, true, true, true, true, true, true, false, false, false, false, false] rfl rfl (zu HT_.out (by kernel_rfl)) (fun _ _ _ h => h) (Or.inr ⟨by rfl, rfl⟩) ?_ ?_
    rotate_left
    ·simp only [Act.put, List.setIfInBounds_toArray, List.set_cons_zero, List.set_cons_succ, zv, zw]
     rfl
    refine zaa (i := 8) (N := some 23) (v := undef) (a' := ?_) #[true, true, true, true, true, true, true, true, true, false, false, false, false] rfl rfl (zu HT_.out (by kernel_rfl)) (fun _ _ _ h => h) (Or.inr ⟨by rfl, rfl⟩) ?_ ?_
    rotate_left
    ·simp only [Act.put, List.setIfInBounds_toArray, List.set_cons_zero, List.set_cons_succ, zv, zw]
     rfl
    refine zaa (i := 9) (N := some 24) (v := undef) (a' := ?_) #[true, true, true, true, true, true, true, true, true, true, false, false, false] rfl rfl (zu HT_.out (by kernel_rfl)) (fun _ _ _ h => h) (Or.inr ⟨by rfl, rfl⟩) ?_ ?_
    rotate_left
    ·simp only [Act.put, List.setIfInBounds_toArray, List.set_cons_zero, List.set_cons_succ, zv, zw]
     rfl
    refine zaa (i := 10) (N := some 25) (v := undef) (a' := ?_) #[true, true, true, true, true, true, true, true, true, true, true, false, false] rfl rfl (zu HT_.out (by kernel_rfl)) (fun _ _ _ h => h) (Or.inr ⟨by rfl, rfl⟩) ?_ ?_
    rotate_left
    ·simp only [Act.put, List.setIfInBounds_toArray, List.set_cons_zero, List.set_cons_succ, zv, zw]
     rfl
    refine zaa (i := 11) (N := some 26) (v := ?_) (a' := ?_) #[true, true, true, true, true, true, true, true, true, true, true, true, false] rfl rfl (zu HT_.out (by kernel_rfl)) (fun _ _ _ h => h) (Or.inl ⟨by rfl, ?_⟩) ?_ ?_
    rotate_left
    ·intro w'
     go_simp
     with_reducible rfl
    rotate_left
    ·simp only [Act.put, List.setIfInBounds_toArray, List.set_cons_zero, List.set_cons_succ, zv, zw]
     rfl
    refine zaa (i := 12) (N := some 14) (v := ?_) (a' := ?_) #[true, true, true, true, true, true, true, true, true, true, true, true, true] rfl rfl (zu HT_.out (by kernel_rfl)) (fun _ _ _ h => h) (Or.inl ⟨by rfl, ?_⟩) ?_ ?_
    rotate_left
    ·intro w'
     go_simp
     with_reducible rfl
    rotate_left
    ·simp only [Act.put, List.setIfInBounds_toArray, List.set_cons_zero, List.set_cons_succ, zv, zw]
     rfl
    refine zeb (zla HT_.out (by kernel_rfl)) ?_
    try go_wp2
    go_meet
    case rel => exact ⟨_, (true), (by first | rfl | (simp; done) | (simp [*]; done)), H', ⟨by first | omega | exact Nat.le_refl _⟩, ⟨by (with_reducible repeat (first | refine ze ?_ _ | refine zf ?_ | refine za ?_ _)); exact BK170.out⟩, ⟨by repeat (first | (with_reducible first | exact HI0.out | apply IsQ.alloc | apply IsQ.drewN | apply IsQ.drew | refine IsQ.far ?_ NB0_170.out (nelt HP.out GW170.out) _) | exact HI0.out)⟩, ⟨by repeat (first | (with_reducible first | exact HK.out | apply zm.set_ | apply zr | apply zt | apply zs | refine zl ?_ GW170.out _) | exact HK.out)⟩, ⟨by repeat (first | (with_reducible first | exact HB.out | apply zq | apply zn | apply zo | refine zi ?_ (IsQ.ge HI0.out) | refine zi ?_ GE170.out) | exact HB.out)⟩⟩
   ·rw [if_neg c15] at H
    have c15b0 : (a2 == 0) = false := beq_eq_false_iff_ne.mpr c15
    have c15b1 : (a2 != 0) = true := bne_iff_ne.mpr c15
    (first | rw [c15b0] | (simp only [zv, zw]; rw [c15b0]) | skip)
    replace H := Option.bind_eq_some_iff.mp H
    obtain ⟨t172, A170, H⟩ := H
    replace H : (if 0 ≤ a2 then (impl_searcher_can.j0 C K k a2 (decide (t172 > (shl .i64 1 a2))) s0_0 s0_1 a1_0 a1_1 a1_2 a1_3) else (none)) = some (r1, r2) := H
    have A17 := zg.mk A170
    clear A170
    by_cases c18 : 0 ≤ a2
    ·rw [if_pos c18] at H
     have c18b0 := eq_true c18
     have c18b1 : decide (0 ≤ a2) = true := decide_eq_true c18
     clear c18
     obtain ⟨ji19, hji19⟩ : ∃ j_ : Int, (shl .i64 1 a2) = j_ := ⟨_, rfl⟩
     replace H : (impl_searcher_can.j0 C K k a2 (decide (t172 > (ji19))) s0_0 s0_1 a1_0 a1_1 a1_2 a1_3) = some (r1, r2) := by first | (rw [hji19] at H; exact H) | (simp only [hji19] at H ⊢; exact H)
     (try rw [hji19] at A17)
     have hji19_ : (IntKind.i64.wrap (1 * 2 ^ min a2.toNat 64)) = ji19 := hji19
     have hji19z : a2 ≤ 64 → (IntKind.i64.wrap (1 * 2 ^ a2.toNat)) = ji19 := zud hji19
     have hji19u : (IntKind.i64.wrap (2 ^ min a2.toNat 64)) = ji19 := by have h_ := hji19_; rw [Int.one_mul] at h_; exact h_
     have hji19v : a2 ≤ 64 → (IntKind.i64.wrap (2 ^ a2.toNat)) = ji19 := fun hle_ => by have h_ := hji19z hle_; rw [Int.one_mul] at h_; exact h_
     have hji19y : (wrap64 (1 * 2 ^ min a2.toNat 64)) = ji19 := (zv _).symm.trans hji19_
     have hji19x : a2 ≤ 64 → (wrap64 (1 * 2 ^ a2.toNat)) = ji19 := fun h_ => (zv _).symm.trans (hji19z h_)
     have H' := zg.mk H
     clear H
     try go_wp2
     have n0_ := zg.mk (zf BK170.out)
     have n1_ := zg.mk (IsQ.drew HI0.out)
     have n2_ := zg.mk (zt HK.out)
     have n3_ := zg.mk (zo HB.out)
     clear BK170
     clear HI0
     clear HK
     clear HB
     have BK170 := n0_
     have HI0 := n1_
     have HK := n2_
     have HB := n3_
     clear n0_ n1_ n2_ n3_
     refine zra (n := 13) (S := fun w' => w'.cell? ⟨gb170, 0, none⟩ = some (.int .i64 a1_0) ∧ w'.cell? ⟨gb170, 1, none⟩ = some (.int .i64 a1_1) ∧ w'.cell? ⟨gb170, 2, none⟩ = some (.int .i64 a1_2) ∧ w'.cell? ⟨gb170, 3, none⟩ = some (.int .i64 a1_3) ∧ w'.cell? ⟨p0, 0, none⟩ = some (.int .i64 s0_1)) (ds := []) #[false, false, false, false, false, false, false, false, false, false, false, false, false] (by kernel_rfl) rfl rfl ⟨(zh BK170.out 0).trans rfl, (zh BK170.out 1).trans rfl, (zh BK170.out 2).trans rfl, (zh BK170.out 3).trans rfl, HI0.out.c0⟩ (fun hHeld => ?_); refine zka impl_searcher_can.tab3 impl_searcher_can.bits3 (fun HT_ HW_ => ?_)
     generalize w14.drew = w20 at BK170 HI0 HK HB hHeld ⊢
     refine zaa (i := 0) (N := some 15) (v := ?_) (a' := ?_) #[true, false, false, false, false, false, false, false, false, false, false, false, false] rfl rfl (zu HT_.out (by kernel_rfl)) (fun _ _ _ h => h) (Or.inl ⟨by rfl, ?_⟩) ?_ ?_
     rotate_left
     ·intro w'
      go_simp
      with_reducible rfl
     rotate_left
     ·simp only [Act.put, List.setIfInBounds_toArray, List.set_cons_zero, List.set_cons_succ, zv, zw]
      rfl
     refine zaa (i := 1) (N := some 16) (v := ?_) (a' := ?_) #[true, true, false, false, false, false, false, false, false, false, false, false, false] rfl rfl (zu HT_.out (by kernel_rfl)) (fun _ _ _ h => h) (Or.inl ⟨by rfl, ?_⟩) ?_ ?_
     rotate_left
     ·intro w'
      go_simp
      with_reducible rfl
     rotate_left
     ·simp only [Act.put, List.setIfInBounds_toArray, List.set_cons_zero, List.set_cons_succ, zv, zw]
      rfl
     refine zaa (i := 2) (N := some 17) (v := ?_) (a' := ?_) #[true, true, true, false, false, false, false, false, false, false, false, false, false] rfl rfl (zu HT_.out (by kernel_rfl)) (fun _ _ _ h => h) (Or.inl ⟨by rfl, ?_⟩) ?_ ?_
     rotate_left
     ·intro w'
      go_simp
      with_reducible rfl
     rotate_left
     ·simp only [Act.put, List.setIfInBounds_toArray, List.set_cons_zero, List.set_cons_succ, zv, zw]
      rfl
     refine zaa (i := 3) (N := some 18) (v := ?_) (a' := ?_) #[true, true, true, true, false, false, false, false, false, false, false, false, false] rfl rfl (zu HT_.out (by kernel_rfl)) (fun _ _ _ h => h) (Or.inl ⟨by rfl, ?_⟩) ?_ ?_
     rotate_left
     ·intro w'
      go_simp
      with_reducible rfl
     rotate_left
     ·simp only [Act.put, List.setIfInBounds_toArray, List.set_cons_zero, List.set_cons_succ, zv, zw]
      rfl
     refine take_ (i := 4) (N := some 19) (v := ?_) (a' := ?_) #[true, true, true, true, true, false, false, false, false, false, false, false, false] rfl rfl (zea HT_.out HW_.out (by kernel_rfl)) (fun _ _ _ h => h) (Or.inl ⟨by rfl, ?_⟩) hHeld ?_ ?_
     rotate_left
     ·rintro w' ⟨s0, s1, s2, s3, s4⟩
      go_simp
      with_reducible rfl
     rotate_left
     ·simp only [Act.put, List.setIfInBounds_toArray, List.set_cons_zero, List.set_cons_succ, zv, zw]
      rfl
     refine zaa (i := 6) (N := some 21) (v := ?_) (a' := ?_) #[true, true, true, true, true, false, true, false, false, false, false, false, false] rfl rfl (zu HT_.out (by kernel_rfl)) (fun _ _ _ h => h) (Or.inl ⟨by rfl, ?_⟩) ?_ ?_
     rotate_left
     ·intro w'
      go_simp
      with_reducible rfl
     rotate_left
     ·simp only [Act.put, List.setIfInBounds_toArray, List.set_cons_zero, List.set_cons_succ, zv, zw]
      rfl
     refine zaa (i := 8) (N := some 23) (v := ?_) (a' := ?_) #[true, true, true, true, true, false, true, false, true, false, false, false, false] rfl rfl (zu HT_.out (by kernel_rfl)) (fun _ _ _ h => h) (Or.inl ⟨by rfl, ?_⟩) ?_ ?_
     rotate_left
     ·intro w'
      go_simp
      with_reducible rfl
     rotate_left
     ·simp only [Act.put, List.setIfInBounds_toArray, List.set_cons_zero, List.set_cons_succ, zv, zw]
      rfl
     refine zaa (i := 9) (N := some 24) (v := ?_) (a' := ?_) #[true, true, true, true, true, false, true, false, true, true, false, false, false] rfl rfl (zu HT_.out (by kernel_rfl)) (fun _ _ _ h => h) (Or.inl ⟨by rfl, ?_⟩) ?_ ?_
     rotate_left
     ·intro w'
      go_simp
      with_reducible rfl
     rotate_left
     ·simp only [Act.put, List.setIfInBounds_toArray, List.set_cons_zero, List.set_cons_succ, zv, zw]
      rfl
     refine take_ (i := 5) (N := some 20) (v := ?_) (a' := ?_) #[true, true, true, true, true, true, true, false, true, true, false, false, false] rfl rfl (zea HT_.out HW_.out (by kernel_rfl)) (fun _ _ _ h => h) (Or.inl ⟨by rfl, ?_⟩) hHeld ?_ ?_
     rotate_left
     ·rintro w' ⟨s0, s1, s2, s3, s4⟩
      go_simp
      with_reducible rfl
     rotate_left
     ·simp only [Act.put, List.setIfInBounds_toArray, List.set_cons_zero, List.set_cons_succ, zv, zw]
      rfl
     refine one_ (i := 7) (N := some 22) #[true, true, true, true, true, true, true, true, true, true, false, false, false] rfl rfl (zna HT_.out (by kernel_rfl)) (by decide) (fun K hK => ?_)
     refine zhe Try.func20 (by kernel_rfl) rfl #[.int .i64 s0_1, .agg #[.int .i64 a1_0, .int .i64 a1_1, .int .i64 a1_2, .int .i64 a1_3], .int .i64 a2] (by rfl) rfl rfl (by (try simp only [List.map_toArray, List.map_cons, List.map_nil]); first | done | rfl | (simp only [List.length_drop, List.length_take]; rfl)) ?_
     with_reducible refine (impl_weight.calls k s0_1 a1_0 a1_1 a1_2 a1_3 a2 t172 _ A17.out).mono ?_
     rintro e w21 ⟨rfl, hb⟩
     refine ⟨_, rfl, ?_⟩
     have n0_ := zg.mk (IsQ.below (by repeat (first | (with_reducible first | exact HI0.out | apply IsQ.alloc | apply IsQ.drewN | apply IsQ.drew | refine IsQ.far ?_ NB0_170.out (nelt HP.out GW170.out) _) | exact HI0.out)) hb)
     have n1_ := zg.mk (zz (g := gb170) (o := .cells #[.int .i64 a1_0, .int .i64 a1_1, .int .i64 a1_2, .int .i64 a1_3] 25 (0, 0)) (by (with_reducible repeat (first | refine ze ?_ _ | refine zf ?_ | refine za ?_ _)); exact BK170.out) hb)
     have n2_ := zg.mk (zm.trans (by repeat (first | (with_reducible first | exact HK.out | apply zm.set_ | apply zr | apply zt | apply zs | refine zl ?_ GW170.out _) | exact HK.out)) (zm.of_below hb g none) (.inl rfl))
     have n3_ := zg.mk (zx (by repeat (first | (with_reducible first | exact HB.out | apply zq | apply zn | apply zo | refine zi ?_ (IsQ.ge HI0.out) | refine zi ?_ GE170.out) | exact HB.out)) hb)
     clear HI0
     clear BK170
     clear HK
     clear HB
     have HI0 := n0_
     have BK170 := n1_
     have HK := n2_
     have HB := n3_
     clear n0_ n1_ n2_ n3_
     (try clear hb)
     (try clear hb2)
     (try clear hk)
     (try clear hi)
     refine hK.out _ _ ⟨(zh BK170.out 0).trans rfl, (zh BK170.out 1).trans rfl, (zh BK170.out 2).trans rfl, (zh BK170.out 3).trans rfl, HI0.out.c0⟩ (fun hHeld => ?_)
     clear hK K
     refine zhb (a' := ?_) ?_ ?_
     rotate_left
     ·show Act.put _ (some 22) _ = _
      simp only [Act.put, List.setIfInBounds_toArray, List.set_cons_zero, List.set_cons_succ, zv, zw]
      rfl
     refine zaa (i := 10) (N := some 25) (v := ?_) (a' := ?_) #[true, true, true, true, true, true, true, true, true, true, true, false, false] rfl rfl (zu HT_.out (by kernel_rfl)) (fun _ _ _ h => h) (Or.inl ⟨by rfl, ?_⟩) ?_ ?_
     rotate_left
     ·intro w'
      go_simp
      with_reducible rfl
     rotate_left
     ·simp only [Act.put, List.setIfInBounds_toArray, List.set_cons_zero, List.set_cons_succ, zv, zw]
      rfl
     refine zaa (i := 11) (N := some 26) (v := ?_) (a' := ?_) #[true, true, true, true, true, true, true, true, true, true, true, true, false] rfl rfl (zu HT_.out (by kernel_rfl)) (fun _ _ _ h => h) (Or.inl ⟨by rfl, ?_⟩) ?_ ?_
     rotate_left
     ·intro w'
      go_simp
      with_reducible rfl
     rotate_left
     ·simp only [Act.put, List.setIfInBounds_toArray, List.set_cons_zero, List.set_cons_succ, zv, zw]
      rfl
     refine zaa (i := 12) (N := some 14) (v := ?_) (a' := ?_) #[true, true, true, true, true, true, true, true, true, true, true, true, true] rfl rfl (zu HT_.out (by kernel_rfl)) (fun _ _ _ h => h) (Or.inl ⟨by rfl, ?_⟩) ?_ ?_
     rotate_left
     ·intro w'
      go_simp
      with_reducible rfl
     rotate_left
     ·simp only [Act.put, List.setIfInBounds_toArray, List.set_cons_zero, List.set_cons_succ, zv, zw]
      rfl
     refine zeb (zla HT_.out (by kernel_rfl)) ?_
     try go_wp2
     go_meet
     case rel => exact ⟨_, (decide (t172 > (ji19))), (by first | rfl | (simp; done) | (simp only [← hji19] <;> (first | rfl | simp)) | (simp [*]; done)), H', ⟨by first | omega | exact Nat.le_refl _⟩, ⟨by (with_reducible repeat (first | refine ze ?_ _ | refine zf ?_ | refine za ?_ _)); exact BK170.out⟩, ⟨by repeat (first | (with_reducible first | exact HI0.out | apply IsQ.alloc | apply IsQ.drewN | apply IsQ.drew | refine IsQ.far ?_ NB0_170.out (nelt HP.out GW170.out) _) | exact HI0.out)⟩, ⟨by repeat (first | (with_reducible first | exact HK.out | apply zm.set_ | apply zr | apply zt | apply zs | refine zl ?_ GW170.out _) | exact HK.out)⟩, ⟨by repeat (first | (with_reducible first | exact HB.out | apply zq | apply zn | apply zo | refine zi ?_ (IsQ.ge HI0.out) | refine zi ?_ GE170.out) | exact HB.out)⟩⟩
    ·rw [if_neg c18] at H
     exact absurd H (by simp)
  case rest =>
   clear HC10
   try clear c1
   try clear c2
   try clear p2
   try clear c5
   try clear c5b0
   try clear p6
   try clear c7
   try clear c10
   try clear c12
   try clear c15
   try clear c15b0
   try clear c15b1
   try clear c18
   try clear c18b0
   try clear c18b1
   try clear c19
   try clear c20
   try clear hcz13_0
   try clear hcz13_1
   try clear hcz13_2
   try clear hcz13_3
   try clear hcz8_0
   try clear hcz8_1
   try clear hcz8_2
   try clear hcz8_3
   try clear hfz13_0
   try clear hfz13_1
   try clear hfz13_2
   try clear hfz13_3
   try clear hfz8_0
   try clear hfz8_1
   try clear hfz8_2
   try clear hfz8_3
   obtain ⟨kq, x14_9, rfl, HA, HJ9, BK170, HI0, HK, HB⟩ := hcut
   cases kq with
   | zero => exact absurd HA.out (by simp [impl_searcher_can.j0])
   | succ kj9 =>
    have H := HA.out
    clear HA
    simp only [impl_searcher_can.j0] at H
    by_cases c22 : x14_9 = true
    ·subst c22
     have H1 : (some (false, s0_0)) = some (r1, r2) := by rw [if_pos rfl] at H; exact H
     clear H
     have H := H1
     clear H1
     simp only [Option.some.injEq, Prod.mk.injEq] at H
     obtain ⟨rfl, rfl⟩ := H
     go_wp2
     go_ret
     refine (fun h => ⟨h.1, h.2.1.base, h.2.2.1, zm.trans (zm.of_below HQ.out g none) h.2.2.2 (.inl rfl)⟩) (?_ : _ ∧ IsQ p0 w0 _ g _ s0_1 ∧ Below w0.heap.size w0 _ ∧ zm w _ g none); exact ⟨by first | rfl | (simp [zca, zda] <;> rfl) | (simp [*, zca, zda] <;> rfl), by repeat (first | (with_reducible first | exact HI0.out | apply IsQ.alloc | apply IsQ.drewN | apply IsQ.drew | refine IsQ.far ?_ NB0_170.out (nelt HP.out GW170.out) _) | exact HI0.out), by repeat (first | (with_reducible first | exact HB.out | apply zq | apply zn | apply zo | refine zi ?_ (IsQ.ge HI0.out) | refine zi ?_ GE170.out) | exact HB.out), by repeat (first | (with_reducible first | exact HK.out | apply zm.set_ | apply zr | apply zt | apply zs | refine zl ?_ GW170.out _) | exact HK.out)⟩
    ·replace c22 := Bool.eq_false_iff.mpr c22
     subst c22
     have H1 : (if wfK (a1_0, a1_1, a1_2, a1_3, a2) then (if (kn s0_0 (a1_0, a1_1, a1_2, a1_3, a2)).isSome = true then (some ((kn s0_0 (a1_0, a1_1, a1_2, a1_3, a2)).getD false, s0_0)) else ((impl_searcher_ask.f C K s0_0 s0_1 a1_0 a1_1 a1_2 a1_3 a2).bind fun bt => (if bt.2.2.2.2.2.length < 1000000 then (some (bt.2.2.2.2.1, ((a1_0, a1_1, a1_2, a1_3, a2), bt.2.2.2.2.1) :: bt.2.2.2.2.2)) else (none)))) else (none)) = some (r1, r2) := by rw [if_neg (show ¬ (false = true) by decide)] at H; exact H
     clear H
     have H := H1
     clear H1
     by_cases cwf : wfK (a1_0, a1_1, a1_2, a1_3, a2)
     ·rw [if_pos cwf] at H
      have HWF := zg.mk cwf
      clear cwf
      have hnb24 := NB170_0.out
      have hnc24 := NB0_170.out
      have hcx_wc_0 : wc.cell? ⟨gb170, 0, none⟩ = some (.int .i64 a1_0) := (zh BK170.out 0).trans rfl
      have hcx_wc_1 : wc.cell? ⟨gb170, 1, none⟩ = some (.int .i64 a1_1) := (zh BK170.out 1).trans rfl
      have hcx_wc_2 : wc.cell? ⟨gb170, 2, none⟩ = some (.int .i64 a1_2) := (zh BK170.out 2).trans rfl
      have hcx_wc_3 : wc.cell? ⟨gb170, 3, none⟩ = some (.int .i64 a1_3) := (zh BK170.out 3).trans rfl
      have hcp_wc_0 := HI0.out.c0
      have hcp_wc_1 := HI0.out.c1
      have hnp_170 : p0 ≠ gb170 := nelt HP.out GW170.out
      have hnq_170 := hnp_170.symm
      cases hkn : kn s0_0 (a1_0, a1_1, a1_2, a1_3, a2) with
      | some b =>
       have HKN := zg.mk hkn
       rw [hkn] at H
       clear hkn
       simp only [Option.isSome_some, if_true, Option.getD_some, Option.some.injEq, Prod.mk.injEq] at H
       obtain ⟨rfl, rfl⟩ := H
       go_wp2_with (first | ((with_reducible refine zga (N := 7) rfl ?_); refine zia ?hg (N := 7) ?hd (cs := #[.int .i64 0, .int .i64 0, .int .i64 0, .int .i64 0, .int .i64 0]) (t := 49) ?hr ?_; (case hd => rfl); (case hg => rfl); (case hr => first | (go_simp; done) | (go_simp; rfl)); intro gb173 hg w26 hbox hb; have n0_ := zg.mk (zz (g := gb170) (o := .cells #[.int .i64 a1_0, .int .i64 a1_1, .int .i64 a1_2, .int .i64 a1_3] 25 (0, 0)) (by (with_reducible repeat (first | refine ze ?_ _ | refine zf ?_ | refine za ?_ _)); exact BK170.out) hb); have n1_ := zg.mk (IsQ.below (by repeat (first | (with_reducible first | exact HI0.out | apply IsQ.alloc | apply IsQ.drewN | apply IsQ.drew | refine IsQ.far ?_ NB0_170.out (nelt HP.out GW170.out) _) | exact HI0.out)) hb); have n2_ := zg.mk (zm.trans (by repeat (first | (with_reducible first | exact HK.out | apply zm.set_ | apply zr | apply zt | apply zs | refine zl ?_ GW170.out _) | exact HK.out)) (zm.of_below hb g none) (.inl rfl)); have n3_ := zg.mk (zx (by repeat (first | (with_reducible first | exact HB.out | apply zq | apply zn | apply zo | refine zi ?_ (IsQ.ge HI0.out) | refine zi ?_ GE170.out) | exact HB.out)) hb); have n4_ := zg.mk (hbox); have n5_ := zg.mk ((by rw [hg]; exact (zfa (w := w) (g := g) (row := none) (by repeat (first | (with_reducible first | exact HK.out | apply zm.set_ | apply zr | apply zt | apply zs | refine zl ?_ GW170.out _) | exact HK.out))) : w.heap.size ≤ gb173)); have n6_ := zg.mk ((Nat.le_trans HW0.out (by rw [hg]; exact (zfa (w := w) (g := g) (row := none) (by repeat (first | (with_reducible first | exact HK.out | apply zm.set_ | apply zr | apply zt | apply zs | refine zl ?_ GW170.out _) | exact HK.out))) : w.heap.size ≤ gb173) : w0.heap.size ≤ gb173)); have n7_ := zg.mk ((by rw [hg]; exact Nat.ne_of_lt (zba (g := gb170) (o := .cells #[.int .i64 a1_0, .int .i64 a1_1, .int .i64 a1_2, .int .i64 a1_3] 25 (0, 0)) (by (with_reducible repeat (first | refine ze ?_ _ | refine zf ?_ | refine za ?_ _)); exact BK170.out)) : gb170 ≠ gb173)); have n8_ := zg.mk ((by rw [hg]; exact Nat.ne_of_gt (zba (g := gb170) (o := .cells #[.int .i64 a1_0, .int .i64 a1_1, .int .i64 a1_2, .int .i64 a1_3] 25 (0, 0)) (by (with_reducible repeat (first | refine ze ?_ _ | refine zf ?_ | refine za ?_ _)); exact BK170.out)) : gb173 ≠ gb170)); have n9_ := zg.mk ((by rw [hg]; exact Nat.ne_of_lt (IsQ.lt (show IsQ p0 w0 _ g s0_0 s0_1 from by repeat (first | (with_reducible first | exact HI0.out | apply IsQ.alloc | apply IsQ.drewN | apply IsQ.drew | refine IsQ.far ?_ NB0_170.out (nelt HP.out GW170.out) _) | exact HI0.out))) : g ≠ gb173)); have n10_ := zg.mk ((by rw [hg]; exact Nat.ne_of_gt (IsQ.lt (show IsQ p0 w0 _ g s0_0 s0_1 from by repeat (first | (with_reducible first | exact HI0.out | apply IsQ.alloc | apply IsQ.drewN | apply IsQ.drew | refine IsQ.far ?_ NB0_170.out (nelt HP.out GW170.out) _) | exact HI0.out))) : gb173 ≠ g)); clear BK170; clear HI0; clear HK; clear HB; have BK170 := n0_; have HI0 := n1_; have HK := n2_; have HB := n3_; have BK173 := n4_; have GW173 := n5_; have GE173 := n6_; have NB170_173 := n7_; have NB173_170 := n8_; have NB0_173 := n9_; have NB173_0 := n10_; clear n0_ n1_ n2_ n3_ n4_ n5_ n6_ n7_ n8_ n9_ n10_; clear hb hbox hg; have hnb27 := NB173_170.out; have hnc27 := NB170_173.out; have hnb28 := NB173_0.out; have hnc28 := NB0_173.out; have hcz29_0 : w26.cell? ⟨gb173, 0, none⟩ = some (.int .i64 0) := (zh BK173.out 0).trans rfl; have hcz29_1 : w26.cell? ⟨gb173, 1, none⟩ = some (.int .i64 0) := (zh BK173.out 1).trans rfl; have hcz29_2 : w26.cell? ⟨gb173, 2, none⟩ = some (.int .i64 0) := (zh BK173.out 2).trans rfl; have hcz29_3 : w26.cell? ⟨gb173, 3, none⟩ = some (.int .i64 0) := (zh BK173.out 3).trans rfl; have hcz29_4 : w26.cell? ⟨gb173, 4, none⟩ = some (.int .i64 0) := (zh BK173.out 4).trans rfl; have hfz29_0 := zj BK173.out 0; have hfz29_1 := zj BK173.out 1; have hfz29_2 := zj BK173.out 2; have hfz29_3 := zj BK173.out 3; have hfz29_4 := zj BK173.out 4; have hcz30_0 : w26.cell? ⟨gb170, 0, none⟩ = some (.int .i64 a1_0) := (zh BK170.out 0).trans rfl; have hcz30_1 : w26.cell? ⟨gb170, 1, none⟩ = some (.int .i64 a1_1) := (zh BK170.out 1).trans rfl; have hcz30_2 : w26.cell? ⟨gb170, 2, none⟩ = some (.int .i64 a1_2) := (zh BK170.out 2).trans rfl; have hcz30_3 : w26.cell? ⟨gb170, 3, none⟩ = some (.int .i64 a1_3) := (zh BK170.out 3).trans rfl; have hfz30_0 := zj BK170.out 0; have hfz30_1 := zj BK170.out 1; have hfz30_2 := zj BK170.out 2; have hfz30_3 := zj BK170.out 3) | ((with_reducible refine zua (t := 49) (p := 7) rfl ?_); refine zoa (t := 49) (p := 7) (v := ?vo_w27) (w1 := (((((w26.setCell ⟨gb173, 0, none⟩ (.int .i64 a1_0)).setCell ⟨gb173, 1, none⟩ (.int .i64 a1_1)).setCell ⟨gb173, 2, none⟩ (.int .i64 a1_2)).setCell ⟨gb173, 3, none⟩ (.int .i64 a1_3)).setCell ⟨gb173, 4, none⟩ (.int .i64 a2))) ?hg ?ho ?hn ?hr ?_; (case ho => rfl); (case hg => rfl); (case hn => rfl); (case hr => first | (go_simp; done) | (go_simp; rfl)); intro w27 hw; have n0_ : zg (w27.heap[gb170]? = some (.cells #[.int .i64 a1_0, .int .i64 a1_1, .int .i64 a1_2, .int .i64 a1_3] 25 (0, 0))) := ⟨(by rw [hw]; exact (zk (zk (zk (zk (zk BK170.out NB170_173.out _) NB170_173.out _) NB170_173.out _) NB170_173.out _) NB170_173.out _))⟩; have n4_ : zg (w27.heap[gb173]? = some (.cells #[.int .i64 a1_0, .int .i64 a1_1, .int .i64 a1_2, .int .i64 a1_3, .int .i64 a2] 49 (0, 0))) := ⟨(by rw [hw]; exact (zy (cs := #[.int .i64 a1_0, .int .i64 a1_1, .int .i64 a1_2, .int .i64 a1_3, .int .i64 0]) (zy (cs := #[.int .i64 a1_0, .int .i64 a1_1, .int .i64 a1_2, .int .i64 0, .int .i64 0]) (zy (cs := #[.int .i64 a1_0, .int .i64 a1_1, .int .i64 0, .int .i64 0, .int .i64 0]) (zy (cs := #[.int .i64 a1_0, .int .i64 0, .int .i64 0, .int .i64 0, .int .i64 0]) (zy (cs := #[.int .i64 0, .int .i64 0, .int .i64 0, .int .i64 0, .int .i64 0]) BK173.out 0 _ rfl) 1 _ rfl) 2 _ rfl) 3 _ rfl) 4 _ rfl))⟩; have n1_ : zg (IsQ p0 w0 w27 g s0_0 s0_1) := ⟨(by rw [hw]; exact (IsQ.far (IsQ.far (IsQ.far (IsQ.far (IsQ.far HI0.out NB0_173.out (nelt HP.out GW173.out) _) NB0_173.out (nelt HP.out GW173.out) _) NB0_173.out (nelt HP.out GW173.out) _) NB0_173.out (nelt HP.out GW173.out) _) NB0_173.out (nelt HP.out GW173.out) _))⟩; have n2_ : zg (zm w w27 g none) := ⟨(by rw [hw]; exact (zl (zl (zl (zl (zl HK.out GW173.out _) GW173.out _) GW173.out _) GW173.out _) GW173.out _))⟩; have n3_ : zg (Below w0.heap.size w0 w27) := ⟨(by rw [hw]; exact (zi (zi (zi (zi (zi HB.out GE173.out) GE173.out) GE173.out) GE173.out) GE173.out))⟩; clear hw; clear BK170 BK173 HI0 HK HB; have BK170 := n0_; have BK173 := n4_; have HI0 := n1_; have HK := n2_; have HB := n3_; clear n0_ n1_ n2_ n3_ n4_; have hcx_w27_0 : w27.cell? ⟨gb170, 0, none⟩ = some (.int .i64 a1_0) := (zh BK170.out 0).trans rfl; have hcx_w27_1 : w27.cell? ⟨gb170, 1, none⟩ = some (.int .i64 a1_1) := (zh BK170.out 1).trans rfl; have hcx_w27_2 : w27.cell? ⟨gb170, 2, none⟩ = some (.int .i64 a1_2) := (zh BK170.out 2).trans rfl; have hcx_w27_3 : w27.cell? ⟨gb170, 3, none⟩ = some (.int .i64 a1_3) := (zh BK170.out 3).trans rfl; have hck_w27_0 : w27.cell? ⟨gb173, 0, none⟩ = some (.int .i64 a1_0) := (zh BK173.out 0).trans rfl; have hck_w27_1 : w27.cell? ⟨gb173, 1, none⟩ = some (.int .i64 a1_1) := (zh BK173.out 1).trans rfl; have hck_w27_2 : w27.cell? ⟨gb173, 2, none⟩ = some (.int .i64 a1_2) := (zh BK173.out 2).trans rfl; have hck_w27_3 : w27.cell? ⟨gb173, 3, none⟩ = some (.int .i64 a1_3) := (zh BK173.out 3).trans rfl; have hck_w27_4 : w27.cell? ⟨gb173, 4, none⟩ = some (.int .i64 a2) := (zh BK173.out 4).trans rfl; have hcp_w27_0 := HI0.out.c0; have hcp_w27_1 := HI0.out.c1) | ((with_reducible refine zga (N := 34) rfl ?_); refine zwe rfl (.tmp 32) (.tmp 33) rfl (b := g) rfl HI0.out.1.2 (k := (a1_0, a1_1, a1_2, a1_3, a2)) rfl HWF.out ?_; rw [HKN.out]; simp only [Option.getD_some, Option.isSome_some]))
       go_ret
       refine (fun h => ⟨h.1, h.2.1.base, h.2.2.1, zm.trans (zm.of_below HQ.out g none) h.2.2.2 (.inl rfl)⟩) (?_ : _ ∧ IsQ p0 w0 _ g _ s0_1 ∧ Below w0.heap.size w0 _ ∧ zm w _ g none); exact ⟨by first | rfl | (simp [zca, zda] <;> rfl) | (simp [*, zca, zda] <;> rfl), HI0.out, HB.out, HK.out⟩
      | none =>
       have HKN := zg.mk hkn
       rw [hkn] at H
       clear hkn
       simp only [Option.isSome_none, Bool.false_eq_true, if_false] at H
       replace H := Option.bind_eq_some_iff.mp H
       obtain ⟨⟨t174, t175, t176, t177, t178, t179⟩, A230, H⟩ := H
       replace H : (if t179.length < 1000000 then (some (t178, ((a1_0, a1_1, a1_2, a1_3, a2), t178) :: t179)) else none) = some (r1, r2) := H
       have A23 := zg.mk A230
       clear A230
       by_cases clm : t179.length < 1000000
       ·rw [if_pos clm] at H
        have HLM := zg.mk clm
        clear clm
        simp only [Option.some.injEq, Prod.mk.injEq] at H
        obtain ⟨rfl, rfl⟩ := H
        go_wp2_with (first | ((with_reducible refine zga (N := 7) rfl ?_); refine zia ?hg (N := 7) ?hd (cs := #[.int .i64 0, .int .i64 0, .int .i64 0, .int .i64 0, .int .i64 0]) (t := 49) ?hr ?_; (case hd => rfl); (case hg => rfl); (case hr => first | (go_simp; done) | (go_simp; rfl)); intro gb173 hg w26 hbox hb; have n0_ := zg.mk (zz (g := gb170) (o := .cells #[.int .i64 a1_0, .int .i64 a1_1, .int .i64 a1_2, .int .i64 a1_3] 25 (0, 0)) (by (with_reducible repeat (first | refine ze ?_ _ | refine zf ?_ | refine za ?_ _)); exact BK170.out) hb); have n1_ := zg.mk (IsQ.below (by repeat (first | (with_reducible first | exact HI0.out | apply IsQ.alloc | apply IsQ.drewN | apply IsQ.drew | refine IsQ.far ?_ NB0_170.out (nelt HP.out GW170.out) _) | exact HI0.out)) hb); have n2_ := zg.mk (zm.trans (by repeat (first | (with_reducible first | exact HK.out | apply zm.set_ | apply zr | apply zt | apply zs | refine zl ?_ GW170.out _) | exact HK.out)) (zm.of_below hb g none) (.inl rfl)); have n3_ := zg.mk (zx (by repeat (first | (with_reducible first | exact HB.out | apply zq | apply zn | apply zo | refine zi ?_ (IsQ.ge HI0.out) | refine zi ?_ GE170.out) | exact HB.out)) hb); have n4_ := zg.mk (hbox); have n5_ := zg.mk ((by rw [hg]; exact (zfa (w := w) (g := g) (row := none) (by repeat (first | (with_reducible first | exact HK.out | apply zm.set_ | apply zr | apply zt | apply zs | refine zl ?_ GW170.out _) | exact HK.out))) : w.heap.size ≤ gb173)); have n6_ := zg.mk ((Nat.le_trans HW0.out (by rw [hg]; exact (zfa (w := w) (g := g) (row := none) (by repeat (first | (with_reducible first | exact HK.out | apply zm.set_ | apply zr | apply zt | apply zs | refine zl ?_ GW170.out _) | exact HK.out))) : w.heap.size ≤ gb173) : w0.heap.size ≤ gb173)); have n7_ := zg.mk ((by rw [hg]; exact Nat.ne_of_lt (zba (g := gb170) (o := .cells #[.int .i64 a1_0, .int .i64 a1_1, .int .i64 a1_2, .int .i64 a1_3] 25 (0, 0)) (by (with_reducible repeat (first | refine ze ?_ _ | refine zf ?_ | refine za ?_ _)); exact BK170.out)) : gb170 ≠ gb173)); have n8_ := zg.mk ((by rw [hg]; exact Nat.ne_of_gt (zba (g := gb170) (o := .cells #[.int .i64 a1_0, .int .i64 a1_1, .int .i64 a1_2, .int .i64 a1_3] 25 (0, 0)) (by (with_reducible repeat (first | refine ze ?_ _ | refine zf ?_ | refine za ?_ _)); exact BK170.out)) : gb173 ≠ gb170)); have n9_ := zg.mk ((by rw [hg]; exact Nat.ne_of_lt (IsQ.lt (show IsQ p0 w0 _ g s0_0 s0_1 from by repeat (first | (with_reducible first | exact HI0.out | apply IsQ.alloc | apply IsQ.drewN | apply IsQ.drew | refine IsQ.far ?_ NB0_170.out (nelt HP.out GW170.out) _) | exact HI0.out))) : g ≠ gb173)); have n10_ := zg.mk ((by rw [hg]; exact Nat.ne_of_gt (IsQ.lt (show IsQ p0 w0 _ g s0_0 s0_1 from by repeat (first | (with_reducible first | exact HI0.out | apply IsQ.alloc | apply IsQ.drewN | apply IsQ.drew | refine IsQ.far ?_ NB0_170.out (nelt HP.out GW170.out) _) | exact HI0.out))) : gb173 ≠ g)); clear BK170; clear HI0; clear HK; clear HB; have BK170 := n0_; have HI0 := n1_; have HK := n2_; have HB := n3_; have BK173 := n4_; have GW173 := n5_; have GE173 := n6_; have NB170_173 := n7_; have NB173_170 := n8_; have NB0_173 := n9_; have NB173_0 := n10_; clear n0_ n1_ n2_ n3_ n4_ n5_ n6_ n7_ n8_ n9_ n10_; clear hb hbox hg; have hnb27 := NB173_170.out; have hnc27 := NB170_173.out; have hnb28 := NB173_0.out; have hnc28 := NB0_173.out; have hcz29_0 : w26.cell? ⟨gb173, 0, none⟩ = some (.int .i64 0) := (zh BK173.out 0).trans rfl; have hcz29_1 : w26.cell? ⟨gb173, 1, none⟩ = some (.int .i64 0) := (zh BK173.out 1).trans rfl; have hcz29_2 : w26.cell? ⟨gb173, 2, none⟩ = some (.int .i64 0) := (zh BK173.out 2).trans rfl; have hcz29_3 : w26.cell? ⟨gb173, 3, none⟩ = some (.int .i64 0) := (zh BK173.out 3).trans rfl; have hcz29_4 : w26.cell? ⟨gb173, 4, none⟩ = some (.int .i64 0) := (zh BK173.out 4).trans rfl; have hfz29_0 := zj BK173.out 0; have hfz29_1 := zj BK173.out 1; have hfz29_2 := zj BK173.out 2; have hfz29_3 := zj BK173.out 3; have hfz29_4 := zj BK173.out 4; have hcz30_0 : w26.cell? ⟨gb170, 0, none⟩ = some (.int .i64 a1_0) := (zh BK170.out 0).trans rfl; have hcz30_1 : w26.cell? ⟨gb170, 1, none⟩ = some (.int .i64 a1_1) := (zh BK170.out 1).trans rfl; have hcz30_2 : w26.cell? ⟨gb170, 2, none⟩ = some (.int .i64 a1_2) := (zh BK170.out 2).trans rfl; have hcz30_3 : w26.cell? ⟨gb170, 3, none⟩ = some (.int .i64 a1_3) := (zh BK170.out 3).trans rfl; have hfz30_0 := zj BK170.out 0; have hfz30_1 := zj BK170.out 1; have hfz30_2 := zj BK170.out 2; have hfz30_3 := zj BK170.out 3) | ((with_reducible refine zua (t := 49) (p := 7) rfl ?_); refine zoa (t := 49) (p := 7) (v := ?vo_w27) (w1 := (((((w26.setCell ⟨gb173, 0, none⟩ (.int .i64 a1_0)).setCell ⟨gb173, 1, none⟩ (.int .i64 a1_1)).setCell ⟨gb173, 2, none⟩ (.int .i64 a1_2)).setCell ⟨gb173, 3, none⟩ (.int .i64 a1_3)).setCell ⟨gb173, 4, none⟩ (.int .i64 a2))) ?hg ?ho ?hn ?hr ?_; (case ho => rfl); (case hg => rfl); (case hn => rfl); (case hr => first | (go_simp; done) | (go_simp; rfl)); intro w27 hw; have n0_ : zg (w27.heap[gb170]? = some (.cells #[.int .i64 a1_0, .int .i64 a1_1, .int .i64 a1_2, .int .i64 a1_3] 25 (0, 0))) := ⟨(by rw [hw]; exact (zk (zk (zk (zk (zk BK170.out NB170_173.out _) NB170_173.out _) NB170_173.out _) NB170_173.out _) NB170_173.out _))⟩; have n4_ : zg (w27.heap[gb173]? = some (.cells #[.int .i64 a1_0, .int .i64 a1_1, .int .i64 a1_2, .int .i64 a1_3, .int .i64 a2] 49 (0, 0))) := ⟨(by rw [hw]; exact (zy (cs := #[.int .i64 a1_0, .int .i64 a1_1, .int .i64 a1_2, .int .i64 a1_3, .int .i64 0]) (zy (cs := #[.int .i64 a1_0, .int .i64 a1_1, .int .i64 a1_2, .int .i64 0, .int .i64 0]) (zy (cs := #[.int .i64 a1_0, .int .i64 a1_1, .int .i64 0, .int .i64 0, .int .i64 0]) (zy (cs := #[.int .i64 a1_0, .int .i64 0, .int .i64 0, .int .i64 0, .int .i64 0]) (zy (cs := #[.int .i64 0, .int .i64 0, .int .i64 0, .int .i64 0, .int .i64 0]) BK173.out 0 _ rfl) 1 _ rfl) 2 _ rfl) 3 _ rfl) 4 _ rfl))⟩; have n1_ : zg (IsQ p0 w0 w27 g s0_0 s0_1) := ⟨(by rw [hw]; exact (IsQ.far (IsQ.far (IsQ.far (IsQ.far (IsQ.far HI0.out NB0_173.out (nelt HP.out GW173.out) _) NB0_173.out (nelt HP.out GW173.out) _) NB0_173.out (nelt HP.out GW173.out) _) NB0_173.out (nelt HP.out GW173.out) _) NB0_173.out (nelt HP.out GW173.out) _))⟩; have n2_ : zg (zm w w27 g none) := ⟨(by rw [hw]; exact (zl (zl (zl (zl (zl HK.out GW173.out _) GW173.out _) GW173.out _) GW173.out _) GW173.out _))⟩; have n3_ : zg (Below w0.heap.size w0 w27) := ⟨(by rw [hw]; exact (zi (zi (zi (zi (zi HB.out GE173.out) GE173.out) GE173.out) GE173.out) GE173.out))⟩; clear hw; clear BK170 BK173 HI0 HK HB; have BK170 := n0_; have BK173 := n4_; have HI0 := n1_; have HK := n2_; have HB := n3_; clear n0_ n1_ n2_ n3_ n4_; have hcx_w27_0 : w27.cell? ⟨gb170, 0, none⟩ = some (.int .i64 a1_0) := (zh BK170.out 0).trans rfl; have hcx_w27_1 : w27.cell? ⟨gb170, 1, none⟩ = some (.int .i64 a1_1) := (zh BK170.out 1).trans rfl; have hcx_w27_2 : w27.cell? ⟨gb170, 2, none⟩ = some (.int .i64 a1_2) := (zh BK170.out 2).trans rfl; have hcx_w27_3 : w27.cell? ⟨gb170, 3, none⟩ = some (.int .i64 a1_3) := (zh BK170.out 3).trans rfl; have hck_w27_0 : w27.cell? ⟨gb173, 0, none⟩ = some (.int .i64 a1_0) := (zh BK173.out 0).trans rfl; have hck_w27_1 : w27.cell? ⟨gb173, 1, none⟩ = some (.int .i64 a1_1) := (zh BK173.out 1).trans rfl; have hck_w27_2 : w27.cell? ⟨gb173, 2, none⟩ = some (.int .i64 a1_2) := (zh BK173.out 2).trans rfl; have hck_w27_3 : w27.cell? ⟨gb173, 3, none⟩ = some (.int .i64 a1_3) := (zh BK173.out 3).trans rfl; have hck_w27_4 : w27.cell? ⟨gb173, 4, none⟩ = some (.int .i64 a2) := (zh BK173.out 4).trans rfl; have hcp_w27_0 := HI0.out.c0; have hcp_w27_1 := HI0.out.c1) | ((with_reducible refine zga (N := 34) rfl ?_); refine zwe rfl (.tmp 32) (.tmp 33) rfl (b := g) rfl HI0.out.1.2 (k := (a1_0, a1_1, a1_2, a1_3, a2)) rfl HWF.out ?_; rw [HKN.out]; simp only [Option.getD_none, Option.isSome_none]) | ((with_reducible refine zha (f := 21) rfl ?_); refine zxb (some 43) rfl rfl Try.func21 (by kernel_rfl) rfl #[.agg #[.int .i64 s0_1, .map (some g)], .agg #[.int .i64 a1_0, .int .i64 a1_1, .int .i64 a1_2, .int .i64 a1_3], .int .i64 a2] rfl (by (try simp only [List.map_toArray, List.map_cons, List.map_nil]); first | done | rfl | (simp only [List.length_drop, List.length_take]; rfl)) ?_; (with_reducible refine (impl_searcher_ask.calls C K g s0_0 s0_1 a1_0 a1_1 a1_2 a1_3 a2 t174 t175 t176 t177 t178 t179 w0 _ HCAN ?side1 ?side2 A23.out).mono ?_); (case side1 => exact HI0.out.base); (case side2 => exact HB.out); rintro e w31 ⟨rfl, hi, hb, hk⟩; refine ⟨_, rfl, ?_⟩; have n0_ := zg.mk (zm.blk hk BK170.out NB170_0.out (by simp)); have n1_ := zg.mk (zm.blk hk BK173.out NB173_0.out (by simp)); have n2_ := zg.mk (zm.trans HK.out hk (.inl rfl)); have n3_ := zg.mk hb; have n4_ := zg.mk (IsQ.re HI0.out hi hk); clear BK170 BK173 HK HB HI0 hb hk hi; have BK170 := n0_; have BK173 := n1_; have HK := n2_; have HB := n3_; have HI0 := n4_; clear n0_ n1_ n2_ n3_ n4_; have hcx_w31_0 : w31.cell? ⟨gb170, 0, none⟩ = some (.int .i64 a1_0) := (zh BK170.out 0).trans rfl; have hcx_w31_1 : w31.cell? ⟨gb170, 1, none⟩ = some (.int .i64 a1_1) := (zh BK170.out 1).trans rfl; have hcx_w31_2 : w31.cell? ⟨gb170, 2, none⟩ = some (.int .i64 a1_2) := (zh BK170.out 2).trans rfl; have hcx_w31_3 : w31.cell? ⟨gb170, 3, none⟩ = some (.int .i64 a1_3) := (zh BK170.out 3).trans rfl; have hck_w31_0 : w31.cell? ⟨gb173, 0, none⟩ = some (.int .i64 a1_0) := (zh BK173.out 0).trans rfl; have hck_w31_1 : w31.cell? ⟨gb173, 1, none⟩ = some (.int .i64 a1_1) := (zh BK173.out 1).trans rfl; have hck_w31_2 : w31.cell? ⟨gb173, 2, none⟩ = some (.int .i64 a1_2) := (zh BK173.out 2).trans rfl; have hck_w31_3 : w31.cell? ⟨gb173, 3, none⟩ = some (.int .i64 a1_3) := (zh BK173.out 3).trans rfl; have hck_w31_4 : w31.cell? ⟨gb173, 4, none⟩ = some (.int .i64 a2) := (zh BK173.out 4).trans rfl; have hcp_w31_0 := HI0.out.c0; have hcp_w31_1 := HI0.out.c1) | (refine put_ rfl (.tmp 47) (.tmp 48) (.tmp 49) rfl (b := g) rfl HI0.out.1.2 (Nat.lt_trans HLM.out (by decide)) (k := (a1_0, a1_1, a1_2, a1_3, a2)) (c := t178) rfl HWF.out rfl ?_; intro w33 hm hgr; have n0_ := zg.mk (IsQ.put HI0.out hm hgr); have n1_ := zg.mk (keep_put HK.out hgr); have n2_ := zg.mk (below_put HB.out hgr (IsQ.ge HI0.out)); clear HI0 HK HB BK170 BK173 hm hgr; have HI0 := n0_; have HK := n1_; have HB := n2_; clear n0_ n1_ n2_))
        go_ret
        refine (fun h => ⟨h.1, h.2.1.base, h.2.2.1, zm.trans (zm.of_below HQ.out g none) h.2.2.2 (.inl rfl)⟩) (?_ : _ ∧ IsQ p0 w0 _ g _ s0_1 ∧ Below w0.heap.size w0 _ ∧ zm w _ g none); exact ⟨by first | rfl | (simp [zca, zda] <;> rfl) | (simp [*, zca, zda] <;> rfl), HI0.out, HB.out, HK.out⟩
       ·rw [if_neg clm] at H
        exact absurd H (by simp)
     ·rw [if_neg cwf] at H
      exact absurd H (by simp)

end Go.Proofs.Ytgcbhknpfpgffaa.C
