-- Written by wip/find/mk.py, a program of this session.
import Derived.Test.YtgcbhknpfpgffaaLFinC
import Derived.Test.YtgcbhknpfpgffaaCx3
namespace Go.Proofs.Ytgcbhknpfpgffaa.C
open Go.RowKit Go.Proofs.YtgcbhknpfpgffaaW.PrintWords Go.Proofs.YtgcbhknpfpgffaaW.PrintLast Go.Proofs.YtgcbhknpfpgffaaW.PrintMore
attribute [local go_sem] zdb zcb zkb zjb zva zwa zbb zab   -- for this text's walks alone
set_option linter.unusedVariables false
set_option linter.unusedSimpArgs false

/-! ### spec_l06Finder_first: function 15 -/
mutual
def spec_l06Finder_first.l0 (C : CT) : Nat → Int → List Int → Int → Int → Int → Int → Int → Int → Int → Int → Int → Option (Int × Int × Int × Int × Bool × List Int)
 | 0, _, _, _, _, _, _, _, _, _, _, _ => none
 | k + 1, x2, x1000, x1001, x122000, x122001, x122002, x122003, x124000, x124001, x124002, x124003 => if x124000 ≤ x122000 then (spec_l06Finder_first.l1 C k x2 x1000 x1001 x122000 x122001 x122002 x122003 x124000 0 x124002 x124003) else (some (0, 0, 0, 0, false, x1000))
def spec_l06Finder_first.l1 (C : CT) : Nat → Int → List Int → Int → Int → Int → Int → Int → Int → Int → Int → Int → Option (Int × Int × Int × Int × Bool × List Int)
 | 0, _, _, _, _, _, _, _, _, _, _, _ => none
 | k + 1, x2, x1000, x1001, x122000, x122001, x122002, x122003, x124000, x124001, x124002, x124003 => if x124001 ≤ x122001 then (spec_l06Finder_first.l2 C k x2 x1000 x1001 x122000 x122001 x122002 x122003 x124000 x124001 0 x124003) else (spec_l06Finder_first.l0 C k x2 x1000 x1001 x122000 x122001 x122002 x122003 (wrap64 (x124000 + 1)) x124001 x124002 x124003)
def spec_l06Finder_first.l2 (C : CT) : Nat → Int → List Int → Int → Int → Int → Int → Int → Int → Int → Int → Int → Option (Int × Int × Int × Int × Bool × List Int)
 | 0, _, _, _, _, _, _, _, _, _, _, _ => none
 | k + 1, x2, x1000, x1001, x122000, x122001, x122002, x122003, x124000, x124001, x124002, x124003 => if x124002 ≤ x122002 then (spec_l06Finder_first.l3 C k x2 x1000 x1001 x122000 x122001 x122002 x122003 x124000 x124001 x124002 0) else (spec_l06Finder_first.l1 C k x2 x1000 x1001 x122000 x122001 x122002 x122003 x124000 (wrap64 (x124001 + 1)) x124002 x124003)
def spec_l06Finder_first.l3 (C : CT) : Nat → Int → List Int → Int → Int → Int → Int → Int → Int → Int → Int → Int → Option (Int × Int × Int × Int × Bool × List Int)
 | 0, _, _, _, _, _, _, _, _, _, _, _ => none
 | k + 1, x2, x1000, x1001, x122000, x122001, x122002, x122003, x124000, x124001, x124002, x124003 => if x124003 ≤ x122003 then ((spec_l06Split.f k x1001 x122000 x122001 x122002 x122003 x124000 x124001 x124002 x124003).bind fun bt124 => ((C x1000 x1001 bt124.1 bt124.2.1 bt124.2.2.1 bt124.2.2.2.1 (wrap64 (x2 - 1))).bind fun bt134 => (if bt134.1 = true then ((C bt134.2 x1001 bt124.2.2.2.2.1 bt124.2.2.2.2.2.1 bt124.2.2.2.2.2.2.1 bt124.2.2.2.2.2.2.2 (wrap64 (x2 - 1))).bind fun bt136 => (if bt136.1 = true then (some (x124000, x124001, x124002, x124003, true, bt136.2)) else (spec_l06Finder_first.l3 C k x2 bt136.2 x1001 x122000 x122001 x122002 x122003 x124000 x124001 x124002 (wrap64 (x124003 + 1))))) else (spec_l06Finder_first.l3 C k x2 bt134.2 x1001 x122000 x122001 x122002 x122003 x124000 x124001 x124002 (wrap64 (x124003 + 1)))))) else (spec_l06Finder_first.l2 C k x2 x1000 x1001 x122000 x122001 x122002 x122003 x124000 x124001 (wrap64 (x124002 + 1)) x124003)
end
def spec_l06Finder_first.f (C : CT) (k : Nat) (s0_0 : List Int) (s0_1 : Int) (a1_0 : Int) (a1_1 : Int) (a1_2 : Int) (a1_3 : Int) (a2 : Int) : Option (Int × Int × Int × Int × Bool × List Int) := spec_l06Finder_first.l0 C k a2 s0_0 s0_1 a1_0 a1_1 a1_2 a1_3 0 0 0 0
def spec_l06Finder_first.T14 : Bool × List (List Nat × List Nat) := (true, [([], []), ([0], [0]), ([1], [1]), ([2], [2]), ([], []), ([], []), ([3, 4, 5], [3, 4, 5]), ([6], [6]), ([7], [7]), ([7], [7]), ([], []), ([], []), ([10, 8, 6, 0, 1, 2, 3, 4, 5, 6, 7, 8, 10, 11], [8, 10]), ([11, 9, 12, 0, 1, 2, 3, 4, 5, 6, 7, 8, 9, 10, 11, 12], [9, 11])])
def spec_l06Finder_first.B14 : List Nat := [0, 1, 3, 7, 0, 0, 63, 127, 255, 255, 0, 0, 3583, 8191]
theorem spec_l06Finder_first.tab14 : rtab .any (zzc Try.f15 14) = spec_l06Finder_first.T14 := by kernel_rfl
theorem spec_l06Finder_first.bits14 : znb spec_l06Finder_first.T14.2 spec_l06Finder_first.B14 = true := by kernel_rfl
set_option maxHeartbeats 8000000 in
set_option maxRecDepth 100000 in
theorem spec_l06Finder_first.calls (C : CT) (k : Nat) (p0 g : Nat) (s0_0 : List Int) (s0_1 : Int) (a1_0 : Int) (a1_1 : Int) (a1_2 : Int) (a1_3 : Int) (a2 : Int) (r1 : Int) (r2 : Int) (r3 : Int) (r4 : Int) (r5 : Bool) (r6 : List Int) (w0 w : World) (HCAN : CanOK C (wrap64 (a2 - 1))) (hI : IsF p0 w0 w g s0_0 s0_1) (hB : Below w0.heap.size w0 w) (h : spec_l06Finder_first.f C k s0_0 s0_1 a1_0 a1_1 a1_2 a1_3 a2 = some (r1, r2, r3, r4, r5, r6)) :
  Calls Try.prog 15 #[.pointer (some ⟨p0, 0, none⟩), .agg #[.int .i64 a1_0, .int .i64 a1_1, .int .i64 a1_2, .int .i64 a1_3], .int .i64 a2] w fun e w' => e = .returned (.tuple #[.agg #[.int .i64 r1, .int .i64 r2, .int .i64 r3, .int .i64 r4], .bool r5]) ∧ IsF p0 w0 w' g r6 s0_1 ∧ Below w0.heap.size w0 w' ∧ zm w w' g none := by
 have hu25 := Try.underlying25
 have HI0 := zg.mk hI
 have HP := zg.mk hI.ltp
 have HK := zg.mk (zm.refl w g none)
 have HL := zg.mk hB.size
 clear hI
 have HW0 := zg.mk hB.size
 have HB := zg.mk hB
 clear hB
 have H : (spec_l06Finder_first.l0 C k a2 s0_0 s0_1 a1_0 a1_1 a1_2 a1_3 0 0 0 0) = some (r1, r2, r3, r4, r5, r6) := h
 clear h
 have H' := zg.mk H
 clear H
 go_enter Try.func15, Try.ntmps15
 go_wp2_with (first | ((with_reducible refine zga (N := 4) rfl ?_); refine zia ?hg (N := 4) ?hd (cs := #[.int .i64 a1_0, .int .i64 a1_1, .int .i64 a1_2, .int .i64 a1_3]) (t := 25) ?hr ?_; (case hd => rfl); (case hg => rfl); (case hr => first | (go_simp; done) | (go_simp; rfl)); intro gb121 hg w4 hbox hb; have n0_ := zg.mk (IsF.below (by repeat (first | (with_reducible first | exact HI0.out | apply IsF.alloc | apply IsF.drewN | apply IsF.drew) | exact HI0.out)) hb); have n1_ := zg.mk (zm.trans (by repeat (first | (with_reducible first | exact HK.out | apply zm.set_ | apply zr | apply zt | apply zs) | exact HK.out)) (zm.of_below hb g none) (.inl rfl)); have n2_ := zg.mk (zx (by repeat (first | (with_reducible first | exact HB.out | apply zq | apply zn | apply zo | refine zi ?_ (IsF.ge HI0.out)) | exact HB.out)) hb); have n3_ := zg.mk (hbox); have n4_ := zg.mk ((by rw [hg]; exact (zfa (w := w) (g := g) (row := none) (by repeat (first | (with_reducible first | exact HK.out | apply zm.set_ | apply zr | apply zt | apply zs) | exact HK.out))) : w.heap.size ≤ gb121)); have n5_ := zg.mk ((Nat.le_trans HW0.out (by rw [hg]; exact (zfa (w := w) (g := g) (row := none) (by repeat (first | (with_reducible first | exact HK.out | apply zm.set_ | apply zr | apply zt | apply zs) | exact HK.out))) : w.heap.size ≤ gb121) : w0.heap.size ≤ gb121)); have n6_ := zg.mk ((by rw [hg]; exact Nat.ne_of_lt (IsF.lt (show IsF p0 w0 _ g s0_0 s0_1 from by repeat (first | (with_reducible first | exact HI0.out | apply IsF.alloc | apply IsF.drewN | apply IsF.drew) | exact HI0.out))) : g ≠ gb121)); have n7_ := zg.mk ((by rw [hg]; exact Nat.ne_of_gt (IsF.lt (show IsF p0 w0 _ g s0_0 s0_1 from by repeat (first | (with_reducible first | exact HI0.out | apply IsF.alloc | apply IsF.drewN | apply IsF.drew) | exact HI0.out))) : gb121 ≠ g)); clear HI0; clear HK; clear HB; have HI0 := n0_; have HK := n1_; have HB := n2_; have BK121 := n3_; have GW121 := n4_; have GE121 := n5_; have NB0_121 := n6_; have NB121_0 := n7_; clear n0_ n1_ n2_ n3_ n4_ n5_ n6_ n7_; clear hb hbox hg) | ((with_reducible refine zga (N := 6) rfl ?_); refine zia ?hg (N := 6) ?hd (cs := #[.int .i64 0, .int .i64 0, .int .i64 0, .int .i64 0]) (t := 25) ?hr ?_; (case hd => rfl); (case hg => rfl); (case hr => first | (go_simp; done) | (go_simp; rfl)); intro gb122 hg w5 hbox hb; have n0_ := zg.mk (IsF.below (by repeat (first | (with_reducible first | exact HI0.out | apply IsF.alloc | apply IsF.drewN | apply IsF.drew | refine IsF.far ?_ NB0_121.out (nelt HP.out GW121.out) _) | exact HI0.out)) hb); have n1_ := zg.mk (zz (g := gb121) (o := .cells #[.int .i64 a1_0, .int .i64 a1_1, .int .i64 a1_2, .int .i64 a1_3] 25 (0, 0)) (by (with_reducible repeat (first | refine ze ?_ _ | refine zf ?_ | refine za ?_ _)); exact BK121.out) hb); have n2_ := zg.mk (zm.trans (by repeat (first | (with_reducible first | exact HK.out | apply zm.set_ | apply zr | apply zt | apply zs | refine zl ?_ GW121.out _) | exact HK.out)) (zm.of_below hb g none) (.inl rfl)); have n3_ := zg.mk (zx (by repeat (first | (with_reducible first | exact HB.out | apply zq | apply zn | apply zo | refine zi ?_ (IsF.ge HI0.out) | refine zi ?_ GE121.out) | exact HB.out)) hb); have n4_ := zg.mk (hbox); have n5_ := zg.mk ((by rw [hg]; exact (zfa (w := w) (g := g) (row := none) (by repeat (first | (with_reducible first | exact HK.out | apply zm.set_ | apply zr | apply zt | apply zs | refine zl ?_ GW121.out _) | exact HK.out))) : w.heap.size ≤ gb122)); have n6_ := zg.mk ((Nat.le_trans HW0.out (by rw [hg]; exact (zfa (w := w) (g := g) (row := none) (by repeat (first | (with_reducible first | exact HK.out | apply zm.set_ | apply zr | apply zt | apply zs | refine zl ?_ GW121.out _) | exact HK.out))) : w.heap.size ≤ gb122) : w0.heap.size ≤ gb122)); have n7_ := zg.mk ((by rw [hg]; exact Nat.ne_of_lt (zba (g := gb121) (o := .cells #[.int .i64 a1_0, .int .i64 a1_1, .int .i64 a1_2, .int .i64 a1_3] 25 (0, 0)) (by (with_reducible repeat (first | refine ze ?_ _ | refine zf ?_ | refine za ?_ _)); exact BK121.out)) : gb121 ≠ gb122)); have n8_ := zg.mk ((by rw [hg]; exact Nat.ne_of_gt (zba (g := gb121) (o := .cells #[.int .i64 a1_0, .int .i64 a1_1, .int .i64 a1_2, .int .i64 a1_3] 25 (0, 0)) (by (with_reducible repeat (first | refine ze ?_ _ | refine zf ?_ | refine za ?_ _)); exact BK121.out)) : gb122 ≠ gb121)); have n9_ := zg.mk ((by rw [hg]; exact Nat.ne_of_lt (IsF.lt (show IsF p0 w0 _ g s0_0 s0_1 from by repeat (first | (with_reducible first | exact HI0.out | apply IsF.alloc | apply IsF.drewN | apply IsF.drew | refine IsF.far ?_ NB0_121.out (nelt HP.out GW121.out) _) | exact HI0.out))) : g ≠ gb122)); have n10_ := zg.mk ((by rw [hg]; exact Nat.ne_of_gt (IsF.lt (show IsF p0 w0 _ g s0_0 s0_1 from by repeat (first | (with_reducible first | exact HI0.out | apply IsF.alloc | apply IsF.drewN | apply IsF.drew | refine IsF.far ?_ NB0_121.out (nelt HP.out GW121.out) _) | exact HI0.out))) : gb122 ≠ g)); clear HI0; clear BK121; clear HK; clear HB; have HI0 := n0_; have BK121 := n1_; have HK := n2_; have HB := n3_; have BK122 := n4_; have GW122 := n5_; have GE122 := n6_; have NB121_122 := n7_; have NB122_121 := n8_; have NB0_122 := n9_; have NB122_0 := n10_; clear n0_ n1_ n2_ n3_ n4_ n5_ n6_ n7_ n8_ n9_ n10_; clear hb hbox hg) | ((with_reducible refine zga (N := 8) rfl ?_); refine zia ?hg (N := 8) ?hd (cs := #[.int .i64 0, .int .i64 0, .int .i64 0, .int .i64 0]) (t := 25) ?hr ?_; (case hd => rfl); (case hg => rfl); (case hr => first | (go_simp; done) | (go_simp; rfl)); intro gb123 hg w6 hbox hb; have n0_ := zg.mk (IsF.below (by repeat (first | (with_reducible first | exact HI0.out | apply IsF.alloc | apply IsF.drewN | apply IsF.drew | refine IsF.far ?_ NB0_121.out (nelt HP.out GW121.out) _ | refine IsF.far ?_ NB0_122.out (nelt HP.out GW122.out) _) | exact HI0.out)) hb); have n1_ := zg.mk (zz (g := gb121) (o := .cells #[.int .i64 a1_0, .int .i64 a1_1, .int .i64 a1_2, .int .i64 a1_3] 25 (0, 0)) (by (with_reducible repeat (first | refine ze ?_ _ | refine zf ?_ | refine za ?_ _)); exact BK121.out) hb); have n2_ := zg.mk (zz (g := gb122) (o := .cells #[.int .i64 0, .int .i64 0, .int .i64 0, .int .i64 0] 25 (0, 0)) (by (with_reducible repeat (first | refine ze ?_ _ | refine zf ?_ | refine za ?_ _)); exact BK122.out) hb); have n3_ := zg.mk (zm.trans (by repeat (first | (with_reducible first | exact HK.out | apply zm.set_ | apply zr | apply zt | apply zs | refine zl ?_ GW121.out _ | refine zl ?_ GW122.out _) | exact HK.out)) (zm.of_below hb g none) (.inl rfl)); have n4_ := zg.mk (zx (by repeat (first | (with_reducible first | exact HB.out | apply zq | apply zn | apply zo | refine zi ?_ (IsF.ge HI0.out) | refine zi ?_ GE121.out | refine zi ?_ GE122.out) | exact HB.out)) hb); have n5_ := zg.mk (hbox); have n6_ := zg.mk ((by rw [hg]; exact (zfa (w := w) (g := g) (row := none) (by repeat (first | (with_reducible first | exact HK.out | apply zm.set_ | apply zr | apply zt | apply zs | refine zl ?_ GW121.out _ | refine zl ?_ GW122.out _) | exact HK.out))) : w.heap.size ≤ gb123)); have n7_ := zg.mk ((Nat.le_trans HW0.out (by rw [hg]; exact (zfa (w := w) (g := g) (row := none) (by repeat (first | (with_reducible first | exact HK.out | apply zm.set_ | apply zr | apply zt | apply zs | refine zl ?_ GW121.out _ | refine zl ?_ GW122.out _) | exact HK.out))) : w.heap.size ≤ gb123) : w0.heap.size ≤ gb123)); have n8_ := zg.mk ((by rw [hg]; exact Nat.ne_of_lt (zba (g := gb121) (o := .cells #[.int .i64 a1_0, .int .i64 a1_1, .int .i64 a1_2, .int .i64 a1_3] 25 (0, 0)) (by (with_reducible repeat (first | refine ze ?_ _ | refine zf ?_ | refine za ?_ _)); exact BK121.out)) : gb121 ≠ gb123)); have n9_ := zg.mk ((by rw [hg]; exact Nat.ne_of_gt (zba (g := gb121) (o := .cells #[.int .i64 a1_0, .int .i64 a1_1, .int .i64 a1_2, .int .i64 a1_3] 25 (0, 0)) (by (with_reducible repeat (first | refine ze ?_ _ | refine zf ?_ | refine za ?_ _)); exact BK121.out)) : gb123 ≠ gb121)); have n10_ := zg.mk ((by rw [hg]; exact Nat.ne_of_lt (zba (g := gb122) (o := .cells #[.int .i64 0, .int .i64 0, .int .i64 0, .int .i64 0] 25 (0, 0)) (by (with_reducible repeat (first | refine ze ?_ _ | refine zf ?_ | refine za ?_ _)); exact BK122.out)) : gb122 ≠ gb123)); have n11_ := zg.mk ((by rw [hg]; exact Nat.ne_of_gt (zba (g := gb122) (o := .cells #[.int .i64 0, .int .i64 0, .int .i64 0, .int .i64 0] 25 (0, 0)) (by (with_reducible repeat (first | refine ze ?_ _ | refine zf ?_ | refine za ?_ _)); exact BK122.out)) : gb123 ≠ gb122)); have n12_ := zg.mk ((by rw [hg]; exact Nat.ne_of_lt (IsF.lt (show IsF p0 w0 _ g s0_0 s0_1 from by repeat (first | (with_reducible first | exact HI0.out | apply IsF.alloc | apply IsF.drewN | apply IsF.drew | refine IsF.far ?_ NB0_121.out (nelt HP.out GW121.out) _ | refine IsF.far ?_ NB0_122.out (nelt HP.out GW122.out) _) | exact HI0.out))) : g ≠ gb123)); have n13_ := zg.mk ((by rw [hg]; exact Nat.ne_of_gt (IsF.lt (show IsF p0 w0 _ g s0_0 s0_1 from by repeat (first | (with_reducible first | exact HI0.out | apply IsF.alloc | apply IsF.drewN | apply IsF.drew | refine IsF.far ?_ NB0_121.out (nelt HP.out GW121.out) _ | refine IsF.far ?_ NB0_122.out (nelt HP.out GW122.out) _) | exact HI0.out))) : gb123 ≠ g)); clear HI0; clear BK121; clear BK122; clear HK; clear HB; have HI0 := n0_; have BK121 := n1_; have BK122 := n2_; have HK := n3_; have HB := n4_; have BK123 := n5_; have GW123 := n6_; have GE123 := n7_; have NB121_123 := n8_; have NB123_121 := n9_; have NB122_123 := n10_; have NB123_122 := n11_; have NB0_123 := n12_; have NB123_0 := n13_; clear n0_ n1_ n2_ n3_ n4_ n5_ n6_ n7_ n8_ n9_ n10_ n11_ n12_ n13_; clear hb hbox hg; have hnb7 := NB123_121.out; have hnc7 := NB121_123.out; have hnb8 := NB123_122.out; have hnc8 := NB122_123.out; have hnb9 := NB123_0.out; have hnc9 := NB0_123.out; have hcz10_0 : w6.cell? ⟨gb123, 0, none⟩ = some (.int .i64 0) := (zh BK123.out 0).trans rfl; have hcz10_1 : w6.cell? ⟨gb123, 1, none⟩ = some (.int .i64 0) := (zh BK123.out 1).trans rfl; have hcz10_2 : w6.cell? ⟨gb123, 2, none⟩ = some (.int .i64 0) := (zh BK123.out 2).trans rfl; have hcz10_3 : w6.cell? ⟨gb123, 3, none⟩ = some (.int .i64 0) := (zh BK123.out 3).trans rfl; have hfz10_0 := zj BK123.out 0; have hfz10_1 := zj BK123.out 1; have hfz10_2 := zj BK123.out 2; have hfz10_3 := zj BK123.out 3))
 go_loopg [] k (fun kq w' => ∃ (x1000_1 : List Int) (x123000_1 : Int) (x123001_1 : Int) (x123002_1 : Int) (x123003_1 : Int) (x124000_1 : Int) (x124001_1 : Int) (x124002_1 : Int) (x124003_1 : Int), zg (spec_l06Finder_first.l0 C kq a2 x1000_1 s0_1 a1_0 a1_1 a1_2 a1_3 x124000_1 x124001_1 x124002_1 x124003_1 = some (r1, r2, r3, r4, r5, r6)) ∧ zg (kq ≤ k) ∧ zg (w'.heap[gb121]? = some (.cells #[.int .i64 a1_0, .int .i64 a1_1, .int .i64 a1_2, .int .i64 a1_3] 25 (0, 0))) ∧ zg (w'.heap[gb122]? = some (.cells #[.int .i64 x123000_1, .int .i64 x123001_1, .int .i64 x123002_1, .int .i64 x123003_1] 25 (0, 0))) ∧ zg (w'.heap[gb123]? = some (.cells #[.int .i64 x124000_1, .int .i64 x124001_1, .int .i64 x124002_1, .int .i64 x124003_1] 25 (0, 0))) ∧ zg (IsF p0 w0 w' g x1000_1 s0_1) ∧ zg (zm w w' g none) ∧ zg (Below w0.heap.size w0 w'))
 case atStart => exact ⟨(s0_0), (0), (0), (0), (0), (0), (0), (0), (0), H', ⟨Nat.le_refl _⟩, ⟨by (with_reducible repeat (first | refine ze ?_ _ | refine zf ?_ | refine za ?_ _)); refine zk ?_ NB121_123.out _; (with_reducible repeat (first | refine ze ?_ _ | refine zf ?_ | refine za ?_ _)); refine zk ?_ NB121_123.out _; (with_reducible repeat (first | refine ze ?_ _ | refine zf ?_ | refine za ?_ _)); refine zk ?_ NB121_123.out _; (with_reducible repeat (first | refine ze ?_ _ | refine zf ?_ | refine za ?_ _)); refine zk ?_ NB121_123.out _; (with_reducible repeat (first | refine ze ?_ _ | refine zf ?_ | refine za ?_ _)); refine zk ?_ NB121_123.out _; (with_reducible repeat (first | refine ze ?_ _ | refine zf ?_ | refine za ?_ _)); exact BK121.out⟩, ⟨by (with_reducible repeat (first | refine ze ?_ _ | refine zf ?_ | refine za ?_ _)); refine zk ?_ NB122_123.out _; (with_reducible repeat (first | refine ze ?_ _ | refine zf ?_ | refine za ?_ _)); refine zk ?_ NB122_123.out _; (with_reducible repeat (first | refine ze ?_ _ | refine zf ?_ | refine za ?_ _)); refine zk ?_ NB122_123.out _; (with_reducible repeat (first | refine ze ?_ _ | refine zf ?_ | refine za ?_ _)); refine zk ?_ NB122_123.out _; (with_reducible repeat (first | refine ze ?_ _ | refine zf ?_ | refine za ?_ _)); refine zk ?_ NB122_123.out _; (with_reducible repeat (first | refine ze ?_ _ | refine zf ?_ | refine za ?_ _)); exact BK122.out⟩, ⟨by (with_reducible repeat (first | refine ze ?_ _ | refine zf ?_ | refine za ?_ _)); refine zy (cs := #[.int .i64 0, .int .i64 0, .int .i64 0, .int .i64 0]) ?_ 0 _ rfl; (with_reducible repeat (first | refine ze ?_ _ | refine zf ?_ | refine za ?_ _)); refine zy (cs := #[.int .i64 0, .int .i64 0, .int .i64 0, .int .i64 0]) ?_ 3 _ rfl; (with_reducible repeat (first | refine ze ?_ _ | refine zf ?_ | refine za ?_ _)); refine zy (cs := #[.int .i64 0, .int .i64 0, .int .i64 0, .int .i64 0]) ?_ 2 _ rfl; (with_reducible repeat (first | refine ze ?_ _ | refine zf ?_ | refine za ?_ _)); refine zy (cs := #[.int .i64 0, .int .i64 0, .int .i64 0, .int .i64 0]) ?_ 1 _ rfl; (with_reducible repeat (first | refine ze ?_ _ | refine zf ?_ | refine za ?_ _)); refine zy (cs := #[.int .i64 0, .int .i64 0, .int .i64 0, .int .i64 0]) ?_ 0 _ rfl; (with_reducible repeat (first | refine ze ?_ _ | refine zf ?_ | refine za ?_ _)); exact BK123.out⟩, ⟨by repeat (first | (with_reducible first | exact HI0.out | apply IsF.alloc | apply IsF.drewN | apply IsF.drew | refine IsF.far ?_ NB0_121.out (nelt HP.out GW121.out) _ | refine IsF.far ?_ NB0_122.out (nelt HP.out GW122.out) _ | refine IsF.far ?_ NB0_123.out (nelt HP.out GW123.out) _) | exact HI0.out)⟩, ⟨by repeat (first | (with_reducible first | exact HK.out | apply zm.set_ | apply zr | apply zt | apply zs | refine zl ?_ GW121.out _ | refine zl ?_ GW122.out _ | refine zl ?_ GW123.out _) | exact HK.out)⟩, ⟨by repeat (first | (with_reducible first | exact HB.out | apply zq | apply zn | apply zo | refine zi ?_ (IsF.ge HI0.out) | refine zi ?_ GE121.out | refine zi ?_ GE122.out | refine zi ?_ GE123.out) | exact HB.out)⟩⟩
 case round =>
  clear H'
  try clear c1
  try clear p2
  try clear c7
  try clear c8
  try clear c9
  try clear hcz10_0
  try clear hcz10_1
  try clear hcz10_2
  try clear hcz10_3
  try clear hfz10_0
  try clear hfz10_1
  try clear hfz10_2
  try clear hfz10_3
  obtain ⟨x1000_1, x123000_1, x123001_1, x123002_1, x123003_1, x124000_1, x124001_1, x124002_1, x124003_1, HA, HK1, BK121, BK122, BK123, HI0, HK, HB⟩ := hrel
  cases gk with
  | zero => exact absurd HA.out (by simp [spec_l06Finder_first.l0])
  | succ k1 =>
   have H := HA.out
   clear HA
   simp only [spec_l06Finder_first.l0] at H
   by_cases c11 : x124000_1 ≤ a1_0
   ·rw [if_pos c11] at H
    have c11b0 : decide (x124000_1 ≤ a1_0) = true := decide_eq_true c11
    clear c11
    have H' := zg.mk H
    clear H
    have hnb12 := NB123_121.out
    have hnc12 := NB121_123.out
    have hnb13 := NB123_122.out
    have hnc13 := NB122_123.out
    have hnb14 := NB123_0.out
    have hnc14 := NB0_123.out
    have hcz15_0 : wr.cell? ⟨gb123, 0, none⟩ = some (.int .i64 x124000_1) := (zh BK123.out 0).trans rfl
    have hcz15_1 : wr.cell? ⟨gb123, 1, none⟩ = some (.int .i64 x124001_1) := (zh BK123.out 1).trans rfl
    have hcz15_2 : wr.cell? ⟨gb123, 2, none⟩ = some (.int .i64 x124002_1) := (zh BK123.out 2).trans rfl
    have hcz15_3 : wr.cell? ⟨gb123, 3, none⟩ = some (.int .i64 x124003_1) := (zh BK123.out 3).trans rfl
    have hfz15_0 := zj BK123.out 0
    have hfz15_1 := zj BK123.out 1
    have hfz15_2 := zj BK123.out 2
    have hfz15_3 := zj BK123.out 3
    have hnb16 := NB121_122.out
    have hnc16 := NB122_121.out
    have hnb17 := NB121_0.out
    have hnc17 := NB0_121.out
    have hcz18_0 : wr.cell? ⟨gb121, 0, none⟩ = some (.int .i64 a1_0) := (zh BK121.out 0).trans rfl
    have hcz18_1 : wr.cell? ⟨gb121, 1, none⟩ = some (.int .i64 a1_1) := (zh BK121.out 1).trans rfl
    have hcz18_2 : wr.cell? ⟨gb121, 2, none⟩ = some (.int .i64 a1_2) := (zh BK121.out 2).trans rfl
    have hcz18_3 : wr.cell? ⟨gb121, 3, none⟩ = some (.int .i64 a1_3) := (zh BK121.out 3).trans rfl
    have hfz18_0 := zj BK121.out 0
    have hfz18_1 := zj BK121.out 1
    have hfz18_2 := zj BK121.out 2
    have hfz18_3 := zj BK121.out 3
    go_wp2
    go_loopg [] k1 (fun kq w' => ∃ (x1000_2 : List Int) (x123000_2 : Int) (x123001_2 : Int) (x123002_2 : Int) (x123003_2 : Int) (x124001_2 : Int) (x124002_2 : Int) (x124003_2 : Int), zg (spec_l06Finder_first.l1 C kq a2 x1000_2 s0_1 a1_0 a1_1 a1_2 a1_3 x124000_1 x124001_2 x124002_2 x124003_2 = some (r1, r2, r3, r4, r5, r6)) ∧ zg (kq ≤ k1) ∧ zg (w'.heap[gb121]? = some (.cells #[.int .i64 a1_0, .int .i64 a1_1, .int .i64 a1_2, .int .i64 a1_3] 25 (0, 0))) ∧ zg (w'.heap[gb122]? = some (.cells #[.int .i64 x123000_2, .int .i64 x123001_2, .int .i64 x123002_2, .int .i64 x123003_2] 25 (0, 0))) ∧ zg (w'.heap[gb123]? = some (.cells #[.int .i64 x124000_1, .int .i64 x124001_2, .int .i64 x124002_2, .int .i64 x124003_2] 25 (0, 0))) ∧ zg (IsF p0 w0 w' g x1000_2 s0_1) ∧ zg (zm w w' g none) ∧ zg (Below w0.heap.size w0 w'))
    case atStart => exact ⟨(x1000_1), (x123000_1), (x123001_1), (x123002_1), (x123003_1), (0), (x124002_1), (x124003_1), H', ⟨Nat.le_refl _⟩, ⟨by (with_reducible repeat (first | refine ze ?_ _ | refine zf ?_ | refine za ?_ _)); refine zk ?_ NB121_123.out _; (with_reducible repeat (first | refine ze ?_ _ | refine zf ?_ | refine za ?_ _)); exact BK121.out⟩, ⟨by (with_reducible repeat (first | refine ze ?_ _ | refine zf ?_ | refine za ?_ _)); refine zk ?_ NB122_123.out _; (with_reducible repeat (first | refine ze ?_ _ | refine zf ?_ | refine za ?_ _)); exact BK122.out⟩, ⟨by (with_reducible repeat (first | refine ze ?_ _ | refine zf ?_ | refine za ?_ _)); refine zy (cs := #[.int .i64 x124000_1, .int .i64 x124001_1, .int .i64 x124002_1, .int .i64 x124003_1]) ?_ 1 _ rfl; (with_reducible repeat (first | refine ze ?_ _ | refine zf ?_ | refine za ?_ _)); exact BK123.out⟩, ⟨by repeat (first | (with_reducible first | exact HI0.out | apply IsF.alloc | apply IsF.drewN | apply IsF.drew | refine IsF.far ?_ NB0_121.out (nelt HP.out GW121.out) _ | refine IsF.far ?_ NB0_122.out (nelt HP.out GW122.out) _ | refine IsF.far ?_ NB0_123.out (nelt HP.out GW123.out) _) | exact HI0.out)⟩, ⟨by repeat (first | (with_reducible first | exact HK.out | apply zm.set_ | apply zr | apply zt | apply zs | refine zl ?_ GW121.out _ | refine zl ?_ GW122.out _ | refine zl ?_ GW123.out _) | exact HK.out)⟩, ⟨by repeat (first | (with_reducible first | exact HB.out | apply zq | apply zn | apply zo | refine zi ?_ (IsF.ge HI0.out) | refine zi ?_ GE121.out | refine zi ?_ GE122.out | refine zi ?_ GE123.out) | exact HB.out)⟩⟩
    case round =>
     clear H'
     try clear c1
     try clear p2
     try clear c7
     try clear c8
     try clear c9
     try clear c11
     try clear c11b0
     try clear c12
     try clear c13
     try clear c14
     try clear c15
     try clear c16
     try clear c17
     try clear hcz10_0
     try clear hcz10_1
     try clear hcz10_2
     try clear hcz10_3
     try clear hcz15_0
     try clear hcz15_1
     try clear hcz15_2
     try clear hcz15_3
     try clear hcz18_0
     try clear hcz18_1
     try clear hcz18_2
     try clear hcz18_3
     try clear hfz10_0
     try clear hfz10_1
     try clear hfz10_2
     try clear hfz10_3
     try clear hfz15_0
     try clear hfz15_1
     try clear hfz15_2
     try clear hfz15_3
     try clear hfz18_0
     try clear hfz18_1
     try clear hfz18_2
     try clear hfz18_3
     try clear p2
     obtain ⟨x1000_2, x123000_2, x123001_2, x123002_2, x123003_2, x124001_2, x124002_2, x124003_2, HA, HK2, BK121, BK122, BK123, HI0, HK, HB⟩ := hrel
     cases gk with
     | zero => exact absurd HA.out (by simp [spec_l06Finder_first.l1])
     | succ k2 =>
      have H := HA.out
      clear HA
      simp only [spec_l06Finder_first.l1] at H
      by_cases c19 : x124001_2 ≤ a1_1
      ·rw [if_pos c19] at H
       have c19b0 : decide (x124001_2 ≤ a1_1) = true := decide_eq_true c19
       clear c19
       have H' := zg.mk H
       clear H
       have hnb20 := NB123_121.out
       have hnc20 := NB121_123.out
       have hnb21 := NB123_122.out
       have hnc21 := NB122_123.out
       have hnb22 := NB123_0.out
       have hnc22 := NB0_123.out
       have hcz23_0 : wr.cell? ⟨gb123, 0, none⟩ = some (.int .i64 x124000_1) := (zh BK123.out 0).trans rfl
       have hcz23_1 : wr.cell? ⟨gb123, 1, none⟩ = some (.int .i64 x124001_2) := (zh BK123.out 1).trans rfl
       have hcz23_2 : wr.cell? ⟨gb123, 2, none⟩ = some (.int .i64 x124002_2) := (zh BK123.out 2).trans rfl
       have hcz23_3 : wr.cell? ⟨gb123, 3, none⟩ = some (.int .i64 x124003_2) := (zh BK123.out 3).trans rfl
       have hfz23_0 := zj BK123.out 0
       have hfz23_1 := zj BK123.out 1
       have hfz23_2 := zj BK123.out 2
       have hfz23_3 := zj BK123.out 3
       have hnb24 := NB121_122.out
       have hnc24 := NB122_121.out
       have hnb25 := NB121_0.out
       have hnc25 := NB0_121.out
       have hcz26_0 : wr.cell? ⟨gb121, 0, none⟩ = some (.int .i64 a1_0) := (zh BK121.out 0).trans rfl
       have hcz26_1 : wr.cell? ⟨gb121, 1, none⟩ = some (.int .i64 a1_1) := (zh BK121.out 1).trans rfl
       have hcz26_2 : wr.cell? ⟨gb121, 2, none⟩ = some (.int .i64 a1_2) := (zh BK121.out 2).trans rfl
       have hcz26_3 : wr.cell? ⟨gb121, 3, none⟩ = some (.int .i64 a1_3) := (zh BK121.out 3).trans rfl
       have hfz26_0 := zj BK121.out 0
       have hfz26_1 := zj BK121.out 1
       have hfz26_2 := zj BK121.out 2
       have hfz26_3 := zj BK121.out 3
       go_wp2
       go_loopg [] k2 (fun kq w' => ∃ (x1000_3 : List Int) (x123000_3 : Int) (x123001_3 : Int) (x123002_3 : Int) (x123003_3 : Int) (x124002_3 : Int) (x124003_3 : Int), zg (spec_l06Finder_first.l2 C kq a2 x1000_3 s0_1 a1_0 a1_1 a1_2 a1_3 x124000_1 x124001_2 x124002_3 x124003_3 = some (r1, r2, r3, r4, r5, r6)) ∧ zg (kq ≤ k2) ∧ zg (w'.heap[gb121]? = some (.cells #[.int .i64 a1_0, .int .i64 a1_1, .int .i64 a1_2, .int .i64 a1_3] 25 (0, 0))) ∧ zg (w'.heap[gb122]? = some (.cells #[.int .i64 x123000_3, .int .i64 x123001_3, .int .i64 x123002_3, .int .i64 x123003_3] 25 (0, 0))) ∧ zg (w'.heap[gb123]? = some (.cells #[.int .i64 x124000_1, .int .i64 x124001_2, .int .i64 x124002_3, .int .i64 x124003_3] 25 (0, 0))) ∧ zg (IsF p0 w0 w' g x1000_3 s0_1) ∧ zg (zm w w' g none) ∧ zg (Below w0.heap.size w0 w'))
       case atStart => exact ⟨(x1000_2), (x123000_2), (x123001_2), (x123002_2), (x123003_2), (0), (x124003_2), H', ⟨Nat.le_refl _⟩, ⟨by (with_reducible repeat (first | refine ze ?_ _ | refine zf ?_ | refine za ?_ _)); refine zk ?_ NB121_123.out _; (with_reducible repeat (first | refine ze ?_ _ | refine zf ?_ | refine za ?_ _)); exact BK121.out⟩, ⟨by (with_reducible repeat (first | refine ze ?_ _ | refine zf ?_ | refine za ?_ _)); refine zk ?_ NB122_123.out _; (with_reducible repeat (first | refine ze ?_ _ | refine zf ?_ | refine za ?_ _)); exact BK122.out⟩, ⟨by (with_reducible repeat (first | refine ze ?_ _ | refine zf ?_ | refine za ?_ _)); refine zy (cs := #[.int .i64 x124000_1, .int .i64 x124001_2, .int .i64 x124002_2, .int .i64 x124003_2]) ?_ 2 _ rfl; (with_reducible repeat (first | refine ze ?_ _ | refine zf ?_ | refine za ?_ _)); exact BK123.out⟩, ⟨by repeat (first | (with_reducible first | exact HI0.out | apply IsF.alloc | apply IsF.drewN | apply IsF.drew | refine IsF.far ?_ NB0_121.out (nelt HP.out GW121.out) _ | refine IsF.far ?_ NB0_122.out (nelt HP.out GW122.out) _ | refine IsF.far ?_ NB0_123.out (nelt HP.out GW123.out) _) | exact HI0.out)⟩, ⟨by repeat (first | (with_reducible first | exact HK.out | apply zm.set_ | apply zr | apply zt | apply zs | refine zl ?_ GW121.out _ | refine zl ?_ GW122.out _ | refine zl ?_ GW123.out _) | exact HK.out)⟩, ⟨by repeat (first | (with_reducible first | exact HB.out | apply zq | apply zn | apply zo | refine zi ?_ (IsF.ge HI0.out) | refine zi ?_ GE121.out | refine zi ?_ GE122.out | refine zi ?_ GE123.out) | exact HB.out)⟩⟩
       case round =>
        clear H'
        try clear c1
        try clear c2
        try clear p2
        try clear c7
        try clear c8
        try clear c9
        try clear c11
        try clear c11b0
        try clear c12
        try clear c13
        try clear c14
        try clear c15
        try clear c16
        try clear c17
        try clear c19
        try clear c19b0
        try clear c20
        try clear c21
        try clear c22
        try clear c24
        try clear c25
        try clear hcz10_0
        try clear hcz10_1
        try clear hcz10_2
        try clear hcz10_3
        try clear hcz15_0
        try clear hcz15_1
        try clear hcz15_2
        try clear hcz15_3
        try clear hcz18_0
        try clear hcz18_1
        try clear hcz18_2
        try clear hcz18_3
        try clear hcz23_0
        try clear hcz23_1
        try clear hcz23_2
        try clear hcz23_3
        try clear hcz26_0
        try clear hcz26_1
        try clear hcz26_2
        try clear hcz26_3
        try clear hfz10_0
        try clear hfz10_1
        try clear hfz10_2
        try clear hfz10_3
        try clear hfz15_0
        try clear hfz15_1
        try clear hfz15_2
        try clear hfz15_3
        try clear hfz18_0
        try clear hfz18_1
        try clear hfz18_2
        try clear hfz18_3
        try clear hfz23_0
        try clear hfz23_1
        try clear hfz23_2
        try clear hfz23_3
        try clear hfz26_0
        try clear hfz26_1
        try clear hfz26_2
        try clear hfz26_3
        try clear p2
        obtain ⟨x1000_3, x123000_3, x123001_3, x123002_3, x123003_3, x124002_3, x124003_3, HA, HK3, BK121, BK122, BK123, HI0, HK, HB⟩ := hrel
        cases gk with
        | zero => exact absurd HA.out (by simp [spec_l06Finder_first.l2])
        | succ k3 =>
         have H := HA.out
         clear HA
         simp only [spec_l06Finder_first.l2] at H
         by_cases c27 : x124002_3 ≤ a1_2
         ·rw [if_pos c27] at H
          have c27b0 : decide (x124002_3 ≤ a1_2) = true := decide_eq_true c27
          clear c27
          have H' := zg.mk H
          clear H
          have hnb28 := NB123_121.out
          have hnc28 := NB121_123.out
          have hnb29 := NB123_122.out
          have hnc29 := NB122_123.out
          have hnb30 := NB123_0.out
          have hnc30 := NB0_123.out
          have hcz31_0 : wr.cell? ⟨gb123, 0, none⟩ = some (.int .i64 x124000_1) := (zh BK123.out 0).trans rfl
          have hcz31_1 : wr.cell? ⟨gb123, 1, none⟩ = some (.int .i64 x124001_2) := (zh BK123.out 1).trans rfl
          have hcz31_2 : wr.cell? ⟨gb123, 2, none⟩ = some (.int .i64 x124002_3) := (zh BK123.out 2).trans rfl
          have hcz31_3 : wr.cell? ⟨gb123, 3, none⟩ = some (.int .i64 x124003_3) := (zh BK123.out 3).trans rfl
          have hfz31_0 := zj BK123.out 0
          have hfz31_1 := zj BK123.out 1
          have hfz31_2 := zj BK123.out 2
          have hfz31_3 := zj BK123.out 3
          have hnb32 := NB121_122.out
          have hnc32 := NB122_121.out
          have hnb33 := NB121_0.out
          have hnc33 := NB0_121.out
          have hcz34_0 : wr.cell? ⟨gb121, 0, none⟩ = some (.int .i64 a1_0) := (zh BK121.out 0).trans rfl
          have hcz34_1 : wr.cell? ⟨gb121, 1, none⟩ = some (.int .i64 a1_1) := (zh BK121.out 1).trans rfl
          have hcz34_2 : wr.cell? ⟨gb121, 2, none⟩ = some (.int .i64 a1_2) := (zh BK121.out 2).trans rfl
          have hcz34_3 : wr.cell? ⟨gb121, 3, none⟩ = some (.int .i64 a1_3) := (zh BK121.out 3).trans rfl
          have hfz34_0 := zj BK121.out 0
          have hfz34_1 := zj BK121.out 1
          have hfz34_2 := zj BK121.out 2
          have hfz34_3 := zj BK121.out 3
          go_wp2
          go_loopg [] k3 (fun kq w' => ∃ (x1000_4 : List Int) (x123000_4 : Int) (x123001_4 : Int) (x123002_4 : Int) (x123003_4 : Int) (x124003_4 : Int), zg (spec_l06Finder_first.l3 C kq a2 x1000_4 s0_1 a1_0 a1_1 a1_2 a1_3 x124000_1 x124001_2 x124002_3 x124003_4 = some (r1, r2, r3, r4, r5, r6)) ∧ zg (kq ≤ k3) ∧ zg (w'.heap[gb121]? = some (.cells #[.int .i64 a1_0, .int .i64 a1_1, .int .i64 a1_2, .int .i64 a1_3] 25 (0, 0))) ∧ zg (w'.heap[gb122]? = some (.cells #[.int .i64 x123000_4, .int .i64 x123001_4, .int .i64 x123002_4, .int .i64 x123003_4] 25 (0, 0))) ∧ zg (w'.heap[gb123]? = some (.cells #[.int .i64 x124000_1, .int .i64 x124001_2, .int .i64 x124002_3, .int .i64 x124003_4] 25 (0, 0))) ∧ zg (IsF p0 w0 w' g x1000_4 s0_1) ∧ zg (zm w w' g none) ∧ zg (Below w0.heap.size w0 w'))
          case atStart => exact ⟨(x1000_3), (x123000_3), (x123001_3), (x123002_3), (x123003_3), (0), H', ⟨Nat.le_refl _⟩, ⟨by (with_reducible repeat (first | refine ze ?_ _ | refine zf ?_ | refine za ?_ _)); refine zk ?_ NB121_123.out _; (with_reducible repeat (first | refine ze ?_ _ | refine zf ?_ | refine za ?_ _)); exact BK121.out⟩, ⟨by (with_reducible repeat (first | refine ze ?_ _ | refine zf ?_ | refine za ?_ _)); refine zk ?_ NB122_123.out _; (with_reducible repeat (first | refine ze ?_ _ | refine zf ?_ | refine za ?_ _)); exact BK122.out⟩, ⟨by (with_reducible repeat (first | refine ze ?_ _ | refine zf ?_ | refine za ?_ _)); refine zy (cs := #[.int .i64 x124000_1, .int .i64 x124001_2, .int .i64 x124002_3, .int .i64 x124003_3]) ?_ 3 _ rfl; (with_reducible repeat (first | refine ze ?_ _ | refine zf ?_ | refine za ?_ _)); exact BK123.out⟩, ⟨by repeat (first | (with_reducible first | exact HI0.out | apply IsF.alloc | apply IsF.drewN | apply IsF.drew | refine IsF.far ?_ NB0_121.out (nelt HP.out GW121.out) _ | refine IsF.far ?_ NB0_122.out (nelt HP.out GW122.out) _ | refine IsF.far ?_ NB0_123.out (nelt HP.out GW123.out) _) | exact HI0.out)⟩, ⟨by repeat (first | (with_reducible first | exact HK.out | apply zm.set_ | apply zr | apply zt | apply zs | refine zl ?_ GW121.out _ | refine zl ?_ GW122.out _ | refine zl ?_ GW123.out _) | exact HK.out)⟩, ⟨by repeat (first | (with_reducible first | exact HB.out | apply zq | apply zn | apply zo | refine zi ?_ (IsF.ge HI0.out) | refine zi ?_ GE121.out | refine zi ?_ GE122.out | refine zi ?_ GE123.out) | exact HB.out)⟩⟩
          case round =>
           clear H'
           try clear c1
           try clear c2
           try clear p2
           try clear c3
           try clear c7
           try clear c8
           try clear c9
           try clear c11
           try clear c11b0
           try clear c12
           try clear c13
           try clear c14
           try clear c15
           try clear c16
           try clear c17
           try clear c19
           try clear c19b0
           try clear c20
           try clear c21
           try clear c22
           try clear c24
           try clear c25
           try clear c27
           try clear c27b0
           try clear c28
           try clear c29
           try clear c30
           try clear c32
           try clear c33
           try clear hcz10_0
           try clear hcz10_1
           try clear hcz10_2
           try clear hcz10_3
           try clear hcz15_0
           try clear hcz15_1
           try clear hcz15_2
           try clear hcz15_3
           try clear hcz18_0
           try clear hcz18_1
           try clear hcz18_2
           try clear hcz18_3
           try clear hcz23_0
           try clear hcz23_1
           try clear hcz23_2
           try clear hcz23_3
           try clear hcz26_0
           try clear hcz26_1
           try clear hcz26_2
           try clear hcz26_3
           try clear hcz31_0
           try clear hcz31_1
           try clear hcz31_2
           try clear hcz31_3
           try clear hcz34_0
           try clear hcz34_1
           try clear hcz34_2
           try clear hcz34_3
           try clear hfz10_0
           try clear hfz10_1
           try clear hfz10_2
           try clear hfz10_3
           try clear hfz15_0
           try clear hfz15_1
           try clear hfz15_2
           try clear hfz15_3
           try clear hfz18_0
           try clear hfz18_1
           try clear hfz18_2
           try clear hfz18_3
           try clear hfz23_0
           try clear hfz23_1
           try clear hfz23_2
           try clear hfz23_3
           try clear hfz26_0
           try clear hfz26_1
           try clear hfz26_2
           try clear hfz26_3
           try clear hfz31_0
           try clear hfz31_1
           try clear hfz31_2
           try clear hfz31_3
           try clear hfz34_0
           try clear hfz34_1
           try clear hfz34_2
           try clear hfz34_3
           try clear p2
           obtain ⟨x1000_4, x123000_4, x123001_4, x123002_4, x123003_4, x124003_4, HA, HK4, BK121, BK122, BK123, HI0, HK, HB⟩ := hrel
           cases gk with
           | zero => exact absurd HA.out (by simp [spec_l06Finder_first.l3])
           | succ k4 =>
            have H := HA.out
            clear HA
            simp only [spec_l06Finder_first.l3] at H
            by_cases c35 : x124003_4 ≤ a1_3
            ·rw [if_pos c35] at H
             have c35b0 : decide (x124003_4 ≤ a1_3) = true := decide_eq_true c35
             clear c35
             replace H := Option.bind_eq_some_iff.mp H
             obtain ⟨⟨t124, t125, t126, t127, t128, t129, t130, t131⟩, A360, H⟩ := H
             replace H : ((C x1000_4 s0_1 t124 t125 t126 t127 (wrap64 (a2 - 1))).bind fun bt134 => (if bt134.1 = true then ((C bt134.2 s0_1 t128 t129 t130 t131 (wrap64 (a2 - 1))).bind fun bt136 => (if bt136.1 = true then (some (x124000_1, x124001_2, x124002_3, x124003_4, true, bt136.2)) else (spec_l06Finder_first.l3 C k4 a2 bt136.2 s0_1 a1_0 a1_1 a1_2 a1_3 x124000_1 x124001_2 x124002_3 (wrap64 (x124003_4 + 1))))) else (spec_l06Finder_first.l3 C k4 a2 bt134.2 s0_1 a1_0 a1_1 a1_2 a1_3 x124000_1 x124001_2 x124002_3 (wrap64 (x124003_4 + 1))))) = some (r1, r2, r3, r4, r5, r6) := H
             have A36 := zg.mk A360
             clear A360
             replace H := Option.bind_eq_some_iff.mp H
             obtain ⟨⟨t134, t135⟩, A370, H⟩ := H
             replace H : (if t134 = true then ((C t135 s0_1 t128 t129 t130 t131 (wrap64 (a2 - 1))).bind fun bt136 => (if bt136.1 = true then (some (x124000_1, x124001_2, x124002_3, x124003_4, true, bt136.2)) else (spec_l06Finder_first.l3 C k4 a2 bt136.2 s0_1 a1_0 a1_1 a1_2 a1_3 x124000_1 x124001_2 x124002_3 (wrap64 (x124003_4 + 1))))) else (spec_l06Finder_first.l3 C k4 a2 t135 s0_1 a1_0 a1_1 a1_2 a1_3 x124000_1 x124001_2 x124002_3 (wrap64 (x124003_4 + 1)))) = some (r1, r2, r3, r4, r5, r6) := H
             have A37 := zg.mk A370
             clear A370
             have HCX := zg.mk H
             clear H
             have hnb41 := NB123_121.out
             have hnc41 := NB121_123.out
             have hnb42 := NB123_122.out
             have hnc42 := NB122_123.out
             have hnb43 := NB123_0.out
             have hnc43 := NB0_123.out
             have hcz44_0 : wr.cell? ⟨gb123, 0, none⟩ = some (.int .i64 x124000_1) := (zh BK123.out 0).trans rfl
             have hcz44_1 : wr.cell? ⟨gb123, 1, none⟩ = some (.int .i64 x124001_2) := (zh BK123.out 1).trans rfl
             have hcz44_2 : wr.cell? ⟨gb123, 2, none⟩ = some (.int .i64 x124002_3) := (zh BK123.out 2).trans rfl
             have hcz44_3 : wr.cell? ⟨gb123, 3, none⟩ = some (.int .i64 x124003_4) := (zh BK123.out 3).trans rfl
             have hfz44_0 := zj BK123.out 0
             have hfz44_1 := zj BK123.out 1
             have hfz44_2 := zj BK123.out 2
             have hfz44_3 := zj BK123.out 3
             have hnb45 := NB121_122.out
             have hnc45 := NB122_121.out
             have hnb46 := NB121_0.out
             have hnc46 := NB0_121.out
             have hcz47_0 : wr.cell? ⟨gb121, 0, none⟩ = some (.int .i64 a1_0) := (zh BK121.out 0).trans rfl
             have hcz47_1 : wr.cell? ⟨gb121, 1, none⟩ = some (.int .i64 a1_1) := (zh BK121.out 1).trans rfl
             have hcz47_2 : wr.cell? ⟨gb121, 2, none⟩ = some (.int .i64 a1_2) := (zh BK121.out 2).trans rfl
             have hcz47_3 : wr.cell? ⟨gb121, 3, none⟩ = some (.int .i64 a1_3) := (zh BK121.out 3).trans rfl
             have hfz47_0 := zj BK121.out 0
             have hfz47_1 := zj BK121.out 1
             have hfz47_2 := zj BK121.out 2
             have hfz47_3 := zj BK121.out 3
             try go_wp2
             have n0_ := zg.mk (zf BK121.out)
             have n1_ := zg.mk (zf BK122.out)
             have n2_ := zg.mk (zf BK123.out)
             have n3_ := zg.mk (IsF.drew HI0.out)
             have n4_ := zg.mk (zt HK.out)
             have n5_ := zg.mk (zo HB.out)
             clear BK121
             clear BK122
             clear BK123
             clear HI0
             clear HK
             clear HB
             have BK121 := n0_
             have BK122 := n1_
             have BK123 := n2_
             have HI0 := n3_
             have HK := n4_
             have HB := n5_
             clear n0_ n1_ n2_ n3_ n4_ n5_
             refine zra (n := 14) (S := fun w' => w'.cell? ⟨gb121, 0, none⟩ = some (.int .i64 a1_0) ∧ w'.cell? ⟨gb121, 1, none⟩ = some (.int .i64 a1_1) ∧ w'.cell? ⟨gb121, 2, none⟩ = some (.int .i64 a1_2) ∧ w'.cell? ⟨gb121, 3, none⟩ = some (.int .i64 a1_3) ∧ w'.cell? ⟨gb123, 0, none⟩ = some (.int .i64 x124000_1) ∧ w'.cell? ⟨gb123, 1, none⟩ = some (.int .i64 x124001_2) ∧ w'.cell? ⟨gb123, 2, none⟩ = some (.int .i64 x124002_3) ∧ w'.cell? ⟨gb123, 3, none⟩ = some (.int .i64 x124003_4) ∧ w'.cell? ⟨p0, 0, none⟩ = some (.int .i64 s0_1)) (ds := []) #[false, false, false, false, false, false, false, false, false, false, false, false, false, false] (by kernel_rfl) rfl rfl ⟨(zh BK121.out 0).trans rfl, (zh BK121.out 1).trans rfl, (zh BK121.out 2).trans rfl, (zh BK121.out 3).trans rfl, (zh BK123.out 0).trans rfl, (zh BK123.out 1).trans rfl, (zh BK123.out 2).trans rfl, (zh BK123.out 3).trans rfl, HI0.out.c0⟩ (fun hHeld => ?_); refine zka spec_l06Finder_first.tab14 spec_l06Finder_first.bits14 (fun HT_ HW_ => ?_)
             generalize wr.drew = w48 at BK121 BK122 BK123 HI0 HK HB hHeld ⊢
             refine zaa (i := 0) (N := some 53) (v := ?_) (a' := ?_) #[true, false, false, false, false, false, false, false, false, false, false, false, false, false] rfl rfl (zu HT_.out (by kernel_rfl)) (fun _ _ _ h => h) (Or.inl ⟨by rfl, ?_⟩) ?_ ?_
             rotate_left
             ·intro w'
              go_simp
              with_reducible rfl
             rotate_left
             ·simp only [Act.put, List.setIfInBounds_toArray, List.set_cons_zero, List.set_cons_succ, zv, zw]
              rfl
             refine zaa (i := 1) (N := some 54) (v := ?_) (a' := ?_) #[true, true, false, false, false, false, false, false, false, false, false, false, false, false] rfl rfl (zu HT_.out (by kernel_rfl)) (fun _ _ _ h => h) (Or.inl ⟨by rfl, ?_⟩) ?_ ?_
             rotate_left
             ·intro w'
              go_simp
              with_reducible rfl
             rotate_left
             ·simp only [Act.put, List.setIfInBounds_toArray, List.set_cons_zero, List.set_cons_succ, zv, zw]
              rfl
             refine zaa (i := 2) (N := some 55) (v := ?_) (a' := ?_) #[true, true, true, false, false, false, false, false, false, false, false, false, false, false] rfl rfl (zu HT_.out (by kernel_rfl)) (fun _ _ _ h => h) (Or.inl ⟨by rfl, ?_⟩) ?_ ?_
             rotate_left
             ·intro w'
              go_simp
              with_reducible rfl
             rotate_left
             ·simp only [Act.put, List.setIfInBounds_toArray, List.set_cons_zero, List.set_cons_succ, zv, zw]
              rfl
             refine take_ (i := 3) (N := some 56) (v := ?_) (a' := ?_) #[true, true, true, true, false, false, false, false, false, false, false, false, false, false] rfl rfl (zea HT_.out HW_.out (by kernel_rfl)) (fun _ _ _ h => h) (Or.inl ⟨by rfl, ?_⟩) hHeld ?_ ?_
             rotate_left
             ·rintro w' ⟨s0, s1, s2, s3, s4, s5, s6, s7, s8⟩
              go_simp
              with_reducible rfl
             rotate_left
             ·simp only [Act.put, List.setIfInBounds_toArray, List.set_cons_zero, List.set_cons_succ, zv, zw]
              rfl
             refine take_ (i := 4) (N := some 57) (v := ?_) (a' := ?_) #[true, true, true, true, true, false, false, false, false, false, false, false, false, false] rfl rfl (zea HT_.out HW_.out (by kernel_rfl)) (fun _ _ _ h => h) (Or.inl ⟨by rfl, ?_⟩) hHeld ?_ ?_
             rotate_left
             ·rintro w' ⟨s0, s1, s2, s3, s4, s5, s6, s7, s8⟩
              go_simp
              with_reducible rfl
             rotate_left
             ·simp only [Act.put, List.setIfInBounds_toArray, List.set_cons_zero, List.set_cons_succ, zv, zw]
              rfl
             refine take_ (i := 5) (N := some 58) (v := ?_) (a' := ?_) #[true, true, true, true, true, true, false, false, false, false, false, false, false, false] rfl rfl (zea HT_.out HW_.out (by kernel_rfl)) (fun _ _ _ h => h) (Or.inl ⟨by rfl, ?_⟩) hHeld ?_ ?_
             rotate_left
             ·rintro w' ⟨s0, s1, s2, s3, s4, s5, s6, s7, s8⟩
              go_simp
              with_reducible rfl
             rotate_left
             ·simp only [Act.put, List.setIfInBounds_toArray, List.set_cons_zero, List.set_cons_succ, zv, zw]
              rfl
             refine zae (σ := Nat × Nat) 2 #[true, true, true, true, true, true, true, true, true, true, true, true, false, false] (fun s_ => [(59, .tuple #[.agg #[.int .i64 t124, .int .i64 t125, .int .i64 t126, .int .i64 t127], .agg #[.int .i64 t128, .int .i64 t129, .int .i64 t130, .int .i64 t131]]), (9, .pointer (some ⟨s_.1, 0, none⟩)), (10, .pointer (some ⟨s_.2, 0, none⟩)), (52, .tuple #[.agg #[.int .i64 t124, .int .i64 t125, .int .i64 t126, .int .i64 t127], .agg #[.int .i64 t128, .int .i64 t129, .int .i64 t130, .int .i64 t131]]), (60, .agg #[.int .i64 t124, .int .i64 t125, .int .i64 t126, .int .i64 t127]), (61, .agg #[.int .i64 t128, .int .i64 t129, .int .i64 t130, .int .i64 t131])]) (fun s_ w' => (w'.cell? ⟨gb121, 0, none⟩ = some (.int .i64 a1_0) ∧ w'.cell? ⟨gb121, 1, none⟩ = some (.int .i64 a1_1) ∧ w'.cell? ⟨gb121, 2, none⟩ = some (.int .i64 a1_2) ∧ w'.cell? ⟨gb121, 3, none⟩ = some (.int .i64 a1_3) ∧ w'.cell? ⟨gb123, 0, none⟩ = some (.int .i64 x124000_1) ∧ w'.cell? ⟨gb123, 1, none⟩ = some (.int .i64 x124001_2) ∧ w'.cell? ⟨gb123, 2, none⟩ = some (.int .i64 x124002_3) ∧ w'.cell? ⟨gb123, 3, none⟩ = some (.int .i64 x124003_4) ∧ w'.cell? ⟨p0, 0, none⟩ = some (.int .i64 s0_1)) ∧ (w'.heap[gb121]? = some (.cells #[.int .i64 a1_0, .int .i64 a1_1, .int .i64 a1_2, .int .i64 a1_3] 25 (0, 0))) ∧ (w'.heap[gb122]? = some (.cells #[.int .i64 x123000_4, .int .i64 x123001_4, .int .i64 x123002_4, .int .i64 x123003_4] 25 (0, 0))) ∧ (w'.heap[gb123]? = some (.cells #[.int .i64 x124000_1, .int .i64 x124001_2, .int .i64 x124002_3, .int .i64 x124003_4] 25 (0, 0))) ∧ (w'.heap[s_.1]? = some (.cells #[.int .i64 0, .int .i64 0, .int .i64 0, .int .i64 0] 25 (0, 0))) ∧ (w'.heap[s_.2]? = some (.cells #[.int .i64 0, .int .i64 0, .int .i64 0, .int .i64 0] 25 (0, 0))) ∧ (w.heap.size ≤ s_.1) ∧ (w0.heap.size ≤ s_.1) ∧ (g ≠ s_.1) ∧ (s_.1 ≠ g) ∧ (gb121 ≠ s_.1) ∧ (s_.1 ≠ gb121) ∧ (gb122 ≠ s_.1) ∧ (s_.1 ≠ gb122) ∧ (gb123 ≠ s_.1) ∧ (s_.1 ≠ gb123) ∧ (s_.2 ≠ s_.1) ∧ (s_.1 ≠ s_.2) ∧ (w.heap.size ≤ s_.2) ∧ (w0.heap.size ≤ s_.2) ∧ (g ≠ s_.2) ∧ (s_.2 ≠ g) ∧ (gb121 ≠ s_.2) ∧ (s_.2 ≠ gb121) ∧ (gb122 ≠ s_.2) ∧ (s_.2 ≠ gb122) ∧ (gb123 ≠ s_.2) ∧ (s_.2 ≠ gb123) ∧ (IsF p0 w0 w' g x1000_4 s0_1) ∧ (zm w w' g none) ∧ (Below w0.heap.size w0 w')) ?_ ?_
             rotate_left
             ·intro hJ6_10_11
              refine zae (σ := Nat) 3 #[true, true, true, true, true, true, true, true, true, true, true, false, false, false] (fun s_ => [(59, .tuple #[.agg #[.int .i64 t124, .int .i64 t125, .int .i64 t126, .int .i64 t127], .agg #[.int .i64 t128, .int .i64 t129, .int .i64 t130, .int .i64 t131]]), (9, .pointer (some ⟨s_, 0, none⟩)), (52, .tuple #[.agg #[.int .i64 t124, .int .i64 t125, .int .i64 t126, .int .i64 t127], .agg #[.int .i64 t128, .int .i64 t129, .int .i64 t130, .int .i64 t131]]), (60, .agg #[.int .i64 t124, .int .i64 t125, .int .i64 t126, .int .i64 t127]), (61, .agg #[.int .i64 t128, .int .i64 t129, .int .i64 t130, .int .i64 t131])]) (fun s_ w' => (w'.cell? ⟨gb121, 0, none⟩ = some (.int .i64 a1_0) ∧ w'.cell? ⟨gb121, 1, none⟩ = some (.int .i64 a1_1) ∧ w'.cell? ⟨gb121, 2, none⟩ = some (.int .i64 a1_2) ∧ w'.cell? ⟨gb121, 3, none⟩ = some (.int .i64 a1_3) ∧ w'.cell? ⟨gb123, 0, none⟩ = some (.int .i64 x124000_1) ∧ w'.cell? ⟨gb123, 1, none⟩ = some (.int .i64 x124001_2) ∧ w'.cell? ⟨gb123, 2, none⟩ = some (.int .i64 x124002_3) ∧ w'.cell? ⟨gb123, 3, none⟩ = some (.int .i64 x124003_4) ∧ w'.cell? ⟨p0, 0, none⟩ = some (.int .i64 s0_1)) ∧ (w'.heap[gb121]? = some (.cells #[.int .i64 a1_0, .int .i64 a1_1, .int .i64 a1_2, .int .i64 a1_3] 25 (0, 0))) ∧ (w'.heap[gb122]? = some (.cells #[.int .i64 x123000_4, .int .i64 x123001_4, .int .i64 x123002_4, .int .i64 x123003_4] 25 (0, 0))) ∧ (w'.heap[gb123]? = some (.cells #[.int .i64 x124000_1, .int .i64 x124001_2, .int .i64 x124002_3, .int .i64 x124003_4] 25 (0, 0))) ∧ (w'.heap[s_]? = some (.cells #[.int .i64 0, .int .i64 0, .int .i64 0, .int .i64 0] 25 (0, 0))) ∧ (w.heap.size ≤ s_) ∧ (w0.heap.size ≤ s_) ∧ (g ≠ s_) ∧ (s_ ≠ g) ∧ (gb121 ≠ s_) ∧ (s_ ≠ gb121) ∧ (gb122 ≠ s_) ∧ (s_ ≠ gb122) ∧ (gb123 ≠ s_) ∧ (s_ ≠ gb123) ∧ (IsF p0 w0 w' g x1000_4 s0_1) ∧ (zm w w' g none) ∧ (Below w0.heap.size w0 w')) ?_ ?_
              rotate_left
              ·intro hJ6_10
               refine zae (σ := Nat) 3 #[true, true, true, true, true, true, true, true, true, true, false, true, false, false] (fun s_ => [(59, .tuple #[.agg #[.int .i64 t124, .int .i64 t125, .int .i64 t126, .int .i64 t127], .agg #[.int .i64 t128, .int .i64 t129, .int .i64 t130, .int .i64 t131]]), (10, .pointer (some ⟨s_, 0, none⟩)), (52, .tuple #[.agg #[.int .i64 t124, .int .i64 t125, .int .i64 t126, .int .i64 t127], .agg #[.int .i64 t128, .int .i64 t129, .int .i64 t130, .int .i64 t131]]), (60, .agg #[.int .i64 t124, .int .i64 t125, .int .i64 t126, .int .i64 t127]), (61, .agg #[.int .i64 t128, .int .i64 t129, .int .i64 t130, .int .i64 t131])]) (fun s_ w' => (w'.cell? ⟨gb121, 0, none⟩ = some (.int .i64 a1_0) ∧ w'.cell? ⟨gb121, 1, none⟩ = some (.int .i64 a1_1) ∧ w'.cell? ⟨gb121, 2, none⟩ = some (.int .i64 a1_2) ∧ w'.cell? ⟨gb121, 3, none⟩ = some (.int .i64 a1_3) ∧ w'.cell? ⟨gb123, 0, none⟩ = some (.int .i64 x124000_1) ∧ w'.cell? ⟨gb123, 1, none⟩ = some (.int .i64 x124001_2) ∧ w'.cell? ⟨gb123, 2, none⟩ = some (.int .i64 x124002_3) ∧ w'.cell? ⟨gb123, 3, none⟩ = some (.int .i64 x124003_4) ∧ w'.cell? ⟨p0, 0, none⟩ = some (.int .i64 s0_1)) ∧ (w'.heap[gb121]? = some (.cells #[.int .i64 a1_0, .int .i64 a1_1, .int .i64 a1_2, .int .i64 a1_3] 25 (0, 0))) ∧ (w'.heap[gb122]? = some (.cells #[.int .i64 x123000_4, .int .i64 x123001_4, .int .i64 x123002_4, .int .i64 x123003_4] 25 (0, 0))) ∧ (w'.heap[gb123]? = some (.cells #[.int .i64 x124000_1, .int .i64 x124001_2, .int .i64 x124002_3, .int .i64 x124003_4] 25 (0, 0))) ∧ (w'.heap[s_]? = some (.cells #[.int .i64 0, .int .i64 0, .int .i64 0, .int .i64 0] 25 (0, 0))) ∧ (w.heap.size ≤ s_) ∧ (w0.heap.size ≤ s_) ∧ (g ≠ s_) ∧ (s_ ≠ g) ∧ (gb121 ≠ s_) ∧ (s_ ≠ gb121) ∧ (gb122 ≠ s_) ∧ (s_ ≠ gb122) ∧ (gb123 ≠ s_) ∧ (s_ ≠ gb123) ∧ (IsF p0 w0 w' g x1000_4 s0_1) ∧ (zm w w' g none) ∧ (Below w0.heap.size w0 w')) ?_ ?_
               rotate_left
               ·intro hJ6_11
                refine zae (σ := Nat × Nat) 6 #[true, true, true, true, true, true, false, false, false, false, true, true, false, false] (fun s_ => [(9, .pointer (some ⟨s_.1, 0, none⟩)), (10, .pointer (some ⟨s_.2, 0, none⟩))]) (fun s_ w' => (w'.cell? ⟨gb121, 0, none⟩ = some (.int .i64 a1_0) ∧ w'.cell? ⟨gb121, 1, none⟩ = some (.int .i64 a1_1) ∧ w'.cell? ⟨gb121, 2, none⟩ = some (.int .i64 a1_2) ∧ w'.cell? ⟨gb121, 3, none⟩ = some (.int .i64 a1_3) ∧ w'.cell? ⟨gb123, 0, none⟩ = some (.int .i64 x124000_1) ∧ w'.cell? ⟨gb123, 1, none⟩ = some (.int .i64 x124001_2) ∧ w'.cell? ⟨gb123, 2, none⟩ = some (.int .i64 x124002_3) ∧ w'.cell? ⟨gb123, 3, none⟩ = some (.int .i64 x124003_4) ∧ w'.cell? ⟨p0, 0, none⟩ = some (.int .i64 s0_1)) ∧ (w'.heap[gb121]? = some (.cells #[.int .i64 a1_0, .int .i64 a1_1, .int .i64 a1_2, .int .i64 a1_3] 25 (0, 0))) ∧ (w'.heap[gb122]? = some (.cells #[.int .i64 x123000_4, .int .i64 x123001_4, .int .i64 x123002_4, .int .i64 x123003_4] 25 (0, 0))) ∧ (w'.heap[gb123]? = some (.cells #[.int .i64 x124000_1, .int .i64 x124001_2, .int .i64 x124002_3, .int .i64 x124003_4] 25 (0, 0))) ∧ (w'.heap[s_.1]? = some (.cells #[.int .i64 0, .int .i64 0, .int .i64 0, .int .i64 0] 25 (0, 0))) ∧ (w'.heap[s_.2]? = some (.cells #[.int .i64 0, .int .i64 0, .int .i64 0, .int .i64 0] 25 (0, 0))) ∧ (w.heap.size ≤ s_.1) ∧ (w0.heap.size ≤ s_.1) ∧ (g ≠ s_.1) ∧ (s_.1 ≠ g) ∧ (gb121 ≠ s_.1) ∧ (s_.1 ≠ gb121) ∧ (gb122 ≠ s_.1) ∧ (s_.1 ≠ gb122) ∧ (gb123 ≠ s_.1) ∧ (s_.1 ≠ gb123) ∧ (s_.2 ≠ s_.1) ∧ (s_.1 ≠ s_.2) ∧ (w.heap.size ≤ s_.2) ∧ (w0.heap.size ≤ s_.2) ∧ (g ≠ s_.2) ∧ (s_.2 ≠ g) ∧ (gb121 ≠ s_.2) ∧ (s_.2 ≠ gb121) ∧ (gb122 ≠ s_.2) ∧ (s_.2 ≠ gb122) ∧ (gb123 ≠ s_.2) ∧ (s_.2 ≠ gb123) ∧ (IsF p0 w0 w' g x1000_4 s0_1) ∧ (zm w w' g none) ∧ (Below w0.heap.size w0 w')) ?_ ?_
                rotate_left
                ·intro hJ10_11
                 refine zae (σ := Unit) 4 #[true, true, true, true, true, true, true, true, true, true, false, false, false, false] (fun s_ => [(59, .tuple #[.agg #[.int .i64 t124, .int .i64 t125, .int .i64 t126, .int .i64 t127], .agg #[.int .i64 t128, .int .i64 t129, .int .i64 t130, .int .i64 t131]]), (52, .tuple #[.agg #[.int .i64 t124, .int .i64 t125, .int .i64 t126, .int .i64 t127], .agg #[.int .i64 t128, .int .i64 t129, .int .i64 t130, .int .i64 t131]]), (60, .agg #[.int .i64 t124, .int .i64 t125, .int .i64 t126, .int .i64 t127]), (61, .agg #[.int .i64 t128, .int .i64 t129, .int .i64 t130, .int .i64 t131])]) (fun s_ w' => (w'.cell? ⟨gb121, 0, none⟩ = some (.int .i64 a1_0) ∧ w'.cell? ⟨gb121, 1, none⟩ = some (.int .i64 a1_1) ∧ w'.cell? ⟨gb121, 2, none⟩ = some (.int .i64 a1_2) ∧ w'.cell? ⟨gb121, 3, none⟩ = some (.int .i64 a1_3) ∧ w'.cell? ⟨gb123, 0, none⟩ = some (.int .i64 x124000_1) ∧ w'.cell? ⟨gb123, 1, none⟩ = some (.int .i64 x124001_2) ∧ w'.cell? ⟨gb123, 2, none⟩ = some (.int .i64 x124002_3) ∧ w'.cell? ⟨gb123, 3, none⟩ = some (.int .i64 x124003_4) ∧ w'.cell? ⟨p0, 0, none⟩ = some (.int .i64 s0_1)) ∧ (w'.heap[gb121]? = some (.cells #[.int .i64 a1_0, .int .i64 a1_1, .int .i64 a1_2, .int .i64 a1_3] 25 (0, 0))) ∧ (w'.heap[gb122]? = some (.cells #[.int .i64 x123000_4, .int .i64 x123001_4, .int .i64 x123002_4, .int .i64 x123003_4] 25 (0, 0))) ∧ (w'.heap[gb123]? = some (.cells #[.int .i64 x124000_1, .int .i64 x124001_2, .int .i64 x124002_3, .int .i64 x124003_4] 25 (0, 0))) ∧ (IsF p0 w0 w' g x1000_4 s0_1) ∧ (zm w w' g none) ∧ (Below w0.heap.size w0 w')) ?_ ?_
                 rotate_left
                 ·intro hJ6
                  refine zae (σ := Nat) 7 #[true, true, true, true, true, true, false, false, false, false, true, false, false, false] (fun s_ => [(9, .pointer (some ⟨s_, 0, none⟩))]) (fun s_ w' => (w'.cell? ⟨gb121, 0, none⟩ = some (.int .i64 a1_0) ∧ w'.cell? ⟨gb121, 1, none⟩ = some (.int .i64 a1_1) ∧ w'.cell? ⟨gb121, 2, none⟩ = some (.int .i64 a1_2) ∧ w'.cell? ⟨gb121, 3, none⟩ = some (.int .i64 a1_3) ∧ w'.cell? ⟨gb123, 0, none⟩ = some (.int .i64 x124000_1) ∧ w'.cell? ⟨gb123, 1, none⟩ = some (.int .i64 x124001_2) ∧ w'.cell? ⟨gb123, 2, none⟩ = some (.int .i64 x124002_3) ∧ w'.cell? ⟨gb123, 3, none⟩ = some (.int .i64 x124003_4) ∧ w'.cell? ⟨p0, 0, none⟩ = some (.int .i64 s0_1)) ∧ (w'.heap[gb121]? = some (.cells #[.int .i64 a1_0, .int .i64 a1_1, .int .i64 a1_2, .int .i64 a1_3] 25 (0, 0))) ∧ (w'.heap[gb122]? = some (.cells #[.int .i64 x123000_4, .int .i64 x123001_4, .int .i64 x123002_4, .int .i64 x123003_4] 25 (0, 0))) ∧ (w'.heap[gb123]? = some (.cells #[.int .i64 x124000_1, .int .i64 x124001_2, .int .i64 x124002_3, .int .i64 x124003_4] 25 (0, 0))) ∧ (w'.heap[s_]? = some (.cells #[.int .i64 0, .int .i64 0, .int .i64 0, .int .i64 0] 25 (0, 0))) ∧ (w.heap.size ≤ s_) ∧ (w0.heap.size ≤ s_) ∧ (g ≠ s_) ∧ (s_ ≠ g) ∧ (gb121 ≠ s_) ∧ (s_ ≠ gb121) ∧ (gb122 ≠ s_) ∧ (s_ ≠ gb122) ∧ (gb123 ≠ s_) ∧ (s_ ≠ gb123) ∧ (IsF p0 w0 w' g x1000_4 s0_1) ∧ (zm w w' g none) ∧ (Below w0.heap.size w0 w')) ?_ ?_
                  rotate_left
                  ·intro hJ10
                   refine zae (σ := Nat) 7 #[true, true, true, true, true, true, false, false, false, false, false, true, false, false] (fun s_ => [(10, .pointer (some ⟨s_, 0, none⟩))]) (fun s_ w' => (w'.cell? ⟨gb121, 0, none⟩ = some (.int .i64 a1_0) ∧ w'.cell? ⟨gb121, 1, none⟩ = some (.int .i64 a1_1) ∧ w'.cell? ⟨gb121, 2, none⟩ = some (.int .i64 a1_2) ∧ w'.cell? ⟨gb121, 3, none⟩ = some (.int .i64 a1_3) ∧ w'.cell? ⟨gb123, 0, none⟩ = some (.int .i64 x124000_1) ∧ w'.cell? ⟨gb123, 1, none⟩ = some (.int .i64 x124001_2) ∧ w'.cell? ⟨gb123, 2, none⟩ = some (.int .i64 x124002_3) ∧ w'.cell? ⟨gb123, 3, none⟩ = some (.int .i64 x124003_4) ∧ w'.cell? ⟨p0, 0, none⟩ = some (.int .i64 s0_1)) ∧ (w'.heap[gb121]? = some (.cells #[.int .i64 a1_0, .int .i64 a1_1, .int .i64 a1_2, .int .i64 a1_3] 25 (0, 0))) ∧ (w'.heap[gb122]? = some (.cells #[.int .i64 x123000_4, .int .i64 x123001_4, .int .i64 x123002_4, .int .i64 x123003_4] 25 (0, 0))) ∧ (w'.heap[gb123]? = some (.cells #[.int .i64 x124000_1, .int .i64 x124001_2, .int .i64 x124002_3, .int .i64 x124003_4] 25 (0, 0))) ∧ (w'.heap[s_]? = some (.cells #[.int .i64 0, .int .i64 0, .int .i64 0, .int .i64 0] 25 (0, 0))) ∧ (w.heap.size ≤ s_) ∧ (w0.heap.size ≤ s_) ∧ (g ≠ s_) ∧ (s_ ≠ g) ∧ (gb121 ≠ s_) ∧ (s_ ≠ gb121) ∧ (gb122 ≠ s_) ∧ (s_ ≠ gb122) ∧ (gb123 ≠ s_) ∧ (s_ ≠ gb123) ∧ (IsF p0 w0 w' g x1000_4 s0_1) ∧ (zm w w' g none) ∧ (Below w0.heap.size w0 w')) ?_ ?_
                   rotate_left
                   ·intro hJ11
                    refine three_ (i := 6) (j := 10) (k := 11) (Ni := some 59) (Nj := some 9) (Nk := some 10) #[true, true, true, true, true, true, true, false, false, false, false, false, false, false] #[true, true, true, true, true, true, false, false, false, false, true, false, false, false] #[true, true, true, true, true, true, false, false, false, false, false, true, false, false] rfl rfl rfl rfl rfl rfl (three_of HT_.out (by kernel_rfl)) (by decide) (by decide) (by decide) (fun K hK => ?_) (fun K hK => ?_) (fun K hK => ?_)
                    ·skip
                     refine zhe Try.func23 (by kernel_rfl) rfl #[.int .i64 s0_1, .agg #[.int .i64 a1_0, .int .i64 a1_1, .int .i64 a1_2, .int .i64 a1_3], .agg #[.int .i64 x124000_1, .int .i64 x124001_2, .int .i64 x124002_3, .int .i64 x124003_4]] (by rfl) rfl rfl (by (try simp only [List.map_toArray, List.map_cons, List.map_nil]); first | done | rfl | (simp only [List.length_drop, List.length_take]; rfl)) ?_
                     with_reducible refine (spec_l06Split.calls k4 s0_1 a1_0 a1_1 a1_2 a1_3 x124000_1 x124001_2 x124002_3 x124003_4 t124 t125 t126 t127 t128 t129 t130 t131 _ A36.out).mono ?_
                     rintro e w49 ⟨rfl, hb⟩
                     refine ⟨_, rfl, ?_⟩
                     have n0_ := zg.mk (zz (g := gb121) (o := .cells #[.int .i64 a1_0, .int .i64 a1_1, .int .i64 a1_2, .int .i64 a1_3] 25 (0, 0)) (by (with_reducible repeat (first | refine ze ?_ _ | refine zf ?_ | refine za ?_ _)); exact BK121.out) hb)
                     have n1_ := zg.mk (zz (g := gb122) (o := .cells #[.int .i64 x123000_4, .int .i64 x123001_4, .int .i64 x123002_4, .int .i64 x123003_4] 25 (0, 0)) (by (with_reducible repeat (first | refine ze ?_ _ | refine zf ?_ | refine za ?_ _)); exact BK122.out) hb)
                     have n2_ := zg.mk (zz (g := gb123) (o := .cells #[.int .i64 x124000_1, .int .i64 x124001_2, .int .i64 x124002_3, .int .i64 x124003_4] 25 (0, 0)) (by (with_reducible repeat (first | refine ze ?_ _ | refine zf ?_ | refine za ?_ _)); exact BK123.out) hb)
                     have n3_ := zg.mk (IsF.below (by repeat (first | (with_reducible first | exact HI0.out | apply IsF.alloc | apply IsF.drewN | apply IsF.drew | refine IsF.far ?_ NB0_121.out (nelt HP.out GW121.out) _ | refine IsF.far ?_ NB0_122.out (nelt HP.out GW122.out) _ | refine IsF.far ?_ NB0_123.out (nelt HP.out GW123.out) _) | exact HI0.out)) hb)
                     have n4_ := zg.mk (zm.trans (by repeat (first | (with_reducible first | exact HK.out | apply zm.set_ | apply zr | apply zt | apply zs | refine zl ?_ GW121.out _ | refine zl ?_ GW122.out _ | refine zl ?_ GW123.out _) | exact HK.out)) (zm.of_below hb g none) (.inl rfl))
                     have n5_ := zg.mk (zx (by repeat (first | (with_reducible first | exact HB.out | apply zq | apply zn | apply zo | refine zi ?_ (IsF.ge HI0.out) | refine zi ?_ GE121.out | refine zi ?_ GE122.out | refine zi ?_ GE123.out) | exact HB.out)) hb)
                     clear BK121
                     clear BK122
                     clear BK123
                     clear HI0
                     clear HK
                     clear HB
                     have BK121 := n0_
                     have BK122 := n1_
                     have BK123 := n2_
                     have HI0 := n3_
                     have HK := n4_
                     have HB := n5_
                     clear n0_ n1_ n2_ n3_ n4_ n5_
                     (try clear hb)
                     (try clear hb2)
                     (try clear hk)
                     (try clear hi)
                     refine hK.out _ _ ⟨(zh BK121.out 0).trans rfl, (zh BK121.out 1).trans rfl, (zh BK121.out 2).trans rfl, (zh BK121.out 3).trans rfl, (zh BK123.out 0).trans rfl, (zh BK123.out 1).trans rfl, (zh BK123.out 2).trans rfl, (zh BK123.out 3).trans rfl, HI0.out.c0⟩ (fun hHeld => ?_)
                     clear hK K
                     refine zhb (a' := ?_) ?_ ?_
                     rotate_left
                     ·show Act.put _ (some 59) _ = _
                      simp only [Act.put, List.setIfInBounds_toArray, List.set_cons_zero, List.set_cons_succ, zv, zw]
                      rfl
                     refine zaa (i := 7) (N := some 52) (v := ?_) (a' := ?_) #[true, true, true, true, true, true, true, true, false, false, false, false, false, false] rfl rfl (zu HT_.out (by kernel_rfl)) (fun _ _ _ h => h) (Or.inl ⟨by rfl, ?_⟩) ?_ ?_
                     rotate_left
                     ·intro w'
                      go_simp
                      with_reducible rfl
                     rotate_left
                     ·simp only [Act.put, List.setIfInBounds_toArray, List.set_cons_zero, List.set_cons_succ, zv, zw]
                      rfl
                     refine zaa (i := 8) (N := some 60) (v := ?_) (a' := ?_) #[true, true, true, true, true, true, true, true, true, false, false, false, false, false] rfl rfl (zu HT_.out (by kernel_rfl)) (fun _ _ _ h => h) (Or.inl ⟨by rfl, ?_⟩) ?_ ?_
                     rotate_left
                     ·intro w'
                      go_simp
                      with_reducible rfl
                     rotate_left
                     ·simp only [Act.put, List.setIfInBounds_toArray, List.set_cons_zero, List.set_cons_succ, zv, zw]
                      rfl
                     refine zaa (i := 9) (N := some 61) (v := ?_) (a' := ?_) #[true, true, true, true, true, true, true, true, true, true, false, false, false, false] rfl rfl (zu HT_.out (by kernel_rfl)) (fun _ _ _ h => h) (Or.inl ⟨by rfl, ?_⟩) ?_ ?_
                     rotate_left
                     ·intro w'
                      go_simp
                      with_reducible rfl
                     rotate_left
                     ·simp only [Act.put, List.setIfInBounds_toArray, List.set_cons_zero, List.set_cons_succ, zv, zw]
                      rfl
                     exact zhb (by first | (simp only [zsa, Act.put, List.setIfInBounds_toArray, List.set_cons_zero, List.set_cons_succ]; done) | (simp only [zsa, Act.put, List.setIfInBounds_toArray, List.set_cons_zero, List.set_cons_succ]; rfl)) (hJ6 () _ ⟨hHeld, (by (with_reducible repeat (first | refine ze ?_ _ | refine zf ?_ | refine za ?_ _)); exact BK121.out), (by (with_reducible repeat (first | refine ze ?_ _ | refine zf ?_ | refine za ?_ _)); exact BK122.out), (by (with_reducible repeat (first | refine ze ?_ _ | refine zf ?_ | refine za ?_ _)); exact BK123.out), (by repeat (first | (with_reducible first | exact HI0.out | apply IsF.alloc | apply IsF.drewN | apply IsF.drew | refine IsF.far ?_ NB0_121.out (nelt HP.out GW121.out) _ | refine IsF.far ?_ NB0_122.out (nelt HP.out GW122.out) _ | refine IsF.far ?_ NB0_123.out (nelt HP.out GW123.out) _) | exact HI0.out)), (by repeat (first | (with_reducible first | exact HK.out | apply zm.set_ | apply zr | apply zt | apply zs | refine zl ?_ GW121.out _ | refine zl ?_ GW122.out _ | refine zl ?_ GW123.out _) | exact HK.out)), (by repeat (first | (with_reducible first | exact HB.out | apply zq | apply zn | apply zo | refine zi ?_ (IsF.ge HI0.out) | refine zi ?_ GE121.out | refine zi ?_ GE122.out | refine zi ?_ GE123.out) | exact HB.out))⟩)
                    ·skip
                     refine zrb ?hg (N := 9) ?hd (cs := #[.int .i64 0, .int .i64 0, .int .i64 0, .int .i64 0]) (t := 25) ?hr ?_; (case hd => rfl); (case hg => rfl); (case hr => first | (go_simp; done) | (go_simp; rfl))
                     intro gb132 hg w49 hbox hb
                     have n0_ := zg.mk (zz (g := gb121) (o := .cells #[.int .i64 a1_0, .int .i64 a1_1, .int .i64 a1_2, .int .i64 a1_3] 25 (0, 0)) (by (with_reducible repeat (first | refine ze ?_ _ | refine zf ?_ | refine za ?_ _)); exact BK121.out) hb)
                     have n1_ := zg.mk (zz (g := gb122) (o := .cells #[.int .i64 x123000_4, .int .i64 x123001_4, .int .i64 x123002_4, .int .i64 x123003_4] 25 (0, 0)) (by (with_reducible repeat (first | refine ze ?_ _ | refine zf ?_ | refine za ?_ _)); exact BK122.out) hb)
                     have n2_ := zg.mk (zz (g := gb123) (o := .cells #[.int .i64 x124000_1, .int .i64 x124001_2, .int .i64 x124002_3, .int .i64 x124003_4] 25 (0, 0)) (by (with_reducible repeat (first | refine ze ?_ _ | refine zf ?_ | refine za ?_ _)); exact BK123.out) hb)
                     have n3_ := zg.mk (IsF.below (by repeat (first | (with_reducible first | exact HI0.out | apply IsF.alloc | apply IsF.drewN | apply IsF.drew | refine IsF.far ?_ NB0_121.out (nelt HP.out GW121.out) _ | refine IsF.far ?_ NB0_122.out (nelt HP.out GW122.out) _ | refine IsF.far ?_ NB0_123.out (nelt HP.out GW123.out) _) | exact HI0.out)) hb)
                     have n4_ := zg.mk (zm.trans (by repeat (first | (with_reducible first | exact HK.out | apply zm.set_ | apply zr | apply zt | apply zs | refine zl ?_ GW121.out _ | refine zl ?_ GW122.out _ | refine zl ?_ GW123.out _) | exact HK.out)) (zm.of_below hb g none) (.inl rfl))
                     have n5_ := zg.mk (zx (by repeat (first | (with_reducible first | exact HB.out | apply zq | apply zn | apply zo | refine zi ?_ (IsF.ge HI0.out) | refine zi ?_ GE121.out | refine zi ?_ GE122.out | refine zi ?_ GE123.out) | exact HB.out)) hb)
                     have n6_ := zg.mk (hbox)
                     have n7_ := zg.mk ((by rw [hg]; exact (zfa (w := w) (g := g) (row := none) (by repeat (first | (with_reducible first | exact HK.out | apply zm.set_ | apply zr | apply zt | apply zs | refine zl ?_ GW121.out _ | refine zl ?_ GW122.out _ | refine zl ?_ GW123.out _) | exact HK.out))) : w.heap.size ≤ gb132))
                     have n8_ := zg.mk ((Nat.le_trans HW0.out (by rw [hg]; exact (zfa (w := w) (g := g) (row := none) (by repeat (first | (with_reducible first | exact HK.out | apply zm.set_ | apply zr | apply zt | apply zs | refine zl ?_ GW121.out _ | refine zl ?_ GW122.out _ | refine zl ?_ GW123.out _) | exact HK.out))) : w.heap.size ≤ gb132) : w0.heap.size ≤ gb132))
                     have n9_ := zg.mk ((by rw [hg]; exact Nat.ne_of_lt (zba (g := gb121) (o := .cells #[.int .i64 a1_0, .int .i64 a1_1, .int .i64 a1_2, .int .i64 a1_3] 25 (0, 0)) (by (with_reducible repeat (first | refine ze ?_ _ | refine zf ?_ | refine za ?_ _)); exact BK121.out)) : gb121 ≠ gb132))
                     have n10_ := zg.mk ((by rw [hg]; exact Nat.ne_of_gt (zba (g := gb121) (o := .cells #[.int .i64 a1_0, .int .i64 a1_1, .int .i64 a1_2, .int .i64 a1_3] 25 (0, 0)) (by (with_reducible repeat (first | refine ze ?_ _ | refine zf ?_ | refine za ?_ _)); exact BK121.out)) : gb132 ≠ gb121))
                     have n11_ := zg.mk ((by rw [hg]; exact Nat.ne_of_lt (zba (g := gb122) (o := .cells #[.int .i64 x123000_4, .int .i64 x123001_4, .int .i64 x123002_4, .int .i64 x123003_4] 25 (0, 0)) (by (with_reducible repeat (first | refine ze ?_ _ | refine zf ?_ | refine za ?_ _)); exact BK122.out)) : gb122 ≠ gb132))
                     have n12_ := zg.mk ((by rw [hg]; exact Nat.ne_of_gt (zba (g := gb122) (o := .cells #[.int .i64 x123000_4, .int .i64 x123001_4, .int .i64 x123002_4, .int .i64 x123003_4] 25 (0, 0)) (by (with_reducible repeat (first | refine ze ?_ _ | refine zf ?_ | refine za ?_ _)); exact BK122.out)) : gb132 ≠ gb122))
                     have n13_ := zg.mk ((by rw [hg]; exact Nat.ne_of_lt (zba (g := gb123) (o := .cells #[.int .i64 x124000_1, .int .i64 x124001_2, .int .i64 x124002_3, .int .i64 x124003_4] 25 (0, 0)) (by (with_reducible repeat (first | refine ze ?_ _ | refine zf ?_ | refine za ?_ _)); exact BK123.out)) : gb123 ≠ gb132))
                     have n14_ := zg.mk ((by rw [hg]; exact Nat.ne_of_gt (zba (g := gb123) (o := .cells #[.int .i64 x124000_1, .int .i64 x124001_2, .int .i64 x124002_3, .int .i64 x124003_4] 25 (0, 0)) (by (with_reducible repeat (first | refine ze ?_ _ | refine zf ?_ | refine za ?_ _)); exact BK123.out)) : gb132 ≠ gb123))
                     have n15_ := zg.mk ((by rw [hg]; exact Nat.ne_of_lt (IsF.lt (show IsF p0 w0 _ g x1000_4 s0_1 from by repeat (first | (with_reducible first | exact HI0.out | apply IsF.alloc | apply IsF.drewN | apply IsF.drew | refine IsF.far ?_ NB0_121.out (nelt HP.out GW121.out) _ | refine IsF.far ?_ NB0_122.out (nelt HP.out GW122.out) _ | refine IsF.far ?_ NB0_123.out (nelt HP.out GW123.out) _) | exact HI0.out))) : g ≠ gb132))
                     have n16_ := zg.mk ((by rw [hg]; exact Nat.ne_of_gt (IsF.lt (show IsF p0 w0 _ g x1000_4 s0_1 from by repeat (first | (with_reducible first | exact HI0.out | apply IsF.alloc | apply IsF.drewN | apply IsF.drew | refine IsF.far ?_ NB0_121.out (nelt HP.out GW121.out) _ | refine IsF.far ?_ NB0_122.out (nelt HP.out GW122.out) _ | refine IsF.far ?_ NB0_123.out (nelt HP.out GW123.out) _) | exact HI0.out))) : gb132 ≠ g))
                     clear BK121
                     clear BK122
                     clear BK123
                     clear HI0
                     clear HK
                     clear HB
                     have BK121 := n0_
                     have BK122 := n1_
                     have BK123 := n2_
                     have HI0 := n3_
                     have HK := n4_
                     have HB := n5_
                     have BK132 := n6_
                     have GW132 := n7_
                     have GE132 := n8_
                     have NB121_132 := n9_
                     have NB132_121 := n10_
                     have NB122_132 := n11_
                     have NB132_122 := n12_
                     have NB123_132 := n13_
                     have NB132_123 := n14_
                     have NB0_132 := n15_
                     have NB132_0 := n16_
                     clear n0_ n1_ n2_ n3_ n4_ n5_ n6_ n7_ n8_ n9_ n10_ n11_ n12_ n13_ n14_ n15_ n16_
                     clear hb hbox hg
                     refine hK.out _ _ ⟨(zh BK121.out 0).trans rfl, (zh BK121.out 1).trans rfl, (zh BK121.out 2).trans rfl, (zh BK121.out 3).trans rfl, (zh BK123.out 0).trans rfl, (zh BK123.out 1).trans rfl, (zh BK123.out 2).trans rfl, (zh BK123.out 3).trans rfl, HI0.out.c0⟩ (fun hHeld => ?_)
                     clear hK K
                     refine zhb (a' := ?_) ?_ ?_
                     rotate_left
                     ·show Act.put _ (some 9) _ = _
                      simp only [Act.put, List.setIfInBounds_toArray, List.set_cons_zero, List.set_cons_succ, zv, zw]
                      rfl
                     exact zhb (by first | (simp only [zsa, Act.put, List.setIfInBounds_toArray, List.set_cons_zero, List.set_cons_succ]; done) | (simp only [zsa, Act.put, List.setIfInBounds_toArray, List.set_cons_zero, List.set_cons_succ]; rfl)) (hJ10 (gb132) _ ⟨hHeld, (by (with_reducible repeat (first | refine ze ?_ _ | refine zf ?_ | refine za ?_ _)); exact BK121.out), (by (with_reducible repeat (first | refine ze ?_ _ | refine zf ?_ | refine za ?_ _)); exact BK122.out), (by (with_reducible repeat (first | refine ze ?_ _ | refine zf ?_ | refine za ?_ _)); exact BK123.out), (by (with_reducible repeat (first | refine ze ?_ _ | refine zf ?_ | refine za ?_ _)); exact BK132.out), GW132.out, GE132.out, NB0_132.out, NB132_0.out, NB121_132.out, NB132_121.out, NB122_132.out, NB132_122.out, NB123_132.out, NB132_123.out, (by repeat (first | (with_reducible first | exact HI0.out | apply IsF.alloc | apply IsF.drewN | apply IsF.drew | refine IsF.far ?_ NB0_121.out (nelt HP.out GW121.out) _ | refine IsF.far ?_ NB0_122.out (nelt HP.out GW122.out) _ | refine IsF.far ?_ NB0_123.out (nelt HP.out GW123.out) _ | refine IsF.far ?_ NB0_132.out (nelt HP.out GW132.out) _) | exact HI0.out)), (by repeat (first | (with_reducible first | exact HK.out | apply zm.set_ | apply zr | apply zt | apply zs | refine zl ?_ GW121.out _ | refine zl ?_ GW122.out _ | refine zl ?_ GW123.out _ | refine zl ?_ GW132.out _) | exact HK.out)), (by repeat (first | (with_reducible first | exact HB.out | apply zq | apply zn | apply zo | refine zi ?_ (IsF.ge HI0.out) | refine zi ?_ GE121.out | refine zi ?_ GE122.out | refine zi ?_ GE123.out | refine zi ?_ GE132.out) | exact HB.out))⟩)
                    ·skip
                     refine zrb ?hg (N := 10) ?hd (cs := #[.int .i64 0, .int .i64 0, .int .i64 0, .int .i64 0]) (t := 25) ?hr ?_; (case hd => rfl); (case hg => rfl); (case hr => first | (go_simp; done) | (go_simp; rfl))
                     intro gb133 hg w49 hbox hb
                     have n0_ := zg.mk (zz (g := gb121) (o := .cells #[.int .i64 a1_0, .int .i64 a1_1, .int .i64 a1_2, .int .i64 a1_3] 25 (0, 0)) (by (with_reducible repeat (first | refine ze ?_ _ | refine zf ?_ | refine za ?_ _)); exact BK121.out) hb)
                     have n1_ := zg.mk (zz (g := gb122) (o := .cells #[.int .i64 x123000_4, .int .i64 x123001_4, .int .i64 x123002_4, .int .i64 x123003_4] 25 (0, 0)) (by (with_reducible repeat (first | refine ze ?_ _ | refine zf ?_ | refine za ?_ _)); exact BK122.out) hb)
                     have n2_ := zg.mk (zz (g := gb123) (o := .cells #[.int .i64 x124000_1, .int .i64 x124001_2, .int .i64 x124002_3, .int .i64 x124003_4] 25 (0, 0)) (by (with_reducible repeat (first | refine ze ?_ _ | refine zf ?_ | refine za ?_ _)); exact BK123.out) hb)
                     have n3_ := zg.mk (IsF.below (by repeat (first | (with_reducible first | exact HI0.out | apply IsF.alloc | apply IsF.drewN | apply IsF.drew | refine IsF.far ?_ NB0_121.out (nelt HP.out GW121.out) _ | refine IsF.far ?_ NB0_122.out (nelt HP.out GW122.out) _ | refine IsF.far ?_ NB0_123.out (nelt HP.out GW123.out) _) | exact HI0.out)) hb)
                     have n4_ := zg.mk (zm.trans (by repeat (first | (with_reducible first | exact HK.out | apply zm.set_ | apply zr | apply zt | apply zs | refine zl ?_ GW121.out _ | refine zl ?_ GW122.out _ | refine zl ?_ GW123.out _) | exact HK.out)) (zm.of_below hb g none) (.inl rfl))
                     have n5_ := zg.mk (zx (by repeat (first | (with_reducible first | exact HB.out | apply zq | apply zn | apply zo | refine zi ?_ (IsF.ge HI0.out) | refine zi ?_ GE121.out | refine zi ?_ GE122.out | refine zi ?_ GE123.out) | exact HB.out)) hb)
                     have n6_ := zg.mk (hbox)
                     have n7_ := zg.mk ((by rw [hg]; exact (zfa (w := w) (g := g) (row := none) (by repeat (first | (with_reducible first | exact HK.out | apply zm.set_ | apply zr | apply zt | apply zs | refine zl ?_ GW121.out _ | refine zl ?_ GW122.out _ | refine zl ?_ GW123.out _) | exact HK.out))) : w.heap.size ≤ gb133))
                     have n8_ := zg.mk ((Nat.le_trans HW0.out (by rw [hg]; exact (zfa (w := w) (g := g) (row := none) (by repeat (first | (with_reducible first | exact HK.out | apply zm.set_ | apply zr | apply zt | apply zs | refine zl ?_ GW121.out _ | refine zl ?_ GW122.out _ | refine zl ?_ GW123.out _) | exact HK.out))) : w.heap.size ≤ gb133) : w0.heap.size ≤ gb133))
                     have n9_ := zg.mk ((by rw [hg]; exact Nat.ne_of_lt (zba (g := gb121) (o := .cells #[.int .i64 a1_0, .int .i64 a1_1, .int .i64 a1_2, .int .i64 a1_3] 25 (0, 0)) (by (with_reducible repeat (first | refine ze ?_ _ | refine zf ?_ | refine za ?_ _)); exact BK121.out)) : gb121 ≠ gb133))
                     have n10_ := zg.mk ((by rw [hg]; exact Nat.ne_of_gt (zba (g := gb121) (o := .cells #[.int .i64 a1_0, .int .i64 a1_1, .int .i64 a1_2, .int .i64 a1_3] 25 (0, 0)) (by (with_reducible repeat (first | refine ze ?_ _ | refine zf ?_ | refine za ?_ _)); exact BK121.out)) : gb133 ≠ gb121))
                     have n11_ := zg.mk ((by rw [hg]; exact Nat.ne_of_lt (zba (g := gb122) (o := .cells #[.int .i64 x123000_4, .int .i64 x123001_4, .int .i64 x123002_4, .int .i64 x123003_4] 25 (0, 0)) (by (with_reducible repeat (first | refine ze ?_ _ | refine zf ?_ | refine za ?_ _)); exact BK122.out)) : gb122 ≠ gb133))
                     have n12_ := zg.mk ((by rw [hg]; exact Nat.ne_of_gt (zba (g := gb122) (o := .cells #[.int .i64 x123000_4, .int .i64 x123001_4, .int .i64 x123002_4, .int .i64 x123003_4] 25 (0, 0)) (by (with_reducible repeat (first | refine ze ?_ _ | refine zf ?_ | refine za ?_ _)); exact BK122.out)) : gb133 ≠ gb122))
                     have n13_ := zg.mk ((by rw [hg]; exact Nat.ne_of_lt (zba (g := gb123) (o := .cells #[.int .i64 x124000_1, .int .i64 x124001_2, .int .i64 x124002_3, .int .i64 x124003_4] 25 (0, 0)) (by (with_reducible repeat (first | refine ze ?_ _ | refine zf ?_ | refine za ?_ _)); exact BK123.out)) : gb123 ≠ gb133))
                     have n14_ := zg.mk ((by rw [hg]; exact Nat.ne_of_gt (zba (g := gb123) (o := .cells #[.int .i64 x124000_1, .int .i64 x124001_2, .int .i64 x124002_3, .int .i64 x124003_4] 25 (0, 0)) (by (with_reducible repeat (first | refine ze ?_ _ | refine zf ?_ | refine za ?_ _)); exact BK123.out)) : gb133 ≠ gb123))
                     have n15_ := zg.mk ((by rw [hg]; exact Nat.ne_of_lt (IsF.lt (show IsF p0 w0 _ g x1000_4 s0_1 from by repeat (first | (with_reducible first | exact HI0.out | apply IsF.alloc | apply IsF.drewN | apply IsF.drew | refine IsF.far ?_ NB0_121.out (nelt HP.out GW121.out) _ | refine IsF.far ?_ NB0_122.out (nelt HP.out GW122.out) _ | refine IsF.far ?_ NB0_123.out (nelt HP.out GW123.out) _) | exact HI0.out))) : g ≠ gb133))
                     have n16_ := zg.mk ((by rw [hg]; exact Nat.ne_of_gt (IsF.lt (show IsF p0 w0 _ g x1000_4 s0_1 from by repeat (first | (with_reducible first | exact HI0.out | apply IsF.alloc | apply IsF.drewN | apply IsF.drew | refine IsF.far ?_ NB0_121.out (nelt HP.out GW121.out) _ | refine IsF.far ?_ NB0_122.out (nelt HP.out GW122.out) _ | refine IsF.far ?_ NB0_123.out (nelt HP.out GW123.out) _) | exact HI0.out))) : gb133 ≠ g))
                     clear BK121
                     clear BK122
                     clear BK123
                     clear HI0
                     clear HK
                     clear HB
                     have BK121 := n0_
                     have BK122 := n1_
                     have BK123 := n2_
                     have HI0 := n3_
                     have HK := n4_
                     have HB := n5_
                     have BK133 := n6_
                     have GW133 := n7_
                     have GE133 := n8_
                     have NB121_133 := n9_
                     have NB133_121 := n10_
                     have NB122_133 := n11_
                     have NB133_122 := n12_
                     have NB123_133 := n13_
                     have NB133_123 := n14_
                     have NB0_133 := n15_
                     have NB133_0 := n16_
                     clear n0_ n1_ n2_ n3_ n4_ n5_ n6_ n7_ n8_ n9_ n10_ n11_ n12_ n13_ n14_ n15_ n16_
                     clear hb hbox hg
                     refine hK.out _ _ ⟨(zh BK121.out 0).trans rfl, (zh BK121.out 1).trans rfl, (zh BK121.out 2).trans rfl, (zh BK121.out 3).trans rfl, (zh BK123.out 0).trans rfl, (zh BK123.out 1).trans rfl, (zh BK123.out 2).trans rfl, (zh BK123.out 3).trans rfl, HI0.out.c0⟩ (fun hHeld => ?_)
                     clear hK K
                     refine zhb (a' := ?_) ?_ ?_
                     rotate_left
                     ·show Act.put _ (some 10) _ = _
                      simp only [Act.put, List.setIfInBounds_toArray, List.set_cons_zero, List.set_cons_succ, zv, zw]
                      rfl
                     exact zhb (by first | (simp only [zsa, Act.put, List.setIfInBounds_toArray, List.set_cons_zero, List.set_cons_succ]; done) | (simp only [zsa, Act.put, List.setIfInBounds_toArray, List.set_cons_zero, List.set_cons_succ]; rfl)) (hJ11 (gb133) _ ⟨hHeld, (by (with_reducible repeat (first | refine ze ?_ _ | refine zf ?_ | refine za ?_ _)); exact BK121.out), (by (with_reducible repeat (first | refine ze ?_ _ | refine zf ?_ | refine za ?_ _)); exact BK122.out), (by (with_reducible repeat (first | refine ze ?_ _ | refine zf ?_ | refine za ?_ _)); exact BK123.out), (by (with_reducible repeat (first | refine ze ?_ _ | refine zf ?_ | refine za ?_ _)); exact BK133.out), GW133.out, GE133.out, NB0_133.out, NB133_0.out, NB121_133.out, NB133_121.out, NB122_133.out, NB133_122.out, NB123_133.out, NB133_123.out, (by repeat (first | (with_reducible first | exact HI0.out | apply IsF.alloc | apply IsF.drewN | apply IsF.drew | refine IsF.far ?_ NB0_121.out (nelt HP.out GW121.out) _ | refine IsF.far ?_ NB0_122.out (nelt HP.out GW122.out) _ | refine IsF.far ?_ NB0_123.out (nelt HP.out GW123.out) _ | refine IsF.far ?_ NB0_133.out (nelt HP.out GW133.out) _) | exact HI0.out)), (by repeat (first | (with_reducible first | exact HK.out | apply zm.set_ | apply zr | apply zt | apply zs | refine zl ?_ GW121.out _ | refine zl ?_ GW122.out _ | refine zl ?_ GW123.out _ | refine zl ?_ GW133.out _) | exact HK.out)), (by repeat (first | (with_reducible first | exact HB.out | apply zq | apply zn | apply zo | refine zi ?_ (IsF.ge HI0.out) | refine zi ?_ GE121.out | refine zi ?_ GE122.out | refine zi ?_ GE123.out | refine zi ?_ GE133.out) | exact HB.out))⟩)
                   ·skip
                    rintro gb133 w50 ⟨hS_, h0_, h1_, h2_, h3_, h4_, h5_, h6_, h7_, h8_, h9_, h10_, h11_, h12_, h13_, h14_, h15_, h16_⟩
                    have n0_ : zg (w50.heap[gb121]? = some (.cells #[.int .i64 a1_0, .int .i64 a1_1, .int .i64 a1_2, .int .i64 a1_3] 25 (0, 0))) := ⟨h0_⟩
                    have n1_ : zg (w50.heap[gb122]? = some (.cells #[.int .i64 x123000_4, .int .i64 x123001_4, .int .i64 x123002_4, .int .i64 x123003_4] 25 (0, 0))) := ⟨h1_⟩
                    have n2_ : zg (w50.heap[gb123]? = some (.cells #[.int .i64 x124000_1, .int .i64 x124001_2, .int .i64 x124002_3, .int .i64 x124003_4] 25 (0, 0))) := ⟨h2_⟩
                    have n3_ : zg (w50.heap[gb133]? = some (.cells #[.int .i64 0, .int .i64 0, .int .i64 0, .int .i64 0] 25 (0, 0))) := ⟨h3_⟩
                    have n4_ : zg (w.heap.size ≤ gb133) := ⟨h4_⟩
                    have n5_ : zg (w0.heap.size ≤ gb133) := ⟨h5_⟩
                    have n6_ : zg (g ≠ gb133) := ⟨h6_⟩
                    have n7_ : zg (gb133 ≠ g) := ⟨h7_⟩
                    have n8_ : zg (gb121 ≠ gb133) := ⟨h8_⟩
                    have n9_ : zg (gb133 ≠ gb121) := ⟨h9_⟩
                    have n10_ : zg (gb122 ≠ gb133) := ⟨h10_⟩
                    have n11_ : zg (gb133 ≠ gb122) := ⟨h11_⟩
                    have n12_ : zg (gb123 ≠ gb133) := ⟨h12_⟩
                    have n13_ : zg (gb133 ≠ gb123) := ⟨h13_⟩
                    have n14_ : zg (IsF p0 w0 w50 g x1000_4 s0_1) := ⟨h14_⟩
                    have n15_ : zg (zm w w50 g none) := ⟨h15_⟩
                    have n16_ : zg (Below w0.heap.size w0 w50) := ⟨h16_⟩
                    clear BK121
                    clear BK122
                    clear BK123
                    clear HI0
                    clear HK
                    clear HB
                    clear h0_ h1_ h2_ h3_ h4_ h5_ h6_ h7_ h8_ h9_ h10_ h11_ h12_ h13_ h14_ h15_ h16_
                    have BK121 := n0_
                    have BK122 := n1_
                    have BK123 := n2_
                    have BK133 := n3_
                    have GW133 := n4_
                    have GE133 := n5_
                    have NB0_133 := n6_
                    have NB133_0 := n7_
                    have NB121_133 := n8_
                    have NB133_121 := n9_
                    have NB122_133 := n10_
                    have NB133_122 := n11_
                    have NB123_133 := n12_
                    have NB133_123 := n13_
                    have HI0 := n14_
                    have HK := n15_
                    have HB := n16_
                    clear n0_ n1_ n2_ n3_ n4_ n5_ n6_ n7_ n8_ n9_ n10_ n11_ n12_ n13_ n14_ n15_ n16_
                    have hHeld : w50.cell? ⟨gb121, 0, none⟩ = some (.int .i64 a1_0) ∧ w50.cell? ⟨gb121, 1, none⟩ = some (.int .i64 a1_1) ∧ w50.cell? ⟨gb121, 2, none⟩ = some (.int .i64 a1_2) ∧ w50.cell? ⟨gb121, 3, none⟩ = some (.int .i64 a1_3) ∧ w50.cell? ⟨gb123, 0, none⟩ = some (.int .i64 x124000_1) ∧ w50.cell? ⟨gb123, 1, none⟩ = some (.int .i64 x124001_2) ∧ w50.cell? ⟨gb123, 2, none⟩ = some (.int .i64 x124002_3) ∧ w50.cell? ⟨gb123, 3, none⟩ = some (.int .i64 x124003_4) ∧ w50.cell? ⟨p0, 0, none⟩ = some (.int .i64 s0_1) := hS_
                    refine zhb (a' := ?_) ?_ ?_
                    rotate_left
                    ·simp only [zsa, Act.put, List.setIfInBounds_toArray, List.set_cons_zero, List.set_cons_succ]
                     rfl
                    refine two_ (i := 6) (j := 10) (Ni := some 59) (Nj := some 9) #[true, true, true, true, true, true, true, false, false, false, false, true, false, false] #[true, true, true, true, true, true, false, false, false, false, true, true, false, false] rfl rfl rfl rfl (two_of HT_.out (by kernel_rfl)) (by decide) (by decide) (fun K hK => ?_) (fun K hK => ?_)
                    ·skip
                     refine zhe Try.func23 (by kernel_rfl) rfl #[.int .i64 s0_1, .agg #[.int .i64 a1_0, .int .i64 a1_1, .int .i64 a1_2, .int .i64 a1_3], .agg #[.int .i64 x124000_1, .int .i64 x124001_2, .int .i64 x124002_3, .int .i64 x124003_4]] (by rfl) rfl rfl (by (try simp only [List.map_toArray, List.map_cons, List.map_nil]); first | done | rfl | (simp only [List.length_drop, List.length_take]; rfl)) ?_
                     with_reducible refine (spec_l06Split.calls k4 s0_1 a1_0 a1_1 a1_2 a1_3 x124000_1 x124001_2 x124002_3 x124003_4 t124 t125 t126 t127 t128 t129 t130 t131 _ A36.out).mono ?_
                     rintro e w51 ⟨rfl, hb⟩
                     refine ⟨_, rfl, ?_⟩
                     have n0_ := zg.mk (zz (g := gb121) (o := .cells #[.int .i64 a1_0, .int .i64 a1_1, .int .i64 a1_2, .int .i64 a1_3] 25 (0, 0)) (by (with_reducible repeat (first | refine ze ?_ _ | refine zf ?_ | refine za ?_ _)); exact BK121.out) hb)
                     have n1_ := zg.mk (zz (g := gb122) (o := .cells #[.int .i64 x123000_4, .int .i64 x123001_4, .int .i64 x123002_4, .int .i64 x123003_4] 25 (0, 0)) (by (with_reducible repeat (first | refine ze ?_ _ | refine zf ?_ | refine za ?_ _)); exact BK122.out) hb)
                     have n2_ := zg.mk (zz (g := gb123) (o := .cells #[.int .i64 x124000_1, .int .i64 x124001_2, .int .i64 x124002_3, .int .i64 x124003_4] 25 (0, 0)) (by (with_reducible repeat (first | refine ze ?_ _ | refine zf ?_ | refine za ?_ _)); exact BK123.out) hb)
                     have n3_ := zg.mk (IsF.below (by repeat (first | (with_reducible first | exact HI0.out | apply IsF.alloc | apply IsF.drewN | apply IsF.drew | refine IsF.far ?_ NB0_121.out (nelt HP.out GW121.out) _ | refine IsF.far ?_ NB0_122.out (nelt HP.out GW122.out) _ | refine IsF.far ?_ NB0_123.out (nelt HP.out GW123.out) _ | refine IsF.far ?_ NB0_133.out (nelt HP.out GW133.out) _) | exact HI0.out)) hb)
                     have n4_ := zg.mk (zz (g := gb133) (o := .cells #[.int .i64 0, .int .i64 0, .int .i64 0, .int .i64 0] 25 (0, 0)) (by (with_reducible repeat (first | refine ze ?_ _ | refine zf ?_ | refine za ?_ _)); exact BK133.out) hb)
                     have n5_ := zg.mk (zm.trans (by repeat (first | (with_reducible first | exact HK.out | apply zm.set_ | apply zr | apply zt | apply zs | refine zl ?_ GW121.out _ | refine zl ?_ GW122.out _ | refine zl ?_ GW123.out _ | refine zl ?_ GW133.out _) | exact HK.out)) (zm.of_below hb g none) (.inl rfl))
                     have n6_ := zg.mk (zx (by repeat (first | (with_reducible first | exact HB.out | apply zq | apply zn | apply zo | refine zi ?_ (IsF.ge HI0.out) | refine zi ?_ GE121.out | refine zi ?_ GE122.out | refine zi ?_ GE123.out | refine zi ?_ GE133.out) | exact HB.out)) hb)
                     clear BK121
                     clear BK122
                     clear BK123
                     clear HI0
                     clear BK133
                     clear HK
                     clear HB
                     have BK121 := n0_
                     have BK122 := n1_
                     have BK123 := n2_
                     have HI0 := n3_
                     have BK133 := n4_
                     have HK := n5_
                     have HB := n6_
                     clear n0_ n1_ n2_ n3_ n4_ n5_ n6_
                     (try clear hb)
                     (try clear hb2)
                     (try clear hk)
                     (try clear hi)
                     refine hK.out _ _ ⟨(zh BK121.out 0).trans rfl, (zh BK121.out 1).trans rfl, (zh BK121.out 2).trans rfl, (zh BK121.out 3).trans rfl, (zh BK123.out 0).trans rfl, (zh BK123.out 1).trans rfl, (zh BK123.out 2).trans rfl, (zh BK123.out 3).trans rfl, HI0.out.c0⟩ (fun hHeld => ?_)
                     clear hK K
                     refine zhb (a' := ?_) ?_ ?_
                     rotate_left
                     ·show Act.put _ (some 59) _ = _
                      simp only [Act.put, List.setIfInBounds_toArray, List.set_cons_zero, List.set_cons_succ, zv, zw]
                      rfl
                     refine zaa (i := 7) (N := some 52) (v := ?_) (a' := ?_) #[true, true, true, true, true, true, true, true, false, false, false, true, false, false] rfl rfl (zu HT_.out (by kernel_rfl)) (fun _ _ _ h => h) (Or.inl ⟨by rfl, ?_⟩) ?_ ?_
                     rotate_left
                     ·intro w'
                      go_simp
                      with_reducible rfl
                     rotate_left
                     ·simp only [Act.put, List.setIfInBounds_toArray, List.set_cons_zero, List.set_cons_succ, zv, zw]
                      rfl
                     refine zaa (i := 8) (N := some 60) (v := ?_) (a' := ?_) #[true, true, true, true, true, true, true, true, true, false, false, true, false, false] rfl rfl (zu HT_.out (by kernel_rfl)) (fun _ _ _ h => h) (Or.inl ⟨by rfl, ?_⟩) ?_ ?_
                     rotate_left
                     ·intro w'
                      go_simp
                      with_reducible rfl
                     rotate_left
                     ·simp only [Act.put, List.setIfInBounds_toArray, List.set_cons_zero, List.set_cons_succ, zv, zw]
                      rfl
                     refine zaa (i := 9) (N := some 61) (v := ?_) (a' := ?_) #[true, true, true, true, true, true, true, true, true, true, false, true, false, false] rfl rfl (zu HT_.out (by kernel_rfl)) (fun _ _ _ h => h) (Or.inl ⟨by rfl, ?_⟩) ?_ ?_
                     rotate_left
                     ·intro w'
                      go_simp
                      with_reducible rfl
                     rotate_left
                     ·simp only [Act.put, List.setIfInBounds_toArray, List.set_cons_zero, List.set_cons_succ, zv, zw]
                      rfl
                     exact zhb (by first | (simp only [zsa, Act.put, List.setIfInBounds_toArray, List.set_cons_zero, List.set_cons_succ]; done) | (simp only [zsa, Act.put, List.setIfInBounds_toArray, List.set_cons_zero, List.set_cons_succ]; rfl)) (hJ6_11 (gb133) _ ⟨hHeld, (by (with_reducible repeat (first | refine ze ?_ _ | refine zf ?_ | refine za ?_ _)); exact BK121.out), (by (with_reducible repeat (first | refine ze ?_ _ | refine zf ?_ | refine za ?_ _)); exact BK122.out), (by (with_reducible repeat (first | refine ze ?_ _ | refine zf ?_ | refine za ?_ _)); exact BK123.out), (by (with_reducible repeat (first | refine ze ?_ _ | refine zf ?_ | refine za ?_ _)); exact BK133.out), GW133.out, GE133.out, NB0_133.out, NB133_0.out, NB121_133.out, NB133_121.out, NB122_133.out, NB133_122.out, NB123_133.out, NB133_123.out, (by repeat (first | (with_reducible first | exact HI0.out | apply IsF.alloc | apply IsF.drewN | apply IsF.drew | refine IsF.far ?_ NB0_121.out (nelt HP.out GW121.out) _ | refine IsF.far ?_ NB0_122.out (nelt HP.out GW122.out) _ | refine IsF.far ?_ NB0_123.out (nelt HP.out GW123.out) _ | refine IsF.far ?_ NB0_133.out (nelt HP.out GW133.out) _) | exact HI0.out)), (by repeat (first | (with_reducible first | exact HK.out | apply zm.set_ | apply zr | apply zt | apply zs | refine zl ?_ GW121.out _ | refine zl ?_ GW122.out _ | refine zl ?_ GW123.out _ | refine zl ?_ GW133.out _) | exact HK.out)), (by repeat (first | (with_reducible first | exact HB.out | apply zq | apply zn | apply zo | refine zi ?_ (IsF.ge HI0.out) | refine zi ?_ GE121.out | refine zi ?_ GE122.out | refine zi ?_ GE123.out | refine zi ?_ GE133.out) | exact HB.out))⟩)
                    ·skip
                     refine zrb ?hg (N := 9) ?hd (cs := #[.int .i64 0, .int .i64 0, .int .i64 0, .int .i64 0]) (t := 25) ?hr ?_; (case hd => rfl); (case hg => rfl); (case hr => first | (go_simp; done) | (go_simp; rfl))
                     intro gb132 hg w51 hbox hb
                     have n0_ := zg.mk (zz (g := gb121) (o := .cells #[.int .i64 a1_0, .int .i64 a1_1, .int .i64 a1_2, .int .i64 a1_3] 25 (0, 0)) (by (with_reducible repeat (first | refine ze ?_ _ | refine zf ?_ | refine za ?_ _)); exact BK121.out) hb)
                     have n1_ := zg.mk (zz (g := gb122) (o := .cells #[.int .i64 x123000_4, .int .i64 x123001_4, .int .i64 x123002_4, .int .i64 x123003_4] 25 (0, 0)) (by (with_reducible repeat (first | refine ze ?_ _ | refine zf ?_ | refine za ?_ _)); exact BK122.out) hb)
                     have n2_ := zg.mk (zz (g := gb123) (o := .cells #[.int .i64 x124000_1, .int .i64 x124001_2, .int .i64 x124002_3, .int .i64 x124003_4] 25 (0, 0)) (by (with_reducible repeat (first | refine ze ?_ _ | refine zf ?_ | refine za ?_ _)); exact BK123.out) hb)
                     have n3_ := zg.mk (IsF.below (by repeat (first | (with_reducible first | exact HI0.out | apply IsF.alloc | apply IsF.drewN | apply IsF.drew | refine IsF.far ?_ NB0_121.out (nelt HP.out GW121.out) _ | refine IsF.far ?_ NB0_122.out (nelt HP.out GW122.out) _ | refine IsF.far ?_ NB0_123.out (nelt HP.out GW123.out) _ | refine IsF.far ?_ NB0_133.out (nelt HP.out GW133.out) _) | exact HI0.out)) hb)
                     have n4_ := zg.mk (zz (g := gb133) (o := .cells #[.int .i64 0, .int .i64 0, .int .i64 0, .int .i64 0] 25 (0, 0)) (by (with_reducible repeat (first | refine ze ?_ _ | refine zf ?_ | refine za ?_ _)); exact BK133.out) hb)
                     have n5_ := zg.mk (zm.trans (by repeat (first | (with_reducible first | exact HK.out | apply zm.set_ | apply zr | apply zt | apply zs | refine zl ?_ GW121.out _ | refine zl ?_ GW122.out _ | refine zl ?_ GW123.out _ | refine zl ?_ GW133.out _) | exact HK.out)) (zm.of_below hb g none) (.inl rfl))
                     have n6_ := zg.mk (zx (by repeat (first | (with_reducible first | exact HB.out | apply zq | apply zn | apply zo | refine zi ?_ (IsF.ge HI0.out) | refine zi ?_ GE121.out | refine zi ?_ GE122.out | refine zi ?_ GE123.out | refine zi ?_ GE133.out) | exact HB.out)) hb)
                     have n7_ := zg.mk (hbox)
                     have n8_ := zg.mk ((by rw [hg]; exact (zfa (w := w) (g := g) (row := none) (by repeat (first | (with_reducible first | exact HK.out | apply zm.set_ | apply zr | apply zt | apply zs | refine zl ?_ GW121.out _ | refine zl ?_ GW122.out _ | refine zl ?_ GW123.out _ | refine zl ?_ GW133.out _) | exact HK.out))) : w.heap.size ≤ gb132))
                     have n9_ := zg.mk ((Nat.le_trans HW0.out (by rw [hg]; exact (zfa (w := w) (g := g) (row := none) (by repeat (first | (with_reducible first | exact HK.out | apply zm.set_ | apply zr | apply zt | apply zs | refine zl ?_ GW121.out _ | refine zl ?_ GW122.out _ | refine zl ?_ GW123.out _ | refine zl ?_ GW133.out _) | exact HK.out))) : w.heap.size ≤ gb132) : w0.heap.size ≤ gb132))
                     have n10_ := zg.mk ((by rw [hg]; exact Nat.ne_of_lt (zba (g := gb121) (o := .cells #[.int .i64 a1_0, .int .i64 a1_1, .int .i64 a1_2, .int .i64 a1_3] 25 (0, 0)) (by (with_reducible repeat (first | refine ze ?_ _ | refine zf ?_ | refine za ?_ _)); exact BK121.out)) : gb121 ≠ gb132))
                     have n11_ := zg.mk ((by rw [hg]; exact Nat.ne_of_gt (zba (g := gb121) (o := .cells #[.int .i64 a1_0, .int .i64 a1_1, .int .i64 a1_2, .int .i64 a1_3] 25 (0, 0)) (by (with_reducible repeat (first | refine ze ?_ _ | refine zf ?_ | refine za ?_ _)); exact BK121.out)) : gb132 ≠ gb121))
                     have n12_ := zg.mk ((by rw [hg]; exact Nat.ne_of_lt (zba (g := gb122) (o := .cells #[.int .i64 x123000_4, .int .i64 x123001_4, .int .i64 x123002_4, .int .i64 x123003_4] 25 (0, 0)) (by (with_reducible repeat (first | refine ze ?_ _ | refine zf ?_ | refine za ?_ _)); exact BK122.out)) : gb122 ≠ gb132))
                     have n13_ := zg.mk ((by rw [hg]; exact Nat.ne_of_gt (zba (g := gb122) (o := .cells #[.int .i64 x123000_4, .int .i64 x123001_4, .int .i64 x123002_4, .int .i64 x123003_4] 25 (0, 0)) (by (with_reducible repeat (first | refine ze ?_ _ | refine zf ?_ | refine za ?_ _)); exact BK122.out)) : gb132 ≠ gb122))
                     have n14_ := zg.mk ((by rw [hg]; exact Nat.ne_of_lt (zba (g := gb123) (o := .cells #[.int .i64 x124000_1, .int .i64 x124001_2, .int .i64 x124002_3, .int .i64 x124003_4] 25 (0, 0)) (by (with_reducible repeat (first | refine ze ?_ _ | refine zf ?_ | refine za ?_ _)); exact BK123.out)) : gb123 ≠ gb132))
                     have n15_ := zg.mk ((by rw [hg]; exact Nat.ne_of_gt (zba (g := gb123) (o := .cells #[.int .i64 x124000_1, .int .i64 x124001_2, .int .i64 x124002_3, .int .i64 x124003_4] 25 (0, 0)) (by (with_reducible repeat (first | refine ze ?_ _ | refine zf ?_ | refine za ?_ _)); exact BK123.out)) : gb132 ≠ gb123))
                     have n16_ := zg.mk ((by rw [hg]; exact Nat.ne_of_lt (zba (g := gb133) (o := .cells #[.int .i64 0, .int .i64 0, .int .i64 0, .int .i64 0] 25 (0, 0)) (by (with_reducible repeat (first | refine ze ?_ _ | refine zf ?_ | refine za ?_ _)); exact BK133.out)) : gb133 ≠ gb132))
                     have n17_ := zg.mk ((by rw [hg]; exact Nat.ne_of_gt (zba (g := gb133) (o := .cells #[.int .i64 0, .int .i64 0, .int .i64 0, .int .i64 0] 25 (0, 0)) (by (with_reducible repeat (first | refine ze ?_ _ | refine zf ?_ | refine za ?_ _)); exact BK133.out)) : gb132 ≠ gb133))
                     have n18_ := zg.mk ((by rw [hg]; exact Nat.ne_of_lt (IsF.lt (show IsF p0 w0 _ g x1000_4 s0_1 from by repeat (first | (with_reducible first | exact HI0.out | apply IsF.alloc | apply IsF.drewN | apply IsF.drew | refine IsF.far ?_ NB0_121.out (nelt HP.out GW121.out) _ | refine IsF.far ?_ NB0_122.out (nelt HP.out GW122.out) _ | refine IsF.far ?_ NB0_123.out (nelt HP.out GW123.out) _ | refine IsF.far ?_ NB0_133.out (nelt HP.out GW133.out) _) | exact HI0.out))) : g ≠ gb132))
                     have n19_ := zg.mk ((by rw [hg]; exact Nat.ne_of_gt (IsF.lt (show IsF p0 w0 _ g x1000_4 s0_1 from by repeat (first | (with_reducible first | exact HI0.out | apply IsF.alloc | apply IsF.drewN | apply IsF.drew | refine IsF.far ?_ NB0_121.out (nelt HP.out GW121.out) _ | refine IsF.far ?_ NB0_122.out (nelt HP.out GW122.out) _ | refine IsF.far ?_ NB0_123.out (nelt HP.out GW123.out) _ | refine IsF.far ?_ NB0_133.out (nelt HP.out GW133.out) _) | exact HI0.out))) : gb132 ≠ g))
                     clear BK121
                     clear BK122
                     clear BK123
                     clear HI0
                     clear BK133
                     clear HK
                     clear HB
                     have BK121 := n0_
                     have BK122 := n1_
                     have BK123 := n2_
                     have HI0 := n3_
                     have BK133 := n4_
                     have HK := n5_
                     have HB := n6_
                     have BK132 := n7_
                     have GW132 := n8_
                     have GE132 := n9_
                     have NB121_132 := n10_
                     have NB132_121 := n11_
                     have NB122_132 := n12_
                     have NB132_122 := n13_
                     have NB123_132 := n14_
                     have NB132_123 := n15_
                     have NB133_132 := n16_
                     have NB132_133 := n17_
                     have NB0_132 := n18_
                     have NB132_0 := n19_
                     clear n0_ n1_ n2_ n3_ n4_ n5_ n6_ n7_ n8_ n9_ n10_ n11_ n12_ n13_ n14_ n15_ n16_ n17_ n18_ n19_
                     clear hb hbox hg
                     refine hK.out _ _ ⟨(zh BK121.out 0).trans rfl, (zh BK121.out 1).trans rfl, (zh BK121.out 2).trans rfl, (zh BK121.out 3).trans rfl, (zh BK123.out 0).trans rfl, (zh BK123.out 1).trans rfl, (zh BK123.out 2).trans rfl, (zh BK123.out 3).trans rfl, HI0.out.c0⟩ (fun hHeld => ?_)
                     clear hK K
                     refine zhb (a' := ?_) ?_ ?_
                     rotate_left
                     ·show Act.put _ (some 9) _ = _
                      simp only [Act.put, List.setIfInBounds_toArray, List.set_cons_zero, List.set_cons_succ, zv, zw]
                      rfl
                     exact zhb (by first | (simp only [zsa, Act.put, List.setIfInBounds_toArray, List.set_cons_zero, List.set_cons_succ]; done) | (simp only [zsa, Act.put, List.setIfInBounds_toArray, List.set_cons_zero, List.set_cons_succ]; rfl)) (hJ10_11 (gb132, gb133) _ ⟨hHeld, (by (with_reducible repeat (first | refine ze ?_ _ | refine zf ?_ | refine za ?_ _)); exact BK121.out), (by (with_reducible repeat (first | refine ze ?_ _ | refine zf ?_ | refine za ?_ _)); exact BK122.out), (by (with_reducible repeat (first | refine ze ?_ _ | refine zf ?_ | refine za ?_ _)); exact BK123.out), (by (with_reducible repeat (first | refine ze ?_ _ | refine zf ?_ | refine za ?_ _)); exact BK132.out), (by (with_reducible repeat (first | refine ze ?_ _ | refine zf ?_ | refine za ?_ _)); exact BK133.out), GW132.out, GE132.out, NB0_132.out, NB132_0.out, NB121_132.out, NB132_121.out, NB122_132.out, NB132_122.out, NB123_132.out, NB132_123.out, NB133_132.out, NB132_133.out, GW133.out, GE133.out, NB0_133.out, NB133_0.out, NB121_133.out, NB133_121.out, NB122_133.out, NB133_122.out, NB123_133.out, NB133_123.out, (by repeat (first | (with_reducible first | exact HI0.out | apply IsF.alloc | apply IsF.drewN | apply IsF.drew | refine IsF.far ?_ NB0_121.out (nelt HP.out GW121.out) _ | refine IsF.far ?_ NB0_122.out (nelt HP.out GW122.out) _ | refine IsF.far ?_ NB0_123.out (nelt HP.out GW123.out) _ | refine IsF.far ?_ NB0_133.out (nelt HP.out GW133.out) _ | refine IsF.far ?_ NB0_132.out (nelt HP.out GW132.out) _) | exact HI0.out)), (by repeat (first | (with_reducible first | exact HK.out | apply zm.set_ | apply zr | apply zt | apply zs | refine zl ?_ GW121.out _ | refine zl ?_ GW122.out _ | refine zl ?_ GW123.out _ | refine zl ?_ GW133.out _ | refine zl ?_ GW132.out _) | exact HK.out)), (by repeat (first | (with_reducible first | exact HB.out | apply zq | apply zn | apply zo | refine zi ?_ (IsF.ge HI0.out) | refine zi ?_ GE121.out | refine zi ?_ GE122.out | refine zi ?_ GE123.out | refine zi ?_ GE133.out | refine zi ?_ GE132.out) | exact HB.out))⟩)
                  ·skip
                   rintro gb132 w50 ⟨hS_, h0_, h1_, h2_, h3_, h4_, h5_, h6_, h7_, h8_, h9_, h10_, h11_, h12_, h13_, h14_, h15_, h16_⟩
                   have n0_ : zg (w50.heap[gb121]? = some (.cells #[.int .i64 a1_0, .int .i64 a1_1, .int .i64 a1_2, .int .i64 a1_3] 25 (0, 0))) := ⟨h0_⟩
                   have n1_ : zg (w50.heap[gb122]? = some (.cells #[.int .i64 x123000_4, .int .i64 x123001_4, .int .i64 x123002_4, .int .i64 x123003_4] 25 (0, 0))) := ⟨h1_⟩
                   have n2_ : zg (w50.heap[gb123]? = some (.cells #[.int .i64 x124000_1, .int .i64 x124001_2, .int .i64 x124002_3, .int .i64 x124003_4] 25 (0, 0))) := ⟨h2_⟩
                   have n3_ : zg (w50.heap[gb132]? = some (.cells #[.int .i64 0, .int .i64 0, .int .i64 0, .int .i64 0] 25 (0, 0))) := ⟨h3_⟩
                   have n4_ : zg (w.heap.size ≤ gb132) := ⟨h4_⟩
                   have n5_ : zg (w0.heap.size ≤ gb132) := ⟨h5_⟩
                   have n6_ : zg (g ≠ gb132) := ⟨h6_⟩
                   have n7_ : zg (gb132 ≠ g) := ⟨h7_⟩
                   have n8_ : zg (gb121 ≠ gb132) := ⟨h8_⟩
                   have n9_ : zg (gb132 ≠ gb121) := ⟨h9_⟩
                   have n10_ : zg (gb122 ≠ gb132) := ⟨h10_⟩
                   have n11_ : zg (gb132 ≠ gb122) := ⟨h11_⟩
                   have n12_ : zg (gb123 ≠ gb132) := ⟨h12_⟩
                   have n13_ : zg (gb132 ≠ gb123) := ⟨h13_⟩
                   have n14_ : zg (IsF p0 w0 w50 g x1000_4 s0_1) := ⟨h14_⟩
                   have n15_ : zg (zm w w50 g none) := ⟨h15_⟩
                   have n16_ : zg (Below w0.heap.size w0 w50) := ⟨h16_⟩
                   clear BK121
                   clear BK122
                   clear BK123
                   clear HI0
                   clear HK
                   clear HB
                   clear h0_ h1_ h2_ h3_ h4_ h5_ h6_ h7_ h8_ h9_ h10_ h11_ h12_ h13_ h14_ h15_ h16_
                   have BK121 := n0_
                   have BK122 := n1_
                   have BK123 := n2_
                   have BK132 := n3_
                   have GW132 := n4_
                   have GE132 := n5_
                   have NB0_132 := n6_
                   have NB132_0 := n7_
                   have NB121_132 := n8_
                   have NB132_121 := n9_
                   have NB122_132 := n10_
                   have NB132_122 := n11_
                   have NB123_132 := n12_
                   have NB132_123 := n13_
                   have HI0 := n14_
                   have HK := n15_
                   have HB := n16_
                   clear n0_ n1_ n2_ n3_ n4_ n5_ n6_ n7_ n8_ n9_ n10_ n11_ n12_ n13_ n14_ n15_ n16_
                   have hHeld : w50.cell? ⟨gb121, 0, none⟩ = some (.int .i64 a1_0) ∧ w50.cell? ⟨gb121, 1, none⟩ = some (.int .i64 a1_1) ∧ w50.cell? ⟨gb121, 2, none⟩ = some (.int .i64 a1_2) ∧ w50.cell? ⟨gb121, 3, none⟩ = some (.int .i64 a1_3) ∧ w50.cell? ⟨gb123, 0, none⟩ = some (.int .i64 x124000_1) ∧ w50.cell? ⟨gb123, 1, none⟩ = some (.int .i64 x124001_2) ∧ w50.cell? ⟨gb123, 2, none⟩ = some (.int .i64 x124002_3) ∧ w50.cell? ⟨gb123, 3, none⟩ = some (.int .i64 x124003_4) ∧ w50.cell? ⟨p0, 0, none⟩ = some (.int .i64 s0_1) := hS_
                   refine zhb (a' := ?_) ?_ ?_
                   rotate_left
                   ·simp only [zsa, Act.put, List.setIfInBounds_toArray, List.set_cons_zero, List.set_cons_succ]
                    rfl
                   refine two_ (i := 6) (j := 11) (Ni := some 59) (Nj := some 10) #[true, true, true, true, true, true, true, false, false, false, true, false, false, false] #[true, true, true, true, true, true, false, false, false, false, true, true, false, false] rfl rfl rfl rfl (two_of HT_.out (by kernel_rfl)) (by decide) (by decide) (fun K hK => ?_) (fun K hK => ?_)
                   ·skip
                    refine zhe Try.func23 (by kernel_rfl) rfl #[.int .i64 s0_1, .agg #[.int .i64 a1_0, .int .i64 a1_1, .int .i64 a1_2, .int .i64 a1_3], .agg #[.int .i64 x124000_1, .int .i64 x124001_2, .int .i64 x124002_3, .int .i64 x124003_4]] (by rfl) rfl rfl (by (try simp only [List.map_toArray, List.map_cons, List.map_nil]); first | done | rfl | (simp only [List.length_drop, List.length_take]; rfl)) ?_
                    with_reducible refine (spec_l06Split.calls k4 s0_1 a1_0 a1_1 a1_2 a1_3 x124000_1 x124001_2 x124002_3 x124003_4 t124 t125 t126 t127 t128 t129 t130 t131 _ A36.out).mono ?_
                    rintro e w51 ⟨rfl, hb⟩
                    refine ⟨_, rfl, ?_⟩
                    have n0_ := zg.mk (zz (g := gb121) (o := .cells #[.int .i64 a1_0, .int .i64 a1_1, .int .i64 a1_2, .int .i64 a1_3] 25 (0, 0)) (by (with_reducible repeat (first | refine ze ?_ _ | refine zf ?_ | refine za ?_ _)); exact BK121.out) hb)
                    have n1_ := zg.mk (zz (g := gb122) (o := .cells #[.int .i64 x123000_4, .int .i64 x123001_4, .int .i64 x123002_4, .int .i64 x123003_4] 25 (0, 0)) (by (with_reducible repeat (first | refine ze ?_ _ | refine zf ?_ | refine za ?_ _)); exact BK122.out) hb)
                    have n2_ := zg.mk (zz (g := gb123) (o := .cells #[.int .i64 x124000_1, .int .i64 x124001_2, .int .i64 x124002_3, .int .i64 x124003_4] 25 (0, 0)) (by (with_reducible repeat (first | refine ze ?_ _ | refine zf ?_ | refine za ?_ _)); exact BK123.out) hb)
                    have n3_ := zg.mk (IsF.below (by repeat (first | (with_reducible first | exact HI0.out | apply IsF.alloc | apply IsF.drewN | apply IsF.drew | refine IsF.far ?_ NB0_121.out (nelt HP.out GW121.out) _ | refine IsF.far ?_ NB0_122.out (nelt HP.out GW122.out) _ | refine IsF.far ?_ NB0_123.out (nelt HP.out GW123.out) _ | refine IsF.far ?_ NB0_132.out (nelt HP.out GW132.out) _) | exact HI0.out)) hb)
                    have n4_ := zg.mk (zz (g := gb132) (o := .cells #[.int .i64 0, .int .i64 0, .int .i64 0, .int .i64 0] 25 (0, 0)) (by (with_reducible repeat (first | refine ze ?_ _ | refine zf ?_ | refine za ?_ _)); exact BK132.out) hb)
                    have n5_ := zg.mk (zm.trans (by repeat (first | (with_reducible first | exact HK.out | apply zm.set_ | apply zr | apply zt | apply zs | refine zl ?_ GW121.out _ | refine zl ?_ GW122.out _ | refine zl ?_ GW123.out _ | refine zl ?_ GW132.out _) | exact HK.out)) (zm.of_below hb g none) (.inl rfl))
                    have n6_ := zg.mk (zx (by repeat (first | (with_reducible first | exact HB.out | apply zq | apply zn | apply zo | refine zi ?_ (IsF.ge HI0.out) | refine zi ?_ GE121.out | refine zi ?_ GE122.out | refine zi ?_ GE123.out | refine zi ?_ GE132.out) | exact HB.out)) hb)
                    clear BK121
                    clear BK122
                    clear BK123
                    clear HI0
                    clear BK132
                    clear HK
                    clear HB
                    have BK121 := n0_
                    have BK122 := n1_
                    have BK123 := n2_
                    have HI0 := n3_
                    have BK132 := n4_
                    have HK := n5_
                    have HB := n6_
                    clear n0_ n1_ n2_ n3_ n4_ n5_ n6_
                    (try clear hb)
                    (try clear hb2)
                    (try clear hk)
                    (try clear hi)
                    refine hK.out _ _ ⟨(zh BK121.out 0).trans rfl, (zh BK121.out 1).trans rfl, (zh BK121.out 2).trans rfl, (zh BK121.out 3).trans rfl, (zh BK123.out 0).trans rfl, (zh BK123.out 1).trans rfl, (zh BK123.out 2).trans rfl, (zh BK123.out 3).trans rfl, HI0.out.c0⟩ (fun hHeld => ?_)
                    clear hK K
                    refine zhb (a' := ?_) ?_ ?_
                    rotate_left
                    ·show Act.put _ (some 59) _ = _
                     simp only [Act.put, List.setIfInBounds_toArray, List.set_cons_zero, List.set_cons_succ, zv, zw]
                     rfl
                    refine zaa (i := 7) (N := some 52) (v := ?_) (a' := ?_) #[true, true, true, true, true, true, true, true, false, false, true, false, false, false] rfl rfl (zu HT_.out (by kernel_rfl)) (fun _ _ _ h => h) (Or.inl ⟨by rfl, ?_⟩) ?_ ?_
                    rotate_left
                    ·intro w'
                     go_simp
                     with_reducible rfl
                    rotate_left
                    ·simp only [Act.put, List.setIfInBounds_toArray, List.set_cons_zero, List.set_cons_succ, zv, zw]
                     rfl
                    refine zaa (i := 8) (N := some 60) (v := ?_) (a' := ?_) #[true, true, true, true, true, true, true, true, true, false, true, false, false, false] rfl rfl (zu HT_.out (by kernel_rfl)) (fun _ _ _ h => h) (Or.inl ⟨by rfl, ?_⟩) ?_ ?_
                    rotate_left
                    ·intro w'
                     go_simp
                     with_reducible rfl
                    rotate_left
                    ·simp only [Act.put, List.setIfInBounds_toArray, List.set_cons_zero, List.set_cons_succ, zv, zw]
                     rfl
                    refine zaa (i := 9) (N := some 61) (v := ?_) (a' := ?_) #[true, true, true, true, true, true, true, true, true, true, true, false, false, false] rfl rfl (zu HT_.out (by kernel_rfl)) (fun _ _ _ h => h) (Or.inl ⟨by rfl, ?_⟩) ?_ ?_
                    rotate_left
                    ·intro w'
                     go_simp
                     with_reducible rfl
                    rotate_left
                    ·simp only [Act.put, List.setIfInBounds_toArray, List.set_cons_zero, List.set_cons_succ, zv, zw]
                     rfl
                    exact zhb (by first | (simp only [zsa, Act.put, List.setIfInBounds_toArray, List.set_cons_zero, List.set_cons_succ]; done) | (simp only [zsa, Act.put, List.setIfInBounds_toArray, List.set_cons_zero, List.set_cons_succ]; rfl)) (hJ6_10 (gb132) _ ⟨hHeld, (by (with_reducible repeat (first | refine ze ?_ _ | refine zf ?_ | refine za ?_ _)); exact BK121.out), (by (with_reducible repeat (first | refine ze ?_ _ | refine zf ?_ | refine za ?_ _)); exact BK122.out), (by (with_reducible repeat (first | refine ze ?_ _ | refine zf ?_ | refine za ?_ _)); exact BK123.out), (by (with_reducible repeat (first | refine ze ?_ _ | refine zf ?_ | refine za ?_ _)); exact BK132.out), GW132.out, GE132.out, NB0_132.out, NB132_0.out, NB121_132.out, NB132_121.out, NB122_132.out, NB132_122.out, NB123_132.out, NB132_123.out, (by repeat (first | (with_reducible first | exact HI0.out | apply IsF.alloc | apply IsF.drewN | apply IsF.drew | refine IsF.far ?_ NB0_121.out (nelt HP.out GW121.out) _ | refine IsF.far ?_ NB0_122.out (nelt HP.out GW122.out) _ | refine IsF.far ?_ NB0_123.out (nelt HP.out GW123.out) _ | refine IsF.far ?_ NB0_132.out (nelt HP.out GW132.out) _) | exact HI0.out)), (by repeat (first | (with_reducible first | exact HK.out | apply zm.set_ | apply zr | apply zt | apply zs | refine zl ?_ GW121.out _ | refine zl ?_ GW122.out _ | refine zl ?_ GW123.out _ | refine zl ?_ GW132.out _) | exact HK.out)), (by repeat (first | (with_reducible first | exact HB.out | apply zq | apply zn | apply zo | refine zi ?_ (IsF.ge HI0.out) | refine zi ?_ GE121.out | refine zi ?_ GE122.out | refine zi ?_ GE123.out | refine zi ?_ GE132.out) | exact HB.out))⟩)
                   ·skip
                    refine zrb ?hg (N := 10) ?hd (cs := #[.int .i64 0, .int .i64 0, .int .i64 0, .int .i64 0]) (t := 25) ?hr ?_; (case hd => rfl); (case hg => rfl); (case hr => first | (go_simp; done) | (go_simp; rfl))
                    intro gb133 hg w51 hbox hb
                    have n0_ := zg.mk (zz (g := gb121) (o := .cells #[.int .i64 a1_0, .int .i64 a1_1, .int .i64 a1_2, .int .i64 a1_3] 25 (0, 0)) (by (with_reducible repeat (first | refine ze ?_ _ | refine zf ?_ | refine za ?_ _)); exact BK121.out) hb)
                    have n1_ := zg.mk (zz (g := gb122) (o := .cells #[.int .i64 x123000_4, .int .i64 x123001_4, .int .i64 x123002_4, .int .i64 x123003_4] 25 (0, 0)) (by (with_reducible repeat (first | refine ze ?_ _ | refine zf ?_ | refine za ?_ _)); exact BK122.out) hb)
                    have n2_ := zg.mk (zz (g := gb123) (o := .cells #[.int .i64 x124000_1, .int .i64 x124001_2, .int .i64 x124002_3, .int .i64 x124003_4] 25 (0, 0)) (by (with_reducible repeat (first | refine ze ?_ _ | refine zf ?_ | refine za ?_ _)); exact BK123.out) hb)
                    have n3_ := zg.mk (IsF.below (by repeat (first | (with_reducible first | exact HI0.out | apply IsF.alloc | apply IsF.drewN | apply IsF.drew | refine IsF.far ?_ NB0_121.out (nelt HP.out GW121.out) _ | refine IsF.far ?_ NB0_122.out (nelt HP.out GW122.out) _ | refine IsF.far ?_ NB0_123.out (nelt HP.out GW123.out) _ | refine IsF.far ?_ NB0_132.out (nelt HP.out GW132.out) _) | exact HI0.out)) hb)
                    have n4_ := zg.mk (zz (g := gb132) (o := .cells #[.int .i64 0, .int .i64 0, .int .i64 0, .int .i64 0] 25 (0, 0)) (by (with_reducible repeat (first | refine ze ?_ _ | refine zf ?_ | refine za ?_ _)); exact BK132.out) hb)
                    have n5_ := zg.mk (zm.trans (by repeat (first | (with_reducible first | exact HK.out | apply zm.set_ | apply zr | apply zt | apply zs | refine zl ?_ GW121.out _ | refine zl ?_ GW122.out _ | refine zl ?_ GW123.out _ | refine zl ?_ GW132.out _) | exact HK.out)) (zm.of_below hb g none) (.inl rfl))
                    have n6_ := zg.mk (zx (by repeat (first | (with_reducible first | exact HB.out | apply zq | apply zn | apply zo | refine zi ?_ (IsF.ge HI0.out) | refine zi ?_ GE121.out | refine zi ?_ GE122.out | refine zi ?_ GE123.out | refine zi ?_ GE132.out) | exact HB.out)) hb)
                    have n7_ := zg.mk (hbox)
                    have n8_ := zg.mk ((by rw [hg]; exact (zfa (w := w) (g := g) (row := none) (by repeat (first | (with_reducible first | exact HK.out | apply zm.set_ | apply zr | apply zt | apply zs | refine zl ?_ GW121.out _ | refine zl ?_ GW122.out _ | refine zl ?_ GW123.out _ | refine zl ?_ GW132.out _) | exact HK.out))) : w.heap.size ≤ gb133))
                    have n9_ := zg.mk ((Nat.le_trans HW0.out (by rw [hg]; exact (zfa (w := w) (g := g) (row := none) (by repeat (first | (with_reducible first | exact HK.out | apply zm.set_ | apply zr | apply zt | apply zs | refine zl ?_ GW121.out _ | refine zl ?_ GW122.out _ | refine zl ?_ GW123.out _ | refine zl ?_ GW132.out _) | exact HK.out))) : w.heap.size ≤ gb133) : w0.heap.size ≤ gb133))
                    have n10_ := zg.mk ((by rw [hg]; exact Nat.ne_of_lt (zba (g := gb121) (o := .cells #[.int .i64 a1_0, .int .i64 a1_1, .int .i64 a1_2, .int .i64 a1_3] 25 (0, 0)) (by (with_reducible repeat (first | refine ze ?_ _ | refine zf ?_ | refine za ?_ _)); exact BK121.out)) : gb121 ≠ gb133))
                    have n11_ := zg.mk ((by rw [hg]; exact Nat.ne_of_gt (zba (g := gb121) (o := .cells #[.int .i64 a1_0, .int .i64 a1_1, .int .i64 a1_2, .int .i64 a1_3] 25 (0, 0)) (by (with_reducible repeat (first | refine ze ?_ _ | refine zf ?_ | refine za ?_ _)); exact BK121.out)) : gb133 ≠ gb121))
                    have n12_ := zg.mk ((by rw [hg]; exact Nat.ne_of_lt (zba (g := gb122) (o := .cells #[.int .i64 x123000_4, .int .i64 x123001_4, .int .i64 x123002_4, .int .i64 x123003_4] 25 (0, 0)) (by (with_reducible repeat (first | refine ze ?_ _ | refine zf ?_ | refine za ?_ _)); exact BK122.out)) : gb122 ≠ gb133))
                    have n13_ := zg.mk ((by rw [hg]; exact Nat.ne_of_gt (zba (g := gb122) (o := .cells #[.int .i64 x123000_4, .int .i64 x123001_4, .int .i64 x123002_4, .int .i64 x123003_4] 25 (0, 0)) (by (with_reducible repeat (first | refine ze ?_ _ | refine zf ?_ | refine za ?_ _)); exact BK122.out)) : gb133 ≠ gb122))
                    have n14_ := zg.mk ((by rw [hg]; exact Nat.ne_of_lt (zba (g := gb123) (o := .cells #[.int .i64 x124000_1, .int .i64 x124001_2, .int .i64 x124002_3, .int .i64 x124003_4] 25 (0, 0)) (by (with_reducible repeat (first | refine ze ?_ _ | refine zf ?_ | refine za ?_ _)); exact BK123.out)) : gb123 ≠ gb133))
                    have n15_ := zg.mk ((by rw [hg]; exact Nat.ne_of_gt (zba (g := gb123) (o := .cells #[.int .i64 x124000_1, .int .i64 x124001_2, .int .i64 x124002_3, .int .i64 x124003_4] 25 (0, 0)) (by (with_reducible repeat (first | refine ze ?_ _ | refine zf ?_ | refine za ?_ _)); exact BK123.out)) : gb133 ≠ gb123))
                    have n16_ := zg.mk ((by rw [hg]; exact Nat.ne_of_lt (zba (g := gb132) (o := .cells #[.int .i64 0, .int .i64 0, .int .i64 0, .int .i64 0] 25 (0, 0)) (by (with_reducible repeat (first | refine ze ?_ _ | refine zf ?_ | refine za ?_ _)); exact BK132.out)) : gb132 ≠ gb133))
                    have n17_ := zg.mk ((by rw [hg]; exact Nat.ne_of_gt (zba (g := gb132) (o := .cells #[.int .i64 0, .int .i64 0, .int .i64 0, .int .i64 0] 25 (0, 0)) (by (with_reducible repeat (first | refine ze ?_ _ | refine zf ?_ | refine za ?_ _)); exact BK132.out)) : gb133 ≠ gb132))
                    have n18_ := zg.mk ((by rw [hg]; exact Nat.ne_of_lt (IsF.lt (show IsF p0 w0 _ g x1000_4 s0_1 from by repeat (first | (with_reducible first | exact HI0.out | apply IsF.alloc | apply IsF.drewN | apply IsF.drew | refine IsF.far ?_ NB0_121.out (nelt HP.out GW121.out) _ | refine IsF.far ?_ NB0_122.out (nelt HP.out GW122.out) _ | refine IsF.far ?_ NB0_123.out (nelt HP.out GW123.out) _ | refine IsF.far ?_ NB0_132.out (nelt HP.out GW132.out) _) | exact HI0.out))) : g ≠ gb133))
                    have n19_ := zg.mk ((by rw [hg]; exact Nat.ne_of_gt (IsF.lt (show IsF p0 w0 _ g x1000_4 s0_1 from by repeat (first | (with_reducible first | exact HI0.out | apply IsF.alloc | apply IsF.drewN | apply IsF.drew | refine IsF.far ?_ NB0_121.out (nelt HP.out GW121.out) _ | refine IsF.far ?_ NB0_122.out (nelt HP.out GW122.out) _ | refine IsF.far ?_ NB0_123.out (nelt HP.out GW123.out) _ | refine IsF.far ?_ NB0_132.out (nelt HP.out GW132.out) _) | exact HI0.out))) : gb133 ≠ g))
                    clear BK121
                    clear BK122
                    clear BK123
                    clear HI0
                    clear BK132
                    clear HK
                    clear HB
                    have BK121 := n0_
                    have BK122 := n1_
                    have BK123 := n2_
                    have HI0 := n3_
                    have BK132 := n4_
                    have HK := n5_
                    have HB := n6_
                    have BK133 := n7_
                    have GW133 := n8_
                    have GE133 := n9_
                    have NB121_133 := n10_
                    have NB133_121 := n11_
                    have NB122_133 := n12_
                    have NB133_122 := n13_
                    have NB123_133 := n14_
                    have NB133_123 := n15_
                    have NB132_133 := n16_
                    have NB133_132 := n17_
                    have NB0_133 := n18_
                    have NB133_0 := n19_
                    clear n0_ n1_ n2_ n3_ n4_ n5_ n6_ n7_ n8_ n9_ n10_ n11_ n12_ n13_ n14_ n15_ n16_ n17_ n18_ n19_
                    clear hb hbox hg
                    refine hK.out _ _ ⟨(zh BK121.out 0).trans rfl, (zh BK121.out 1).trans rfl, (zh BK121.out 2).trans rfl, (zh BK121.out 3).trans rfl, (zh BK123.out 0).trans rfl, (zh BK123.out 1).trans rfl, (zh BK123.out 2).trans rfl, (zh BK123.out 3).trans rfl, HI0.out.c0⟩ (fun hHeld => ?_)
                    clear hK K
                    refine zhb (a' := ?_) ?_ ?_
                    rotate_left
                    ·show Act.put _ (some 10) _ = _
                     simp only [Act.put, List.setIfInBounds_toArray, List.set_cons_zero, List.set_cons_succ, zv, zw]
                     rfl
                    exact zhb (by first | (simp only [zsa, Act.put, List.setIfInBounds_toArray, List.set_cons_zero, List.set_cons_succ]; done) | (simp only [zsa, Act.put, List.setIfInBounds_toArray, List.set_cons_zero, List.set_cons_succ]; rfl)) (hJ10_11 (gb132, gb133) _ ⟨hHeld, (by (with_reducible repeat (first | refine ze ?_ _ | refine zf ?_ | refine za ?_ _)); exact BK121.out), (by (with_reducible repeat (first | refine ze ?_ _ | refine zf ?_ | refine za ?_ _)); exact BK122.out), (by (with_reducible repeat (first | refine ze ?_ _ | refine zf ?_ | refine za ?_ _)); exact BK123.out), (by (with_reducible repeat (first | refine ze ?_ _ | refine zf ?_ | refine za ?_ _)); exact BK132.out), (by (with_reducible repeat (first | refine ze ?_ _ | refine zf ?_ | refine za ?_ _)); exact BK133.out), GW132.out, GE132.out, NB0_132.out, NB132_0.out, NB121_132.out, NB132_121.out, NB122_132.out, NB132_122.out, NB123_132.out, NB132_123.out, NB133_132.out, NB132_133.out, GW133.out, GE133.out, NB0_133.out, NB133_0.out, NB121_133.out, NB133_121.out, NB122_133.out, NB133_122.out, NB123_133.out, NB133_123.out, (by repeat (first | (with_reducible first | exact HI0.out | apply IsF.alloc | apply IsF.drewN | apply IsF.drew | refine IsF.far ?_ NB0_121.out (nelt HP.out GW121.out) _ | refine IsF.far ?_ NB0_122.out (nelt HP.out GW122.out) _ | refine IsF.far ?_ NB0_123.out (nelt HP.out GW123.out) _ | refine IsF.far ?_ NB0_132.out (nelt HP.out GW132.out) _ | refine IsF.far ?_ NB0_133.out (nelt HP.out GW133.out) _) | exact HI0.out)), (by repeat (first | (with_reducible first | exact HK.out | apply zm.set_ | apply zr | apply zt | apply zs | refine zl ?_ GW121.out _ | refine zl ?_ GW122.out _ | refine zl ?_ GW123.out _ | refine zl ?_ GW132.out _ | refine zl ?_ GW133.out _) | exact HK.out)), (by repeat (first | (with_reducible first | exact HB.out | apply zq | apply zn | apply zo | refine zi ?_ (IsF.ge HI0.out) | refine zi ?_ GE121.out | refine zi ?_ GE122.out | refine zi ?_ GE123.out | refine zi ?_ GE132.out | refine zi ?_ GE133.out) | exact HB.out))⟩)
                 ·skip
                  rintro _ w50 ⟨hS_, h0_, h1_, h2_, h3_, h4_, h5_⟩
                  have n0_ : zg (w50.heap[gb121]? = some (.cells #[.int .i64 a1_0, .int .i64 a1_1, .int .i64 a1_2, .int .i64 a1_3] 25 (0, 0))) := ⟨h0_⟩
                  have n1_ : zg (w50.heap[gb122]? = some (.cells #[.int .i64 x123000_4, .int .i64 x123001_4, .int .i64 x123002_4, .int .i64 x123003_4] 25 (0, 0))) := ⟨h1_⟩
                  have n2_ : zg (w50.heap[gb123]? = some (.cells #[.int .i64 x124000_1, .int .i64 x124001_2, .int .i64 x124002_3, .int .i64 x124003_4] 25 (0, 0))) := ⟨h2_⟩
                  have n3_ : zg (IsF p0 w0 w50 g x1000_4 s0_1) := ⟨h3_⟩
                  have n4_ : zg (zm w w50 g none) := ⟨h4_⟩
                  have n5_ : zg (Below w0.heap.size w0 w50) := ⟨h5_⟩
                  clear BK121
                  clear BK122
                  clear BK123
                  clear HI0
                  clear HK
                  clear HB
                  clear h0_ h1_ h2_ h3_ h4_ h5_
                  have BK121 := n0_
                  have BK122 := n1_
                  have BK123 := n2_
                  have HI0 := n3_
                  have HK := n4_
                  have HB := n5_
                  clear n0_ n1_ n2_ n3_ n4_ n5_
                  have hHeld : w50.cell? ⟨gb121, 0, none⟩ = some (.int .i64 a1_0) ∧ w50.cell? ⟨gb121, 1, none⟩ = some (.int .i64 a1_1) ∧ w50.cell? ⟨gb121, 2, none⟩ = some (.int .i64 a1_2) ∧ w50.cell? ⟨gb121, 3, none⟩ = some (.int .i64 a1_3) ∧ w50.cell? ⟨gb123, 0, none⟩ = some (.int .i64 x124000_1) ∧ w50.cell? ⟨gb123, 1, none⟩ = some (.int .i64 x124001_2) ∧ w50.cell? ⟨gb123, 2, none⟩ = some (.int .i64 x124002_3) ∧ w50.cell? ⟨gb123, 3, none⟩ = some (.int .i64 x124003_4) ∧ w50.cell? ⟨p0, 0, none⟩ = some (.int .i64 s0_1) := hS_
                  refine zhb (a' := ?_) ?_ ?_
                  rotate_left
                  ·simp only [zsa, Act.put, List.setIfInBounds_toArray, List.set_cons_zero, List.set_cons_succ]
                   rfl
                  refine two_ (i := 10) (j := 11) (Ni := some 9) (Nj := some 10) #[true, true, true, true, true, true, true, true, true, true, true, false, false, false] #[true, true, true, true, true, true, true, true, true, true, false, true, false, false] rfl rfl rfl rfl (two_of HT_.out (by kernel_rfl)) (by decide) (by decide) (fun K hK => ?_) (fun K hK => ?_)
                  ·skip
                   refine zrb ?hg (N := 9) ?hd (cs := #[.int .i64 0, .int .i64 0, .int .i64 0, .int .i64 0]) (t := 25) ?hr ?_; (case hd => rfl); (case hg => rfl); (case hr => first | (go_simp; done) | (go_simp; rfl))
                   intro gb132 hg w51 hbox hb
                   have n0_ := zg.mk (zz (g := gb121) (o := .cells #[.int .i64 a1_0, .int .i64 a1_1, .int .i64 a1_2, .int .i64 a1_3] 25 (0, 0)) (by (with_reducible repeat (first | refine ze ?_ _ | refine zf ?_ | refine za ?_ _)); exact BK121.out) hb)
                   have n1_ := zg.mk (zz (g := gb122) (o := .cells #[.int .i64 x123000_4, .int .i64 x123001_4, .int .i64 x123002_4, .int .i64 x123003_4] 25 (0, 0)) (by (with_reducible repeat (first | refine ze ?_ _ | refine zf ?_ | refine za ?_ _)); exact BK122.out) hb)
                   have n2_ := zg.mk (zz (g := gb123) (o := .cells #[.int .i64 x124000_1, .int .i64 x124001_2, .int .i64 x124002_3, .int .i64 x124003_4] 25 (0, 0)) (by (with_reducible repeat (first | refine ze ?_ _ | refine zf ?_ | refine za ?_ _)); exact BK123.out) hb)
                   have n3_ := zg.mk (IsF.below (by repeat (first | (with_reducible first | exact HI0.out | apply IsF.alloc | apply IsF.drewN | apply IsF.drew | refine IsF.far ?_ NB0_121.out (nelt HP.out GW121.out) _ | refine IsF.far ?_ NB0_122.out (nelt HP.out GW122.out) _ | refine IsF.far ?_ NB0_123.out (nelt HP.out GW123.out) _) | exact HI0.out)) hb)
                   have n4_ := zg.mk (zm.trans (by repeat (first | (with_reducible first | exact HK.out | apply zm.set_ | apply zr | apply zt | apply zs | refine zl ?_ GW121.out _ | refine zl ?_ GW122.out _ | refine zl ?_ GW123.out _) | exact HK.out)) (zm.of_below hb g none) (.inl rfl))
                   have n5_ := zg.mk (zx (by repeat (first | (with_reducible first | exact HB.out | apply zq | apply zn | apply zo | refine zi ?_ (IsF.ge HI0.out) | refine zi ?_ GE121.out | refine zi ?_ GE122.out | refine zi ?_ GE123.out) | exact HB.out)) hb)
                   have n6_ := zg.mk (hbox)
                   have n7_ := zg.mk ((by rw [hg]; exact (zfa (w := w) (g := g) (row := none) (by repeat (first | (with_reducible first | exact HK.out | apply zm.set_ | apply zr | apply zt | apply zs | refine zl ?_ GW121.out _ | refine zl ?_ GW122.out _ | refine zl ?_ GW123.out _) | exact HK.out))) : w.heap.size ≤ gb132))
                   have n8_ := zg.mk ((Nat.le_trans HW0.out (by rw [hg]; exact (zfa (w := w) (g := g) (row := none) (by repeat (first | (with_reducible first | exact HK.out | apply zm.set_ | apply zr | apply zt | apply zs | refine zl ?_ GW121.out _ | refine zl ?_ GW122.out _ | refine zl ?_ GW123.out _) | exact HK.out))) : w.heap.size ≤ gb132) : w0.heap.size ≤ gb132))
                   have n9_ := zg.mk ((by rw [hg]; exact Nat.ne_of_lt (zba (g := gb121) (o := .cells #[.int .i64 a1_0, .int .i64 a1_1, .int .i64 a1_2, .int .i64 a1_3] 25 (0, 0)) (by (with_reducible repeat (first | refine ze ?_ _ | refine zf ?_ | refine za ?_ _)); exact BK121.out)) : gb121 ≠ gb132))
                   have n10_ := zg.mk ((by rw [hg]; exact Nat.ne_of_gt (zba (g := gb121) (o := .cells #[.int .i64 a1_0, .int .i64 a1_1, .int .i64 a1_2, .int .i64 a1_3] 25 (0, 0)) (by (with_reducible repeat (first | refine ze ?_ _ | refine zf ?_ | refine za ?_ _)); exact BK121.out)) : gb132 ≠ gb121))
                   have n11_ := zg.mk ((by rw [hg]; exact Nat.ne_of_lt (zba (g := gb122) (o := .cells #[.int .i64 x123000_4, .int .i64 x123001_4, .int .i64 x123002_4, .int .i64 x123003_4] 25 (0, 0)) (by (with_reducible repeat (first | refine ze ?_ _ | refine zf ?_ | refine za ?_ _)); exact BK122.out)) : gb122 ≠ gb132))
                   have n12_ := zg.mk ((by rw [hg]; exact Nat.ne_of_gt (zba (g := gb122) (o := .cells #[.int .i64 x123000_4, .int .i64 x123001_4, .int .i64 x123002_4, .int .i64 x123003_4] 25 (0, 0)) (by (with_reducible repeat (first | refine ze ?_ _ | refine zf ?_ | refine za ?_ _)); exact BK122.out)) : gb132 ≠ gb122))
                   have n13_ := zg.mk ((by rw [hg]; exact Nat.ne_of_lt (zba (g := gb123) (o := .cells #[.int .i64 x124000_1, .int .i64 x124001_2, .int .i64 x124002_3, .int .i64 x124003_4] 25 (0, 0)) (by (with_reducible repeat (first | refine ze ?_ _ | refine zf ?_ | refine za ?_ _)); exact BK123.out)) : gb123 ≠ gb132))
                   have n14_ := zg.mk ((by rw [hg]; exact Nat.ne_of_gt (zba (g := gb123) (o := .cells #[.int .i64 x124000_1, .int .i64 x124001_2, .int .i64 x124002_3, .int .i64 x124003_4] 25 (0, 0)) (by (with_reducible repeat (first | refine ze ?_ _ | refine zf ?_ | refine za ?_ _)); exact BK123.out)) : gb132 ≠ gb123))
                   have n15_ := zg.mk ((by rw [hg]; exact Nat.ne_of_lt (IsF.lt (show IsF p0 w0 _ g x1000_4 s0_1 from by repeat (first | (with_reducible first | exact HI0.out | apply IsF.alloc | apply IsF.drewN | apply IsF.drew | refine IsF.far ?_ NB0_121.out (nelt HP.out GW121.out) _ | refine IsF.far ?_ NB0_122.out (nelt HP.out GW122.out) _ | refine IsF.far ?_ NB0_123.out (nelt HP.out GW123.out) _) | exact HI0.out))) : g ≠ gb132))
                   have n16_ := zg.mk ((by rw [hg]; exact Nat.ne_of_gt (IsF.lt (show IsF p0 w0 _ g x1000_4 s0_1 from by repeat (first | (with_reducible first | exact HI0.out | apply IsF.alloc | apply IsF.drewN | apply IsF.drew | refine IsF.far ?_ NB0_121.out (nelt HP.out GW121.out) _ | refine IsF.far ?_ NB0_122.out (nelt HP.out GW122.out) _ | refine IsF.far ?_ NB0_123.out (nelt HP.out GW123.out) _) | exact HI0.out))) : gb132 ≠ g))
                   clear BK121
                   clear BK122
                   clear BK123
                   clear HI0
                   clear HK
                   clear HB
                   have BK121 := n0_
                   have BK122 := n1_
                   have BK123 := n2_
                   have HI0 := n3_
                   have HK := n4_
                   have HB := n5_
                   have BK132 := n6_
                   have GW132 := n7_
                   have GE132 := n8_
                   have NB121_132 := n9_
                   have NB132_121 := n10_
                   have NB122_132 := n11_
                   have NB132_122 := n12_
                   have NB123_132 := n13_
                   have NB132_123 := n14_
                   have NB0_132 := n15_
                   have NB132_0 := n16_
                   clear n0_ n1_ n2_ n3_ n4_ n5_ n6_ n7_ n8_ n9_ n10_ n11_ n12_ n13_ n14_ n15_ n16_
                   clear hb hbox hg
                   refine hK.out _ _ ⟨(zh BK121.out 0).trans rfl, (zh BK121.out 1).trans rfl, (zh BK121.out 2).trans rfl, (zh BK121.out 3).trans rfl, (zh BK123.out 0).trans rfl, (zh BK123.out 1).trans rfl, (zh BK123.out 2).trans rfl, (zh BK123.out 3).trans rfl, HI0.out.c0⟩ (fun hHeld => ?_)
                   clear hK K
                   refine zhb (a' := ?_) ?_ ?_
                   rotate_left
                   ·show Act.put _ (some 9) _ = _
                    simp only [Act.put, List.setIfInBounds_toArray, List.set_cons_zero, List.set_cons_succ, zv, zw]
                    rfl
                   exact zhb (by first | (simp only [zsa, Act.put, List.setIfInBounds_toArray, List.set_cons_zero, List.set_cons_succ]; done) | (simp only [zsa, Act.put, List.setIfInBounds_toArray, List.set_cons_zero, List.set_cons_succ]; rfl)) (hJ6_10 (gb132) _ ⟨hHeld, (by (with_reducible repeat (first | refine ze ?_ _ | refine zf ?_ | refine za ?_ _)); exact BK121.out), (by (with_reducible repeat (first | refine ze ?_ _ | refine zf ?_ | refine za ?_ _)); exact BK122.out), (by (with_reducible repeat (first | refine ze ?_ _ | refine zf ?_ | refine za ?_ _)); exact BK123.out), (by (with_reducible repeat (first | refine ze ?_ _ | refine zf ?_ | refine za ?_ _)); exact BK132.out), GW132.out, GE132.out, NB0_132.out, NB132_0.out, NB121_132.out, NB132_121.out, NB122_132.out, NB132_122.out, NB123_132.out, NB132_123.out, (by repeat (first | (with_reducible first | exact HI0.out | apply IsF.alloc | apply IsF.drewN | apply IsF.drew | refine IsF.far ?_ NB0_121.out (nelt HP.out GW121.out) _ | refine IsF.far ?_ NB0_122.out (nelt HP.out GW122.out) _ | refine IsF.far ?_ NB0_123.out (nelt HP.out GW123.out) _ | refine IsF.far ?_ NB0_132.out (nelt HP.out GW132.out) _) | exact HI0.out)), (by repeat (first | (with_reducible first | exact HK.out | apply zm.set_ | apply zr | apply zt | apply zs | refine zl ?_ GW121.out _ | refine zl ?_ GW122.out _ | refine zl ?_ GW123.out _ | refine zl ?_ GW132.out _) | exact HK.out)), (by repeat (first | (with_reducible first | exact HB.out | apply zq | apply zn | apply zo | refine zi ?_ (IsF.ge HI0.out) | refine zi ?_ GE121.out | refine zi ?_ GE122.out | refine zi ?_ GE123.out | refine zi ?_ GE132.out) | exact HB.out))⟩)
                  ·skip
                   refine zrb ?hg (N := 10) ?hd (cs := #[.int .i64 0, .int .i64 0, .int .i64 0, .int .i64 0]) (t := 25) ?hr ?_; (case hd => rfl); (case hg => rfl); (case hr => first | (go_simp; done) | (go_simp; rfl))
                   intro gb133 hg w51 hbox hb
                   have n0_ := zg.mk (zz (g := gb121) (o := .cells #[.int .i64 a1_0, .int .i64 a1_1, .int .i64 a1_2, .int .i64 a1_3] 25 (0, 0)) (by (with_reducible repeat (first | refine ze ?_ _ | refine zf ?_ | refine za ?_ _)); exact BK121.out) hb)
                   have n1_ := zg.mk (zz (g := gb122) (o := .cells #[.int .i64 x123000_4, .int .i64 x123001_4, .int .i64 x123002_4, .int .i64 x123003_4] 25 (0, 0)) (by (with_reducible repeat (first | refine ze ?_ _ | refine zf ?_ | refine za ?_ _)); exact BK122.out) hb)
                   have n2_ := zg.mk (zz (g := gb123) (o := .cells #[.int .i64 x124000_1, .int .i64 x124001_2, .int .i64 x124002_3, .int .i64 x124003_4] 25 (0, 0)) (by (with_reducible repeat (first | refine ze ?_ _ | refine zf ?_ | refine za ?_ _)); exact BK123.out) hb)
                   have n3_ := zg.mk (IsF.below (by repeat (first | (with_reducible first | exact HI0.out | apply IsF.alloc | apply IsF.drewN | apply IsF.drew | refine IsF.far ?_ NB0_121.out (nelt HP.out GW121.out) _ | refine IsF.far ?_ NB0_122.out (nelt HP.out GW122.out) _ | refine IsF.far ?_ NB0_123.out (nelt HP.out GW123.out) _) | exact HI0.out)) hb)
                   have n4_ := zg.mk (zm.trans (by repeat (first | (with_reducible first | exact HK.out | apply zm.set_ | apply zr | apply zt | apply zs | refine zl ?_ GW121.out _ | refine zl ?_ GW122.out _ | refine zl ?_ GW123.out _) | exact HK.out)) (zm.of_below hb g none) (.inl rfl))
                   have n5_ := zg.mk (zx (by repeat (first | (with_reducible first | exact HB.out | apply zq | apply zn | apply zo | refine zi ?_ (IsF.ge HI0.out) | refine zi ?_ GE121.out | refine zi ?_ GE122.out | refine zi ?_ GE123.out) | exact HB.out)) hb)
                   have n6_ := zg.mk (hbox)
                   have n7_ := zg.mk ((by rw [hg]; exact (zfa (w := w) (g := g) (row := none) (by repeat (first | (with_reducible first | exact HK.out | apply zm.set_ | apply zr | apply zt | apply zs | refine zl ?_ GW121.out _ | refine zl ?_ GW122.out _ | refine zl ?_ GW123.out _) | exact HK.out))) : w.heap.size ≤ gb133))
                   have n8_ := zg.mk ((Nat.le_trans HW0.out (by rw [hg]; exact (zfa (w := w) (g := g) (row := none) (by repeat (first | (with_reducible first | exact HK.out | apply zm.set_ | apply zr | apply zt | apply zs | refine zl ?_ GW121.out _ | refine zl ?_ GW122.out _ | refine zl ?_ GW123.out _) | exact HK.out))) : w.heap.size ≤ gb133) : w0.heap.size ≤ gb133))
                   have n9_ := zg.mk ((by rw [hg]; exact Nat.ne_of_lt (zba (g := gb121) (o := .cells #[.int .i64 a1_0, .int .i64 a1_1, .int .i64 a1_2, .int .i64 a1_3] 25 (0, 0)) (by (with_reducible repeat (first | refine ze ?_ _ | refine zf ?_ | refine za ?_ _)); exact BK121.out)) : gb121 ≠ gb133))
                   have n10_ := zg.mk ((by rw [hg]; exact Nat.ne_of_gt (zba (g := gb121) (o := .cells #[.int .i64 a1_0, .int .i64 a1_1, .int .i64 a1_2, .int .i64 a1_3] 25 (0, 0)) (by (with_reducible repeat (first | refine ze ?_ _ | refine zf ?_ | refine za ?_ _)); exact BK121.out)) : gb133 ≠ gb121))
                   have n11_ := zg.mk ((by rw [hg]; exact Nat.ne_of_lt (zba (g := gb122) (o := .cells #[.int .i64 x123000_4, .int .i64 x123001_4, .int .i64 x123002_4, .int .i64 x123003_4] 25 (0, 0)) (by (with_reducible repeat (first | refine ze ?_ _ | refine zf ?_ | refine za ?_ _)); exact BK122.out)) : gb122 ≠ gb133))
                   have n12_ := zg.mk ((by rw [hg]; exact Nat.ne_of_gt (zba (g := gb122) (o := .cells #[.int .i64 x123000_4, .int .i64 x123001_4, .int .i64 x123002_4, .int .i64 x123003_4] 25 (0, 0)) (by (with_reducible repeat (first | refine ze ?_ _ | refine zf ?_ | refine za ?_ _)); exact BK122.out)) : gb133 ≠ gb122))
                   have n13_ := zg.mk ((by rw [hg]; exact Nat.ne_of_lt (zba (g := gb123) (o := .cells #[.int .i64 x124000_1, .int .i64 x124001_2, .int .i64 x124002_3, .int .i64 x124003_4] 25 (0, 0)) (by (with_reducible repeat (first | refine ze ?_ _ | refine zf ?_ | refine za ?_ _)); exact BK123.out)) : gb123 ≠ gb133))
                   have n14_ := zg.mk ((by rw [hg]; exact Nat.ne_of_gt (zba (g := gb123) (o := .cells #[.int .i64 x124000_1, .int .i64 x124001_2, .int .i64 x124002_3, .int .i64 x124003_4] 25 (0, 0)) (by (with_reducible repeat (first | refine ze ?_ _ | refine zf ?_ | refine za ?_ _)); exact BK123.out)) : gb133 ≠ gb123))
                   have n15_ := zg.mk ((by rw [hg]; exact Nat.ne_of_lt (IsF.lt (show IsF p0 w0 _ g x1000_4 s0_1 from by repeat (first | (with_reducible first | exact HI0.out | apply IsF.alloc | apply IsF.drewN | apply IsF.drew | refine IsF.far ?_ NB0_121.out (nelt HP.out GW121.out) _ | refine IsF.far ?_ NB0_122.out (nelt HP.out GW122.out) _ | refine IsF.far ?_ NB0_123.out (nelt HP.out GW123.out) _) | exact HI0.out))) : g ≠ gb133))
                   have n16_ := zg.mk ((by rw [hg]; exact Nat.ne_of_gt (IsF.lt (show IsF p0 w0 _ g x1000_4 s0_1 from by repeat (first | (with_reducible first | exact HI0.out | apply IsF.alloc | apply IsF.drewN | apply IsF.drew | refine IsF.far ?_ NB0_121.out (nelt HP.out GW121.out) _ | refine IsF.far ?_ NB0_122.out (nelt HP.out GW122.out) _ | refine IsF.far ?_ NB0_123.out (nelt HP.out GW123.out) _) | exact HI0.out))) : gb133 ≠ g))
                   clear BK121
                   clear BK122
                   clear BK123
                   clear HI0
                   clear HK
                   clear HB
                   have BK121 := n0_
                   have BK122 := n1_
                   have BK123 := n2_
                   have HI0 := n3_
                   have HK := n4_
                   have HB := n5_
                   have BK133 := n6_
                   have GW133 := n7_
                   have GE133 := n8_
                   have NB121_133 := n9_
                   have NB133_121 := n10_
                   have NB122_133 := n11_
                   have NB133_122 := n12_
                   have NB123_133 := n13_
                   have NB133_123 := n14_
                   have NB0_133 := n15_
                   have NB133_0 := n16_
                   clear n0_ n1_ n2_ n3_ n4_ n5_ n6_ n7_ n8_ n9_ n10_ n11_ n12_ n13_ n14_ n15_ n16_
                   clear hb hbox hg
                   refine hK.out _ _ ⟨(zh BK121.out 0).trans rfl, (zh BK121.out 1).trans rfl, (zh BK121.out 2).trans rfl, (zh BK121.out 3).trans rfl, (zh BK123.out 0).trans rfl, (zh BK123.out 1).trans rfl, (zh BK123.out 2).trans rfl, (zh BK123.out 3).trans rfl, HI0.out.c0⟩ (fun hHeld => ?_)
                   clear hK K
                   refine zhb (a' := ?_) ?_ ?_
                   rotate_left
                   ·show Act.put _ (some 10) _ = _
                    simp only [Act.put, List.setIfInBounds_toArray, List.set_cons_zero, List.set_cons_succ, zv, zw]
                    rfl
                   exact zhb (by first | (simp only [zsa, Act.put, List.setIfInBounds_toArray, List.set_cons_zero, List.set_cons_succ]; done) | (simp only [zsa, Act.put, List.setIfInBounds_toArray, List.set_cons_zero, List.set_cons_succ]; rfl)) (hJ6_11 (gb133) _ ⟨hHeld, (by (with_reducible repeat (first | refine ze ?_ _ | refine zf ?_ | refine za ?_ _)); exact BK121.out), (by (with_reducible repeat (first | refine ze ?_ _ | refine zf ?_ | refine za ?_ _)); exact BK122.out), (by (with_reducible repeat (first | refine ze ?_ _ | refine zf ?_ | refine za ?_ _)); exact BK123.out), (by (with_reducible repeat (first | refine ze ?_ _ | refine zf ?_ | refine za ?_ _)); exact BK133.out), GW133.out, GE133.out, NB0_133.out, NB133_0.out, NB121_133.out, NB133_121.out, NB122_133.out, NB133_122.out, NB123_133.out, NB133_123.out, (by repeat (first | (with_reducible first | exact HI0.out | apply IsF.alloc | apply IsF.drewN | apply IsF.drew | refine IsF.far ?_ NB0_121.out (nelt HP.out GW121.out) _ | refine IsF.far ?_ NB0_122.out (nelt HP.out GW122.out) _ | refine IsF.far ?_ NB0_123.out (nelt HP.out GW123.out) _ | refine IsF.far ?_ NB0_133.out (nelt HP.out GW133.out) _) | exact HI0.out)), (by repeat (first | (with_reducible first | exact HK.out | apply zm.set_ | apply zr | apply zt | apply zs | refine zl ?_ GW121.out _ | refine zl ?_ GW122.out _ | refine zl ?_ GW123.out _ | refine zl ?_ GW133.out _) | exact HK.out)), (by repeat (first | (with_reducible first | exact HB.out | apply zq | apply zn | apply zo | refine zi ?_ (IsF.ge HI0.out) | refine zi ?_ GE121.out | refine zi ?_ GE122.out | refine zi ?_ GE123.out | refine zi ?_ GE133.out) | exact HB.out))⟩)
                ·skip
                 rintro ⟨gb132, gb133⟩ w51 ⟨hS_, h0_, h1_, h2_, h3_, h4_, h5_, h6_, h7_, h8_, h9_, h10_, h11_, h12_, h13_, h14_, h15_, h16_, h17_, h18_, h19_, h20_, h21_, h22_, h23_, h24_, h25_, h26_, h27_, h28_, h29_⟩
                 have n0_ : zg (w51.heap[gb121]? = some (.cells #[.int .i64 a1_0, .int .i64 a1_1, .int .i64 a1_2, .int .i64 a1_3] 25 (0, 0))) := ⟨h0_⟩
                 have n1_ : zg (w51.heap[gb122]? = some (.cells #[.int .i64 x123000_4, .int .i64 x123001_4, .int .i64 x123002_4, .int .i64 x123003_4] 25 (0, 0))) := ⟨h1_⟩
                 have n2_ : zg (w51.heap[gb123]? = some (.cells #[.int .i64 x124000_1, .int .i64 x124001_2, .int .i64 x124002_3, .int .i64 x124003_4] 25 (0, 0))) := ⟨h2_⟩
                 have n3_ : zg (w51.heap[gb132]? = some (.cells #[.int .i64 0, .int .i64 0, .int .i64 0, .int .i64 0] 25 (0, 0))) := ⟨h3_⟩
                 have n4_ : zg (w51.heap[gb133]? = some (.cells #[.int .i64 0, .int .i64 0, .int .i64 0, .int .i64 0] 25 (0, 0))) := ⟨h4_⟩
                 have n5_ : zg (w.heap.size ≤ gb132) := ⟨h5_⟩
                 have n6_ : zg (w0.heap.size ≤ gb132) := ⟨h6_⟩
                 have n7_ : zg (g ≠ gb132) := ⟨h7_⟩
                 have n8_ : zg (gb132 ≠ g) := ⟨h8_⟩
                 have n9_ : zg (gb121 ≠ gb132) := ⟨h9_⟩
                 have n10_ : zg (gb132 ≠ gb121) := ⟨h10_⟩
                 have n11_ : zg (gb122 ≠ gb132) := ⟨h11_⟩
                 have n12_ : zg (gb132 ≠ gb122) := ⟨h12_⟩
                 have n13_ : zg (gb123 ≠ gb132) := ⟨h13_⟩
                 have n14_ : zg (gb132 ≠ gb123) := ⟨h14_⟩
                 have n15_ : zg (gb133 ≠ gb132) := ⟨h15_⟩
                 have n16_ : zg (gb132 ≠ gb133) := ⟨h16_⟩
                 have n17_ : zg (w.heap.size ≤ gb133) := ⟨h17_⟩
                 have n18_ : zg (w0.heap.size ≤ gb133) := ⟨h18_⟩
                 have n19_ : zg (g ≠ gb133) := ⟨h19_⟩
                 have n20_ : zg (gb133 ≠ g) := ⟨h20_⟩
                 have n21_ : zg (gb121 ≠ gb133) := ⟨h21_⟩
                 have n22_ : zg (gb133 ≠ gb121) := ⟨h22_⟩
                 have n23_ : zg (gb122 ≠ gb133) := ⟨h23_⟩
                 have n24_ : zg (gb133 ≠ gb122) := ⟨h24_⟩
                 have n25_ : zg (gb123 ≠ gb133) := ⟨h25_⟩
                 have n26_ : zg (gb133 ≠ gb123) := ⟨h26_⟩
                 have n27_ : zg (IsF p0 w0 w51 g x1000_4 s0_1) := ⟨h27_⟩
                 have n28_ : zg (zm w w51 g none) := ⟨h28_⟩
                 have n29_ : zg (Below w0.heap.size w0 w51) := ⟨h29_⟩
                 clear BK121
                 clear BK122
                 clear BK123
                 clear HI0
                 clear HK
                 clear HB
                 clear h0_ h1_ h2_ h3_ h4_ h5_ h6_ h7_ h8_ h9_ h10_ h11_ h12_ h13_ h14_ h15_ h16_ h17_ h18_ h19_ h20_ h21_ h22_ h23_ h24_ h25_ h26_ h27_ h28_ h29_
                 have BK121 := n0_
                 have BK122 := n1_
                 have BK123 := n2_
                 have BK132 := n3_
                 have BK133 := n4_
                 have GW132 := n5_
                 have GE132 := n6_
                 have NB0_132 := n7_
                 have NB132_0 := n8_
                 have NB121_132 := n9_
                 have NB132_121 := n10_
                 have NB122_132 := n11_
                 have NB132_122 := n12_
                 have NB123_132 := n13_
                 have NB132_123 := n14_
                 have NB133_132 := n15_
                 have NB132_133 := n16_
                 have GW133 := n17_
                 have GE133 := n18_
                 have NB0_133 := n19_
                 have NB133_0 := n20_
                 have NB121_133 := n21_
                 have NB133_121 := n22_
                 have NB122_133 := n23_
                 have NB133_122 := n24_
                 have NB123_133 := n25_
                 have NB133_123 := n26_
                 have HI0 := n27_
                 have HK := n28_
                 have HB := n29_
                 clear n0_ n1_ n2_ n3_ n4_ n5_ n6_ n7_ n8_ n9_ n10_ n11_ n12_ n13_ n14_ n15_ n16_ n17_ n18_ n19_ n20_ n21_ n22_ n23_ n24_ n25_ n26_ n27_ n28_ n29_
                 have hHeld : w51.cell? ⟨gb121, 0, none⟩ = some (.int .i64 a1_0) ∧ w51.cell? ⟨gb121, 1, none⟩ = some (.int .i64 a1_1) ∧ w51.cell? ⟨gb121, 2, none⟩ = some (.int .i64 a1_2) ∧ w51.cell? ⟨gb121, 3, none⟩ = some (.int .i64 a1_3) ∧ w51.cell? ⟨gb123, 0, none⟩ = some (.int .i64 x124000_1) ∧ w51.cell? ⟨gb123, 1, none⟩ = some (.int .i64 x124001_2) ∧ w51.cell? ⟨gb123, 2, none⟩ = some (.int .i64 x124002_3) ∧ w51.cell? ⟨gb123, 3, none⟩ = some (.int .i64 x124003_4) ∧ w51.cell? ⟨p0, 0, none⟩ = some (.int .i64 s0_1) := hS_
                 refine zhb (a' := ?_) ?_ ?_
                 rotate_left
                 ·simp only [zsa, Act.put, List.setIfInBounds_toArray, List.set_cons_zero, List.set_cons_succ]
                  rfl
                 refine one_ (i := 6) (N := some 59) #[true, true, true, true, true, true, true, false, false, false, true, true, false, false] rfl rfl (zna HT_.out (by kernel_rfl)) (by decide) (fun K hK => ?_)
                 refine zhe Try.func23 (by kernel_rfl) rfl #[.int .i64 s0_1, .agg #[.int .i64 a1_0, .int .i64 a1_1, .int .i64 a1_2, .int .i64 a1_3], .agg #[.int .i64 x124000_1, .int .i64 x124001_2, .int .i64 x124002_3, .int .i64 x124003_4]] (by rfl) rfl rfl (by (try simp only [List.map_toArray, List.map_cons, List.map_nil]); first | done | rfl | (simp only [List.length_drop, List.length_take]; rfl)) ?_
                 with_reducible refine (spec_l06Split.calls k4 s0_1 a1_0 a1_1 a1_2 a1_3 x124000_1 x124001_2 x124002_3 x124003_4 t124 t125 t126 t127 t128 t129 t130 t131 _ A36.out).mono ?_
                 rintro e w52 ⟨rfl, hb⟩
                 refine ⟨_, rfl, ?_⟩
                 have n0_ := zg.mk (zz (g := gb121) (o := .cells #[.int .i64 a1_0, .int .i64 a1_1, .int .i64 a1_2, .int .i64 a1_3] 25 (0, 0)) (by (with_reducible repeat (first | refine ze ?_ _ | refine zf ?_ | refine za ?_ _)); exact BK121.out) hb)
                 have n1_ := zg.mk (zz (g := gb122) (o := .cells #[.int .i64 x123000_4, .int .i64 x123001_4, .int .i64 x123002_4, .int .i64 x123003_4] 25 (0, 0)) (by (with_reducible repeat (first | refine ze ?_ _ | refine zf ?_ | refine za ?_ _)); exact BK122.out) hb)
                 have n2_ := zg.mk (zz (g := gb123) (o := .cells #[.int .i64 x124000_1, .int .i64 x124001_2, .int .i64 x124002_3, .int .i64 x124003_4] 25 (0, 0)) (by (with_reducible repeat (first | refine ze ?_ _ | refine zf ?_ | refine za ?_ _)); exact BK123.out) hb)
                 have n3_ := zg.mk (IsF.below (by repeat (first | (with_reducible first | exact HI0.out | apply IsF.alloc | apply IsF.drewN | apply IsF.drew | refine IsF.far ?_ NB0_121.out (nelt HP.out GW121.out) _ | refine IsF.far ?_ NB0_122.out (nelt HP.out GW122.out) _ | refine IsF.far ?_ NB0_123.out (nelt HP.out GW123.out) _ | refine IsF.far ?_ NB0_132.out (nelt HP.out GW132.out) _ | refine IsF.far ?_ NB0_133.out (nelt HP.out GW133.out) _) | exact HI0.out)) hb)
                 have n4_ := zg.mk (zz (g := gb132) (o := .cells #[.int .i64 0, .int .i64 0, .int .i64 0, .int .i64 0] 25 (0, 0)) (by (with_reducible repeat (first | refine ze ?_ _ | refine zf ?_ | refine za ?_ _)); exact BK132.out) hb)
                 have n5_ := zg.mk (zz (g := gb133) (o := .cells #[.int .i64 0, .int .i64 0, .int .i64 0, .int .i64 0] 25 (0, 0)) (by (with_reducible repeat (first | refine ze ?_ _ | refine zf ?_ | refine za ?_ _)); exact BK133.out) hb)
                 have n6_ := zg.mk (zm.trans (by repeat (first | (with_reducible first | exact HK.out | apply zm.set_ | apply zr | apply zt | apply zs | refine zl ?_ GW121.out _ | refine zl ?_ GW122.out _ | refine zl ?_ GW123.out _ | refine zl ?_ GW132.out _ | refine zl ?_ GW133.out _) | exact HK.out)) (zm.of_below hb g none) (.inl rfl))
                 have n7_ := zg.mk (zx (by repeat (first | (with_reducible first | exact HB.out | apply zq | apply zn | apply zo | refine zi ?_ (IsF.ge HI0.out) | refine zi ?_ GE121.out | refine zi ?_ GE122.out | refine zi ?_ GE123.out | refine zi ?_ GE132.out | refine zi ?_ GE133.out) | exact HB.out)) hb)
                 clear BK121
                 clear BK122
                 clear BK123
                 clear HI0
                 clear BK132
                 clear BK133
                 clear HK
                 clear HB
                 have BK121 := n0_
                 have BK122 := n1_
                 have BK123 := n2_
                 have HI0 := n3_
                 have BK132 := n4_
                 have BK133 := n5_
                 have HK := n6_
                 have HB := n7_
                 clear n0_ n1_ n2_ n3_ n4_ n5_ n6_ n7_
                 (try clear hb)
                 (try clear hb2)
                 (try clear hk)
                 (try clear hi)
                 refine hK.out _ _ ⟨(zh BK121.out 0).trans rfl, (zh BK121.out 1).trans rfl, (zh BK121.out 2).trans rfl, (zh BK121.out 3).trans rfl, (zh BK123.out 0).trans rfl, (zh BK123.out 1).trans rfl, (zh BK123.out 2).trans rfl, (zh BK123.out 3).trans rfl, HI0.out.c0⟩ (fun hHeld => ?_)
                 clear hK K
                 refine zhb (a' := ?_) ?_ ?_
                 rotate_left
                 ·show Act.put _ (some 59) _ = _
                  simp only [Act.put, List.setIfInBounds_toArray, List.set_cons_zero, List.set_cons_succ, zv, zw]
                  rfl
                 refine zaa (i := 7) (N := some 52) (v := ?_) (a' := ?_) #[true, true, true, true, true, true, true, true, false, false, true, true, false, false] rfl rfl (zu HT_.out (by kernel_rfl)) (fun _ _ _ h => h) (Or.inl ⟨by rfl, ?_⟩) ?_ ?_
                 rotate_left
                 ·intro w'
                  go_simp
                  with_reducible rfl
                 rotate_left
                 ·simp only [Act.put, List.setIfInBounds_toArray, List.set_cons_zero, List.set_cons_succ, zv, zw]
                  rfl
                 refine zaa (i := 8) (N := some 60) (v := ?_) (a' := ?_) #[true, true, true, true, true, true, true, true, true, false, true, true, false, false] rfl rfl (zu HT_.out (by kernel_rfl)) (fun _ _ _ h => h) (Or.inl ⟨by rfl, ?_⟩) ?_ ?_
                 rotate_left
                 ·intro w'
                  go_simp
                  with_reducible rfl
                 rotate_left
                 ·simp only [Act.put, List.setIfInBounds_toArray, List.set_cons_zero, List.set_cons_succ, zv, zw]
                  rfl
                 refine zaa (i := 9) (N := some 61) (v := ?_) (a' := ?_) #[true, true, true, true, true, true, true, true, true, true, true, true, false, false] rfl rfl (zu HT_.out (by kernel_rfl)) (fun _ _ _ h => h) (Or.inl ⟨by rfl, ?_⟩) ?_ ?_
                 rotate_left
                 ·intro w'
                  go_simp
                  with_reducible rfl
                 rotate_left
                 ·simp only [Act.put, List.setIfInBounds_toArray, List.set_cons_zero, List.set_cons_succ, zv, zw]
                  rfl
                 exact zhb (by first | (simp only [zsa, Act.put, List.setIfInBounds_toArray, List.set_cons_zero, List.set_cons_succ]; done) | (simp only [zsa, Act.put, List.setIfInBounds_toArray, List.set_cons_zero, List.set_cons_succ]; rfl)) (hJ6_10_11 (gb132, gb133) _ ⟨hHeld, (by (with_reducible repeat (first | refine ze ?_ _ | refine zf ?_ | refine za ?_ _)); exact BK121.out), (by (with_reducible repeat (first | refine ze ?_ _ | refine zf ?_ | refine za ?_ _)); exact BK122.out), (by (with_reducible repeat (first | refine ze ?_ _ | refine zf ?_ | refine za ?_ _)); exact BK123.out), (by (with_reducible repeat (first | refine ze ?_ _ | refine zf ?_ | refine za ?_ _)); exact BK132.out), (by (with_reducible repeat (first | refine ze ?_ _ | refine zf ?_ | refine za ?_ _)); exact BK133.out), GW132.out, GE132.out, NB0_132.out, NB132_0.out, NB121_132.out, NB132_121.out, NB122_132.out, NB132_122.out, NB123_132.out, NB132_123.out, NB133_132.out, NB132_133.out, GW133.out, GE133.out, NB0_133.out, NB133_0.out, NB121_133.out, NB133_121.out, NB122_133.out, NB133_122.out, NB123_133.out, NB133_123.out, (by repeat (first | (with_reducible first | exact HI0.out | apply IsF.alloc | apply IsF.drewN | apply IsF.drew | refine IsF.far ?_ NB0_121.out (nelt HP.out GW121.out) _ | refine IsF.far ?_ NB0_122.out (nelt HP.out GW122.out) _ | refine IsF.far ?_ NB0_123.out (nelt HP.out GW123.out) _ | refine IsF.far ?_ NB0_132.out (nelt HP.out GW132.out) _ | refine IsF.far ?_ NB0_133.out (nelt HP.out GW133.out) _) | exact HI0.out)), (by repeat (first | (with_reducible first | exact HK.out | apply zm.set_ | apply zr | apply zt | apply zs | refine zl ?_ GW121.out _ | refine zl ?_ GW122.out _ | refine zl ?_ GW123.out _ | refine zl ?_ GW132.out _ | refine zl ?_ GW133.out _) | exact HK.out)), (by repeat (first | (with_reducible first | exact HB.out | apply zq | apply zn | apply zo | refine zi ?_ (IsF.ge HI0.out) | refine zi ?_ GE121.out | refine zi ?_ GE122.out | refine zi ?_ GE123.out | refine zi ?_ GE132.out | refine zi ?_ GE133.out) | exact HB.out))⟩)
               ·skip
                rintro gb133 w51 ⟨hS_, h0_, h1_, h2_, h3_, h4_, h5_, h6_, h7_, h8_, h9_, h10_, h11_, h12_, h13_, h14_, h15_, h16_⟩
                have n0_ : zg (w51.heap[gb121]? = some (.cells #[.int .i64 a1_0, .int .i64 a1_1, .int .i64 a1_2, .int .i64 a1_3] 25 (0, 0))) := ⟨h0_⟩
                have n1_ : zg (w51.heap[gb122]? = some (.cells #[.int .i64 x123000_4, .int .i64 x123001_4, .int .i64 x123002_4, .int .i64 x123003_4] 25 (0, 0))) := ⟨h1_⟩
                have n2_ : zg (w51.heap[gb123]? = some (.cells #[.int .i64 x124000_1, .int .i64 x124001_2, .int .i64 x124002_3, .int .i64 x124003_4] 25 (0, 0))) := ⟨h2_⟩
                have n3_ : zg (w51.heap[gb133]? = some (.cells #[.int .i64 0, .int .i64 0, .int .i64 0, .int .i64 0] 25 (0, 0))) := ⟨h3_⟩
                have n4_ : zg (w.heap.size ≤ gb133) := ⟨h4_⟩
                have n5_ : zg (w0.heap.size ≤ gb133) := ⟨h5_⟩
                have n6_ : zg (g ≠ gb133) := ⟨h6_⟩
                have n7_ : zg (gb133 ≠ g) := ⟨h7_⟩
                have n8_ : zg (gb121 ≠ gb133) := ⟨h8_⟩
                have n9_ : zg (gb133 ≠ gb121) := ⟨h9_⟩
                have n10_ : zg (gb122 ≠ gb133) := ⟨h10_⟩
                have n11_ : zg (gb133 ≠ gb122) := ⟨h11_⟩
                have n12_ : zg (gb123 ≠ gb133) := ⟨h12_⟩
                have n13_ : zg (gb133 ≠ gb123) := ⟨h13_⟩
                have n14_ : zg (IsF p0 w0 w51 g x1000_4 s0_1) := ⟨h14_⟩
                have n15_ : zg (zm w w51 g none) := ⟨h15_⟩
                have n16_ : zg (Below w0.heap.size w0 w51) := ⟨h16_⟩
                clear BK121
                clear BK122
                clear BK123
                clear HI0
                clear HK
                clear HB
                clear h0_ h1_ h2_ h3_ h4_ h5_ h6_ h7_ h8_ h9_ h10_ h11_ h12_ h13_ h14_ h15_ h16_
                have BK121 := n0_
                have BK122 := n1_
                have BK123 := n2_
                have BK133 := n3_
                have GW133 := n4_
                have GE133 := n5_
                have NB0_133 := n6_
                have NB133_0 := n7_
                have NB121_133 := n8_
                have NB133_121 := n9_
                have NB122_133 := n10_
                have NB133_122 := n11_
                have NB123_133 := n12_
                have NB133_123 := n13_
                have HI0 := n14_
                have HK := n15_
                have HB := n16_
                clear n0_ n1_ n2_ n3_ n4_ n5_ n6_ n7_ n8_ n9_ n10_ n11_ n12_ n13_ n14_ n15_ n16_
                have hHeld : w51.cell? ⟨gb121, 0, none⟩ = some (.int .i64 a1_0) ∧ w51.cell? ⟨gb121, 1, none⟩ = some (.int .i64 a1_1) ∧ w51.cell? ⟨gb121, 2, none⟩ = some (.int .i64 a1_2) ∧ w51.cell? ⟨gb121, 3, none⟩ = some (.int .i64 a1_3) ∧ w51.cell? ⟨gb123, 0, none⟩ = some (.int .i64 x124000_1) ∧ w51.cell? ⟨gb123, 1, none⟩ = some (.int .i64 x124001_2) ∧ w51.cell? ⟨gb123, 2, none⟩ = some (.int .i64 x124002_3) ∧ w51.cell? ⟨gb123, 3, none⟩ = some (.int .i64 x124003_4) ∧ w51.cell? ⟨p0, 0, none⟩ = some (.int .i64 s0_1) := hS_
                refine zhb (a' := ?_) ?_ ?_
                rotate_left
                ·simp only [zsa, Act.put, List.setIfInBounds_toArray, List.set_cons_zero, List.set_cons_succ]
                 rfl
                refine one_ (i := 10) (N := some 9) #[true, true, true, true, true, true, true, true, true, true, true, true, false, false] rfl rfl (zna HT_.out (by kernel_rfl)) (by decide) (fun K hK => ?_)
                refine zrb ?hg (N := 9) ?hd (cs := #[.int .i64 0, .int .i64 0, .int .i64 0, .int .i64 0]) (t := 25) ?hr ?_; (case hd => rfl); (case hg => rfl); (case hr => first | (go_simp; done) | (go_simp; rfl))
                intro gb132 hg w52 hbox hb
                have n0_ := zg.mk (zz (g := gb121) (o := .cells #[.int .i64 a1_0, .int .i64 a1_1, .int .i64 a1_2, .int .i64 a1_3] 25 (0, 0)) (by (with_reducible repeat (first | refine ze ?_ _ | refine zf ?_ | refine za ?_ _)); exact BK121.out) hb)
                have n1_ := zg.mk (zz (g := gb122) (o := .cells #[.int .i64 x123000_4, .int .i64 x123001_4, .int .i64 x123002_4, .int .i64 x123003_4] 25 (0, 0)) (by (with_reducible repeat (first | refine ze ?_ _ | refine zf ?_ | refine za ?_ _)); exact BK122.out) hb)
                have n2_ := zg.mk (zz (g := gb123) (o := .cells #[.int .i64 x124000_1, .int .i64 x124001_2, .int .i64 x124002_3, .int .i64 x124003_4] 25 (0, 0)) (by (with_reducible repeat (first | refine ze ?_ _ | refine zf ?_ | refine za ?_ _)); exact BK123.out) hb)
                have n3_ := zg.mk (IsF.below (by repeat (first | (with_reducible first | exact HI0.out | apply IsF.alloc | apply IsF.drewN | apply IsF.drew | refine IsF.far ?_ NB0_121.out (nelt HP.out GW121.out) _ | refine IsF.far ?_ NB0_122.out (nelt HP.out GW122.out) _ | refine IsF.far ?_ NB0_123.out (nelt HP.out GW123.out) _ | refine IsF.far ?_ NB0_133.out (nelt HP.out GW133.out) _) | exact HI0.out)) hb)
                have n4_ := zg.mk (zz (g := gb133) (o := .cells #[.int .i64 0, .int .i64 0, .int .i64 0, .int .i64 0] 25 (0, 0)) (by (with_reducible repeat (first | refine ze ?_ _ | refine zf ?_ | refine za ?_ _)); exact BK133.out) hb)
                have n5_ := zg.mk (zm.trans (by repeat (first | (with_reducible first | exact HK.out | apply zm.set_ | apply zr | apply zt | apply zs | refine zl ?_ GW121.out _ | refine zl ?_ GW122.out _ | refine zl ?_ GW123.out _ | refine zl ?_ GW133.out _) | exact HK.out)) (zm.of_below hb g none) (.inl rfl))
                have n6_ := zg.mk (zx (by repeat (first | (with_reducible first | exact HB.out | apply zq | apply zn | apply zo | refine zi ?_ (IsF.ge HI0.out) | refine zi ?_ GE121.out | refine zi ?_ GE122.out | refine zi ?_ GE123.out | refine zi ?_ GE133.out) | exact HB.out)) hb)
                have n7_ := zg.mk (hbox)
                have n8_ := zg.mk ((by rw [hg]; exact (zfa (w := w) (g := g) (row := none) (by repeat (first | (with_reducible first | exact HK.out | apply zm.set_ | apply zr | apply zt | apply zs | refine zl ?_ GW121.out _ | refine zl ?_ GW122.out _ | refine zl ?_ GW123.out _ | refine zl ?_ GW133.out _) | exact HK.out))) : w.heap.size ≤ gb132))
                have n9_ := zg.mk ((Nat.le_trans HW0.out (by rw [hg]; exact (zfa (w := w) (g := g) (row := none) (by repeat (first | (with_reducible first | exact HK.out | apply zm.set_ | apply zr | apply zt | apply zs | refine zl ?_ GW121.out _ | refine zl ?_ GW122.out _ | refine zl ?_ GW123.out _ | refine zl ?_ GW133.out _) | exact HK.out))) : w.heap.size ≤ gb132) : w0.heap.size ≤ gb132))
                have n10_ := zg.mk ((by rw [hg]; exact Nat.ne_of_lt (zba (g := gb121) (o := .cells #[.int .i64 a1_0, .int .i64 a1_1, .int .i64 a1_2, .int .i64 a1_3] 25 (0, 0)) (by (with_reducible repeat (first | refine ze ?_ _ | refine zf ?_ | refine za ?_ _)); exact BK121.out)) : gb121 ≠ gb132))
                have n11_ := zg.mk ((by rw [hg]; exact Nat.ne_of_gt (zba (g := gb121) (o := .cells #[.int .i64 a1_0, .int .i64 a1_1, .int .i64 a1_2, .int .i64 a1_3] 25 (0, 0)) (by (with_reducible repeat (first | refine ze ?_ _ | refine zf ?_ | refine za ?_ _)); exact BK121.out)) : gb132 ≠ gb121))
                have n12_ := zg.mk ((by rw [hg]; exact Nat.ne_of_lt (zba (g := gb122) (o := .cells #[.int .i64 x123000_4, .int .i64 x123001_4, .int .i64 x123002_4, .int .i64 x123003_4] 25 (0, 0)) (by (with_reducible repeat (first | refine ze ?_ _ | refine zf ?_ | refine za ?_ _)); exact BK122.out)) : gb122 ≠ gb132))
                have n13_ := zg.mk ((by rw [hg]; exact Nat.ne_of_gt (zba (g := gb122) (o := .cells #[.int .i64 x123000_4, .int .i64 x123001_4, .int .i64 x123002_4, .int .i64 x123003_4] 25 (0, 0)) (by (with_reducible repeat (first | refine ze ?_ _ | refine zf ?_ | refine za ?_ _)); exact BK122.out)) : gb132 ≠ gb122))
                have n14_ := zg.mk ((by rw [hg]; exact Nat.ne_of_lt (zba (g := gb123) (o := .cells #[.int .i64 x124000_1, .int .i64 x124001_2, .int .i64 x124002_3, .int .i64 x124003_4] 25 (0, 0)) (by (with_reducible repeat (first | refine ze ?_ _ | refine zf ?_ | refine za ?_ _)); exact BK123.out)) : gb123 ≠ gb132))
                have n15_ := zg.mk ((by rw [hg]; exact Nat.ne_of_gt (zba (g := gb123) (o := .cells #[.int .i64 x124000_1, .int .i64 x124001_2, .int .i64 x124002_3, .int .i64 x124003_4] 25 (0, 0)) (by (with_reducible repeat (first | refine ze ?_ _ | refine zf ?_ | refine za ?_ _)); exact BK123.out)) : gb132 ≠ gb123))
                have n16_ := zg.mk ((by rw [hg]; exact Nat.ne_of_lt (zba (g := gb133) (o := .cells #[.int .i64 0, .int .i64 0, .int .i64 0, .int .i64 0] 25 (0, 0)) (by (with_reducible repeat (first | refine ze ?_ _ | refine zf ?_ | refine za ?_ _)); exact BK133.out)) : gb133 ≠ gb132))
                have n17_ := zg.mk ((by rw [hg]; exact Nat.ne_of_gt (zba (g := gb133) (o := .cells #[.int .i64 0, .int .i64 0, .int .i64 0, .int .i64 0] 25 (0, 0)) (by (with_reducible repeat (first | refine ze ?_ _ | refine zf ?_ | refine za ?_ _)); exact BK133.out)) : gb132 ≠ gb133))
                have n18_ := zg.mk ((by rw [hg]; exact Nat.ne_of_lt (IsF.lt (show IsF p0 w0 _ g x1000_4 s0_1 from by repeat (first | (with_reducible first | exact HI0.out | apply IsF.alloc | apply IsF.drewN | apply IsF.drew | refine IsF.far ?_ NB0_121.out (nelt HP.out GW121.out) _ | refine IsF.far ?_ NB0_122.out (nelt HP.out GW122.out) _ | refine IsF.far ?_ NB0_123.out (nelt HP.out GW123.out) _ | refine IsF.far ?_ NB0_133.out (nelt HP.out GW133.out) _) | exact HI0.out))) : g ≠ gb132))
                have n19_ := zg.mk ((by rw [hg]; exact Nat.ne_of_gt (IsF.lt (show IsF p0 w0 _ g x1000_4 s0_1 from by repeat (first | (with_reducible first | exact HI0.out | apply IsF.alloc | apply IsF.drewN | apply IsF.drew | refine IsF.far ?_ NB0_121.out (nelt HP.out GW121.out) _ | refine IsF.far ?_ NB0_122.out (nelt HP.out GW122.out) _ | refine IsF.far ?_ NB0_123.out (nelt HP.out GW123.out) _ | refine IsF.far ?_ NB0_133.out (nelt HP.out GW133.out) _) | exact HI0.out))) : gb132 ≠ g))
                clear BK121
                clear BK122
                clear BK123
                clear HI0
                clear BK133
                clear HK
                clear HB
                have BK121 := n0_
                have BK122 := n1_
                have BK123 := n2_
                have HI0 := n3_
                have BK133 := n4_
                have HK := n5_
                have HB := n6_
                have BK132 := n7_
                have GW132 := n8_
                have GE132 := n9_
                have NB121_132 := n10_
                have NB132_121 := n11_
                have NB122_132 := n12_
                have NB132_122 := n13_
                have NB123_132 := n14_
                have NB132_123 := n15_
                have NB133_132 := n16_
                have NB132_133 := n17_
                have NB0_132 := n18_
                have NB132_0 := n19_
                clear n0_ n1_ n2_ n3_ n4_ n5_ n6_ n7_ n8_ n9_ n10_ n11_ n12_ n13_ n14_ n15_ n16_ n17_ n18_ n19_
                clear hb hbox hg
                refine hK.out _ _ ⟨(zh BK121.out 0).trans rfl, (zh BK121.out 1).trans rfl, (zh BK121.out 2).trans rfl, (zh BK121.out 3).trans rfl, (zh BK123.out 0).trans rfl, (zh BK123.out 1).trans rfl, (zh BK123.out 2).trans rfl, (zh BK123.out 3).trans rfl, HI0.out.c0⟩ (fun hHeld => ?_)
                clear hK K
                refine zhb (a' := ?_) ?_ ?_
                rotate_left
                ·show Act.put _ (some 9) _ = _
                 simp only [Act.put, List.setIfInBounds_toArray, List.set_cons_zero, List.set_cons_succ, zv, zw]
                 rfl
                exact zhb (by first | (simp only [zsa, Act.put, List.setIfInBounds_toArray, List.set_cons_zero, List.set_cons_succ]; done) | (simp only [zsa, Act.put, List.setIfInBounds_toArray, List.set_cons_zero, List.set_cons_succ]; rfl)) (hJ6_10_11 (gb132, gb133) _ ⟨hHeld, (by (with_reducible repeat (first | refine ze ?_ _ | refine zf ?_ | refine za ?_ _)); exact BK121.out), (by (with_reducible repeat (first | refine ze ?_ _ | refine zf ?_ | refine za ?_ _)); exact BK122.out), (by (with_reducible repeat (first | refine ze ?_ _ | refine zf ?_ | refine za ?_ _)); exact BK123.out), (by (with_reducible repeat (first | refine ze ?_ _ | refine zf ?_ | refine za ?_ _)); exact BK132.out), (by (with_reducible repeat (first | refine ze ?_ _ | refine zf ?_ | refine za ?_ _)); exact BK133.out), GW132.out, GE132.out, NB0_132.out, NB132_0.out, NB121_132.out, NB132_121.out, NB122_132.out, NB132_122.out, NB123_132.out, NB132_123.out, NB133_132.out, NB132_133.out, GW133.out, GE133.out, NB0_133.out, NB133_0.out, NB121_133.out, NB133_121.out, NB122_133.out, NB133_122.out, NB123_133.out, NB133_123.out, (by repeat (first | (with_reducible first | exact HI0.out | apply IsF.alloc | apply IsF.drewN | apply IsF.drew | refine IsF.far ?_ NB0_121.out (nelt HP.out GW121.out) _ | refine IsF.far ?_ NB0_122.out (nelt HP.out GW122.out) _ | refine IsF.far ?_ NB0_123.out (nelt HP.out GW123.out) _ | refine IsF.far ?_ NB0_133.out (nelt HP.out GW133.out) _ | refine IsF.far ?_ NB0_132.out (nelt HP.out GW132.out) _) | exact HI0.out)), (by repeat (first | (with_reducible first | exact HK.out | apply zm.set_ | apply zr | apply zt | apply zs | refine zl ?_ GW121.out _ | refine zl ?_ GW122.out _ | refine zl ?_ GW123.out _ | refine zl ?_ GW133.out _ | refine zl ?_ GW132.out _) | exact HK.out)), (by repeat (first | (with_reducible first | exact HB.out | apply zq | apply zn | apply zo | refine zi ?_ (IsF.ge HI0.out) | refine zi ?_ GE121.out | refine zi ?_ GE122.out | refine zi ?_ GE123.out | refine zi ?_ GE133.out | refine zi ?_ GE132.out) | exact HB.out))⟩)
              ·skip
               rintro gb132 w51 ⟨hS_, h0_, h1_, h2_, h3_, h4_, h5_, h6_, h7_, h8_, h9_, h10_, h11_, h12_, h13_, h14_, h15_, h16_⟩
               have n0_ : zg (w51.heap[gb121]? = some (.cells #[.int .i64 a1_0, .int .i64 a1_1, .int .i64 a1_2, .int .i64 a1_3] 25 (0, 0))) := ⟨h0_⟩
               have n1_ : zg (w51.heap[gb122]? = some (.cells #[.int .i64 x123000_4, .int .i64 x123001_4, .int .i64 x123002_4, .int .i64 x123003_4] 25 (0, 0))) := ⟨h1_⟩
               have n2_ : zg (w51.heap[gb123]? = some (.cells #[.int .i64 x124000_1, .int .i64 x124001_2, .int .i64 x124002_3, .int .i64 x124003_4] 25 (0, 0))) := ⟨h2_⟩
               have n3_ : zg (w51.heap[gb132]? = some (.cells #[.int .i64 0, .int .i64 0, .int .i64 0, .int .i64 0] 25 (0, 0))) := ⟨h3_⟩
               have n4_ : zg (w.heap.size ≤ gb132) := ⟨h4_⟩
               have n5_ : zg (w0.heap.size ≤ gb132) := ⟨h5_⟩
               have n6_ : zg (g ≠ gb132) := ⟨h6_⟩
               have n7_ : zg (gb132 ≠ g) := ⟨h7_⟩
               have n8_ : zg (gb121 ≠ gb132) := ⟨h8_⟩
               have n9_ : zg (gb132 ≠ gb121) := ⟨h9_⟩
               have n10_ : zg (gb122 ≠ gb132) := ⟨h10_⟩
               have n11_ : zg (gb132 ≠ gb122) := ⟨h11_⟩
               have n12_ : zg (gb123 ≠ gb132) := ⟨h12_⟩
               have n13_ : zg (gb132 ≠ gb123) := ⟨h13_⟩
               have n14_ : zg (IsF p0 w0 w51 g x1000_4 s0_1) := ⟨h14_⟩
               have n15_ : zg (zm w w51 g none) := ⟨h15_⟩
               have n16_ : zg (Below w0.heap.size w0 w51) := ⟨h16_⟩
               clear BK121
               clear BK122
               clear BK123
               clear HI0
               clear HK
               clear HB
               clear h0_ h1_ h2_ h3_ h4_ h5_ h6_ h7_ h8_ h9_ h10_ h11_ h12_ h13_ h14_ h15_ h16_
               have BK121 := n0_
               have BK122 := n1_
               have BK123 := n2_
               have BK132 := n3_
               have GW132 := n4_
               have GE132 := n5_
               have NB0_132 := n6_
               have NB132_0 := n7_
               have NB121_132 := n8_
               have NB132_121 := n9_
               have NB122_132 := n10_
               have NB132_122 := n11_
               have NB123_132 := n12_
               have NB132_123 := n13_
               have HI0 := n14_
               have HK := n15_
               have HB := n16_
               clear n0_ n1_ n2_ n3_ n4_ n5_ n6_ n7_ n8_ n9_ n10_ n11_ n12_ n13_ n14_ n15_ n16_
               have hHeld : w51.cell? ⟨gb121, 0, none⟩ = some (.int .i64 a1_0) ∧ w51.cell? ⟨gb121, 1, none⟩ = some (.int .i64 a1_1) ∧ w51.cell? ⟨gb121, 2, none⟩ = some (.int .i64 a1_2) ∧ w51.cell? ⟨gb121, 3, none⟩ = some (.int .i64 a1_3) ∧ w51.cell? ⟨gb123, 0, none⟩ = some (.int .i64 x124000_1) ∧ w51.cell? ⟨gb123, 1, none⟩ = some (.int .i64 x124001_2) ∧ w51.cell? ⟨gb123, 2, none⟩ = some (.int .i64 x124002_3) ∧ w51.cell? ⟨gb123, 3, none⟩ = some (.int .i64 x124003_4) ∧ w51.cell? ⟨p0, 0, none⟩ = some (.int .i64 s0_1) := hS_
               refine zhb (a' := ?_) ?_ ?_
               rotate_left
               ·simp only [zsa, Act.put, List.setIfInBounds_toArray, List.set_cons_zero, List.set_cons_succ]
                rfl
               refine one_ (i := 11) (N := some 10) #[true, true, true, true, true, true, true, true, true, true, true, true, false, false] rfl rfl (zna HT_.out (by kernel_rfl)) (by decide) (fun K hK => ?_)
               refine zrb ?hg (N := 10) ?hd (cs := #[.int .i64 0, .int .i64 0, .int .i64 0, .int .i64 0]) (t := 25) ?hr ?_; (case hd => rfl); (case hg => rfl); (case hr => first | (go_simp; done) | (go_simp; rfl))
               intro gb133 hg w52 hbox hb
               have n0_ := zg.mk (zz (g := gb121) (o := .cells #[.int .i64 a1_0, .int .i64 a1_1, .int .i64 a1_2, .int .i64 a1_3] 25 (0, 0)) (by (with_reducible repeat (first | refine ze ?_ _ | refine zf ?_ | refine za ?_ _)); exact BK121.out) hb)
               have n1_ := zg.mk (zz (g := gb122) (o := .cells #[.int .i64 x123000_4, .int .i64 x123001_4, .int .i64 x123002_4, .int .i64 x123003_4] 25 (0, 0)) (by (with_reducible repeat (first | refine ze ?_ _ | refine zf ?_ | refine za ?_ _)); exact BK122.out) hb)
               have n2_ := zg.mk (zz (g := gb123) (o := .cells #[.int .i64 x124000_1, .int .i64 x124001_2, .int .i64 x124002_3, .int .i64 x124003_4] 25 (0, 0)) (by (with_reducible repeat (first | refine ze ?_ _ | refine zf ?_ | refine za ?_ _)); exact BK123.out) hb)
               have n3_ := zg.mk (IsF.below (by repeat (first | (with_reducible first | exact HI0.out | apply IsF.alloc | apply IsF.drewN | apply IsF.drew | refine IsF.far ?_ NB0_121.out (nelt HP.out GW121.out) _ | refine IsF.far ?_ NB0_122.out (nelt HP.out GW122.out) _ | refine IsF.far ?_ NB0_123.out (nelt HP.out GW123.out) _ | refine IsF.far ?_ NB0_132.out (nelt HP.out GW132.out) _) | exact HI0.out)) hb)
               have n4_ := zg.mk (zz (g := gb132) (o := .cells #[.int .i64 0, .int .i64 0, .int .i64 0, .int .i64 0] 25 (0, 0)) (by (with_reducible repeat (first | refine ze ?_ _ | refine zf ?_ | refine za ?_ _)); exact BK132.out) hb)
               have n5_ := zg.mk (zm.trans (by repeat (first | (with_reducible first | exact HK.out | apply zm.set_ | apply zr | apply zt | apply zs | refine zl ?_ GW121.out _ | refine zl ?_ GW122.out _ | refine zl ?_ GW123.out _ | refine zl ?_ GW132.out _) | exact HK.out)) (zm.of_below hb g none) (.inl rfl))
               have n6_ := zg.mk (zx (by repeat (first | (with_reducible first | exact HB.out | apply zq | apply zn | apply zo | refine zi ?_ (IsF.ge HI0.out) | refine zi ?_ GE121.out | refine zi ?_ GE122.out | refine zi ?_ GE123.out | refine zi ?_ GE132.out) | exact HB.out)) hb)
               have n7_ := zg.mk (hbox)
               have n8_ := zg.mk ((by rw [hg]; exact (zfa (w := w) (g := g) (row := none) (by repeat (first | (with_reducible first | exact HK.out | apply zm.set_ | apply zr | apply zt | apply zs | refine zl ?_ GW121.out _ | refine zl ?_ GW122.out _ | refine zl ?_ GW123.out _ | refine zl ?_ GW132.out _) | exact HK.out))) : w.heap.size ≤ gb133))
               have n9_ := zg.mk ((Nat.le_trans HW0.out (by rw [hg]; exact (zfa (w := w) (g := g) (row := none) (by repeat (first | (with_reducible first | exact HK.out | apply zm.set_ | apply zr | apply zt | apply zs | refine zl ?_ GW121.out _ | refine zl ?_ GW122.out _ | refine zl ?_ GW123.out _ | refine zl ?_ GW132.out _) | exact HK.out))) : w.heap.size ≤ gb133) : w0.heap.size ≤ gb133))
               have n10_ := zg.mk ((by rw [hg]; exact Nat.ne_of_lt (zba (g := gb121) (o := .cells #[.int .i64 a1_0, .int .i64 a1_1, .int .i64 a1_2, .int .i64 a1_3] 25 (0, 0)) (by (with_reducible repeat (first | refine ze ?_ _ | refine zf ?_ | refine za ?_ _)); exact BK121.out)) : gb121 ≠ gb133))
               have n11_ := zg.mk ((by rw [hg]; exact Nat.ne_of_gt (zba (g := gb121) (o := .cells #[.int .i64 a1_0, .int .i64 a1_1, .int .i64 a1_2, .int .i64 a1_3] 25 (0, 0)) (by (with_reducible repeat (first | refine ze ?_ _ | refine zf ?_ | refine za ?_ _)); exact BK121.out)) : gb133 ≠ gb121))
               have n12_ := zg.mk ((by rw [hg]; exact Nat.ne_of_lt (zba (g := gb122) (o := .cells #[.int .i64 x123000_4, .int .i64 x123001_4, .int .i64 x123002_4, .int .i64 x123003_4] 25 (0, 0)) (by (with_reducible repeat (first | refine ze ?_ _ | refine zf ?_ | refine za ?_ _)); exact BK122.out)) : gb122 ≠ gb133))
               have n13_ := zg.mk ((by rw [hg]; exact Nat.ne_of_gt (zba (g := gb122) (o := .cells #[.int .i64 x123000_4, .int .i64 x123001_4, .int .i64 x123002_4, .int .i64 x123003_4] 25 (0, 0)) (by (with_reducible repeat (first | refine ze ?_ _ | refine zf ?_ | refine za ?_ _)); exact BK122.out)) : gb133 ≠ gb122))
               have n14_ := zg.mk ((by rw [hg]; exact Nat.ne_of_lt (zba (g := gb123) (o := .cells #[.int .i64 x124000_1, .int .i64 x124001_2, .int .i64 x124002_3, .int .i64 x124003_4] 25 (0, 0)) (by (with_reducible repeat (first | refine ze ?_ _ | refine zf ?_ | refine za ?_ _)); exact BK123.out)) : gb123 ≠ gb133))
               have n15_ := zg.mk ((by rw [hg]; exact Nat.ne_of_gt (zba (g := gb123) (o := .cells #[.int .i64 x124000_1, .int .i64 x124001_2, .int .i64 x124002_3, .int .i64 x124003_4] 25 (0, 0)) (by (with_reducible repeat (first | refine ze ?_ _ | refine zf ?_ | refine za ?_ _)); exact BK123.out)) : gb133 ≠ gb123))
               have n16_ := zg.mk ((by rw [hg]; exact Nat.ne_of_lt (zba (g := gb132) (o := .cells #[.int .i64 0, .int .i64 0, .int .i64 0, .int .i64 0] 25 (0, 0)) (by (with_reducible repeat (first | refine ze ?_ _ | refine zf ?_ | refine za ?_ _)); exact BK132.out)) : gb132 ≠ gb133))
               have n17_ := zg.mk ((by rw [hg]; exact Nat.ne_of_gt (zba (g := gb132) (o := .cells #[.int .i64 0, .int .i64 0, .int .i64 0, .int .i64 0] 25 (0, 0)) (by (with_reducible repeat (first | refine ze ?_ _ | refine zf ?_ | refine za ?_ _)); exact BK132.out)) : gb133 ≠ gb132))
               have n18_ := zg.mk ((by rw [hg]; exact Nat.ne_of_lt (IsF.lt (show IsF p0 w0 _ g x1000_4 s0_1 from by repeat (first | (with_reducible first | exact HI0.out | apply IsF.alloc | apply IsF.drewN | apply IsF.drew | refine IsF.far ?_ NB0_121.out (nelt HP.out GW121.out) _ | refine IsF.far ?_ NB0_122.out (nelt HP.out GW122.out) _ | refine IsF.far ?_ NB0_123.out (nelt HP.out GW123.out) _ | refine IsF.far ?_ NB0_132.out (nelt HP.out GW132.out) _) | exact HI0.out))) : g ≠ gb133))
               have n19_ := zg.mk ((by rw [hg]; exact Nat.ne_of_gt (IsF.lt (show IsF p0 w0 _ g x1000_4 s0_1 from by repeat (first | (with_reducible first | exact HI0.out | apply IsF.alloc | apply IsF.drewN | apply IsF.drew | refine IsF.far ?_ NB0_121.out (nelt HP.out GW121.out) _ | refine IsF.far ?_ NB0_122.out (nelt HP.out GW122.out) _ | refine IsF.far ?_ NB0_123.out (nelt HP.out GW123.out) _ | refine IsF.far ?_ NB0_132.out (nelt HP.out GW132.out) _) | exact HI0.out))) : gb133 ≠ g))
               clear BK121
               clear BK122
               clear BK123
               clear HI0
               clear BK132
               clear HK
               clear HB
               have BK121 := n0_
               have BK122 := n1_
               have BK123 := n2_
               have HI0 := n3_
               have BK132 := n4_
               have HK := n5_
               have HB := n6_
               have BK133 := n7_
               have GW133 := n8_
               have GE133 := n9_
               have NB121_133 := n10_
               have NB133_121 := n11_
               have NB122_133 := n12_
               have NB133_122 := n13_
               have NB123_133 := n14_
               have NB133_123 := n15_
               have NB132_133 := n16_
               have NB133_132 := n17_
               have NB0_133 := n18_
               have NB133_0 := n19_
               clear n0_ n1_ n2_ n3_ n4_ n5_ n6_ n7_ n8_ n9_ n10_ n11_ n12_ n13_ n14_ n15_ n16_ n17_ n18_ n19_
               clear hb hbox hg
               refine hK.out _ _ ⟨(zh BK121.out 0).trans rfl, (zh BK121.out 1).trans rfl, (zh BK121.out 2).trans rfl, (zh BK121.out 3).trans rfl, (zh BK123.out 0).trans rfl, (zh BK123.out 1).trans rfl, (zh BK123.out 2).trans rfl, (zh BK123.out 3).trans rfl, HI0.out.c0⟩ (fun hHeld => ?_)
               clear hK K
               refine zhb (a' := ?_) ?_ ?_
               rotate_left
               ·show Act.put _ (some 10) _ = _
                simp only [Act.put, List.setIfInBounds_toArray, List.set_cons_zero, List.set_cons_succ, zv, zw]
                rfl
               exact zhb (by first | (simp only [zsa, Act.put, List.setIfInBounds_toArray, List.set_cons_zero, List.set_cons_succ]; done) | (simp only [zsa, Act.put, List.setIfInBounds_toArray, List.set_cons_zero, List.set_cons_succ]; rfl)) (hJ6_10_11 (gb132, gb133) _ ⟨hHeld, (by (with_reducible repeat (first | refine ze ?_ _ | refine zf ?_ | refine za ?_ _)); exact BK121.out), (by (with_reducible repeat (first | refine ze ?_ _ | refine zf ?_ | refine za ?_ _)); exact BK122.out), (by (with_reducible repeat (first | refine ze ?_ _ | refine zf ?_ | refine za ?_ _)); exact BK123.out), (by (with_reducible repeat (first | refine ze ?_ _ | refine zf ?_ | refine za ?_ _)); exact BK132.out), (by (with_reducible repeat (first | refine ze ?_ _ | refine zf ?_ | refine za ?_ _)); exact BK133.out), GW132.out, GE132.out, NB0_132.out, NB132_0.out, NB121_132.out, NB132_121.out, NB122_132.out, NB132_122.out, NB123_132.out, NB132_123.out, NB133_132.out, NB132_133.out, GW133.out, GE133.out, NB0_133.out, NB133_0.out, NB121_133.out, NB133_121.out, NB122_133.out, NB133_122.out, NB123_133.out, NB133_123.out, (by repeat (first | (with_reducible first | exact HI0.out | apply IsF.alloc | apply IsF.drewN | apply IsF.drew | refine IsF.far ?_ NB0_121.out (nelt HP.out GW121.out) _ | refine IsF.far ?_ NB0_122.out (nelt HP.out GW122.out) _ | refine IsF.far ?_ NB0_123.out (nelt HP.out GW123.out) _ | refine IsF.far ?_ NB0_132.out (nelt HP.out GW132.out) _ | refine IsF.far ?_ NB0_133.out (nelt HP.out GW133.out) _) | exact HI0.out)), (by repeat (first | (with_reducible first | exact HK.out | apply zm.set_ | apply zr | apply zt | apply zs | refine zl ?_ GW121.out _ | refine zl ?_ GW122.out _ | refine zl ?_ GW123.out _ | refine zl ?_ GW132.out _ | refine zl ?_ GW133.out _) | exact HK.out)), (by repeat (first | (with_reducible first | exact HB.out | apply zq | apply zn | apply zo | refine zi ?_ (IsF.ge HI0.out) | refine zi ?_ GE121.out | refine zi ?_ GE122.out | refine zi ?_ GE123.out | refine zi ?_ GE132.out | refine zi ?_ GE133.out) | exact HB.out))⟩)
             rintro ⟨gb132, gb133⟩ w52 ⟨hS_, h0_, h1_, h2_, h3_, h4_, h5_, h6_, h7_, h8_, h9_, h10_, h11_, h12_, h13_, h14_, h15_, h16_, h17_, h18_, h19_, h20_, h21_, h22_, h23_, h24_, h25_, h26_, h27_, h28_, h29_⟩
             have n0_ : zg (w52.heap[gb121]? = some (.cells #[.int .i64 a1_0, .int .i64 a1_1, .int .i64 a1_2, .int .i64 a1_3] 25 (0, 0))) := ⟨h0_⟩
             have n1_ : zg (w52.heap[gb122]? = some (.cells #[.int .i64 x123000_4, .int .i64 x123001_4, .int .i64 x123002_4, .int .i64 x123003_4] 25 (0, 0))) := ⟨h1_⟩
             have n2_ : zg (w52.heap[gb123]? = some (.cells #[.int .i64 x124000_1, .int .i64 x124001_2, .int .i64 x124002_3, .int .i64 x124003_4] 25 (0, 0))) := ⟨h2_⟩
             have n3_ : zg (w52.heap[gb132]? = some (.cells #[.int .i64 0, .int .i64 0, .int .i64 0, .int .i64 0] 25 (0, 0))) := ⟨h3_⟩
             have n4_ : zg (w52.heap[gb133]? = some (.cells #[.int .i64 0, .int .i64 0, .int .i64 0, .int .i64 0] 25 (0, 0))) := ⟨h4_⟩
             have n5_ : zg (w.heap.size ≤ gb132) := ⟨h5_⟩
             have n6_ : zg (w0.heap.size ≤ gb132) := ⟨h6_⟩
             have n7_ : zg (g ≠ gb132) := ⟨h7_⟩
             have n8_ : zg (gb132 ≠ g) := ⟨h8_⟩
             have n9_ : zg (gb121 ≠ gb132) := ⟨h9_⟩
             have n10_ : zg (gb132 ≠ gb121) := ⟨h10_⟩
             have n11_ : zg (gb122 ≠ gb132) := ⟨h11_⟩
             have n12_ : zg (gb132 ≠ gb122) := ⟨h12_⟩
             have n13_ : zg (gb123 ≠ gb132) := ⟨h13_⟩
             have n14_ : zg (gb132 ≠ gb123) := ⟨h14_⟩
             have n15_ : zg (gb133 ≠ gb132) := ⟨h15_⟩
             have n16_ : zg (gb132 ≠ gb133) := ⟨h16_⟩
             have n17_ : zg (w.heap.size ≤ gb133) := ⟨h17_⟩
             have n18_ : zg (w0.heap.size ≤ gb133) := ⟨h18_⟩
             have n19_ : zg (g ≠ gb133) := ⟨h19_⟩
             have n20_ : zg (gb133 ≠ g) := ⟨h20_⟩
             have n21_ : zg (gb121 ≠ gb133) := ⟨h21_⟩
             have n22_ : zg (gb133 ≠ gb121) := ⟨h22_⟩
             have n23_ : zg (gb122 ≠ gb133) := ⟨h23_⟩
             have n24_ : zg (gb133 ≠ gb122) := ⟨h24_⟩
             have n25_ : zg (gb123 ≠ gb133) := ⟨h25_⟩
             have n26_ : zg (gb133 ≠ gb123) := ⟨h26_⟩
             have n27_ : zg (IsF p0 w0 w52 g x1000_4 s0_1) := ⟨h27_⟩
             have n28_ : zg (zm w w52 g none) := ⟨h28_⟩
             have n29_ : zg (Below w0.heap.size w0 w52) := ⟨h29_⟩
             clear BK121
             clear BK122
             clear BK123
             clear HI0
             clear HK
             clear HB
             clear h0_ h1_ h2_ h3_ h4_ h5_ h6_ h7_ h8_ h9_ h10_ h11_ h12_ h13_ h14_ h15_ h16_ h17_ h18_ h19_ h20_ h21_ h22_ h23_ h24_ h25_ h26_ h27_ h28_ h29_
             have BK121 := n0_
             have BK122 := n1_
             have BK123 := n2_
             have BK132 := n3_
             have BK133 := n4_
             have GW132 := n5_
             have GE132 := n6_
             have NB0_132 := n7_
             have NB132_0 := n8_
             have NB121_132 := n9_
             have NB132_121 := n10_
             have NB122_132 := n11_
             have NB132_122 := n12_
             have NB123_132 := n13_
             have NB132_123 := n14_
             have NB133_132 := n15_
             have NB132_133 := n16_
             have GW133 := n17_
             have GE133 := n18_
             have NB0_133 := n19_
             have NB133_0 := n20_
             have NB121_133 := n21_
             have NB133_121 := n22_
             have NB122_133 := n23_
             have NB133_122 := n24_
             have NB123_133 := n25_
             have NB133_123 := n26_
             have HI0 := n27_
             have HK := n28_
             have HB := n29_
             clear n0_ n1_ n2_ n3_ n4_ n5_ n6_ n7_ n8_ n9_ n10_ n11_ n12_ n13_ n14_ n15_ n16_ n17_ n18_ n19_ n20_ n21_ n22_ n23_ n24_ n25_ n26_ n27_ n28_ n29_
             have hHeld : w52.cell? ⟨gb121, 0, none⟩ = some (.int .i64 a1_0) ∧ w52.cell? ⟨gb121, 1, none⟩ = some (.int .i64 a1_1) ∧ w52.cell? ⟨gb121, 2, none⟩ = some (.int .i64 a1_2) ∧ w52.cell? ⟨gb121, 3, none⟩ = some (.int .i64 a1_3) ∧ w52.cell? ⟨gb123, 0, none⟩ = some (.int .i64 x124000_1) ∧ w52.cell? ⟨gb123, 1, none⟩ = some (.int .i64 x124001_2) ∧ w52.cell? ⟨gb123, 2, none⟩ = some (.int .i64 x124002_3) ∧ w52.cell? ⟨gb123, 3, none⟩ = some (.int .i64 x124003_4) ∧ w52.cell? ⟨p0, 0, none⟩ = some (.int .i64 s0_1) := hS_
             refine zhb (a' := ?_) ?_ ?_
             rotate_left
             ·simp only [zsa, Act.put, List.setIfInBounds_toArray, List.set_cons_zero, List.set_cons_succ]
              rfl
             refine one_ (i := 12) (N := none) #[true, true, true, true, true, true, true, true, true, true, true, true, true, false] rfl rfl (zna HT_.out (by kernel_rfl)) (by decide) (fun K hK => ?_)
             have hs53 : w52.cell? ⟨gb132, 0, none⟩ = some (.int .i64 0) := (zh BK132.out 0).trans rfl
             have hfs53 := zj BK132.out 0
             have hns53_0 := NB121_132.out
             have hns53_1 := NB122_132.out
             have hns53_2 := NB123_132.out
             have hns53_4 := NB133_132.out
             have hms53_0 := NB132_121.out
             have hms53_1 := NB132_122.out
             have hms53_2 := NB132_123.out
             have hms53_4 := NB132_133.out
             have hs54 : w52.cell? ⟨gb132, 1, none⟩ = some (.int .i64 0) := (zh BK132.out 1).trans rfl
             have hfs54 := zj BK132.out 1
             have hns54_0 := NB121_132.out
             have hns54_1 := NB122_132.out
             have hns54_2 := NB123_132.out
             have hns54_4 := NB133_132.out
             have hms54_0 := NB132_121.out
             have hms54_1 := NB132_122.out
             have hms54_2 := NB132_123.out
             have hms54_4 := NB132_133.out
             have hs55 : w52.cell? ⟨gb132, 2, none⟩ = some (.int .i64 0) := (zh BK132.out 2).trans rfl
             have hfs55 := zj BK132.out 2
             have hns55_0 := NB121_132.out
             have hns55_1 := NB122_132.out
             have hns55_2 := NB123_132.out
             have hns55_4 := NB133_132.out
             have hms55_0 := NB132_121.out
             have hms55_1 := NB132_122.out
             have hms55_2 := NB132_123.out
             have hms55_4 := NB132_133.out
             have hs56 : w52.cell? ⟨gb132, 3, none⟩ = some (.int .i64 0) := (zh BK132.out 3).trans rfl
             have hfs56 := zj BK132.out 3
             have hns56_0 := NB121_132.out
             have hns56_1 := NB122_132.out
             have hns56_2 := NB123_132.out
             have hns56_4 := NB133_132.out
             have hms56_0 := NB132_121.out
             have hms56_1 := NB132_122.out
             have hms56_2 := NB132_123.out
             have hms56_4 := NB132_133.out
             refine zza (w1 := ?_) (by rfl) rfl ?_ ?_
             rotate_left
             ·go_simp
              rfl
             refine hK.out _ _ ⟨((zp (p := ⟨gb132, _, none⟩) NB121_132.out _).trans (((zp (p := ⟨gb132, _, none⟩) NB121_132.out _).trans (((zp (p := ⟨gb132, _, none⟩) NB121_132.out _).trans (((zp (p := ⟨gb132, _, none⟩) NB121_132.out _).trans (hHeld.1)))))))), ((zp (p := ⟨gb132, _, none⟩) NB121_132.out _).trans (((zp (p := ⟨gb132, _, none⟩) NB121_132.out _).trans (((zp (p := ⟨gb132, _, none⟩) NB121_132.out _).trans (((zp (p := ⟨gb132, _, none⟩) NB121_132.out _).trans (hHeld.2.1)))))))), ((zp (p := ⟨gb132, _, none⟩) NB121_132.out _).trans (((zp (p := ⟨gb132, _, none⟩) NB121_132.out _).trans (((zp (p := ⟨gb132, _, none⟩) NB121_132.out _).trans (((zp (p := ⟨gb132, _, none⟩) NB121_132.out _).trans (hHeld.2.2.1)))))))), ((zp (p := ⟨gb132, _, none⟩) NB121_132.out _).trans (((zp (p := ⟨gb132, _, none⟩) NB121_132.out _).trans (((zp (p := ⟨gb132, _, none⟩) NB121_132.out _).trans (((zp (p := ⟨gb132, _, none⟩) NB121_132.out _).trans (hHeld.2.2.2.1)))))))), ((zp (p := ⟨gb132, _, none⟩) NB123_132.out _).trans (((zp (p := ⟨gb132, _, none⟩) NB123_132.out _).trans (((zp (p := ⟨gb132, _, none⟩) NB123_132.out _).trans (((zp (p := ⟨gb132, _, none⟩) NB123_132.out _).trans (hHeld.2.2.2.2.1)))))))), ((zp (p := ⟨gb132, _, none⟩) NB123_132.out _).trans (((zp (p := ⟨gb132, _, none⟩) NB123_132.out _).trans (((zp (p := ⟨gb132, _, none⟩) NB123_132.out _).trans (((zp (p := ⟨gb132, _, none⟩) NB123_132.out _).trans (hHeld.2.2.2.2.2.1)))))))), ((zp (p := ⟨gb132, _, none⟩) NB123_132.out _).trans (((zp (p := ⟨gb132, _, none⟩) NB123_132.out _).trans (((zp (p := ⟨gb132, _, none⟩) NB123_132.out _).trans (((zp (p := ⟨gb132, _, none⟩) NB123_132.out _).trans (hHeld.2.2.2.2.2.2.1)))))))), ((zp (p := ⟨gb132, _, none⟩) NB123_132.out _).trans (((zp (p := ⟨gb132, _, none⟩) NB123_132.out _).trans (((zp (p := ⟨gb132, _, none⟩) NB123_132.out _).trans (((zp (p := ⟨gb132, _, none⟩) NB123_132.out _).trans (hHeld.2.2.2.2.2.2.2.1)))))))), ((zp (p := ⟨gb132, _, none⟩) (nelt HP.out GW132.out) _).trans ((zp (p := ⟨gb132, _, none⟩) (nelt HP.out GW132.out) _).trans ((zp (p := ⟨gb132, _, none⟩) (nelt HP.out GW132.out) _).trans ((zp (p := ⟨gb132, _, none⟩) (nelt HP.out GW132.out) _).trans hHeld.2.2.2.2.2.2.2.2))))⟩ (fun hHeld => ?_)
             clear hK K
             refine one_ (i := 13) (N := none) #[true, true, true, true, true, true, true, true, true, true, true, true, true, true] rfl rfl (zna HT_.out (by kernel_rfl)) (by decide) (fun K hK => ?_)
             have hs57 : w52.cell? ⟨gb133, 0, none⟩ = some (.int .i64 0) := (zh BK133.out 0).trans rfl
             have hfs57 := zj BK133.out 0
             have hns57_0 := NB121_133.out
             have hns57_1 := NB122_133.out
             have hns57_2 := NB123_133.out
             have hns57_3 := NB132_133.out
             have hms57_0 := NB133_121.out
             have hms57_1 := NB133_122.out
             have hms57_2 := NB133_123.out
             have hms57_3 := NB133_132.out
             have hs58 : w52.cell? ⟨gb133, 1, none⟩ = some (.int .i64 0) := (zh BK133.out 1).trans rfl
             have hfs58 := zj BK133.out 1
             have hns58_0 := NB121_133.out
             have hns58_1 := NB122_133.out
             have hns58_2 := NB123_133.out
             have hns58_3 := NB132_133.out
             have hms58_0 := NB133_121.out
             have hms58_1 := NB133_122.out
             have hms58_2 := NB133_123.out
             have hms58_3 := NB133_132.out
             have hs59 : w52.cell? ⟨gb133, 2, none⟩ = some (.int .i64 0) := (zh BK133.out 2).trans rfl
             have hfs59 := zj BK133.out 2
             have hns59_0 := NB121_133.out
             have hns59_1 := NB122_133.out
             have hns59_2 := NB123_133.out
             have hns59_3 := NB132_133.out
             have hms59_0 := NB133_121.out
             have hms59_1 := NB133_122.out
             have hms59_2 := NB133_123.out
             have hms59_3 := NB133_132.out
             have hs60 : w52.cell? ⟨gb133, 3, none⟩ = some (.int .i64 0) := (zh BK133.out 3).trans rfl
             have hfs60 := zj BK133.out 3
             have hns60_0 := NB121_133.out
             have hns60_1 := NB122_133.out
             have hns60_2 := NB123_133.out
             have hns60_3 := NB132_133.out
             have hms60_0 := NB133_121.out
             have hms60_1 := NB133_122.out
             have hms60_2 := NB133_123.out
             have hms60_3 := NB133_132.out
             refine zza (w1 := ?_) (by rfl) rfl ?_ ?_
             rotate_left
             ·go_simp
              rfl
             refine hK.out _ _ ⟨((zp (p := ⟨gb133, _, none⟩) NB121_133.out _).trans (((zp (p := ⟨gb133, _, none⟩) NB121_133.out _).trans (((zp (p := ⟨gb133, _, none⟩) NB121_133.out _).trans (((zp (p := ⟨gb133, _, none⟩) NB121_133.out _).trans (hHeld.1)))))))), ((zp (p := ⟨gb133, _, none⟩) NB121_133.out _).trans (((zp (p := ⟨gb133, _, none⟩) NB121_133.out _).trans (((zp (p := ⟨gb133, _, none⟩) NB121_133.out _).trans (((zp (p := ⟨gb133, _, none⟩) NB121_133.out _).trans (hHeld.2.1)))))))), ((zp (p := ⟨gb133, _, none⟩) NB121_133.out _).trans (((zp (p := ⟨gb133, _, none⟩) NB121_133.out _).trans (((zp (p := ⟨gb133, _, none⟩) NB121_133.out _).trans (((zp (p := ⟨gb133, _, none⟩) NB121_133.out _).trans (hHeld.2.2.1)))))))), ((zp (p := ⟨gb133, _, none⟩) NB121_133.out _).trans (((zp (p := ⟨gb133, _, none⟩) NB121_133.out _).trans (((zp (p := ⟨gb133, _, none⟩) NB121_133.out _).trans (((zp (p := ⟨gb133, _, none⟩) NB121_133.out _).trans (hHeld.2.2.2.1)))))))), ((zp (p := ⟨gb133, _, none⟩) NB123_133.out _).trans (((zp (p := ⟨gb133, _, none⟩) NB123_133.out _).trans (((zp (p := ⟨gb133, _, none⟩) NB123_133.out _).trans (((zp (p := ⟨gb133, _, none⟩) NB123_133.out _).trans (hHeld.2.2.2.2.1)))))))), ((zp (p := ⟨gb133, _, none⟩) NB123_133.out _).trans (((zp (p := ⟨gb133, _, none⟩) NB123_133.out _).trans (((zp (p := ⟨gb133, _, none⟩) NB123_133.out _).trans (((zp (p := ⟨gb133, _, none⟩) NB123_133.out _).trans (hHeld.2.2.2.2.2.1)))))))), ((zp (p := ⟨gb133, _, none⟩) NB123_133.out _).trans (((zp (p := ⟨gb133, _, none⟩) NB123_133.out _).trans (((zp (p := ⟨gb133, _, none⟩) NB123_133.out _).trans (((zp (p := ⟨gb133, _, none⟩) NB123_133.out _).trans (hHeld.2.2.2.2.2.2.1)))))))), ((zp (p := ⟨gb133, _, none⟩) NB123_133.out _).trans (((zp (p := ⟨gb133, _, none⟩) NB123_133.out _).trans (((zp (p := ⟨gb133, _, none⟩) NB123_133.out _).trans (((zp (p := ⟨gb133, _, none⟩) NB123_133.out _).trans (hHeld.2.2.2.2.2.2.2.1)))))))), ((zp (p := ⟨gb133, _, none⟩) (nelt HP.out GW133.out) _).trans ((zp (p := ⟨gb133, _, none⟩) (nelt HP.out GW133.out) _).trans ((zp (p := ⟨gb133, _, none⟩) (nelt HP.out GW133.out) _).trans ((zp (p := ⟨gb133, _, none⟩) (nelt HP.out GW133.out) _).trans hHeld.2.2.2.2.2.2.2.2))))⟩ (fun hHeld => ?_)
             clear hK K
             refine zeb (zla HT_.out (by kernel_rfl)) ?_
             have H := HCX.out
             clear HCX
             by_cases c38 : t134 = true
             ·subst c38
              have H1 : ((C t135 s0_1 t128 t129 t130 t131 (wrap64 (a2 - 1))).bind fun bt136 => (if bt136.1 = true then (some (x124000_1, x124001_2, x124002_3, x124003_4, true, bt136.2)) else (spec_l06Finder_first.l3 C k4 a2 bt136.2 s0_1 a1_0 a1_1 a1_2 a1_3 x124000_1 x124001_2 x124002_3 (wrap64 (x124003_4 + 1))))) = some (r1, r2, r3, r4, r5, r6) := by rw [if_pos rfl] at H; exact H
              clear H
              have H := H1
              clear H1
              replace H := Option.bind_eq_some_iff.mp H
              obtain ⟨⟨t136, t137⟩, A390, H⟩ := H
              replace H : (if t136 = true then (some (x124000_1, x124001_2, x124002_3, x124003_4, true, t137)) else (spec_l06Finder_first.l3 C k4 a2 t137 s0_1 a1_0 a1_1 a1_2 a1_3 x124000_1 x124001_2 x124002_3 (wrap64 (x124003_4 + 1)))) = some (r1, r2, r3, r4, r5, r6) := H
              have A39 := zg.mk A390
              clear A390
              by_cases c40 : t136 = true
              ·subst c40
               have H1 : (some (x124000_1, x124001_2, x124002_3, x124003_4, true, t137)) = some (r1, r2, r3, r4, r5, r6) := by rw [if_pos rfl] at H; exact H
               clear H
               have H := H1
               clear H1
               simp only [Option.some.injEq, Prod.mk.injEq] at H
               obtain ⟨rfl, rfl, rfl, rfl, rfl, rfl⟩ := H
               have hnb61 := NB132_121.out
               have hnc61 := NB121_132.out
               have hnb62 := NB132_122.out
               have hnc62 := NB122_132.out
               have hnb63 := NB132_123.out
               have hnc63 := NB123_132.out
               have hnb64 := NB132_133.out
               have hnc64 := NB133_132.out
               have hnb65 := NB132_0.out
               have hnc65 := NB0_132.out
               have hcz66_0 : w52.cell? ⟨gb132, 0, none⟩ = some (.int .i64 0) := (zh BK132.out 0).trans rfl
               have hcz66_1 : w52.cell? ⟨gb132, 1, none⟩ = some (.int .i64 0) := (zh BK132.out 1).trans rfl
               have hcz66_2 : w52.cell? ⟨gb132, 2, none⟩ = some (.int .i64 0) := (zh BK132.out 2).trans rfl
               have hcz66_3 : w52.cell? ⟨gb132, 3, none⟩ = some (.int .i64 0) := (zh BK132.out 3).trans rfl
               have hfz66_0 := zj BK132.out 0
               have hfz66_1 := zj BK132.out 1
               have hfz66_2 := zj BK132.out 2
               have hfz66_3 := zj BK132.out 3
               try go_wp2_with (first | ((with_reducible refine zha (f := 8) rfl ?_); refine zxb (some 66) rfl rfl Try.func8 (by kernel_rfl) rfl #[.pointer (some ⟨p0, 0, none⟩), .agg #[.int .i64 t124, .int .i64 t125, .int .i64 t126, .int .i64 t127], .int .i64 (wrap64 (a2 - 1))] rfl (by (try simp only [List.map_toArray, List.map_cons, List.map_nil]); first | done | rfl | (simp only [List.length_drop, List.length_take]; rfl)) ?_; (with_reducible refine (HCAN p0 g x1000_4 s0_1 t124 t125 t126 t127 true t135 w0 _ ?side1 ?side2 A37.out).mono ?_); (case side1 => repeat (first | (with_reducible first | exact HI0.out | apply IsF.alloc | apply IsF.drewN | apply IsF.drew | refine IsF.far ?_ NB0_121.out (nelt HP.out GW121.out) _ | refine IsF.far ?_ NB0_122.out (nelt HP.out GW122.out) _ | refine IsF.far ?_ NB0_123.out (nelt HP.out GW123.out) _ | refine IsF.far ?_ NB0_132.out (nelt HP.out GW132.out) _ | refine IsF.far ?_ NB0_133.out (nelt HP.out GW133.out) _) | exact HI0.out)); (case side2 => repeat (first | (with_reducible first | exact HB.out | apply zq | apply zn | apply zo | refine zi ?_ (IsF.ge HI0.out) | refine zi ?_ GE121.out | refine zi ?_ GE122.out | refine zi ?_ GE123.out | refine zi ?_ GE132.out | refine zi ?_ GE133.out) | exact HB.out)); rintro e w67 ⟨rfl, hi, hb, hk⟩; refine ⟨_, rfl, ?_⟩; have n0_ := zg.mk (zm.blk hk (g' := gb121) (o := .cells #[.int .i64 a1_0, .int .i64 a1_1, .int .i64 a1_2, .int .i64 a1_3] 25 (0, 0)) (by (with_reducible repeat (first | refine ze ?_ _ | refine zf ?_ | refine za ?_ _)); refine zk ?_ NB121_133.out _; (with_reducible repeat (first | refine ze ?_ _ | refine zf ?_ | refine za ?_ _)); refine zk ?_ NB121_133.out _; (with_reducible repeat (first | refine ze ?_ _ | refine zf ?_ | refine za ?_ _)); refine zk ?_ NB121_133.out _; (with_reducible repeat (first | refine ze ?_ _ | refine zf ?_ | refine za ?_ _)); refine zk ?_ NB121_133.out _; (with_reducible repeat (first | refine ze ?_ _ | refine zf ?_ | refine za ?_ _)); refine zk ?_ NB121_132.out _; (with_reducible repeat (first | refine ze ?_ _ | refine zf ?_ | refine za ?_ _)); refine zk ?_ NB121_132.out _; (with_reducible repeat (first | refine ze ?_ _ | refine zf ?_ | refine za ?_ _)); refine zk ?_ NB121_132.out _; (with_reducible repeat (first | refine ze ?_ _ | refine zf ?_ | refine za ?_ _)); refine zk ?_ NB121_132.out _; (with_reducible repeat (first | refine ze ?_ _ | refine zf ?_ | refine za ?_ _)); exact BK121.out) NB121_0.out (by simp)); have n1_ := zg.mk (zm.blk hk (g' := gb122) (o := .cells #[.int .i64 x123000_4, .int .i64 x123001_4, .int .i64 x123002_4, .int .i64 x123003_4] 25 (0, 0)) (by (with_reducible repeat (first | refine ze ?_ _ | refine zf ?_ | refine za ?_ _)); refine zk ?_ NB122_133.out _; (with_reducible repeat (first | refine ze ?_ _ | refine zf ?_ | refine za ?_ _)); refine zk ?_ NB122_133.out _; (with_reducible repeat (first | refine ze ?_ _ | refine zf ?_ | refine za ?_ _)); refine zk ?_ NB122_133.out _; (with_reducible repeat (first | refine ze ?_ _ | refine zf ?_ | refine za ?_ _)); refine zk ?_ NB122_133.out _; (with_reducible repeat (first | refine ze ?_ _ | refine zf ?_ | refine za ?_ _)); refine zk ?_ NB122_132.out _; (with_reducible repeat (first | refine ze ?_ _ | refine zf ?_ | refine za ?_ _)); refine zk ?_ NB122_132.out _; (with_reducible repeat (first | refine ze ?_ _ | refine zf ?_ | refine za ?_ _)); refine zk ?_ NB122_132.out _; (with_reducible repeat (first | refine ze ?_ _ | refine zf ?_ | refine za ?_ _)); refine zk ?_ NB122_132.out _; (with_reducible repeat (first | refine ze ?_ _ | refine zf ?_ | refine za ?_ _)); exact BK122.out) NB122_0.out (by simp)); have n2_ := zg.mk (zm.blk hk (g' := gb123) (o := .cells #[.int .i64 x124000_1, .int .i64 x124001_2, .int .i64 x124002_3, .int .i64 x124003_4] 25 (0, 0)) (by (with_reducible repeat (first | refine ze ?_ _ | refine zf ?_ | refine za ?_ _)); refine zk ?_ NB123_133.out _; (with_reducible repeat (first | refine ze ?_ _ | refine zf ?_ | refine za ?_ _)); refine zk ?_ NB123_133.out _; (with_reducible repeat (first | refine ze ?_ _ | refine zf ?_ | refine za ?_ _)); refine zk ?_ NB123_133.out _; (with_reducible repeat (first | refine ze ?_ _ | refine zf ?_ | refine za ?_ _)); refine zk ?_ NB123_133.out _; (with_reducible repeat (first | refine ze ?_ _ | refine zf ?_ | refine za ?_ _)); refine zk ?_ NB123_132.out _; (with_reducible repeat (first | refine ze ?_ _ | refine zf ?_ | refine za ?_ _)); refine zk ?_ NB123_132.out _; (with_reducible repeat (first | refine ze ?_ _ | refine zf ?_ | refine za ?_ _)); refine zk ?_ NB123_132.out _; (with_reducible repeat (first | refine ze ?_ _ | refine zf ?_ | refine za ?_ _)); refine zk ?_ NB123_132.out _; (with_reducible repeat (first | refine ze ?_ _ | refine zf ?_ | refine za ?_ _)); exact BK123.out) NB123_0.out (by simp)); have n3_ := zg.mk (zm.blk hk (g' := gb132) (o := .cells #[.int .i64 t124, .int .i64 t125, .int .i64 t126, .int .i64 t127] 25 (0, 0)) (by (with_reducible repeat (first | refine ze ?_ _ | refine zf ?_ | refine za ?_ _)); refine zk ?_ NB132_133.out _; (with_reducible repeat (first | refine ze ?_ _ | refine zf ?_ | refine za ?_ _)); refine zk ?_ NB132_133.out _; (with_reducible repeat (first | refine ze ?_ _ | refine zf ?_ | refine za ?_ _)); refine zk ?_ NB132_133.out _; (with_reducible repeat (first | refine ze ?_ _ | refine zf ?_ | refine za ?_ _)); refine zk ?_ NB132_133.out _; (with_reducible repeat (first | refine ze ?_ _ | refine zf ?_ | refine za ?_ _)); refine zy (cs := #[.int .i64 t124, .int .i64 t125, .int .i64 t126, .int .i64 0]) ?_ 3 _ rfl; (with_reducible repeat (first | refine ze ?_ _ | refine zf ?_ | refine za ?_ _)); refine zy (cs := #[.int .i64 t124, .int .i64 t125, .int .i64 0, .int .i64 0]) ?_ 2 _ rfl; (with_reducible repeat (first | refine ze ?_ _ | refine zf ?_ | refine za ?_ _)); refine zy (cs := #[.int .i64 t124, .int .i64 0, .int .i64 0, .int .i64 0]) ?_ 1 _ rfl; (with_reducible repeat (first | refine ze ?_ _ | refine zf ?_ | refine za ?_ _)); refine zy (cs := #[.int .i64 0, .int .i64 0, .int .i64 0, .int .i64 0]) ?_ 0 _ rfl; (with_reducible repeat (first | refine ze ?_ _ | refine zf ?_ | refine za ?_ _)); exact BK132.out) NB132_0.out (by simp)); have n4_ := zg.mk (zm.blk hk (g' := gb133) (o := .cells #[.int .i64 t128, .int .i64 t129, .int .i64 t130, .int .i64 t131] 25 (0, 0)) (by (with_reducible repeat (first | refine ze ?_ _ | refine zf ?_ | refine za ?_ _)); refine zy (cs := #[.int .i64 t128, .int .i64 t129, .int .i64 t130, .int .i64 0]) ?_ 3 _ rfl; (with_reducible repeat (first | refine ze ?_ _ | refine zf ?_ | refine za ?_ _)); refine zy (cs := #[.int .i64 t128, .int .i64 t129, .int .i64 0, .int .i64 0]) ?_ 2 _ rfl; (with_reducible repeat (first | refine ze ?_ _ | refine zf ?_ | refine za ?_ _)); refine zy (cs := #[.int .i64 t128, .int .i64 0, .int .i64 0, .int .i64 0]) ?_ 1 _ rfl; (with_reducible repeat (first | refine ze ?_ _ | refine zf ?_ | refine za ?_ _)); refine zy (cs := #[.int .i64 0, .int .i64 0, .int .i64 0, .int .i64 0]) ?_ 0 _ rfl; (with_reducible repeat (first | refine ze ?_ _ | refine zf ?_ | refine za ?_ _)); refine zk ?_ NB133_132.out _; (with_reducible repeat (first | refine ze ?_ _ | refine zf ?_ | refine za ?_ _)); refine zk ?_ NB133_132.out _; (with_reducible repeat (first | refine ze ?_ _ | refine zf ?_ | refine za ?_ _)); refine zk ?_ NB133_132.out _; (with_reducible repeat (first | refine ze ?_ _ | refine zf ?_ | refine za ?_ _)); refine zk ?_ NB133_132.out _; (with_reducible repeat (first | refine ze ?_ _ | refine zf ?_ | refine za ?_ _)); exact BK133.out) NB133_0.out (by simp)); have n5_ := zg.mk (zm.trans (by repeat (first | (with_reducible first | exact HK.out | apply zm.set_ | apply zr | apply zt | apply zs | refine zl ?_ GW121.out _ | refine zl ?_ GW122.out _ | refine zl ?_ GW123.out _ | refine zl ?_ GW132.out _ | refine zl ?_ GW133.out _) | exact HK.out)) hk (.inl rfl)); have n6_ := zg.mk (hb); have n7_ := zg.mk (hi); clear BK121; clear BK122; clear BK123; clear BK132; clear BK133; clear HK; clear HB; clear HI0; have BK121 := n0_; have BK122 := n1_; have BK123 := n2_; have BK132 := n3_; have BK133 := n4_; have HK := n5_; have HB := n6_; have HI0 := n7_; clear n0_ n1_ n2_ n3_ n4_ n5_ n6_ n7_; (try clear hb); (try clear hb2); (try clear hk); (try clear hi); have hnb68 := NB133_121.out; have hnc68 := NB121_133.out; have hnb69 := NB133_122.out; have hnc69 := NB122_133.out; have hnb70 := NB133_123.out; have hnc70 := NB123_133.out; have hnb71 := NB133_0.out; have hnc71 := NB0_133.out; have hcz72_0 : w67.cell? ⟨gb133, 0, none⟩ = some (.int .i64 t128) := (zh BK133.out 0).trans rfl; have hcz72_1 : w67.cell? ⟨gb133, 1, none⟩ = some (.int .i64 t129) := (zh BK133.out 1).trans rfl; have hcz72_2 : w67.cell? ⟨gb133, 2, none⟩ = some (.int .i64 t130) := (zh BK133.out 2).trans rfl; have hcz72_3 : w67.cell? ⟨gb133, 3, none⟩ = some (.int .i64 t131) := (zh BK133.out 3).trans rfl; have hfz72_0 := zj BK133.out 0; have hfz72_1 := zj BK133.out 1; have hfz72_2 := zj BK133.out 2; have hfz72_3 := zj BK133.out 3) | (go_at_call 8; (with_reducible refine (HCAN p0 g t135 s0_1 t128 t129 t130 t131 true t137 w0 _ ?side1 ?side2 A39.out).mono ?_); (case side1 => repeat (first | (with_reducible first | exact HI0.out | apply IsF.alloc | apply IsF.drewN | apply IsF.drew | refine IsF.far ?_ NB0_121.out (nelt HP.out GW121.out) _ | refine IsF.far ?_ NB0_122.out (nelt HP.out GW122.out) _ | refine IsF.far ?_ NB0_123.out (nelt HP.out GW123.out) _ | refine IsF.far ?_ NB0_132.out (nelt HP.out GW132.out) _ | refine IsF.far ?_ NB0_133.out (nelt HP.out GW133.out) _) | exact HI0.out)); (case side2 => repeat (first | (with_reducible first | exact HB.out | apply zq | apply zn | apply zo | refine zi ?_ (IsF.ge HI0.out) | refine zi ?_ GE121.out | refine zi ?_ GE122.out | refine zi ?_ GE123.out | refine zi ?_ GE132.out | refine zi ?_ GE133.out) | exact HB.out)); rintro e w73 ⟨rfl, hi, hb, hk⟩; have n0_ := zg.mk (zm.blk hk (g' := gb121) (o := .cells #[.int .i64 a1_0, .int .i64 a1_1, .int .i64 a1_2, .int .i64 a1_3] 25 (0, 0)) (by (with_reducible repeat (first | refine ze ?_ _ | refine zf ?_ | refine za ?_ _)); exact BK121.out) NB121_0.out (by simp)); have n1_ := zg.mk (zm.blk hk (g' := gb122) (o := .cells #[.int .i64 x123000_4, .int .i64 x123001_4, .int .i64 x123002_4, .int .i64 x123003_4] 25 (0, 0)) (by (with_reducible repeat (first | refine ze ?_ _ | refine zf ?_ | refine za ?_ _)); exact BK122.out) NB122_0.out (by simp)); have n2_ := zg.mk (zm.blk hk (g' := gb123) (o := .cells #[.int .i64 x124000_1, .int .i64 x124001_2, .int .i64 x124002_3, .int .i64 x124003_4] 25 (0, 0)) (by (with_reducible repeat (first | refine ze ?_ _ | refine zf ?_ | refine za ?_ _)); exact BK123.out) NB123_0.out (by simp)); have n3_ := zg.mk (zm.blk hk (g' := gb132) (o := .cells #[.int .i64 t124, .int .i64 t125, .int .i64 t126, .int .i64 t127] 25 (0, 0)) (by (with_reducible repeat (first | refine ze ?_ _ | refine zf ?_ | refine za ?_ _)); exact BK132.out) NB132_0.out (by simp)); have n4_ := zg.mk (zm.blk hk (g' := gb133) (o := .cells #[.int .i64 t128, .int .i64 t129, .int .i64 t130, .int .i64 t131] 25 (0, 0)) (by (with_reducible repeat (first | refine ze ?_ _ | refine zf ?_ | refine za ?_ _)); exact BK133.out) NB133_0.out (by simp)); have n5_ := zg.mk (zm.trans (by repeat (first | (with_reducible first | exact HK.out | apply zm.set_ | apply zr | apply zt | apply zs | refine zl ?_ GW121.out _ | refine zl ?_ GW122.out _ | refine zl ?_ GW123.out _ | refine zl ?_ GW132.out _ | refine zl ?_ GW133.out _) | exact HK.out)) hk (.inl rfl)); have n6_ := zg.mk (hb); have n7_ := zg.mk (hi); clear BK121; clear BK122; clear BK123; clear BK132; clear BK133; clear HK; clear HB; clear HI0; have BK121 := n0_; have BK122 := n1_; have BK123 := n2_; have BK132 := n3_; have BK133 := n4_; have HK := n5_; have HB := n6_; have HI0 := n7_; clear n0_ n1_ n2_ n3_ n4_ n5_ n6_ n7_; (try clear hb); (try clear hb2); (try clear hk); (try clear hi); have hcz74_0 : w73.cell? ⟨gb123, 0, none⟩ = some (.int .i64 x124000_1) := (zh BK123.out 0).trans rfl; have hcz74_1 : w73.cell? ⟨gb123, 1, none⟩ = some (.int .i64 x124001_2) := (zh BK123.out 1).trans rfl; have hcz74_2 : w73.cell? ⟨gb123, 2, none⟩ = some (.int .i64 x124002_3) := (zh BK123.out 2).trans rfl; have hcz74_3 : w73.cell? ⟨gb123, 3, none⟩ = some (.int .i64 x124003_4) := (zh BK123.out 3).trans rfl; have hfz74_0 := zj BK123.out 0; have hfz74_1 := zj BK123.out 1; have hfz74_2 := zj BK123.out 2; have hfz74_3 := zj BK123.out 3; have hnb75 := NB122_0.out; have hnc75 := NB0_122.out; have hcz76_0 : w73.cell? ⟨gb122, 0, none⟩ = some (.int .i64 x123000_4) := (zh BK122.out 0).trans rfl; have hcz76_1 : w73.cell? ⟨gb122, 1, none⟩ = some (.int .i64 x123001_4) := (zh BK122.out 1).trans rfl; have hcz76_2 : w73.cell? ⟨gb122, 2, none⟩ = some (.int .i64 x123002_4) := (zh BK122.out 2).trans rfl; have hcz76_3 : w73.cell? ⟨gb122, 3, none⟩ = some (.int .i64 x123003_4) := (zh BK122.out 3).trans rfl; have hfz76_0 := zj BK122.out 0; have hfz76_1 := zj BK122.out 1; have hfz76_2 := zj BK122.out 2; have hfz76_3 := zj BK122.out 3))
               refine bodyPost_ret (ztb rfl _ _ gb122 25 #[.int .i64 x124000_1, .int .i64 x124001_2, .int .i64 x124002_3, .int .i64 x124003_4] (0, 0) _ rfl (by (with_reducible repeat (first | refine ze ?_ _ | refine zf ?_ | refine za ?_ _)); refine zy (cs := #[.int .i64 x124000_1, .int .i64 x124001_2, .int .i64 x124002_3, .int .i64 x123003_4]) ?_ 3 _ rfl; (with_reducible repeat (first | refine ze ?_ _ | refine zf ?_ | refine za ?_ _)); refine zy (cs := #[.int .i64 x124000_1, .int .i64 x124001_2, .int .i64 x123002_4, .int .i64 x123003_4]) ?_ 2 _ rfl; (with_reducible repeat (first | refine ze ?_ _ | refine zf ?_ | refine za ?_ _)); refine zy (cs := #[.int .i64 x124000_1, .int .i64 x123001_4, .int .i64 x123002_4, .int .i64 x123003_4]) ?_ 1 _ rfl; (with_reducible repeat (first | refine ze ?_ _ | refine zf ?_ | refine za ?_ _)); refine zy (cs := #[.int .i64 x123000_4, .int .i64 x123001_4, .int .i64 x123002_4, .int .i64 x123003_4]) ?_ 0 _ rfl; (with_reducible repeat (first | refine ze ?_ _ | refine zf ?_ | refine za ?_ _)); exact BK122.out) Try.underlying25 rfl (by kernel_rfl)) rfl ?_
               exact ⟨by first | rfl | (simp [zca, zda] <;> rfl) | (simp [*, zca, zda] <;> rfl), by repeat (first | (with_reducible first | exact HI0.out | apply IsF.alloc | apply IsF.drewN | apply IsF.drew | refine IsF.far ?_ NB0_121.out (nelt HP.out GW121.out) _ | refine IsF.far ?_ NB0_122.out (nelt HP.out GW122.out) _ | refine IsF.far ?_ NB0_123.out (nelt HP.out GW123.out) _ | refine IsF.far ?_ NB0_132.out (nelt HP.out GW132.out) _ | refine IsF.far ?_ NB0_133.out (nelt HP.out GW133.out) _) | exact HI0.out), by repeat (first | (with_reducible first | exact HB.out | apply zq | apply zn | apply zo | refine zi ?_ (IsF.ge HI0.out) | refine zi ?_ GE121.out | refine zi ?_ GE122.out | refine zi ?_ GE123.out | refine zi ?_ GE132.out | refine zi ?_ GE133.out) | exact HB.out), by repeat (first | (with_reducible first | exact HK.out | apply zm.set_ | apply zr | apply zt | apply zs | refine zl ?_ GW121.out _ | refine zl ?_ GW122.out _ | refine zl ?_ GW123.out _ | refine zl ?_ GW132.out _ | refine zl ?_ GW133.out _) | exact HK.out)⟩
              ·replace c40 := Bool.eq_false_iff.mpr c40
               subst c40
               have H1 : (spec_l06Finder_first.l3 C k4 a2 t137 s0_1 a1_0 a1_1 a1_2 a1_3 x124000_1 x124001_2 x124002_3 (wrap64 (x124003_4 + 1))) = some (r1, r2, r3, r4, r5, r6) := by rw [if_neg (show ¬ (false = true) by decide)] at H; exact H
               clear H
               have H := H1
               clear H1
               have H' := zg.mk H
               clear H
               have hnb97 := NB132_121.out
               have hnc97 := NB121_132.out
               have hnb98 := NB132_122.out
               have hnc98 := NB122_132.out
               have hnb99 := NB132_123.out
               have hnc99 := NB123_132.out
               have hnb100 := NB132_133.out
               have hnc100 := NB133_132.out
               have hnb101 := NB132_0.out
               have hnc101 := NB0_132.out
               have hcz102_0 : w52.cell? ⟨gb132, 0, none⟩ = some (.int .i64 0) := (zh BK132.out 0).trans rfl
               have hcz102_1 : w52.cell? ⟨gb132, 1, none⟩ = some (.int .i64 0) := (zh BK132.out 1).trans rfl
               have hcz102_2 : w52.cell? ⟨gb132, 2, none⟩ = some (.int .i64 0) := (zh BK132.out 2).trans rfl
               have hcz102_3 : w52.cell? ⟨gb132, 3, none⟩ = some (.int .i64 0) := (zh BK132.out 3).trans rfl
               have hfz102_0 := zj BK132.out 0
               have hfz102_1 := zj BK132.out 1
               have hfz102_2 := zj BK132.out 2
               have hfz102_3 := zj BK132.out 3
               try go_wp2_with (first | ((with_reducible refine zha (f := 8) rfl ?_); refine zxb (some 66) rfl rfl Try.func8 (by kernel_rfl) rfl #[.pointer (some ⟨p0, 0, none⟩), .agg #[.int .i64 t124, .int .i64 t125, .int .i64 t126, .int .i64 t127], .int .i64 (wrap64 (a2 - 1))] rfl (by (try simp only [List.map_toArray, List.map_cons, List.map_nil]); first | done | rfl | (simp only [List.length_drop, List.length_take]; rfl)) ?_; (with_reducible refine (HCAN p0 g x1000_4 s0_1 t124 t125 t126 t127 true t135 w0 _ ?side1 ?side2 A37.out).mono ?_); (case side1 => repeat (first | (with_reducible first | exact HI0.out | apply IsF.alloc | apply IsF.drewN | apply IsF.drew | refine IsF.far ?_ NB0_121.out (nelt HP.out GW121.out) _ | refine IsF.far ?_ NB0_122.out (nelt HP.out GW122.out) _ | refine IsF.far ?_ NB0_123.out (nelt HP.out GW123.out) _ | refine IsF.far ?_ NB0_132.out (nelt HP.out GW132.out) _ | refine IsF.far ?_ NB0_133.out (nelt HP.out GW133.out) _) | exact HI0.out)); (case side2 => repeat (first | (with_reducible first | exact HB.out | apply zq | apply zn | apply zo | refine zi ?_ (IsF.ge HI0.out) | refine zi ?_ GE121.out | refine zi ?_ GE122.out | refine zi ?_ GE123.out | refine zi ?_ GE132.out | refine zi ?_ GE133.out) | exact HB.out)); rintro e w103 ⟨rfl, hi, hb, hk⟩; refine ⟨_, rfl, ?_⟩; have n0_ := zg.mk (zm.blk hk (g' := gb121) (o := .cells #[.int .i64 a1_0, .int .i64 a1_1, .int .i64 a1_2, .int .i64 a1_3] 25 (0, 0)) (by (with_reducible repeat (first | refine ze ?_ _ | refine zf ?_ | refine za ?_ _)); refine zk ?_ NB121_133.out _; (with_reducible repeat (first | refine ze ?_ _ | refine zf ?_ | refine za ?_ _)); refine zk ?_ NB121_133.out _; (with_reducible repeat (first | refine ze ?_ _ | refine zf ?_ | refine za ?_ _)); refine zk ?_ NB121_133.out _; (with_reducible repeat (first | refine ze ?_ _ | refine zf ?_ | refine za ?_ _)); refine zk ?_ NB121_133.out _; (with_reducible repeat (first | refine ze ?_ _ | refine zf ?_ | refine za ?_ _)); refine zk ?_ NB121_132.out _; (with_reducible repeat (first | refine ze ?_ _ | refine zf ?_ | refine za ?_ _)); refine zk ?_ NB121_132.out _; (with_reducible repeat (first | refine ze ?_ _ | refine zf ?_ | refine za ?_ _)); refine zk ?_ NB121_132.out _; (with_reducible repeat (first | refine ze ?_ _ | refine zf ?_ | refine za ?_ _)); refine zk ?_ NB121_132.out _; (with_reducible repeat (first | refine ze ?_ _ | refine zf ?_ | refine za ?_ _)); exact BK121.out) NB121_0.out (by simp)); have n1_ := zg.mk (zm.blk hk (g' := gb122) (o := .cells #[.int .i64 x123000_4, .int .i64 x123001_4, .int .i64 x123002_4, .int .i64 x123003_4] 25 (0, 0)) (by (with_reducible repeat (first | refine ze ?_ _ | refine zf ?_ | refine za ?_ _)); refine zk ?_ NB122_133.out _; (with_reducible repeat (first | refine ze ?_ _ | refine zf ?_ | refine za ?_ _)); refine zk ?_ NB122_133.out _; (with_reducible repeat (first | refine ze ?_ _ | refine zf ?_ | refine za ?_ _)); refine zk ?_ NB122_133.out _; (with_reducible repeat (first | refine ze ?_ _ | refine zf ?_ | refine za ?_ _)); refine zk ?_ NB122_133.out _; (with_reducible repeat (first | refine ze ?_ _ | refine zf ?_ | refine za ?_ _)); refine zk ?_ NB122_132.out _; (with_reducible repeat (first | refine ze ?_ _ | refine zf ?_ | refine za ?_ _)); refine zk ?_ NB122_132.out _; (with_reducible repeat (first | refine ze ?_ _ | refine zf ?_ | refine za ?_ _)); refine zk ?_ NB122_132.out _; (with_reducible repeat (first | refine ze ?_ _ | refine zf ?_ | refine za ?_ _)); refine zk ?_ NB122_132.out _; (with_reducible repeat (first | refine ze ?_ _ | refine zf ?_ | refine za ?_ _)); exact BK122.out) NB122_0.out (by simp)); have n2_ := zg.mk (zm.blk hk (g' := gb123) (o := .cells #[.int .i64 x124000_1, .int .i64 x124001_2, .int .i64 x124002_3, .int .i64 x124003_4] 25 (0, 0)) (by (with_reducible repeat (first | refine ze ?_ _ | refine zf ?_ | refine za ?_ _)); refine zk ?_ NB123_133.out _; (with_reducible repeat (first | refine ze ?_ _ | refine zf ?_ | refine za ?_ _)); refine zk ?_ NB123_133.out _; (with_reducible repeat (first | refine ze ?_ _ | refine zf ?_ | refine za ?_ _)); refine zk ?_ NB123_133.out _; (with_reducible repeat (first | refine ze ?_ _ | refine zf ?_ | refine za ?_ _)); refine zk ?_ NB123_133.out _; (with_reducible repeat (first | refine ze ?_ _ | refine zf ?_ | refine za ?_ _)); refine zk ?_ NB123_132.out _; (with_reducible repeat (first | refine ze ?_ _ | refine zf ?_ | refine za ?_ _)); refine zk ?_ NB123_132.out _; (with_reducible repeat (first | refine ze ?_ _ | refine zf ?_ | refine za ?_ _)); refine zk ?_ NB123_132.out _; (with_reducible repeat (first | refine ze ?_ _ | refine zf ?_ | refine za ?_ _)); refine zk ?_ NB123_132.out _; (with_reducible repeat (first | refine ze ?_ _ | refine zf ?_ | refine za ?_ _)); exact BK123.out) NB123_0.out (by simp)); have n3_ := zg.mk (zm.blk hk (g' := gb132) (o := .cells #[.int .i64 t124, .int .i64 t125, .int .i64 t126, .int .i64 t127] 25 (0, 0)) (by (with_reducible repeat (first | refine ze ?_ _ | refine zf ?_ | refine za ?_ _)); refine zk ?_ NB132_133.out _; (with_reducible repeat (first | refine ze ?_ _ | refine zf ?_ | refine za ?_ _)); refine zk ?_ NB132_133.out _; (with_reducible repeat (first | refine ze ?_ _ | refine zf ?_ | refine za ?_ _)); refine zk ?_ NB132_133.out _; (with_reducible repeat (first | refine ze ?_ _ | refine zf ?_ | refine za ?_ _)); refine zk ?_ NB132_133.out _; (with_reducible repeat (first | refine ze ?_ _ | refine zf ?_ | refine za ?_ _)); refine zy (cs := #[.int .i64 t124, .int .i64 t125, .int .i64 t126, .int .i64 0]) ?_ 3 _ rfl; (with_reducible repeat (first | refine ze ?_ _ | refine zf ?_ | refine za ?_ _)); refine zy (cs := #[.int .i64 t124, .int .i64 t125, .int .i64 0, .int .i64 0]) ?_ 2 _ rfl; (with_reducible repeat (first | refine ze ?_ _ | refine zf ?_ | refine za ?_ _)); refine zy (cs := #[.int .i64 t124, .int .i64 0, .int .i64 0, .int .i64 0]) ?_ 1 _ rfl; (with_reducible repeat (first | refine ze ?_ _ | refine zf ?_ | refine za ?_ _)); refine zy (cs := #[.int .i64 0, .int .i64 0, .int .i64 0, .int .i64 0]) ?_ 0 _ rfl; (with_reducible repeat (first | refine ze ?_ _ | refine zf ?_ | refine za ?_ _)); exact BK132.out) NB132_0.out (by simp)); have n4_ := zg.mk (zm.blk hk (g' := gb133) (o := .cells #[.int .i64 t128, .int .i64 t129, .int .i64 t130, .int .i64 t131] 25 (0, 0)) (by (with_reducible repeat (first | refine ze ?_ _ | refine zf ?_ | refine za ?_ _)); refine zy (cs := #[.int .i64 t128, .int .i64 t129, .int .i64 t130, .int .i64 0]) ?_ 3 _ rfl; (with_reducible repeat (first | refine ze ?_ _ | refine zf ?_ | refine za ?_ _)); refine zy (cs := #[.int .i64 t128, .int .i64 t129, .int .i64 0, .int .i64 0]) ?_ 2 _ rfl; (with_reducible repeat (first | refine ze ?_ _ | refine zf ?_ | refine za ?_ _)); refine zy (cs := #[.int .i64 t128, .int .i64 0, .int .i64 0, .int .i64 0]) ?_ 1 _ rfl; (with_reducible repeat (first | refine ze ?_ _ | refine zf ?_ | refine za ?_ _)); refine zy (cs := #[.int .i64 0, .int .i64 0, .int .i64 0, .int .i64 0]) ?_ 0 _ rfl; (with_reducible repeat (first | refine ze ?_ _ | refine zf ?_ | refine za ?_ _)); refine zk ?_ NB133_132.out _; (with_reducible repeat (first | refine ze ?_ _ | refine zf ?_ | refine za ?_ _)); refine zk ?_ NB133_132.out _; (with_reducible repeat (first | refine ze ?_ _ | refine zf ?_ | refine za ?_ _)); refine zk ?_ NB133_132.out _; (with_reducible repeat (first | refine ze ?_ _ | refine zf ?_ | refine za ?_ _)); refine zk ?_ NB133_132.out _; (with_reducible repeat (first | refine ze ?_ _ | refine zf ?_ | refine za ?_ _)); exact BK133.out) NB133_0.out (by simp)); have n5_ := zg.mk (zm.trans (by repeat (first | (with_reducible first | exact HK.out | apply zm.set_ | apply zr | apply zt | apply zs | refine zl ?_ GW121.out _ | refine zl ?_ GW122.out _ | refine zl ?_ GW123.out _ | refine zl ?_ GW132.out _ | refine zl ?_ GW133.out _) | exact HK.out)) hk (.inl rfl)); have n6_ := zg.mk (hb); have n7_ := zg.mk (hi); clear BK121; clear BK122; clear BK123; clear BK132; clear BK133; clear HK; clear HB; clear HI0; have BK121 := n0_; have BK122 := n1_; have BK123 := n2_; have BK132 := n3_; have BK133 := n4_; have HK := n5_; have HB := n6_; have HI0 := n7_; clear n0_ n1_ n2_ n3_ n4_ n5_ n6_ n7_; (try clear hb); (try clear hb2); (try clear hk); (try clear hi); have hnb104 := NB133_121.out; have hnc104 := NB121_133.out; have hnb105 := NB133_122.out; have hnc105 := NB122_133.out; have hnb106 := NB133_123.out; have hnc106 := NB123_133.out; have hnb107 := NB133_0.out; have hnc107 := NB0_133.out; have hcz108_0 : w103.cell? ⟨gb133, 0, none⟩ = some (.int .i64 t128) := (zh BK133.out 0).trans rfl; have hcz108_1 : w103.cell? ⟨gb133, 1, none⟩ = some (.int .i64 t129) := (zh BK133.out 1).trans rfl; have hcz108_2 : w103.cell? ⟨gb133, 2, none⟩ = some (.int .i64 t130) := (zh BK133.out 2).trans rfl; have hcz108_3 : w103.cell? ⟨gb133, 3, none⟩ = some (.int .i64 t131) := (zh BK133.out 3).trans rfl; have hfz108_0 := zj BK133.out 0; have hfz108_1 := zj BK133.out 1; have hfz108_2 := zj BK133.out 2; have hfz108_3 := zj BK133.out 3) | (go_at_call 8; (with_reducible refine (HCAN p0 g t135 s0_1 t128 t129 t130 t131 false t137 w0 _ ?side1 ?side2 A39.out).mono ?_); (case side1 => repeat (first | (with_reducible first | exact HI0.out | apply IsF.alloc | apply IsF.drewN | apply IsF.drew | refine IsF.far ?_ NB0_121.out (nelt HP.out GW121.out) _ | refine IsF.far ?_ NB0_122.out (nelt HP.out GW122.out) _ | refine IsF.far ?_ NB0_123.out (nelt HP.out GW123.out) _ | refine IsF.far ?_ NB0_132.out (nelt HP.out GW132.out) _ | refine IsF.far ?_ NB0_133.out (nelt HP.out GW133.out) _) | exact HI0.out)); (case side2 => repeat (first | (with_reducible first | exact HB.out | apply zq | apply zn | apply zo | refine zi ?_ (IsF.ge HI0.out) | refine zi ?_ GE121.out | refine zi ?_ GE122.out | refine zi ?_ GE123.out | refine zi ?_ GE132.out | refine zi ?_ GE133.out) | exact HB.out)); rintro e w109 ⟨rfl, hi, hb, hk⟩; have n0_ := zg.mk (zm.blk hk (g' := gb121) (o := .cells #[.int .i64 a1_0, .int .i64 a1_1, .int .i64 a1_2, .int .i64 a1_3] 25 (0, 0)) (by (with_reducible repeat (first | refine ze ?_ _ | refine zf ?_ | refine za ?_ _)); exact BK121.out) NB121_0.out (by simp)); have n1_ := zg.mk (zm.blk hk (g' := gb122) (o := .cells #[.int .i64 x123000_4, .int .i64 x123001_4, .int .i64 x123002_4, .int .i64 x123003_4] 25 (0, 0)) (by (with_reducible repeat (first | refine ze ?_ _ | refine zf ?_ | refine za ?_ _)); exact BK122.out) NB122_0.out (by simp)); have n2_ := zg.mk (zm.blk hk (g' := gb123) (o := .cells #[.int .i64 x124000_1, .int .i64 x124001_2, .int .i64 x124002_3, .int .i64 x124003_4] 25 (0, 0)) (by (with_reducible repeat (first | refine ze ?_ _ | refine zf ?_ | refine za ?_ _)); exact BK123.out) NB123_0.out (by simp)); have n3_ := zg.mk (zm.blk hk (g' := gb132) (o := .cells #[.int .i64 t124, .int .i64 t125, .int .i64 t126, .int .i64 t127] 25 (0, 0)) (by (with_reducible repeat (first | refine ze ?_ _ | refine zf ?_ | refine za ?_ _)); exact BK132.out) NB132_0.out (by simp)); have n4_ := zg.mk (zm.blk hk (g' := gb133) (o := .cells #[.int .i64 t128, .int .i64 t129, .int .i64 t130, .int .i64 t131] 25 (0, 0)) (by (with_reducible repeat (first | refine ze ?_ _ | refine zf ?_ | refine za ?_ _)); exact BK133.out) NB133_0.out (by simp)); have n5_ := zg.mk (zm.trans (by repeat (first | (with_reducible first | exact HK.out | apply zm.set_ | apply zr | apply zt | apply zs | refine zl ?_ GW121.out _ | refine zl ?_ GW122.out _ | refine zl ?_ GW123.out _ | refine zl ?_ GW132.out _ | refine zl ?_ GW133.out _) | exact HK.out)) hk (.inl rfl)); have n6_ := zg.mk (hb); have n7_ := zg.mk (hi); clear BK121; clear BK122; clear BK123; clear BK132; clear BK133; clear HK; clear HB; clear HI0; have BK121 := n0_; have BK122 := n1_; have BK123 := n2_; have BK132 := n3_; have BK133 := n4_; have HK := n5_; have HB := n6_; have HI0 := n7_; clear n0_ n1_ n2_ n3_ n4_ n5_ n6_ n7_; (try clear hb); (try clear hb2); (try clear hk); (try clear hi); have hcz110_0 : w109.cell? ⟨gb123, 0, none⟩ = some (.int .i64 x124000_1) := (zh BK123.out 0).trans rfl; have hcz110_1 : w109.cell? ⟨gb123, 1, none⟩ = some (.int .i64 x124001_2) := (zh BK123.out 1).trans rfl; have hcz110_2 : w109.cell? ⟨gb123, 2, none⟩ = some (.int .i64 x124002_3) := (zh BK123.out 2).trans rfl; have hcz110_3 : w109.cell? ⟨gb123, 3, none⟩ = some (.int .i64 x124003_4) := (zh BK123.out 3).trans rfl; have hfz110_0 := zj BK123.out 0; have hfz110_1 := zj BK123.out 1; have hfz110_2 := zj BK123.out 2; have hfz110_3 := zj BK123.out 3))
               go_roundg k4
               case measure => have := HK1.out; have := HK2.out; have := HK3.out; have := HK4.out; omega
               case rel => exact ⟨(t137), (x123000_4), (x123001_4), (x123002_4), (x123003_4), (wrap64 (x124003_4 + 1)), H', ⟨by have := HK1.out; have := HK2.out; have := HK3.out; have := HK4.out; omega⟩, ⟨by (with_reducible repeat (first | refine ze ?_ _ | refine zf ?_ | refine za ?_ _)); refine zk ?_ NB121_123.out _; (with_reducible repeat (first | refine ze ?_ _ | refine zf ?_ | refine za ?_ _)); exact BK121.out⟩, ⟨by (with_reducible repeat (first | refine ze ?_ _ | refine zf ?_ | refine za ?_ _)); refine zk ?_ NB122_123.out _; (with_reducible repeat (first | refine ze ?_ _ | refine zf ?_ | refine za ?_ _)); exact BK122.out⟩, ⟨by (with_reducible repeat (first | refine ze ?_ _ | refine zf ?_ | refine za ?_ _)); refine zy (cs := #[.int .i64 x124000_1, .int .i64 x124001_2, .int .i64 x124002_3, .int .i64 x124003_4]) ?_ 3 _ rfl; (with_reducible repeat (first | refine ze ?_ _ | refine zf ?_ | refine za ?_ _)); exact BK123.out⟩, ⟨by repeat (first | (with_reducible first | exact HI0.out | apply IsF.alloc | apply IsF.drewN | apply IsF.drew | refine IsF.far ?_ NB0_121.out (nelt HP.out GW121.out) _ | refine IsF.far ?_ NB0_122.out (nelt HP.out GW122.out) _ | refine IsF.far ?_ NB0_123.out (nelt HP.out GW123.out) _ | refine IsF.far ?_ NB0_132.out (nelt HP.out GW132.out) _ | refine IsF.far ?_ NB0_133.out (nelt HP.out GW133.out) _) | exact HI0.out)⟩, ⟨by repeat (first | (with_reducible first | exact HK.out | apply zm.set_ | apply zr | apply zt | apply zs | refine zl ?_ GW121.out _ | refine zl ?_ GW122.out _ | refine zl ?_ GW123.out _ | refine zl ?_ GW132.out _ | refine zl ?_ GW133.out _) | exact HK.out)⟩, ⟨by repeat (first | (with_reducible first | exact HB.out | apply zq | apply zn | apply zo | refine zi ?_ (IsF.ge HI0.out) | refine zi ?_ GE121.out | refine zi ?_ GE122.out | refine zi ?_ GE123.out | refine zi ?_ GE132.out | refine zi ?_ GE133.out) | exact HB.out)⟩⟩
             ·replace c38 := Bool.eq_false_iff.mpr c38
              subst c38
              have H1 : (spec_l06Finder_first.l3 C k4 a2 t135 s0_1 a1_0 a1_1 a1_2 a1_3 x124000_1 x124001_2 x124002_3 (wrap64 (x124003_4 + 1))) = some (r1, r2, r3, r4, r5, r6) := by rw [if_neg (show ¬ (false = true) by decide)] at H; exact H
              clear H
              have H := H1
              clear H1
              have H' := zg.mk H
              clear H
              have hnb131 := NB132_121.out
              have hnc131 := NB121_132.out
              have hnb132 := NB132_122.out
              have hnc132 := NB122_132.out
              have hnb133 := NB132_123.out
              have hnc133 := NB123_132.out
              have hnb134 := NB132_133.out
              have hnc134 := NB133_132.out
              have hnb135 := NB132_0.out
              have hnc135 := NB0_132.out
              have hcz136_0 : w52.cell? ⟨gb132, 0, none⟩ = some (.int .i64 0) := (zh BK132.out 0).trans rfl
              have hcz136_1 : w52.cell? ⟨gb132, 1, none⟩ = some (.int .i64 0) := (zh BK132.out 1).trans rfl
              have hcz136_2 : w52.cell? ⟨gb132, 2, none⟩ = some (.int .i64 0) := (zh BK132.out 2).trans rfl
              have hcz136_3 : w52.cell? ⟨gb132, 3, none⟩ = some (.int .i64 0) := (zh BK132.out 3).trans rfl
              have hfz136_0 := zj BK132.out 0
              have hfz136_1 := zj BK132.out 1
              have hfz136_2 := zj BK132.out 2
              have hfz136_3 := zj BK132.out 3
              try go_wp2_with (first | ((with_reducible refine zha (f := 8) rfl ?_); refine zxb (some 66) rfl rfl Try.func8 (by kernel_rfl) rfl #[.pointer (some ⟨p0, 0, none⟩), .agg #[.int .i64 t124, .int .i64 t125, .int .i64 t126, .int .i64 t127], .int .i64 (wrap64 (a2 - 1))] rfl (by (try simp only [List.map_toArray, List.map_cons, List.map_nil]); first | done | rfl | (simp only [List.length_drop, List.length_take]; rfl)) ?_; (with_reducible refine (HCAN p0 g x1000_4 s0_1 t124 t125 t126 t127 false t135 w0 _ ?side1 ?side2 A37.out).mono ?_); (case side1 => repeat (first | (with_reducible first | exact HI0.out | apply IsF.alloc | apply IsF.drewN | apply IsF.drew | refine IsF.far ?_ NB0_121.out (nelt HP.out GW121.out) _ | refine IsF.far ?_ NB0_122.out (nelt HP.out GW122.out) _ | refine IsF.far ?_ NB0_123.out (nelt HP.out GW123.out) _ | refine IsF.far ?_ NB0_132.out (nelt HP.out GW132.out) _ | refine IsF.far ?_ NB0_133.out (nelt HP.out GW133.out) _) | exact HI0.out)); (case side2 => repeat (first | (with_reducible first | exact HB.out | apply zq | apply zn | apply zo | refine zi ?_ (IsF.ge HI0.out) | refine zi ?_ GE121.out | refine zi ?_ GE122.out | refine zi ?_ GE123.out | refine zi ?_ GE132.out | refine zi ?_ GE133.out) | exact HB.out)); rintro e w137 ⟨rfl, hi, hb, hk⟩; refine ⟨_, rfl, ?_⟩; have n0_ := zg.mk (zm.blk hk (g' := gb121) (o := .cells #[.int .i64 a1_0, .int .i64 a1_1, .int .i64 a1_2, .int .i64 a1_3] 25 (0, 0)) (by (with_reducible repeat (first | refine ze ?_ _ | refine zf ?_ | refine za ?_ _)); refine zk ?_ NB121_133.out _; (with_reducible repeat (first | refine ze ?_ _ | refine zf ?_ | refine za ?_ _)); refine zk ?_ NB121_133.out _; (with_reducible repeat (first | refine ze ?_ _ | refine zf ?_ | refine za ?_ _)); refine zk ?_ NB121_133.out _; (with_reducible repeat (first | refine ze ?_ _ | refine zf ?_ | refine za ?_ _)); refine zk ?_ NB121_133.out _; (with_reducible repeat (first | refine ze ?_ _ | refine zf ?_ | refine za ?_ _)); refine zk ?_ NB121_132.out _; (with_reducible repeat (first | refine ze ?_ _ | refine zf ?_ | refine za ?_ _)); refine zk ?_ NB121_132.out _; (with_reducible repeat (first | refine ze ?_ _ | refine zf ?_ | refine za ?_ _)); refine zk ?_ NB121_132.out _; (with_reducible repeat (first | refine ze ?_ _ | refine zf ?_ | refine za ?_ _)); refine zk ?_ NB121_132.out _; (with_reducible repeat (first | refine ze ?_ _ | refine zf ?_ | refine za ?_ _)); exact BK121.out) NB121_0.out (by simp)); have n1_ := zg.mk (zm.blk hk (g' := gb122) (o := .cells #[.int .i64 x123000_4, .int .i64 x123001_4, .int .i64 x123002_4, .int .i64 x123003_4] 25 (0, 0)) (by (with_reducible repeat (first | refine ze ?_ _ | refine zf ?_ | refine za ?_ _)); refine zk ?_ NB122_133.out _; (with_reducible repeat (first | refine ze ?_ _ | refine zf ?_ | refine za ?_ _)); refine zk ?_ NB122_133.out _; (with_reducible repeat (first | refine ze ?_ _ | refine zf ?_ | refine za ?_ _)); refine zk ?_ NB122_133.out _; (with_reducible repeat (first | refine ze ?_ _ | refine zf ?_ | refine za ?_ _)); refine zk ?_ NB122_133.out _; (with_reducible repeat (first | refine ze ?_ _ | refine zf ?_ | refine za ?_ _)); refine zk ?_ NB122_132.out _; (with_reducible repeat (first | refine ze ?_ _ | refine zf ?_ | refine za ?_ _)); refine zk ?_ NB122_132.out _; (with_reducible repeat (first | refine ze ?_ _ | refine zf ?_ | refine za ?_ _)); refine zk ?_ NB122_132.out _; (with_reducible repeat (first | refine ze ?_ _ | refine zf ?_ | refine za ?_ _)); refine zk ?_ NB122_132.out _; (with_reducible repeat (first | refine ze ?_ _ | refine zf ?_ | refine za ?_ _)); exact BK122.out) NB122_0.out (by simp)); have n2_ := zg.mk (zm.blk hk (g' := gb123) (o := .cells #[.int .i64 x124000_1, .int .i64 x124001_2, .int .i64 x124002_3, .int .i64 x124003_4] 25 (0, 0)) (by (with_reducible repeat (first | refine ze ?_ _ | refine zf ?_ | refine za ?_ _)); refine zk ?_ NB123_133.out _; (with_reducible repeat (first | refine ze ?_ _ | refine zf ?_ | refine za ?_ _)); refine zk ?_ NB123_133.out _; (with_reducible repeat (first | refine ze ?_ _ | refine zf ?_ | refine za ?_ _)); refine zk ?_ NB123_133.out _; (with_reducible repeat (first | refine ze ?_ _ | refine zf ?_ | refine za ?_ _)); refine zk ?_ NB123_133.out _; (with_reducible repeat (first | refine ze ?_ _ | refine zf ?_ | refine za ?_ _)); refine zk ?_ NB123_132.out _; (with_reducible repeat (first | refine ze ?_ _ | refine zf ?_ | refine za ?_ _)); refine zk ?_ NB123_132.out _; (with_reducible repeat (first | refine ze ?_ _ | refine zf ?_ | refine za ?_ _)); refine zk ?_ NB123_132.out _; (with_reducible repeat (first | refine ze ?_ _ | refine zf ?_ | refine za ?_ _)); refine zk ?_ NB123_132.out _; (with_reducible repeat (first | refine ze ?_ _ | refine zf ?_ | refine za ?_ _)); exact BK123.out) NB123_0.out (by simp)); have n3_ := zg.mk (zm.blk hk (g' := gb132) (o := .cells #[.int .i64 t124, .int .i64 t125, .int .i64 t126, .int .i64 t127] 25 (0, 0)) (by (with_reducible repeat (first | refine ze ?_ _ | refine zf ?_ | refine za ?_ _)); refine zk ?_ NB132_133.out _; (with_reducible repeat (first | refine ze ?_ _ | refine zf ?_ | refine za ?_ _)); refine zk ?_ NB132_133.out _; (with_reducible repeat (first | refine ze ?_ _ | refine zf ?_ | refine za ?_ _)); refine zk ?_ NB132_133.out _; (with_reducible repeat (first | refine ze ?_ _ | refine zf ?_ | refine za ?_ _)); refine zk ?_ NB132_133.out _; (with_reducible repeat (first | refine ze ?_ _ | refine zf ?_ | refine za ?_ _)); refine zy (cs := #[.int .i64 t124, .int .i64 t125, .int .i64 t126, .int .i64 0]) ?_ 3 _ rfl; (with_reducible repeat (first | refine ze ?_ _ | refine zf ?_ | refine za ?_ _)); refine zy (cs := #[.int .i64 t124, .int .i64 t125, .int .i64 0, .int .i64 0]) ?_ 2 _ rfl; (with_reducible repeat (first | refine ze ?_ _ | refine zf ?_ | refine za ?_ _)); refine zy (cs := #[.int .i64 t124, .int .i64 0, .int .i64 0, .int .i64 0]) ?_ 1 _ rfl; (with_reducible repeat (first | refine ze ?_ _ | refine zf ?_ | refine za ?_ _)); refine zy (cs := #[.int .i64 0, .int .i64 0, .int .i64 0, .int .i64 0]) ?_ 0 _ rfl; (with_reducible repeat (first | refine ze ?_ _ | refine zf ?_ | refine za ?_ _)); exact BK132.out) NB132_0.out (by simp)); have n4_ := zg.mk (zm.blk hk (g' := gb133) (o := .cells #[.int .i64 t128, .int .i64 t129, .int .i64 t130, .int .i64 t131] 25 (0, 0)) (by (with_reducible repeat (first | refine ze ?_ _ | refine zf ?_ | refine za ?_ _)); refine zy (cs := #[.int .i64 t128, .int .i64 t129, .int .i64 t130, .int .i64 0]) ?_ 3 _ rfl; (with_reducible repeat (first | refine ze ?_ _ | refine zf ?_ | refine za ?_ _)); refine zy (cs := #[.int .i64 t128, .int .i64 t129, .int .i64 0, .int .i64 0]) ?_ 2 _ rfl; (with_reducible repeat (first | refine ze ?_ _ | refine zf ?_ | refine za ?_ _)); refine zy (cs := #[.int .i64 t128, .int .i64 0, .int .i64 0, .int .i64 0]) ?_ 1 _ rfl; (with_reducible repeat (first | refine ze ?_ _ | refine zf ?_ | refine za ?_ _)); refine zy (cs := #[.int .i64 0, .int .i64 0, .int .i64 0, .int .i64 0]) ?_ 0 _ rfl; (with_reducible repeat (first | refine ze ?_ _ | refine zf ?_ | refine za ?_ _)); refine zk ?_ NB133_132.out _; (with_reducible repeat (first | refine ze ?_ _ | refine zf ?_ | refine za ?_ _)); refine zk ?_ NB133_132.out _; (with_reducible repeat (first | refine ze ?_ _ | refine zf ?_ | refine za ?_ _)); refine zk ?_ NB133_132.out _; (with_reducible repeat (first | refine ze ?_ _ | refine zf ?_ | refine za ?_ _)); refine zk ?_ NB133_132.out _; (with_reducible repeat (first | refine ze ?_ _ | refine zf ?_ | refine za ?_ _)); exact BK133.out) NB133_0.out (by simp)); have n5_ := zg.mk (zm.trans (by repeat (first | (with_reducible first | exact HK.out | apply zm.set_ | apply zr | apply zt | apply zs | refine zl ?_ GW121.out _ | refine zl ?_ GW122.out _ | refine zl ?_ GW123.out _ | refine zl ?_ GW132.out _ | refine zl ?_ GW133.out _) | exact HK.out)) hk (.inl rfl)); have n6_ := zg.mk (hb); have n7_ := zg.mk (hi); clear BK121; clear BK122; clear BK123; clear BK132; clear BK133; clear HK; clear HB; clear HI0; have BK121 := n0_; have BK122 := n1_; have BK123 := n2_; have BK132 := n3_; have BK133 := n4_; have HK := n5_; have HB := n6_; have HI0 := n7_; clear n0_ n1_ n2_ n3_ n4_ n5_ n6_ n7_; (try clear hb); (try clear hb2); (try clear hk); (try clear hi); have hnb138 := NB123_133.out; have hnc138 := NB133_123.out; have hcz139_0 : w137.cell? ⟨gb123, 0, none⟩ = some (.int .i64 x124000_1) := (zh BK123.out 0).trans rfl; have hcz139_1 : w137.cell? ⟨gb123, 1, none⟩ = some (.int .i64 x124001_2) := (zh BK123.out 1).trans rfl; have hcz139_2 : w137.cell? ⟨gb123, 2, none⟩ = some (.int .i64 x124002_3) := (zh BK123.out 2).trans rfl; have hcz139_3 : w137.cell? ⟨gb123, 3, none⟩ = some (.int .i64 x124003_4) := (zh BK123.out 3).trans rfl; have hfz139_0 := zj BK123.out 0; have hfz139_1 := zj BK123.out 1; have hfz139_2 := zj BK123.out 2; have hfz139_3 := zj BK123.out 3))
              go_roundg k4
              case measure => have := HK1.out; have := HK2.out; have := HK3.out; have := HK4.out; omega
              case rel => exact ⟨(t135), (x123000_4), (x123001_4), (x123002_4), (x123003_4), (wrap64 (x124003_4 + 1)), H', ⟨by have := HK1.out; have := HK2.out; have := HK3.out; have := HK4.out; omega⟩, ⟨by (with_reducible repeat (first | refine ze ?_ _ | refine zf ?_ | refine za ?_ _)); refine zk ?_ NB121_123.out _; (with_reducible repeat (first | refine ze ?_ _ | refine zf ?_ | refine za ?_ _)); exact BK121.out⟩, ⟨by (with_reducible repeat (first | refine ze ?_ _ | refine zf ?_ | refine za ?_ _)); refine zk ?_ NB122_123.out _; (with_reducible repeat (first | refine ze ?_ _ | refine zf ?_ | refine za ?_ _)); exact BK122.out⟩, ⟨by (with_reducible repeat (first | refine ze ?_ _ | refine zf ?_ | refine za ?_ _)); refine zy (cs := #[.int .i64 x124000_1, .int .i64 x124001_2, .int .i64 x124002_3, .int .i64 x124003_4]) ?_ 3 _ rfl; (with_reducible repeat (first | refine ze ?_ _ | refine zf ?_ | refine za ?_ _)); exact BK123.out⟩, ⟨by repeat (first | (with_reducible first | exact HI0.out | apply IsF.alloc | apply IsF.drewN | apply IsF.drew | refine IsF.far ?_ NB0_121.out (nelt HP.out GW121.out) _ | refine IsF.far ?_ NB0_122.out (nelt HP.out GW122.out) _ | refine IsF.far ?_ NB0_123.out (nelt HP.out GW123.out) _ | refine IsF.far ?_ NB0_132.out (nelt HP.out GW132.out) _ | refine IsF.far ?_ NB0_133.out (nelt HP.out GW133.out) _) | exact HI0.out)⟩, ⟨by repeat (first | (with_reducible first | exact HK.out | apply zm.set_ | apply zr | apply zt | apply zs | refine zl ?_ GW121.out _ | refine zl ?_ GW122.out _ | refine zl ?_ GW123.out _ | refine zl ?_ GW132.out _ | refine zl ?_ GW133.out _) | exact HK.out)⟩, ⟨by repeat (first | (with_reducible first | exact HB.out | apply zq | apply zn | apply zo | refine zi ?_ (IsF.ge HI0.out) | refine zi ?_ GE121.out | refine zi ?_ GE122.out | refine zi ?_ GE123.out | refine zi ?_ GE132.out | refine zi ?_ GE133.out) | exact HB.out)⟩⟩
            ·rw [if_neg c35] at H
             have c35b0 : decide (x124003_4 ≤ a1_3) = false := decide_eq_false c35
             clear c35
             have H' := zg.mk H
             clear H
             have hnb140 := NB123_121.out
             have hnc140 := NB121_123.out
             have hnb141 := NB123_122.out
             have hnc141 := NB122_123.out
             have hnb142 := NB123_0.out
             have hnc142 := NB0_123.out
             have hcz143_0 : wr.cell? ⟨gb123, 0, none⟩ = some (.int .i64 x124000_1) := (zh BK123.out 0).trans rfl
             have hcz143_1 : wr.cell? ⟨gb123, 1, none⟩ = some (.int .i64 x124001_2) := (zh BK123.out 1).trans rfl
             have hcz143_2 : wr.cell? ⟨gb123, 2, none⟩ = some (.int .i64 x124002_3) := (zh BK123.out 2).trans rfl
             have hcz143_3 : wr.cell? ⟨gb123, 3, none⟩ = some (.int .i64 x124003_4) := (zh BK123.out 3).trans rfl
             have hfz143_0 := zj BK123.out 0
             have hfz143_1 := zj BK123.out 1
             have hfz143_2 := zj BK123.out 2
             have hfz143_3 := zj BK123.out 3
             have hnb144 := NB121_122.out
             have hnc144 := NB122_121.out
             have hnb145 := NB121_0.out
             have hnc145 := NB0_121.out
             have hcz146_0 : wr.cell? ⟨gb121, 0, none⟩ = some (.int .i64 a1_0) := (zh BK121.out 0).trans rfl
             have hcz146_1 : wr.cell? ⟨gb121, 1, none⟩ = some (.int .i64 a1_1) := (zh BK121.out 1).trans rfl
             have hcz146_2 : wr.cell? ⟨gb121, 2, none⟩ = some (.int .i64 a1_2) := (zh BK121.out 2).trans rfl
             have hcz146_3 : wr.cell? ⟨gb121, 3, none⟩ = some (.int .i64 a1_3) := (zh BK121.out 3).trans rfl
             have hfz146_0 := zj BK121.out 0
             have hfz146_1 := zj BK121.out 1
             have hfz146_2 := zj BK121.out 2
             have hfz146_3 := zj BK121.out 3
             go_wp2
             go_roundg k4
             case measure => have := HK1.out; have := HK2.out; have := HK3.out; have := HK4.out; omega
             case rel => exact ⟨(x1000_4), (x123000_4), (x123001_4), (x123002_4), (x123003_4), (wrap64 (x124002_3 + 1)), (x124003_4), H', ⟨by have := HK1.out; have := HK2.out; have := HK3.out; have := HK4.out; omega⟩, ⟨by (with_reducible repeat (first | refine ze ?_ _ | refine zf ?_ | refine za ?_ _)); refine zk ?_ NB121_123.out _; (with_reducible repeat (first | refine ze ?_ _ | refine zf ?_ | refine za ?_ _)); exact BK121.out⟩, ⟨by (with_reducible repeat (first | refine ze ?_ _ | refine zf ?_ | refine za ?_ _)); refine zk ?_ NB122_123.out _; (with_reducible repeat (first | refine ze ?_ _ | refine zf ?_ | refine za ?_ _)); exact BK122.out⟩, ⟨by (with_reducible repeat (first | refine ze ?_ _ | refine zf ?_ | refine za ?_ _)); refine zy (cs := #[.int .i64 x124000_1, .int .i64 x124001_2, .int .i64 x124002_3, .int .i64 x124003_4]) ?_ 2 _ rfl; (with_reducible repeat (first | refine ze ?_ _ | refine zf ?_ | refine za ?_ _)); exact BK123.out⟩, ⟨by repeat (first | (with_reducible first | exact HI0.out | apply IsF.alloc | apply IsF.drewN | apply IsF.drew | refine IsF.far ?_ NB0_121.out (nelt HP.out GW121.out) _ | refine IsF.far ?_ NB0_122.out (nelt HP.out GW122.out) _ | refine IsF.far ?_ NB0_123.out (nelt HP.out GW123.out) _) | exact HI0.out)⟩, ⟨by repeat (first | (with_reducible first | exact HK.out | apply zm.set_ | apply zr | apply zt | apply zs | refine zl ?_ GW121.out _ | refine zl ?_ GW122.out _ | refine zl ?_ GW123.out _) | exact HK.out)⟩, ⟨by repeat (first | (with_reducible first | exact HB.out | apply zq | apply zn | apply zo | refine zi ?_ (IsF.ge HI0.out) | refine zi ?_ GE121.out | refine zi ?_ GE122.out | refine zi ?_ GE123.out) | exact HB.out)⟩⟩
         ·rw [if_neg c27] at H
          have c27b0 : decide (x124002_3 ≤ a1_2) = false := decide_eq_false c27
          clear c27
          have H' := zg.mk H
          clear H
          have hnb147 := NB123_121.out
          have hnc147 := NB121_123.out
          have hnb148 := NB123_122.out
          have hnc148 := NB122_123.out
          have hnb149 := NB123_0.out
          have hnc149 := NB0_123.out
          have hcz150_0 : wr.cell? ⟨gb123, 0, none⟩ = some (.int .i64 x124000_1) := (zh BK123.out 0).trans rfl
          have hcz150_1 : wr.cell? ⟨gb123, 1, none⟩ = some (.int .i64 x124001_2) := (zh BK123.out 1).trans rfl
          have hcz150_2 : wr.cell? ⟨gb123, 2, none⟩ = some (.int .i64 x124002_3) := (zh BK123.out 2).trans rfl
          have hcz150_3 : wr.cell? ⟨gb123, 3, none⟩ = some (.int .i64 x124003_3) := (zh BK123.out 3).trans rfl
          have hfz150_0 := zj BK123.out 0
          have hfz150_1 := zj BK123.out 1
          have hfz150_2 := zj BK123.out 2
          have hfz150_3 := zj BK123.out 3
          have hnb151 := NB121_122.out
          have hnc151 := NB122_121.out
          have hnb152 := NB121_0.out
          have hnc152 := NB0_121.out
          have hcz153_0 : wr.cell? ⟨gb121, 0, none⟩ = some (.int .i64 a1_0) := (zh BK121.out 0).trans rfl
          have hcz153_1 : wr.cell? ⟨gb121, 1, none⟩ = some (.int .i64 a1_1) := (zh BK121.out 1).trans rfl
          have hcz153_2 : wr.cell? ⟨gb121, 2, none⟩ = some (.int .i64 a1_2) := (zh BK121.out 2).trans rfl
          have hcz153_3 : wr.cell? ⟨gb121, 3, none⟩ = some (.int .i64 a1_3) := (zh BK121.out 3).trans rfl
          have hfz153_0 := zj BK121.out 0
          have hfz153_1 := zj BK121.out 1
          have hfz153_2 := zj BK121.out 2
          have hfz153_3 := zj BK121.out 3
          go_wp2
          go_roundg k3
          case measure => have := HK1.out; have := HK2.out; have := HK3.out; omega
          case rel => exact ⟨(x1000_3), (x123000_3), (x123001_3), (x123002_3), (x123003_3), (wrap64 (x124001_2 + 1)), (x124002_3), (x124003_3), H', ⟨by have := HK1.out; have := HK2.out; have := HK3.out; omega⟩, ⟨by (with_reducible repeat (first | refine ze ?_ _ | refine zf ?_ | refine za ?_ _)); refine zk ?_ NB121_123.out _; (with_reducible repeat (first | refine ze ?_ _ | refine zf ?_ | refine za ?_ _)); exact BK121.out⟩, ⟨by (with_reducible repeat (first | refine ze ?_ _ | refine zf ?_ | refine za ?_ _)); refine zk ?_ NB122_123.out _; (with_reducible repeat (first | refine ze ?_ _ | refine zf ?_ | refine za ?_ _)); exact BK122.out⟩, ⟨by (with_reducible repeat (first | refine ze ?_ _ | refine zf ?_ | refine za ?_ _)); refine zy (cs := #[.int .i64 x124000_1, .int .i64 x124001_2, .int .i64 x124002_3, .int .i64 x124003_3]) ?_ 1 _ rfl; (with_reducible repeat (first | refine ze ?_ _ | refine zf ?_ | refine za ?_ _)); exact BK123.out⟩, ⟨by repeat (first | (with_reducible first | exact HI0.out | apply IsF.alloc | apply IsF.drewN | apply IsF.drew | refine IsF.far ?_ NB0_121.out (nelt HP.out GW121.out) _ | refine IsF.far ?_ NB0_122.out (nelt HP.out GW122.out) _ | refine IsF.far ?_ NB0_123.out (nelt HP.out GW123.out) _) | exact HI0.out)⟩, ⟨by repeat (first | (with_reducible first | exact HK.out | apply zm.set_ | apply zr | apply zt | apply zs | refine zl ?_ GW121.out _ | refine zl ?_ GW122.out _ | refine zl ?_ GW123.out _) | exact HK.out)⟩, ⟨by repeat (first | (with_reducible first | exact HB.out | apply zq | apply zn | apply zo | refine zi ?_ (IsF.ge HI0.out) | refine zi ?_ GE121.out | refine zi ?_ GE122.out | refine zi ?_ GE123.out) | exact HB.out)⟩⟩
      ·rw [if_neg c19] at H
       have c19b0 : decide (x124001_2 ≤ a1_1) = false := decide_eq_false c19
       clear c19
       have H' := zg.mk H
       clear H
       have hnb154 := NB123_121.out
       have hnc154 := NB121_123.out
       have hnb155 := NB123_122.out
       have hnc155 := NB122_123.out
       have hnb156 := NB123_0.out
       have hnc156 := NB0_123.out
       have hcz157_0 : wr.cell? ⟨gb123, 0, none⟩ = some (.int .i64 x124000_1) := (zh BK123.out 0).trans rfl
       have hcz157_1 : wr.cell? ⟨gb123, 1, none⟩ = some (.int .i64 x124001_2) := (zh BK123.out 1).trans rfl
       have hcz157_2 : wr.cell? ⟨gb123, 2, none⟩ = some (.int .i64 x124002_2) := (zh BK123.out 2).trans rfl
       have hcz157_3 : wr.cell? ⟨gb123, 3, none⟩ = some (.int .i64 x124003_2) := (zh BK123.out 3).trans rfl
       have hfz157_0 := zj BK123.out 0
       have hfz157_1 := zj BK123.out 1
       have hfz157_2 := zj BK123.out 2
       have hfz157_3 := zj BK123.out 3
       have hnb158 := NB121_122.out
       have hnc158 := NB122_121.out
       have hnb159 := NB121_0.out
       have hnc159 := NB0_121.out
       have hcz160_0 : wr.cell? ⟨gb121, 0, none⟩ = some (.int .i64 a1_0) := (zh BK121.out 0).trans rfl
       have hcz160_1 : wr.cell? ⟨gb121, 1, none⟩ = some (.int .i64 a1_1) := (zh BK121.out 1).trans rfl
       have hcz160_2 : wr.cell? ⟨gb121, 2, none⟩ = some (.int .i64 a1_2) := (zh BK121.out 2).trans rfl
       have hcz160_3 : wr.cell? ⟨gb121, 3, none⟩ = some (.int .i64 a1_3) := (zh BK121.out 3).trans rfl
       have hfz160_0 := zj BK121.out 0
       have hfz160_1 := zj BK121.out 1
       have hfz160_2 := zj BK121.out 2
       have hfz160_3 := zj BK121.out 3
       go_wp2
       go_roundg k2
       case measure => have := HK1.out; have := HK2.out; omega
       case rel => exact ⟨(x1000_2), (x123000_2), (x123001_2), (x123002_2), (x123003_2), (wrap64 (x124000_1 + 1)), (x124001_2), (x124002_2), (x124003_2), H', ⟨by have := HK1.out; have := HK2.out; omega⟩, ⟨by (with_reducible repeat (first | refine ze ?_ _ | refine zf ?_ | refine za ?_ _)); refine zk ?_ NB121_123.out _; (with_reducible repeat (first | refine ze ?_ _ | refine zf ?_ | refine za ?_ _)); exact BK121.out⟩, ⟨by (with_reducible repeat (first | refine ze ?_ _ | refine zf ?_ | refine za ?_ _)); refine zk ?_ NB122_123.out _; (with_reducible repeat (first | refine ze ?_ _ | refine zf ?_ | refine za ?_ _)); exact BK122.out⟩, ⟨by (with_reducible repeat (first | refine ze ?_ _ | refine zf ?_ | refine za ?_ _)); refine zy (cs := #[.int .i64 x124000_1, .int .i64 x124001_2, .int .i64 x124002_2, .int .i64 x124003_2]) ?_ 0 _ rfl; (with_reducible repeat (first | refine ze ?_ _ | refine zf ?_ | refine za ?_ _)); exact BK123.out⟩, ⟨by repeat (first | (with_reducible first | exact HI0.out | apply IsF.alloc | apply IsF.drewN | apply IsF.drew | refine IsF.far ?_ NB0_121.out (nelt HP.out GW121.out) _ | refine IsF.far ?_ NB0_122.out (nelt HP.out GW122.out) _ | refine IsF.far ?_ NB0_123.out (nelt HP.out GW123.out) _) | exact HI0.out)⟩, ⟨by repeat (first | (with_reducible first | exact HK.out | apply zm.set_ | apply zr | apply zt | apply zs | refine zl ?_ GW121.out _ | refine zl ?_ GW122.out _ | refine zl ?_ GW123.out _) | exact HK.out)⟩, ⟨by repeat (first | (with_reducible first | exact HB.out | apply zq | apply zn | apply zo | refine zi ?_ (IsF.ge HI0.out) | refine zi ?_ GE121.out | refine zi ?_ GE122.out | refine zi ?_ GE123.out) | exact HB.out)⟩⟩
   ·rw [if_neg c11] at H
    have c11b0 : decide (x124000_1 ≤ a1_0) = false := decide_eq_false c11
    clear c11
    simp only [Option.some.injEq, Prod.mk.injEq] at H
    obtain ⟨rfl, rfl, rfl, rfl, rfl, rfl⟩ := H
    have hnb161 := NB123_121.out
    have hnc161 := NB121_123.out
    have hnb162 := NB123_122.out
    have hnc162 := NB122_123.out
    have hnb163 := NB123_0.out
    have hnc163 := NB0_123.out
    have hcz164_0 : wr.cell? ⟨gb123, 0, none⟩ = some (.int .i64 x124000_1) := (zh BK123.out 0).trans rfl
    have hcz164_1 : wr.cell? ⟨gb123, 1, none⟩ = some (.int .i64 x124001_1) := (zh BK123.out 1).trans rfl
    have hcz164_2 : wr.cell? ⟨gb123, 2, none⟩ = some (.int .i64 x124002_1) := (zh BK123.out 2).trans rfl
    have hcz164_3 : wr.cell? ⟨gb123, 3, none⟩ = some (.int .i64 x124003_1) := (zh BK123.out 3).trans rfl
    have hfz164_0 := zj BK123.out 0
    have hfz164_1 := zj BK123.out 1
    have hfz164_2 := zj BK123.out 2
    have hfz164_3 := zj BK123.out 3
    have hnb165 := NB121_122.out
    have hnc165 := NB122_121.out
    have hnb166 := NB121_0.out
    have hnc166 := NB0_121.out
    have hcz167_0 : wr.cell? ⟨gb121, 0, none⟩ = some (.int .i64 a1_0) := (zh BK121.out 0).trans rfl
    have hcz167_1 : wr.cell? ⟨gb121, 1, none⟩ = some (.int .i64 a1_1) := (zh BK121.out 1).trans rfl
    have hcz167_2 : wr.cell? ⟨gb121, 2, none⟩ = some (.int .i64 a1_2) := (zh BK121.out 2).trans rfl
    have hcz167_3 : wr.cell? ⟨gb121, 3, none⟩ = some (.int .i64 a1_3) := (zh BK121.out 3).trans rfl
    have hfz167_0 := zj BK121.out 0
    have hfz167_1 := zj BK121.out 1
    have hfz167_2 := zj BK121.out 2
    have hfz167_3 := zj BK121.out 3
    have hnb168 := NB122_0.out
    have hnc168 := NB0_122.out
    have hcz169_0 : wr.cell? ⟨gb122, 0, none⟩ = some (.int .i64 x123000_1) := (zh BK122.out 0).trans rfl
    have hcz169_1 : wr.cell? ⟨gb122, 1, none⟩ = some (.int .i64 x123001_1) := (zh BK122.out 1).trans rfl
    have hcz169_2 : wr.cell? ⟨gb122, 2, none⟩ = some (.int .i64 x123002_1) := (zh BK122.out 2).trans rfl
    have hcz169_3 : wr.cell? ⟨gb122, 3, none⟩ = some (.int .i64 x123003_1) := (zh BK122.out 3).trans rfl
    have hfz169_0 := zj BK122.out 0
    have hfz169_1 := zj BK122.out 1
    have hfz169_2 := zj BK122.out 2
    have hfz169_3 := zj BK122.out 3
    go_wp2
    refine bodyPost_ret (ztb rfl _ _ gb122 25 #[.int .i64 0, .int .i64 0, .int .i64 0, .int .i64 0] (0, 0) _ rfl (by (with_reducible repeat (first | refine ze ?_ _ | refine zf ?_ | refine za ?_ _)); refine zy (cs := #[.int .i64 0, .int .i64 0, .int .i64 0, .int .i64 x123003_1]) ?_ 3 _ rfl; (with_reducible repeat (first | refine ze ?_ _ | refine zf ?_ | refine za ?_ _)); refine zy (cs := #[.int .i64 0, .int .i64 0, .int .i64 x123002_1, .int .i64 x123003_1]) ?_ 2 _ rfl; (with_reducible repeat (first | refine ze ?_ _ | refine zf ?_ | refine za ?_ _)); refine zy (cs := #[.int .i64 0, .int .i64 x123001_1, .int .i64 x123002_1, .int .i64 x123003_1]) ?_ 1 _ rfl; (with_reducible repeat (first | refine ze ?_ _ | refine zf ?_ | refine za ?_ _)); refine zy (cs := #[.int .i64 x123000_1, .int .i64 x123001_1, .int .i64 x123002_1, .int .i64 x123003_1]) ?_ 0 _ rfl; (with_reducible repeat (first | refine ze ?_ _ | refine zf ?_ | refine za ?_ _)); exact BK122.out) Try.underlying25 rfl (by kernel_rfl)) rfl ?_
    exact ⟨by first | rfl | (simp [zca, zda] <;> rfl) | (simp [*, zca, zda] <;> rfl), by repeat (first | (with_reducible first | exact HI0.out | apply IsF.alloc | apply IsF.drewN | apply IsF.drew | refine IsF.far ?_ NB0_121.out (nelt HP.out GW121.out) _ | refine IsF.far ?_ NB0_122.out (nelt HP.out GW122.out) _ | refine IsF.far ?_ NB0_123.out (nelt HP.out GW123.out) _) | exact HI0.out), by repeat (first | (with_reducible first | exact HB.out | apply zq | apply zn | apply zo | refine zi ?_ (IsF.ge HI0.out) | refine zi ?_ GE121.out | refine zi ?_ GE122.out | refine zi ?_ GE123.out) | exact HB.out), by repeat (first | (with_reducible first | exact HK.out | apply zm.set_ | apply zr | apply zt | apply zs | refine zl ?_ GW121.out _ | refine zl ?_ GW122.out _ | refine zl ?_ GW123.out _) | exact HK.out)⟩

end Go.Proofs.Ytgcbhknpfpgffaa.C
