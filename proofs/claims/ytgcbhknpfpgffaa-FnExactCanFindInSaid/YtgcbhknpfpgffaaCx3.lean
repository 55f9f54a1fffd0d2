-- Written by wip/tools/myprint.py, a program of this session, by way of the kit's print.
import Derived.Test.YtgcbhknpfpgffaaCx0
import Derived.Test.YtgcbhknpfpgffaaLPrC
namespace Go.Proofs.Ytgcbhknpfpgffaa.C
open Go.RowKit Go.Proofs.YtgcbhknpfpgffaaW.PrintWords Go.Proofs.YtgcbhknpfpgffaaW.PrintLast Go.Proofs.YtgcbhknpfpgffaaW.PrintMore
attribute [local go_sem] wl_0 wl_1 wl_2 wl_3 wl_4 zdb zcb zkb zjb zva zwa zbb zab   -- for this text's walks alone
set_option linter.unusedVariables false
set_option linter.unusedSimpArgs false

/-! ### spec_l06Split: function 23 -/
def spec_l06Split.l0 : Nat → Int → Int → Int → Int → Int → Int → Int → Int → Int → Int → Int → Int → Int → Int → Int → Int → Int → Int → Option (Int × Int × Int × Int × Int × Int × Int × Int)
 | 0, _, _, _, _, _, _, _, _, _, _, _, _, _, _, _, _, _, _ => none
 | k + 1, x0, x10, x116000, x116001, x116002, x116003, x117000, x117001, x117002, x117003, x120000, x120001, x120002, x120003, x121000, x121001, x121002, x121003 => if x10 ≤ x0 then (if x10 = 0 then (if 0 < x0 then (spec_l06Split.l0 k x0 (0 + 1) x116000 x116001 x116002 x116003 x117000 x117001 x117002 x117003 (wrap64 (x120000 + x117000)) (wrap64 (x120001 + (wrap64 (x116000 - x117000)))) x120002 x120003 (wrap64 (x121000 + (wrap64 (x116000 - x117000)))) (wrap64 (x121001 + x117000)) x121002 x121003) else (spec_l06Split.l0 k x0 (0 + 1) x116000 x116001 x116002 x116003 x117000 x117001 x117002 x117003 (wrap64 (x120000 + x117000)) x120001 x120002 x120003 (wrap64 (x121000 + (wrap64 (x116000 - x117000)))) x121001 x121002 x121003)) else (if x10 = 1 then (if 1 < x0 then (spec_l06Split.l0 k x0 (1 + 1) x116000 x116001 x116002 x116003 x117000 x117001 x117002 x117003 x120000 (wrap64 (x120001 + x117001)) (wrap64 (x120002 + (wrap64 (x116001 - x117001)))) x120003 x121000 (wrap64 (x121001 + (wrap64 (x116001 - x117001)))) (wrap64 (x121002 + x117001)) x121003) else (spec_l06Split.l0 k x0 (1 + 1) x116000 x116001 x116002 x116003 x117000 x117001 x117002 x117003 x120000 (wrap64 (x120001 + x117001)) x120002 x120003 x121000 (wrap64 (x121001 + (wrap64 (x116001 - x117001)))) x121002 x121003)) else (if x10 = 2 then (if 2 < x0 then (spec_l06Split.l0 k x0 (2 + 1) x116000 x116001 x116002 x116003 x117000 x117001 x117002 x117003 x120000 x120001 (wrap64 (x120002 + x117002)) (wrap64 (x120003 + (wrap64 (x116002 - x117002)))) x121000 x121001 (wrap64 (x121002 + (wrap64 (x116002 - x117002)))) (wrap64 (x121003 + x117002))) else (spec_l06Split.l0 k x0 (2 + 1) x116000 x116001 x116002 x116003 x117000 x117001 x117002 x117003 x120000 x120001 (wrap64 (x120002 + x117002)) x120003 x121000 x121001 (wrap64 (x121002 + (wrap64 (x116002 - x117002)))) x121003)) else (if x10 = 3 then (if 3 < x0 then (none) else (spec_l06Split.l0 k x0 (3 + 1) x116000 x116001 x116002 x116003 x117000 x117001 x117002 x117003 x120000 x120001 x120002 (wrap64 (x120003 + x117003)) x121000 x121001 x121002 (wrap64 (x121003 + (wrap64 (x116003 - x117003)))))) else (none))))) else (some (x120000, x120001, x120002, x120003, x121000, x121001, x121002, x121003))
def spec_l06Split.f (k : Nat) (a0 : Int) (a1_0 : Int) (a1_1 : Int) (a1_2 : Int) (a1_3 : Int) (a2_0 : Int) (a2_1 : Int) (a2_2 : Int) (a2_3 : Int) : Option (Int × Int × Int × Int × Int × Int × Int × Int) := spec_l06Split.l0 k a0 0 a1_0 a1_1 a1_2 a1_3 a2_0 a2_1 a2_2 a2_3 0 0 0 0 0 0 0 0
def spec_l06Split.T6 : Bool × List (List Nat × List Nat) := (true, [([], []), ([0], [0]), ([1], [1]), ([], []), ([3], [3]), ([4], [4]), ([2, 5], [2, 5]), ([0, 0, 1, 2, 3, 4, 5, 6], [0]), ([7, 6, 0, 1, 2, 3, 4, 5, 6], [6, 7])])
def spec_l06Split.B6 : List Nat := [0, 1, 3, 0, 8, 24, 63, 127, 255]
theorem spec_l06Split.tab6 : rtab .any (zzc Try.f23 6) = spec_l06Split.T6 := by kernel_rfl
theorem spec_l06Split.bits6 : znb spec_l06Split.T6.2 spec_l06Split.B6 = true := by kernel_rfl
def spec_l06Split.T7 : Bool × List (List Nat × List Nat) := (true, [([], []), ([0], [0]), ([1], [1]), ([], []), ([3], [3]), ([4], [4]), ([], []), ([6], [6]), ([7], [7]), ([5, 8], [5, 8]), ([2, 9], [2, 9]), ([0, 0, 1, 2, 3, 4, 5, 6, 7, 8, 9, 10], [0]), ([11, 10, 0, 1, 2, 3, 4, 5, 6, 7, 8, 9, 10], [10, 11])])
def spec_l06Split.B7 : List Nat := [0, 1, 3, 0, 8, 24, 0, 64, 192, 504, 1023, 2047, 4095]
theorem spec_l06Split.tab7 : rtab .any (zzc Try.f23 7) = spec_l06Split.T7 := by kernel_rfl
theorem spec_l06Split.bits7 : znb spec_l06Split.T7.2 spec_l06Split.B7 = true := by kernel_rfl
def spec_l06Split.T9 : Bool × List (List Nat × List Nat) := (true, [([], []), ([0], [0]), ([1], [1]), ([2], [2]), ([], []), ([4], [4]), ([5], [5]), ([], []), ([7], [7]), ([8], [8]), ([6, 9], [6, 9]), ([3, 10], [3, 10]), ([1, 0, 1, 2, 3, 4, 5, 6, 7, 8, 9, 10, 11], [1]), ([12, 11, 0, 1, 2, 3, 4, 5, 6, 7, 8, 9, 10, 11], [11, 12])])
def spec_l06Split.B9 : List Nat := [0, 1, 3, 7, 0, 16, 48, 0, 128, 384, 1008, 2047, 4095, 8191]
theorem spec_l06Split.tab9 : rtab .any (zzc Try.f23 9) = spec_l06Split.T9 := by kernel_rfl
theorem spec_l06Split.bits9 : znb spec_l06Split.T9.2 spec_l06Split.B9 = true := by kernel_rfl
def spec_l06Split.T10 : Bool × List (List Nat × List Nat) := (true, [([], []), ([0], [0]), ([1], [1]), ([2], [2]), ([], []), ([4], [4]), ([5], [5]), ([3, 6], [3, 6]), ([1, 0, 1, 2, 3, 4, 5, 6, 7], [1]), ([8, 7, 0, 1, 2, 3, 4, 5, 6, 7], [7, 8])])
def spec_l06Split.B10 : List Nat := [0, 1, 3, 7, 0, 16, 48, 127, 255, 511]
theorem spec_l06Split.tab10 : rtab .any (zzc Try.f23 10) = spec_l06Split.T10 := by kernel_rfl
theorem spec_l06Split.bits10 : znb spec_l06Split.T10.2 spec_l06Split.B10 = true := by kernel_rfl
set_option maxHeartbeats 8000000 in
set_option maxRecDepth 100000 in
theorem spec_l06Split.calls (k : Nat) (a0 : Int) (a1_0 : Int) (a1_1 : Int) (a1_2 : Int) (a1_3 : Int) (a2_0 : Int) (a2_1 : Int) (a2_2 : Int) (a2_3 : Int) (r1 : Int) (r2 : Int) (r3 : Int) (r4 : Int) (r5 : Int) (r6 : Int) (r7 : Int) (r8 : Int) (w : World) (h : spec_l06Split.f k a0 a1_0 a1_1 a1_2 a1_3 a2_0 a2_1 a2_2 a2_3 = some (r1, r2, r3, r4, r5, r6, r7, r8)) :
  Calls Try.prog 23 #[.int .i64 a0, .agg #[.int .i64 a1_0, .int .i64 a1_1, .int .i64 a1_2, .int .i64 a1_3], .agg #[.int .i64 a2_0, .int .i64 a2_1, .int .i64 a2_2, .int .i64 a2_3]] w fun e w' => e = .returned (.tuple #[.agg #[.int .i64 r1, .int .i64 r2, .int .i64 r3, .int .i64 r4], .agg #[.int .i64 r5, .int .i64 r6, .int .i64 r7, .int .i64 r8]]) ∧ Below w.heap.size w w' := by
 have hu25 := Try.underlying25
 have HB := zg.mk (Below.refl w.heap.size w)
 have H : (spec_l06Split.l0 k a0 0 a1_0 a1_1 a1_2 a1_3 a2_0 a2_1 a2_2 a2_3 0 0 0 0 0 0 0 0) = some (r1, r2, r3, r4, r5, r6, r7, r8) := h
 clear h
 have H' := zg.mk H
 clear H
 go_enter Try.func23, Try.ntmps23
 go_wp2_with (first | ((with_reducible refine zga (N := 4) rfl ?_); refine bx (N := 4) #[.int .i64 a1_0, .int .i64 a1_1, .int .i64 a1_2, .int .i64 a1_3] 25 rfl ?_; intro gb115 hg w4 hbox hb; have BK115 := zg.mk hbox; have GW115 := gB hg; have GE115 := GW115; replace HB := zg.mk (zx sB hb); clear hb hbox hg) | ((with_reducible refine zga (N := 5) rfl ?_); refine bx (N := 5) #[.int .i64 a2_0, .int .i64 a2_1, .int .i64 a2_2, .int .i64 a2_3] 25 rfl ?_; intro gb116 hg w5 hbox hb; have BK116 := zg.mk hbox; have GW116 := gB hg; have GE116 := GW116; have NB115_116 := nK hg BK115; have NB116_115 := zg.mk NB115_116.out.symm; replace BK115 := dK BK115 hb; replace HB := zg.mk (zx sB hb); clear hb hbox hg) | ((with_reducible refine zga (N := 6) rfl ?_); refine bx (N := 6) #[.int .i64 0, .int .i64 0, .int .i64 0, .int .i64 0] 25 rfl ?_; intro gb117 hg w6 hbox hb; have BK117 := zg.mk hbox; have GW117 := gB hg; have GE117 := GW117; have NB115_117 := nK hg BK115; have NB117_115 := zg.mk NB115_117.out.symm; have NB116_117 := nK hg BK116; have NB117_116 := zg.mk NB116_117.out.symm; replace BK115 := dK BK115 hb; replace BK116 := dK BK116 hb; replace HB := zg.mk (zx sB hb); clear hb hbox hg) | ((with_reducible refine zga (N := 7) rfl ?_); refine bx (N := 7) #[.int .i64 0, .int .i64 0, .int .i64 0, .int .i64 0] 25 rfl ?_; intro gb118 hg w7 hbox hb; have BK118 := zg.mk hbox; have GW118 := gB hg; have GE118 := GW118; have NB115_118 := nK hg BK115; have NB118_115 := zg.mk NB115_118.out.symm; have NB116_118 := nK hg BK116; have NB118_116 := zg.mk NB116_118.out.symm; have NB117_118 := nK hg BK117; have NB118_117 := zg.mk NB117_118.out.symm; replace BK115 := dK BK115 hb; replace BK116 := dK BK116 hb; replace BK117 := dK BK117 hb; replace HB := zg.mk (zx sB hb); clear hb hbox hg) | ((with_reducible refine zga (N := 8) rfl ?_); refine bx (N := 8) #[.int .i64 0, .int .i64 0, .int .i64 0, .int .i64 0] 25 rfl ?_; intro gb119 hg w8 hbox hb; have BK119 := zg.mk hbox; have GW119 := gB hg; have GE119 := GW119; have NB115_119 := nK hg BK115; have NB119_115 := zg.mk NB115_119.out.symm; have NB116_119 := nK hg BK116; have NB119_116 := zg.mk NB116_119.out.symm; have NB117_119 := nK hg BK117; have NB119_117 := zg.mk NB117_119.out.symm; have NB118_119 := nK hg BK118; have NB119_118 := zg.mk NB118_119.out.symm; replace BK115 := dK BK115 hb; replace BK116 := dK BK116 hb; replace BK117 := dK BK117 hb; replace BK118 := dK BK118 hb; replace HB := zg.mk (zx sB hb); clear hb hbox hg; have hnb9 := NB119_115.out; have hnc9 := NB115_119.out; have hnb10 := NB119_116.out; have hnc10 := NB116_119.out; have hnb11 := NB119_117.out; have hnc11 := NB117_119.out; have hnb12 := NB119_118.out; have hnc12 := NB118_119.out; obtain ⟨hcz13_0, hcz13_1, hcz13_2, hcz13_3⟩ := xc4 BK119; obtain ⟨hfz13_0, hfz13_1, hfz13_2, hfz13_3⟩ := xf4 BK119) | ((with_reducible refine zga (N := 9) rfl ?_); refine bx (N := 9) #[.int .i64 0, .int .i64 0, .int .i64 0, .int .i64 0] 25 rfl ?_; intro gb120 hg w14 hbox hb; have n0_ := zg.mk (zz (g := gb115) (o := .cells #[.int .i64 a1_0, .int .i64 a1_1, .int .i64 a1_2, .int .i64 a1_3] 25 (0, 0)) (by (with_reducible repeat (first | refine ze ?_ _ | refine zf ?_ | refine za ?_ _)); refine zk ?_ NB115_119.out _; (with_reducible repeat (first | refine ze ?_ _ | refine zf ?_ | refine za ?_ _)); refine zk ?_ NB115_119.out _; (with_reducible repeat (first | refine ze ?_ _ | refine zf ?_ | refine za ?_ _)); refine zk ?_ NB115_119.out _; (with_reducible repeat (first | refine ze ?_ _ | refine zf ?_ | refine za ?_ _)); refine zk ?_ NB115_119.out _; (with_reducible repeat (first | refine ze ?_ _ | refine zf ?_ | refine za ?_ _)); exact BK115.out) hb); have n1_ := zg.mk (zz (g := gb116) (o := .cells #[.int .i64 a2_0, .int .i64 a2_1, .int .i64 a2_2, .int .i64 a2_3] 25 (0, 0)) (by (with_reducible repeat (first | refine ze ?_ _ | refine zf ?_ | refine za ?_ _)); refine zk ?_ NB116_119.out _; (with_reducible repeat (first | refine ze ?_ _ | refine zf ?_ | refine za ?_ _)); refine zk ?_ NB116_119.out _; (with_reducible repeat (first | refine ze ?_ _ | refine zf ?_ | refine za ?_ _)); refine zk ?_ NB116_119.out _; (with_reducible repeat (first | refine ze ?_ _ | refine zf ?_ | refine za ?_ _)); refine zk ?_ NB116_119.out _; (with_reducible repeat (first | refine ze ?_ _ | refine zf ?_ | refine za ?_ _)); exact BK116.out) hb); have n2_ := zg.mk (zz (g := gb117) (o := .cells #[.int .i64 0, .int .i64 0, .int .i64 0, .int .i64 0] 25 (0, 0)) (by (with_reducible repeat (first | refine ze ?_ _ | refine zf ?_ | refine za ?_ _)); refine zk ?_ NB117_119.out _; (with_reducible repeat (first | refine ze ?_ _ | refine zf ?_ | refine za ?_ _)); refine zk ?_ NB117_119.out _; (with_reducible repeat (first | refine ze ?_ _ | refine zf ?_ | refine za ?_ _)); refine zk ?_ NB117_119.out _; (with_reducible repeat (first | refine ze ?_ _ | refine zf ?_ | refine za ?_ _)); refine zk ?_ NB117_119.out _; (with_reducible repeat (first | refine ze ?_ _ | refine zf ?_ | refine za ?_ _)); exact BK117.out) hb); have n3_ := zg.mk (zz (g := gb118) (o := .cells #[.int .i64 0, .int .i64 0, .int .i64 0, .int .i64 0] 25 (0, 0)) (by (with_reducible repeat (first | refine ze ?_ _ | refine zf ?_ | refine za ?_ _)); refine zk ?_ NB118_119.out _; (with_reducible repeat (first | refine ze ?_ _ | refine zf ?_ | refine za ?_ _)); refine zk ?_ NB118_119.out _; (with_reducible repeat (first | refine ze ?_ _ | refine zf ?_ | refine za ?_ _)); refine zk ?_ NB118_119.out _; (with_reducible repeat (first | refine ze ?_ _ | refine zf ?_ | refine za ?_ _)); refine zk ?_ NB118_119.out _; (with_reducible repeat (first | refine ze ?_ _ | refine zf ?_ | refine za ?_ _)); exact BK118.out) hb); have n4_ := zg.mk (zz (g := gb119) (o := .cells #[.int .i64 0, .int .i64 0, .int .i64 0, .int .i64 0] 25 (0, 0)) (by (with_reducible repeat (first | refine ze ?_ _ | refine zf ?_ | refine za ?_ _)); refine zy (cs := #[.int .i64 0, .int .i64 0, .int .i64 0, .int .i64 0]) ?_ 3 _ rfl; (with_reducible repeat (first | refine ze ?_ _ | refine zf ?_ | refine za ?_ _)); refine zy (cs := #[.int .i64 0, .int .i64 0, .int .i64 0, .int .i64 0]) ?_ 2 _ rfl; (with_reducible repeat (first | refine ze ?_ _ | refine zf ?_ | refine za ?_ _)); refine zy (cs := #[.int .i64 0, .int .i64 0, .int .i64 0, .int .i64 0]) ?_ 1 _ rfl; (with_reducible repeat (first | refine ze ?_ _ | refine zf ?_ | refine za ?_ _)); refine zy (cs := #[.int .i64 0, .int .i64 0, .int .i64 0, .int .i64 0]) ?_ 0 _ rfl; (with_reducible repeat (first | refine ze ?_ _ | refine zf ?_ | refine za ?_ _)); exact BK119.out) hb); have n5_ := zg.mk (zx sB hb); have n6_ := zg.mk hbox; have n7_ := gB hg; have n8_ := n7_; have n9_ := zg.mk ((by rw [hg]; exact Nat.ne_of_lt (zba (g := gb115) (o := .cells #[.int .i64 a1_0, .int .i64 a1_1, .int .i64 a1_2, .int .i64 a1_3] 25 (0, 0)) (by (with_reducible repeat (first | refine ze ?_ _ | refine zf ?_ | refine za ?_ _)); refine zk ?_ NB115_119.out _; (with_reducible repeat (first | refine ze ?_ _ | refine zf ?_ | refine za ?_ _)); refine zk ?_ NB115_119.out _; (with_reducible repeat (first | refine ze ?_ _ | refine zf ?_ | refine za ?_ _)); refine zk ?_ NB115_119.out _; (with_reducible repeat (first | refine ze ?_ _ | refine zf ?_ | refine za ?_ _)); refine zk ?_ NB115_119.out _; (with_reducible repeat (first | refine ze ?_ _ | refine zf ?_ | refine za ?_ _)); exact BK115.out)) : gb115 ≠ gb120)); have n10_ := zg.mk n9_.out.symm; have n11_ := zg.mk ((by rw [hg]; exact Nat.ne_of_lt (zba (g := gb116) (o := .cells #[.int .i64 a2_0, .int .i64 a2_1, .int .i64 a2_2, .int .i64 a2_3] 25 (0, 0)) (by (with_reducible repeat (first | refine ze ?_ _ | refine zf ?_ | refine za ?_ _)); refine zk ?_ NB116_119.out _; (with_reducible repeat (first | refine ze ?_ _ | refine zf ?_ | refine za ?_ _)); refine zk ?_ NB116_119.out _; (with_reducible repeat (first | refine ze ?_ _ | refine zf ?_ | refine za ?_ _)); refine zk ?_ NB116_119.out _; (with_reducible repeat (first | refine ze ?_ _ | refine zf ?_ | refine za ?_ _)); refine zk ?_ NB116_119.out _; (with_reducible repeat (first | refine ze ?_ _ | refine zf ?_ | refine za ?_ _)); exact BK116.out)) : gb116 ≠ gb120)); have n12_ := zg.mk n11_.out.symm; have n13_ := zg.mk ((by rw [hg]; exact Nat.ne_of_lt (zba (g := gb117) (o := .cells #[.int .i64 0, .int .i64 0, .int .i64 0, .int .i64 0] 25 (0, 0)) (by (with_reducible repeat (first | refine ze ?_ _ | refine zf ?_ | refine za ?_ _)); refine zk ?_ NB117_119.out _; (with_reducible repeat (first | refine ze ?_ _ | refine zf ?_ | refine za ?_ _)); refine zk ?_ NB117_119.out _; (with_reducible repeat (first | refine ze ?_ _ | refine zf ?_ | refine za ?_ _)); refine zk ?_ NB117_119.out _; (with_reducible repeat (first | refine ze ?_ _ | refine zf ?_ | refine za ?_ _)); refine zk ?_ NB117_119.out _; (with_reducible repeat (first | refine ze ?_ _ | refine zf ?_ | refine za ?_ _)); exact BK117.out)) : gb117 ≠ gb120)); have n14_ := zg.mk n13_.out.symm; have n15_ := zg.mk ((by rw [hg]; exact Nat.ne_of_lt (zba (g := gb118) (o := .cells #[.int .i64 0, .int .i64 0, .int .i64 0, .int .i64 0] 25 (0, 0)) (by (with_reducible repeat (first | refine ze ?_ _ | refine zf ?_ | refine za ?_ _)); refine zk ?_ NB118_119.out _; (with_reducible repeat (first | refine ze ?_ _ | refine zf ?_ | refine za ?_ _)); refine zk ?_ NB118_119.out _; (with_reducible repeat (first | refine ze ?_ _ | refine zf ?_ | refine za ?_ _)); refine zk ?_ NB118_119.out _; (with_reducible repeat (first | refine ze ?_ _ | refine zf ?_ | refine za ?_ _)); refine zk ?_ NB118_119.out _; (with_reducible repeat (first | refine ze ?_ _ | refine zf ?_ | refine za ?_ _)); exact BK118.out)) : gb118 ≠ gb120)); have n16_ := zg.mk n15_.out.symm; have n17_ := zg.mk ((by rw [hg]; exact Nat.ne_of_lt (zba (g := gb119) (o := .cells #[.int .i64 0, .int .i64 0, .int .i64 0, .int .i64 0] 25 (0, 0)) (by (with_reducible repeat (first | refine ze ?_ _ | refine zf ?_ | refine za ?_ _)); refine zy (cs := #[.int .i64 0, .int .i64 0, .int .i64 0, .int .i64 0]) ?_ 3 _ rfl; (with_reducible repeat (first | refine ze ?_ _ | refine zf ?_ | refine za ?_ _)); refine zy (cs := #[.int .i64 0, .int .i64 0, .int .i64 0, .int .i64 0]) ?_ 2 _ rfl; (with_reducible repeat (first | refine ze ?_ _ | refine zf ?_ | refine za ?_ _)); refine zy (cs := #[.int .i64 0, .int .i64 0, .int .i64 0, .int .i64 0]) ?_ 1 _ rfl; (with_reducible repeat (first | refine ze ?_ _ | refine zf ?_ | refine za ?_ _)); refine zy (cs := #[.int .i64 0, .int .i64 0, .int .i64 0, .int .i64 0]) ?_ 0 _ rfl; (with_reducible repeat (first | refine ze ?_ _ | refine zf ?_ | refine za ?_ _)); exact BK119.out)) : gb119 ≠ gb120)); have n18_ := zg.mk n17_.out.symm; clear BK115; clear BK116; clear BK117; clear BK118; clear BK119; clear HB; have BK115 := n0_; have BK116 := n1_; have BK117 := n2_; have BK118 := n3_; have BK119 := n4_; have HB := n5_; have BK120 := n6_; have GW120 := n7_; have GE120 := n8_; have NB115_120 := n9_; have NB120_115 := n10_; have NB116_120 := n11_; have NB120_116 := n12_; have NB117_120 := n13_; have NB120_117 := n14_; have NB118_120 := n15_; have NB120_118 := n16_; have NB119_120 := n17_; have NB120_119 := n18_; clear n0_ n1_ n2_ n3_ n4_ n5_ n6_ n7_ n8_ n9_ n10_ n11_ n12_ n13_ n14_ n15_ n16_ n17_ n18_; clear hb hbox hg; have hnb15 := NB120_115.out; have hnc15 := NB115_120.out; have hnb16 := NB120_116.out; have hnc16 := NB116_120.out; have hnb17 := NB120_117.out; have hnc17 := NB117_120.out; have hnb18 := NB120_118.out; have hnc18 := NB118_120.out; have hnb19 := NB120_119.out; have hnc19 := NB119_120.out; obtain ⟨hcz20_0, hcz20_1, hcz20_2, hcz20_3⟩ := xc4 BK120; obtain ⟨hfz20_0, hfz20_1, hfz20_2, hfz20_3⟩ := xf4 BK120))
 go_loopg [10] k (fun kq v10 w' => ∃ (x10_1 : Int) (x120000_1 : Int) (x120001_1 : Int) (x120002_1 : Int) (x120003_1 : Int) (x121000_1 : Int) (x121001_1 : Int) (x121002_1 : Int) (x121003_1 : Int), v10 = .int .i64 x10_1 ∧ zg (spec_l06Split.l0 kq a0 x10_1 a1_0 a1_1 a1_2 a1_3 a2_0 a2_1 a2_2 a2_3 x120000_1 x120001_1 x120002_1 x120003_1 x121000_1 x121001_1 x121002_1 x121003_1 = some (r1, r2, r3, r4, r5, r6, r7, r8)) ∧ zg (kq ≤ k) ∧ zg (w'.heap[gb115]? = some (.cells #[.int .i64 a1_0, .int .i64 a1_1, .int .i64 a1_2, .int .i64 a1_3] 25 (0, 0))) ∧ zg (w'.heap[gb116]? = some (.cells #[.int .i64 a2_0, .int .i64 a2_1, .int .i64 a2_2, .int .i64 a2_3] 25 (0, 0))) ∧ zg (w'.heap[gb117]? = some (.cells #[.int .i64 0, .int .i64 0, .int .i64 0, .int .i64 0] 25 (0, 0))) ∧ zg (w'.heap[gb118]? = some (.cells #[.int .i64 0, .int .i64 0, .int .i64 0, .int .i64 0] 25 (0, 0))) ∧ zg (w'.heap[gb119]? = some (.cells #[.int .i64 x120000_1, .int .i64 x120001_1, .int .i64 x120002_1, .int .i64 x120003_1] 25 (0, 0))) ∧ zg (w'.heap[gb120]? = some (.cells #[.int .i64 x121000_1, .int .i64 x121001_1, .int .i64 x121002_1, .int .i64 x121003_1] 25 (0, 0))) ∧ zg (Below w.heap.size w w'))
 case atStart => exact ⟨(0), (0), (0), (0), (0), (0), (0), (0), (0), (by first | rfl | (simp; done) | (simp [*]; done)), H', ⟨Nat.le_refl _⟩, ⟨by (with_reducible repeat (first | refine ze ?_ _ | refine zf ?_ | refine za ?_ _)); refine zk ?_ NB115_120.out _; (with_reducible repeat (first | refine ze ?_ _ | refine zf ?_ | refine za ?_ _)); refine zk ?_ NB115_120.out _; (with_reducible repeat (first | refine ze ?_ _ | refine zf ?_ | refine za ?_ _)); refine zk ?_ NB115_120.out _; (with_reducible repeat (first | refine ze ?_ _ | refine zf ?_ | refine za ?_ _)); refine zk ?_ NB115_120.out _; (with_reducible repeat (first | refine ze ?_ _ | refine zf ?_ | refine za ?_ _)); exact BK115.out⟩, ⟨by (with_reducible repeat (first | refine ze ?_ _ | refine zf ?_ | refine za ?_ _)); refine zk ?_ NB116_120.out _; (with_reducible repeat (first | refine ze ?_ _ | refine zf ?_ | refine za ?_ _)); refine zk ?_ NB116_120.out _; (with_reducible repeat (first | refine ze ?_ _ | refine zf ?_ | refine za ?_ _)); refine zk ?_ NB116_120.out _; (with_reducible repeat (first | refine ze ?_ _ | refine zf ?_ | refine za ?_ _)); refine zk ?_ NB116_120.out _; (with_reducible repeat (first | refine ze ?_ _ | refine zf ?_ | refine za ?_ _)); exact BK116.out⟩, ⟨by (with_reducible repeat (first | refine ze ?_ _ | refine zf ?_ | refine za ?_ _)); refine zk ?_ NB117_120.out _; (with_reducible repeat (first | refine ze ?_ _ | refine zf ?_ | refine za ?_ _)); refine zk ?_ NB117_120.out _; (with_reducible repeat (first | refine ze ?_ _ | refine zf ?_ | refine za ?_ _)); refine zk ?_ NB117_120.out _; (with_reducible repeat (first | refine ze ?_ _ | refine zf ?_ | refine za ?_ _)); refine zk ?_ NB117_120.out _; (with_reducible repeat (first | refine ze ?_ _ | refine zf ?_ | refine za ?_ _)); exact BK117.out⟩, ⟨by (with_reducible repeat (first | refine ze ?_ _ | refine zf ?_ | refine za ?_ _)); refine zk ?_ NB118_120.out _; (with_reducible repeat (first | refine ze ?_ _ | refine zf ?_ | refine za ?_ _)); refine zk ?_ NB118_120.out _; (with_reducible repeat (first | refine ze ?_ _ | refine zf ?_ | refine za ?_ _)); refine zk ?_ NB118_120.out _; (with_reducible repeat (first | refine ze ?_ _ | refine zf ?_ | refine za ?_ _)); refine zk ?_ NB118_120.out _; (with_reducible repeat (first | refine ze ?_ _ | refine zf ?_ | refine za ?_ _)); exact BK118.out⟩, ⟨by (with_reducible repeat (first | refine ze ?_ _ | refine zf ?_ | refine za ?_ _)); refine zk ?_ NB119_120.out _; (with_reducible repeat (first | refine ze ?_ _ | refine zf ?_ | refine za ?_ _)); refine zk ?_ NB119_120.out _; (with_reducible repeat (first | refine ze ?_ _ | refine zf ?_ | refine za ?_ _)); refine zk ?_ NB119_120.out _; (with_reducible repeat (first | refine ze ?_ _ | refine zf ?_ | refine za ?_ _)); refine zk ?_ NB119_120.out _; (with_reducible repeat (first | refine ze ?_ _ | refine zf ?_ | refine za ?_ _)); exact BK119.out⟩, ⟨by (with_reducible repeat (first | refine ze ?_ _ | refine zf ?_ | refine za ?_ _)); refine zy (cs := #[.int .i64 0, .int .i64 0, .int .i64 0, .int .i64 0]) ?_ 3 _ rfl; (with_reducible repeat (first | refine ze ?_ _ | refine zf ?_ | refine za ?_ _)); refine zy (cs := #[.int .i64 0, .int .i64 0, .int .i64 0, .int .i64 0]) ?_ 2 _ rfl; (with_reducible repeat (first | refine ze ?_ _ | refine zf ?_ | refine za ?_ _)); refine zy (cs := #[.int .i64 0, .int .i64 0, .int .i64 0, .int .i64 0]) ?_ 1 _ rfl; (with_reducible repeat (first | refine ze ?_ _ | refine zf ?_ | refine za ?_ _)); refine zy (cs := #[.int .i64 0, .int .i64 0, .int .i64 0, .int .i64 0]) ?_ 0 _ rfl; (with_reducible repeat (first | refine ze ?_ _ | refine zf ?_ | refine za ?_ _)); exact BK120.out⟩, ⟨sB⟩⟩
 case round =>
  clear H'
  try clear c1
  try clear c2
  try clear p2
  try clear c9
  try clear c10
  try clear c11
  try clear c12
  try clear c15
  try clear c16
  try clear c17
  try clear c18
  try clear c19
  try clear hcz13_0 hcz13_1 hcz13_2 hcz13_3
  try clear hcz20_0 hcz20_1 hcz20_2 hcz20_3
  try clear hfz13_0 hfz13_1 hfz13_2 hfz13_3
  try clear hfz20_0 hfz20_1 hfz20_2 hfz20_3
  obtain ⟨x10_1, x120000_1, x120001_1, x120002_1, x120003_1, x121000_1, x121001_1, x121002_1, x121003_1, rfl, HA, HK1, BK115, BK116, BK117, BK118, BK119, BK120, HB⟩ := hrel
  cases gk with
  | zero => exact absurd HA.out (by simp [spec_l06Split.l0])
  | succ k1 =>
   have H := HA.out
   clear HA
   simp only [spec_l06Split.l0] at H
   by_cases c21 : x10_1 ≤ a0
   ·rw [if_pos c21] at H
    have c21b0 : decide (x10_1 ≤ a0) = true := decide_eq_true c21
    clear c21
    by_cases c22 : x10_1 = 0
    ·rw [if_pos c22] at H
     subst c22
     by_cases c23 : 0 < a0
     ·rw [if_pos c23] at H
      have c23b0 : decide (0 < a0) = true := decide_eq_true c23
      clear c23
      have H' := zg.mk H
      clear H
      try go_wp2
      have n0_ := zg.mk (zf BK115.out)
      have n1_ := zg.mk (zf BK116.out)
      have n2_ := zg.mk (zf BK117.out)
      have n3_ := zg.mk (zf BK118.out)
      have n4_ := zg.mk (zf BK119.out)
      have n5_ := zg.mk (zf BK120.out)
      have n6_ := zg.mk (zo HB.out)
      clear BK115
      clear BK116
      clear BK117
      clear BK118
      clear BK119
      clear BK120
      clear HB
      have BK115 := n0_
      have BK116 := n1_
      have BK117 := n2_
      have BK118 := n3_
      have BK119 := n4_
      have BK120 := n5_
      have HB := n6_
      clear n0_ n1_ n2_ n3_ n4_ n5_ n6_
      refine zra (n := 9) (S := fun w' => w'.cell? ⟨gb119, 0, none⟩ = some (.int .i64 x120000_1) ∧ w'.cell? ⟨gb119, 1, none⟩ = some (.int .i64 x120001_1) ∧ w'.cell? ⟨gb119, 2, none⟩ = some (.int .i64 x120002_1) ∧ w'.cell? ⟨gb119, 3, none⟩ = some (.int .i64 x120003_1) ∧ w'.cell? ⟨gb116, 0, none⟩ = some (.int .i64 a2_0) ∧ w'.cell? ⟨gb116, 1, none⟩ = some (.int .i64 a2_1) ∧ w'.cell? ⟨gb116, 2, none⟩ = some (.int .i64 a2_2) ∧ w'.cell? ⟨gb116, 3, none⟩ = some (.int .i64 a2_3)) (ds := [8]) #[false, false, false, false, false, false, false, false, false] (by kernel_rfl) rfl rfl ⟨(zh BK119.out 0).trans rfl, (zh BK119.out 1).trans rfl, (zh BK119.out 2).trans rfl, (zh BK119.out 3).trans rfl, (zh BK116.out 0).trans rfl, (zh BK116.out 1).trans rfl, (zh BK116.out 2).trans rfl, (zh BK116.out 3).trans rfl⟩ (fun hHeld => ?_); refine zka spec_l06Split.tab6 spec_l06Split.bits6 (fun HT_ HW_ => ?_)
      generalize wr.drew = w24 at BK115 BK116 BK117 BK118 BK119 BK120 HB hHeld ⊢
      refine zaa (i := 0) (N := some 18) (v := ?_) (a' := ?_) #[true, false, false, false, false, false, false, false, false] rfl rfl (zu HT_.out (by kernel_rfl)) (fun _ _ _ h => h) (Or.inl ⟨by rfl, ?_⟩) ?_ ?_
      rotate_left
      ·intro w'
       go_simp
       with_reducible rfl
      rotate_left
      ·simp only [Act.put, List.setIfInBounds_toArray, List.set_cons_zero, List.set_cons_succ, zv, zw]
       rfl
      refine zaa (i := 1) (N := some 19) (v := ?_) (a' := ?_) #[true, true, false, false, false, false, false, false, false] rfl rfl (zu HT_.out (by kernel_rfl)) (fun _ _ _ h => h) (Or.inl ⟨by rfl, ?_⟩) ?_ ?_
      rotate_left
      ·intro w'
       go_simp
       with_reducible rfl
      rotate_left
      ·simp only [Act.put, List.setIfInBounds_toArray, List.set_cons_zero, List.set_cons_succ, zv, zw]
       rfl
      refine zaa (i := 3) (N := some 21) (v := ?_) (a' := ?_) #[true, true, false, true, false, false, false, false, false] rfl rfl (zu HT_.out (by kernel_rfl)) (fun _ _ _ h => h) (Or.inl ⟨by rfl, ?_⟩) ?_ ?_
      rotate_left
      ·intro w'
       go_simp
       with_reducible rfl
      rotate_left
      ·simp only [Act.put, List.setIfInBounds_toArray, List.set_cons_zero, List.set_cons_succ, zv, zw]
       rfl
      refine zaa (i := 4) (N := some 22) (v := ?_) (a' := ?_) #[true, true, false, true, true, false, false, false, false] rfl rfl (zu HT_.out (by kernel_rfl)) (fun _ _ _ h => h) (Or.inl ⟨by rfl, ?_⟩) ?_ ?_
      rotate_left
      ·intro w'
       go_simp
       with_reducible rfl
      rotate_left
      ·simp only [Act.put, List.setIfInBounds_toArray, List.set_cons_zero, List.set_cons_succ, zv, zw]
       rfl
      refine take_ (i := 2) (N := some 20) (v := ?_) (a' := ?_) #[true, true, true, true, true, false, false, false, false] rfl rfl (zea HT_.out HW_.out (by kernel_rfl)) (fun _ _ _ h => h) (Or.inl ⟨by rfl, ?_⟩) hHeld ?_ ?_
      rotate_left
      ·rintro w' ⟨s0, s1, s2, s3, s4, s5, s6, s7⟩
       go_simp
       with_reducible rfl
      rotate_left
      ·simp only [Act.put, List.setIfInBounds_toArray, List.set_cons_zero, List.set_cons_succ, zv, zw]
       rfl
      refine take_ (i := 5) (N := some 23) (v := ?_) (a' := ?_) #[true, true, true, true, true, true, false, false, false] rfl rfl (zea HT_.out HW_.out (by kernel_rfl)) (fun _ _ _ h => h) (Or.inl ⟨by rfl, ?_⟩) hHeld ?_ ?_
      rotate_left
      ·rintro w' ⟨s0, s1, s2, s3, s4, s5, s6, s7⟩
       go_simp
       with_reducible rfl
      rotate_left
      ·simp only [Act.put, List.setIfInBounds_toArray, List.set_cons_zero, List.set_cons_succ, zv, zw]
       rfl
      refine zaa (i := 6) (N := some 24) (v := ?_) (a' := ?_) #[true, true, true, true, true, true, true, false, false] rfl rfl (zu HT_.out (by kernel_rfl)) (fun _ _ _ h => h) (Or.inl ⟨by rfl, ?_⟩) ?_ ?_
      rotate_left
      ·intro w'
       go_simp
       with_reducible rfl
      rotate_left
      ·simp only [Act.put, List.setIfInBounds_toArray, List.set_cons_zero, List.set_cons_succ, zv, zw]
       rfl
      refine zaa (i := 7) (N := some 25) (v := ?_) (a' := ?_) #[true, true, true, true, true, true, true, true, false] rfl rfl (zu HT_.out (by kernel_rfl)) (fun _ _ _ h => h) (Or.inl ⟨by rfl, ?_⟩) ?_ ?_
      rotate_left
      ·intro w'
       go_simp
       with_reducible rfl
      rotate_left
      ·simp only [Act.put, List.setIfInBounds_toArray, List.set_cons_zero, List.set_cons_succ, zv, zw]
       rfl
      refine zpb (i := 8) (N := none) #[true, true, true, true, true, true, true, true, true] rfl rfl (zna HT_.out (by kernel_rfl)) (by decide) (fun K hK => ?_)
      have hs25 : w24.cell? ⟨gb119, 0, none⟩ = some (.int .i64 x120000_1) := (zh BK119.out 0).trans rfl
      have hfs25 := zj BK119.out 0
      have hns25_0 := NB115_119.out
      have hns25_1 := NB116_119.out
      have hns25_2 := NB117_119.out
      have hns25_3 := NB118_119.out
      have hns25_5 := NB120_119.out
      have hms25_0 := NB119_115.out
      have hms25_1 := NB119_116.out
      have hms25_2 := NB119_117.out
      have hms25_3 := NB119_118.out
      have hms25_5 := NB119_120.out
      refine zza (w1 := ?_) (by rfl) rfl ?_ ?_
      rotate_left
      ·go_simp
       rfl
      refine hK.out _ _ ?_
      clear hK K
      refine zeb (zla HT_.out (by kernel_rfl)) ?_
      try go_wp2
      have n0_ : zg ((w24.setCell ⟨gb119, 0, none⟩ (.int .i64 (wrap64 (x120000_1 + a2_0)))).heap[gb115]? = some (.cells #[.int .i64 a1_0, .int .i64 a1_1, .int .i64 a1_2, .int .i64 a1_3] 25 (0, 0))) := ⟨by (with_reducible repeat (first | refine ze ?_ _ | refine zf ?_ | refine za ?_ _)); refine zk ?_ NB115_119.out _; (with_reducible repeat (first | refine ze ?_ _ | refine zf ?_ | refine za ?_ _)); exact BK115.out⟩
      have n1_ : zg ((w24.setCell ⟨gb119, 0, none⟩ (.int .i64 (wrap64 (x120000_1 + a2_0)))).heap[gb116]? = some (.cells #[.int .i64 a2_0, .int .i64 a2_1, .int .i64 a2_2, .int .i64 a2_3] 25 (0, 0))) := ⟨by (with_reducible repeat (first | refine ze ?_ _ | refine zf ?_ | refine za ?_ _)); refine zk ?_ NB116_119.out _; (with_reducible repeat (first | refine ze ?_ _ | refine zf ?_ | refine za ?_ _)); exact BK116.out⟩
      have n2_ : zg ((w24.setCell ⟨gb119, 0, none⟩ (.int .i64 (wrap64 (x120000_1 + a2_0)))).heap[gb117]? = some (.cells #[.int .i64 0, .int .i64 0, .int .i64 0, .int .i64 0] 25 (0, 0))) := ⟨by (with_reducible repeat (first | refine ze ?_ _ | refine zf ?_ | refine za ?_ _)); refine zk ?_ NB117_119.out _; (with_reducible repeat (first | refine ze ?_ _ | refine zf ?_ | refine za ?_ _)); exact BK117.out⟩
      have n3_ : zg ((w24.setCell ⟨gb119, 0, none⟩ (.int .i64 (wrap64 (x120000_1 + a2_0)))).heap[gb118]? = some (.cells #[.int .i64 0, .int .i64 0, .int .i64 0, .int .i64 0] 25 (0, 0))) := ⟨by (with_reducible repeat (first | refine ze ?_ _ | refine zf ?_ | refine za ?_ _)); refine zk ?_ NB118_119.out _; (with_reducible repeat (first | refine ze ?_ _ | refine zf ?_ | refine za ?_ _)); exact BK118.out⟩
      have n4_ : zg ((w24.setCell ⟨gb119, 0, none⟩ (.int .i64 (wrap64 (x120000_1 + a2_0)))).heap[gb119]? = some (.cells #[.int .i64 (wrap64 (x120000_1 + a2_0)), .int .i64 x120001_1, .int .i64 x120002_1, .int .i64 x120003_1] 25 (0, 0))) := ⟨by (with_reducible repeat (first | refine ze ?_ _ | refine zf ?_ | refine za ?_ _)); refine zy (cs := #[.int .i64 x120000_1, .int .i64 x120001_1, .int .i64 x120002_1, .int .i64 x120003_1]) ?_ 0 _ rfl; (with_reducible repeat (first | refine ze ?_ _ | refine zf ?_ | refine za ?_ _)); exact BK119.out⟩
      have n5_ : zg ((w24.setCell ⟨gb119, 0, none⟩ (.int .i64 (wrap64 (x120000_1 + a2_0)))).heap[gb120]? = some (.cells #[.int .i64 x121000_1, .int .i64 x121001_1, .int .i64 x121002_1, .int .i64 x121003_1] 25 (0, 0))) := ⟨by (with_reducible repeat (first | refine ze ?_ _ | refine zf ?_ | refine za ?_ _)); refine zk ?_ NB120_119.out _; (with_reducible repeat (first | refine ze ?_ _ | refine zf ?_ | refine za ?_ _)); exact BK120.out⟩
      have n6_ : zg (Below w.heap.size w (w24.setCell ⟨gb119, 0, none⟩ (.int .i64 (wrap64 (x120000_1 + a2_0))))) := ⟨sB⟩
      (try clear BK115)
      (try clear BK116)
      (try clear BK117)
      (try clear BK118)
      (try clear BK119)
      (try clear BK120)
      (try clear HB)
      generalize (w24.setCell ⟨gb119, 0, none⟩ (.int .i64 (wrap64 (x120000_1 + a2_0)))) = w26 at n0_ n1_ n2_ n3_ n4_ n5_ n6_ ⊢
      have BK115 := n0_
      have BK116 := n1_
      have BK117 := n2_
      have BK118 := n3_
      have BK119 := n4_
      have BK120 := n5_
      have HB := n6_
      clear n0_ n1_ n2_ n3_ n4_ n5_ n6_
      have n0_ := zg.mk (zf BK115.out)
      have n1_ := zg.mk (zf BK116.out)
      have n2_ := zg.mk (zf BK117.out)
      have n3_ := zg.mk (zf BK118.out)
      have n4_ := zg.mk (zf BK119.out)
      have n5_ := zg.mk (zf BK120.out)
      have n6_ := zg.mk (zo HB.out)
      clear BK115
      clear BK116
      clear BK117
      clear BK118
      clear BK119
      clear BK120
      clear HB
      have BK115 := n0_
      have BK116 := n1_
      have BK117 := n2_
      have BK118 := n3_
      have BK119 := n4_
      have BK120 := n5_
      have HB := n6_
      clear n0_ n1_ n2_ n3_ n4_ n5_ n6_
      refine zra (n := 13) (S := fun w' => w'.cell? ⟨gb120, 0, none⟩ = some (.int .i64 x121000_1) ∧ w'.cell? ⟨gb120, 1, none⟩ = some (.int .i64 x121001_1) ∧ w'.cell? ⟨gb120, 2, none⟩ = some (.int .i64 x121002_1) ∧ w'.cell? ⟨gb120, 3, none⟩ = some (.int .i64 x121003_1) ∧ w'.cell? ⟨gb115, 0, none⟩ = some (.int .i64 a1_0) ∧ w'.cell? ⟨gb115, 1, none⟩ = some (.int .i64 a1_1) ∧ w'.cell? ⟨gb115, 2, none⟩ = some (.int .i64 a1_2) ∧ w'.cell? ⟨gb115, 3, none⟩ = some (.int .i64 a1_3) ∧ w'.cell? ⟨gb116, 0, none⟩ = some (.int .i64 a2_0) ∧ w'.cell? ⟨gb116, 1, none⟩ = some (.int .i64 a2_1) ∧ w'.cell? ⟨gb116, 2, none⟩ = some (.int .i64 a2_2) ∧ w'.cell? ⟨gb116, 3, none⟩ = some (.int .i64 a2_3)) (ds := [12]) #[false, false, false, false, false, false, false, false, false, false, false, false, false] (by kernel_rfl) rfl rfl ⟨(zh BK120.out 0).trans rfl, (zh BK120.out 1).trans rfl, (zh BK120.out 2).trans rfl, (zh BK120.out 3).trans rfl, (zh BK115.out 0).trans rfl, (zh BK115.out 1).trans rfl, (zh BK115.out 2).trans rfl, (zh BK115.out 3).trans rfl, (zh BK116.out 0).trans rfl, (zh BK116.out 1).trans rfl, (zh BK116.out 2).trans rfl, (zh BK116.out 3).trans rfl⟩ (fun hHeld => ?_); refine zka spec_l06Split.tab7 spec_l06Split.bits7 (fun HT_ HW_ => ?_)
      generalize w26.drew = w27 at BK115 BK116 BK117 BK118 BK119 BK120 HB hHeld ⊢
      refine zaa (i := 0) (N := some 26) (v := ?_) (a' := ?_) #[true, false, false, false, false, false, false, false, false, false, false, false, false] rfl rfl (zu HT_.out (by kernel_rfl)) (fun _ _ _ h => h) (Or.inl ⟨by rfl, ?_⟩) ?_ ?_
      rotate_left
      ·intro w'
       go_simp
       with_reducible rfl
      rotate_left
      ·simp only [Act.put, List.setIfInBounds_toArray, List.set_cons_zero, List.set_cons_succ, zv, zw]
       rfl
      refine zaa (i := 1) (N := some 27) (v := ?_) (a' := ?_) #[true, true, false, false, false, false, false, false, false, false, false, false, false] rfl rfl (zu HT_.out (by kernel_rfl)) (fun _ _ _ h => h) (Or.inl ⟨by rfl, ?_⟩) ?_ ?_
      rotate_left
      ·intro w'
       go_simp
       with_reducible rfl
      rotate_left
      ·simp only [Act.put, List.setIfInBounds_toArray, List.set_cons_zero, List.set_cons_succ, zv, zw]
       rfl
      refine zaa (i := 3) (N := some 29) (v := ?_) (a' := ?_) #[true, true, false, true, false, false, false, false, false, false, false, false, false] rfl rfl (zu HT_.out (by kernel_rfl)) (fun _ _ _ h => h) (Or.inl ⟨by rfl, ?_⟩) ?_ ?_
      rotate_left
      ·intro w'
       go_simp
       with_reducible rfl
      rotate_left
      ·simp only [Act.put, List.setIfInBounds_toArray, List.set_cons_zero, List.set_cons_succ, zv, zw]
       rfl
      refine zaa (i := 4) (N := some 30) (v := ?_) (a' := ?_) #[true, true, false, true, true, false, false, false, false, false, false, false, false] rfl rfl (zu HT_.out (by kernel_rfl)) (fun _ _ _ h => h) (Or.inl ⟨by rfl, ?_⟩) ?_ ?_
      rotate_left
      ·intro w'
       go_simp
       with_reducible rfl
      rotate_left
      ·simp only [Act.put, List.setIfInBounds_toArray, List.set_cons_zero, List.set_cons_succ, zv, zw]
       rfl
      refine zaa (i := 6) (N := some 32) (v := ?_) (a' := ?_) #[true, true, false, true, true, false, true, false, false, false, false, false, false] rfl rfl (zu HT_.out (by kernel_rfl)) (fun _ _ _ h => h) (Or.inl ⟨by rfl, ?_⟩) ?_ ?_
      rotate_left
      ·intro w'
       go_simp
       with_reducible rfl
      rotate_left
      ·simp only [Act.put, List.setIfInBounds_toArray, List.set_cons_zero, List.set_cons_succ, zv, zw]
       rfl
      refine zaa (i := 7) (N := some 33) (v := ?_) (a' := ?_) #[true, true, false, true, true, false, true, true, false, false, false, false, false] rfl rfl (zu HT_.out (by kernel_rfl)) (fun _ _ _ h => h) (Or.inl ⟨by rfl, ?_⟩) ?_ ?_
      rotate_left
      ·intro w'
       go_simp
       with_reducible rfl
      rotate_left
      ·simp only [Act.put, List.setIfInBounds_toArray, List.set_cons_zero, List.set_cons_succ, zv, zw]
       rfl
      refine take_ (i := 2) (N := some 28) (v := ?_) (a' := ?_) #[true, true, true, true, true, false, true, true, false, false, false, false, false] rfl rfl (zea HT_.out HW_.out (by kernel_rfl)) (fun _ _ _ h => h) (Or.inl ⟨by rfl, ?_⟩) hHeld ?_ ?_
      rotate_left
      ·rintro w' ⟨s0, s1, s2, s3, s4, s5, s6, s7, s8, s9, s10, s11⟩
       go_simp
       with_reducible rfl
      rotate_left
      ·simp only [Act.put, List.setIfInBounds_toArray, List.set_cons_zero, List.set_cons_succ, zv, zw]
       rfl
      refine take_ (i := 5) (N := some 31) (v := ?_) (a' := ?_) #[true, true, true, true, true, true, true, true, false, false, false, false, false] rfl rfl (zea HT_.out HW_.out (by kernel_rfl)) (fun _ _ _ h => h) (Or.inl ⟨by rfl, ?_⟩) hHeld ?_ ?_
      rotate_left
      ·rintro w' ⟨s0, s1, s2, s3, s4, s5, s6, s7, s8, s9, s10, s11⟩
       go_simp
       with_reducible rfl
      rotate_left
      ·simp only [Act.put, List.setIfInBounds_toArray, List.set_cons_zero, List.set_cons_succ, zv, zw]
       rfl
      refine take_ (i := 8) (N := some 34) (v := ?_) (a' := ?_) #[true, true, true, true, true, true, true, true, true, false, false, false, false] rfl rfl (zea HT_.out HW_.out (by kernel_rfl)) (fun _ _ _ h => h) (Or.inl ⟨by rfl, ?_⟩) hHeld ?_ ?_
      rotate_left
      ·rintro w' ⟨s0, s1, s2, s3, s4, s5, s6, s7, s8, s9, s10, s11⟩
       go_simp
       with_reducible rfl
      rotate_left
      ·simp only [Act.put, List.setIfInBounds_toArray, List.set_cons_zero, List.set_cons_succ, zv, zw]
       rfl
      refine zaa (i := 9) (N := some 35) (v := ?_) (a' := ?_) #[true, true, true, true, true, true, true, true, true, true, false, false, false] rfl rfl (zu HT_.out (by kernel_rfl)) (fun _ _ _ h => h) (Or.inl ⟨by rfl, ?_⟩) ?_ ?_
      rotate_left
      ·intro w'
       go_simp
       with_reducible rfl
      rotate_left
      ·simp only [Act.put, List.setIfInBounds_toArray, List.set_cons_zero, List.set_cons_succ, zv, zw]
       rfl
      refine zaa (i := 10) (N := some 36) (v := ?_) (a' := ?_) #[true, true, true, true, true, true, true, true, true, true, true, false, false] rfl rfl (zu HT_.out (by kernel_rfl)) (fun _ _ _ h => h) (Or.inl ⟨by rfl, ?_⟩) ?_ ?_
      rotate_left
      ·intro w'
       go_simp
       with_reducible rfl
      rotate_left
      ·simp only [Act.put, List.setIfInBounds_toArray, List.set_cons_zero, List.set_cons_succ, zv, zw]
       rfl
      refine zaa (i := 11) (N := some 37) (v := ?_) (a' := ?_) #[true, true, true, true, true, true, true, true, true, true, true, true, false] rfl rfl (zu HT_.out (by kernel_rfl)) (fun _ _ _ h => h) (Or.inl ⟨by rfl, ?_⟩) ?_ ?_
      rotate_left
      ·intro w'
       go_simp
       with_reducible rfl
      rotate_left
      ·simp only [Act.put, List.setIfInBounds_toArray, List.set_cons_zero, List.set_cons_succ, zv, zw]
       rfl
      refine zpb (i := 12) (N := none) #[true, true, true, true, true, true, true, true, true, true, true, true, true] rfl rfl (zna HT_.out (by kernel_rfl)) (by decide) (fun K hK => ?_)
      have hs28 : w27.cell? ⟨gb120, 0, none⟩ = some (.int .i64 x121000_1) := (zh BK120.out 0).trans rfl
      have hfs28 := zj BK120.out 0
      have hns28_0 := NB115_120.out
      have hns28_1 := NB116_120.out
      have hns28_2 := NB117_120.out
      have hns28_3 := NB118_120.out
      have hns28_4 := NB119_120.out
      have hms28_0 := NB120_115.out
      have hms28_1 := NB120_116.out
      have hms28_2 := NB120_117.out
      have hms28_3 := NB120_118.out
      have hms28_4 := NB120_119.out
      refine zza (w1 := ?_) (by rfl) rfl ?_ ?_
      rotate_left
      ·go_simp
       rfl
      refine hK.out _ _ ?_
      clear hK K
      refine zeb (zla HT_.out (by kernel_rfl)) ?_
      try go_wp2
      have n0_ : zg ((w27.setCell ⟨gb120, 0, none⟩ (.int .i64 (wrap64 (x121000_1 + (wrap64 (a1_0 - a2_0)))))).heap[gb115]? = some (.cells #[.int .i64 a1_0, .int .i64 a1_1, .int .i64 a1_2, .int .i64 a1_3] 25 (0, 0))) := ⟨by (with_reducible repeat (first | refine ze ?_ _ | refine zf ?_ | refine za ?_ _)); refine zk ?_ NB115_120.out _; (with_reducible repeat (first | refine ze ?_ _ | refine zf ?_ | refine za ?_ _)); exact BK115.out⟩
      have n1_ : zg ((w27.setCell ⟨gb120, 0, none⟩ (.int .i64 (wrap64 (x121000_1 + (wrap64 (a1_0 - a2_0)))))).heap[gb116]? = some (.cells #[.int .i64 a2_0, .int .i64 a2_1, .int .i64 a2_2, .int .i64 a2_3] 25 (0, 0))) := ⟨by (with_reducible repeat (first | refine ze ?_ _ | refine zf ?_ | refine za ?_ _)); refine zk ?_ NB116_120.out _; (with_reducible repeat (first | refine ze ?_ _ | refine zf ?_ | refine za ?_ _)); exact BK116.out⟩
      have n2_ : zg ((w27.setCell ⟨gb120, 0, none⟩ (.int .i64 (wrap64 (x121000_1 + (wrap64 (a1_0 - a2_0)))))).heap[gb117]? = some (.cells #[.int .i64 0, .int .i64 0, .int .i64 0, .int .i64 0] 25 (0, 0))) := ⟨by (with_reducible repeat (first | refine ze ?_ _ | refine zf ?_ | refine za ?_ _)); refine zk ?_ NB117_120.out _; (with_reducible repeat (first | refine ze ?_ _ | refine zf ?_ | refine za ?_ _)); exact BK117.out⟩
      have n3_ : zg ((w27.setCell ⟨gb120, 0, none⟩ (.int .i64 (wrap64 (x121000_1 + (wrap64 (a1_0 - a2_0)))))).heap[gb118]? = some (.cells #[.int .i64 0, .int .i64 0, .int .i64 0, .int .i64 0] 25 (0, 0))) := ⟨by (with_reducible repeat (first | refine ze ?_ _ | refine zf ?_ | refine za ?_ _)); refine zk ?_ NB118_120.out _; (with_reducible repeat (first | refine ze ?_ _ | refine zf ?_ | refine za ?_ _)); exact BK118.out⟩
      have n4_ : zg ((w27.setCell ⟨gb120, 0, none⟩ (.int .i64 (wrap64 (x121000_1 + (wrap64 (a1_0 - a2_0)))))).heap[gb119]? = some (.cells #[.int .i64 (wrap64 (x120000_1 + a2_0)), .int .i64 x120001_1, .int .i64 x120002_1, .int .i64 x120003_1] 25 (0, 0))) := ⟨by (with_reducible repeat (first | refine ze ?_ _ | refine zf ?_ | refine za ?_ _)); refine zk ?_ NB119_120.out _; (with_reducible repeat (first | refine ze ?_ _ | refine zf ?_ | refine za ?_ _)); exact BK119.out⟩
      have n5_ : zg ((w27.setCell ⟨gb120, 0, none⟩ (.int .i64 (wrap64 (x121000_1 + (wrap64 (a1_0 - a2_0)))))).heap[gb120]? = some (.cells #[.int .i64 (wrap64 (x121000_1 + (wrap64 (a1_0 - a2_0)))), .int .i64 x121001_1, .int .i64 x121002_1, .int .i64 x121003_1] 25 (0, 0))) := ⟨by (with_reducible repeat (first | refine ze ?_ _ | refine zf ?_ | refine za ?_ _)); refine zy (cs := #[.int .i64 x121000_1, .int .i64 x121001_1, .int .i64 x121002_1, .int .i64 x121003_1]) ?_ 0 _ rfl; (with_reducible repeat (first | refine ze ?_ _ | refine zf ?_ | refine za ?_ _)); exact BK120.out⟩
      have n6_ : zg (Below w.heap.size w (w27.setCell ⟨gb120, 0, none⟩ (.int .i64 (wrap64 (x121000_1 + (wrap64 (a1_0 - a2_0))))))) := ⟨sB⟩
      (try clear BK115)
      (try clear BK116)
      (try clear BK117)
      (try clear BK118)
      (try clear BK119)
      (try clear BK120)
      (try clear HB)
      generalize (w27.setCell ⟨gb120, 0, none⟩ (.int .i64 (wrap64 (x121000_1 + (wrap64 (a1_0 - a2_0)))))) = w29 at n0_ n1_ n2_ n3_ n4_ n5_ n6_ ⊢
      have BK115 := n0_
      have BK116 := n1_
      have BK117 := n2_
      have BK118 := n3_
      have BK119 := n4_
      have BK120 := n5_
      have HB := n6_
      clear n0_ n1_ n2_ n3_ n4_ n5_ n6_
      have n0_ := zg.mk (zf BK115.out)
      have n1_ := zg.mk (zf BK116.out)
      have n2_ := zg.mk (zf BK117.out)
      have n3_ := zg.mk (zf BK118.out)
      have n4_ := zg.mk (zf BK119.out)
      have n5_ := zg.mk (zf BK120.out)
      have n6_ := zg.mk (zo HB.out)
      clear BK115
      clear BK116
      clear BK117
      clear BK118
      clear BK119
      clear BK120
      clear HB
      have BK115 := n0_
      have BK116 := n1_
      have BK117 := n2_
      have BK118 := n3_
      have BK119 := n4_
      have BK120 := n5_
      have HB := n6_
      clear n0_ n1_ n2_ n3_ n4_ n5_ n6_
      refine zra (n := 14) (S := fun w' => w'.cell? ⟨gb119, 0, none⟩ = some (.int .i64 (wrap64 (x120000_1 + a2_0))) ∧ w'.cell? ⟨gb119, 1, none⟩ = some (.int .i64 x120001_1) ∧ w'.cell? ⟨gb119, 2, none⟩ = some (.int .i64 x120002_1) ∧ w'.cell? ⟨gb119, 3, none⟩ = some (.int .i64 x120003_1) ∧ w'.cell? ⟨gb115, 0, none⟩ = some (.int .i64 a1_0) ∧ w'.cell? ⟨gb115, 1, none⟩ = some (.int .i64 a1_1) ∧ w'.cell? ⟨gb115, 2, none⟩ = some (.int .i64 a1_2) ∧ w'.cell? ⟨gb115, 3, none⟩ = some (.int .i64 a1_3) ∧ w'.cell? ⟨gb116, 0, none⟩ = some (.int .i64 a2_0) ∧ w'.cell? ⟨gb116, 1, none⟩ = some (.int .i64 a2_1) ∧ w'.cell? ⟨gb116, 2, none⟩ = some (.int .i64 a2_2) ∧ w'.cell? ⟨gb116, 3, none⟩ = some (.int .i64 a2_3)) (ds := [13]) #[false, false, false, false, false, false, false, false, false, false, false, false, false, false] (by kernel_rfl) rfl rfl ⟨(zh BK119.out 0).trans rfl, (zh BK119.out 1).trans rfl, (zh BK119.out 2).trans rfl, (zh BK119.out 3).trans rfl, (zh BK115.out 0).trans rfl, (zh BK115.out 1).trans rfl, (zh BK115.out 2).trans rfl, (zh BK115.out 3).trans rfl, (zh BK116.out 0).trans rfl, (zh BK116.out 1).trans rfl, (zh BK116.out 2).trans rfl, (zh BK116.out 3).trans rfl⟩ (fun hHeld => ?_); refine zka spec_l06Split.tab9 spec_l06Split.bits9 (fun HT_ HW_ => ?_)
      generalize w29.drew = w30 at BK115 BK116 BK117 BK118 BK119 BK120 HB hHeld ⊢
      refine zaa (i := 0) (N := some 41) (v := ?_) (a' := ?_) #[true, false, false, false, false, false, false, false, false, false, false, false, false, false] rfl rfl (zu HT_.out (by kernel_rfl)) (fun _ _ _ h => h) (Or.inl ⟨by rfl, ?_⟩) ?_ ?_
      rotate_left
      ·intro w'
       go_simp
       with_reducible rfl
      rotate_left
      ·simp only [Act.put, List.setIfInBounds_toArray, List.set_cons_zero, List.set_cons_succ, zv, zw]
       rfl
      refine zaa (i := 1) (N := some 42) (v := ?_) (a' := ?_) #[true, true, false, false, false, false, false, false, false, false, false, false, false, false] rfl rfl (zu HT_.out (by kernel_rfl)) (fun _ _ _ h => h) (Or.inl ⟨by rfl, ?_⟩) ?_ ?_
      rotate_left
      ·intro w'
       go_simp
       with_reducible rfl
      rotate_left
      ·simp only [Act.put, List.setIfInBounds_toArray, List.set_cons_zero, List.set_cons_succ, zv, zw]
       rfl
      refine zaa (i := 2) (N := some 43) (v := ?_) (a' := ?_) #[true, true, true, false, false, false, false, false, false, false, false, false, false, false] rfl rfl (zu HT_.out (by kernel_rfl)) (fun _ _ _ h => h) (Or.inl ⟨by rfl, ?_⟩) ?_ ?_
      rotate_left
      ·intro w'
       go_simp
       with_reducible rfl
      rotate_left
      ·simp only [Act.put, List.setIfInBounds_toArray, List.set_cons_zero, List.set_cons_succ, zv, zw]
       rfl
      refine zaa (i := 4) (N := some 45) (v := ?_) (a' := ?_) #[true, true, true, false, true, false, false, false, false, false, false, false, false, false] rfl rfl (zu HT_.out (by kernel_rfl)) (fun _ _ _ h => h) (Or.inl ⟨by rfl, ?_⟩) ?_ ?_
      rotate_left
      ·intro w'
       go_simp
       with_reducible rfl
      rotate_left
      ·simp only [Act.put, List.setIfInBounds_toArray, List.set_cons_zero, List.set_cons_succ, zv, zw]
       rfl
      refine zaa (i := 5) (N := some 46) (v := ?_) (a' := ?_) #[true, true, true, false, true, true, false, false, false, false, false, false, false, false] rfl rfl (zu HT_.out (by kernel_rfl)) (fun _ _ _ h => h) (Or.inl ⟨by rfl, ?_⟩) ?_ ?_
      rotate_left
      ·intro w'
       go_simp
       with_reducible rfl
      rotate_left
      ·simp only [Act.put, List.setIfInBounds_toArray, List.set_cons_zero, List.set_cons_succ, zv, zw]
       rfl
      refine zaa (i := 7) (N := some 48) (v := ?_) (a' := ?_) #[true, true, true, false, true, true, false, true, false, false, false, false, false, false] rfl rfl (zu HT_.out (by kernel_rfl)) (fun _ _ _ h => h) (Or.inl ⟨by rfl, ?_⟩) ?_ ?_
      rotate_left
      ·intro w'
       go_simp
       with_reducible rfl
      rotate_left
      ·simp only [Act.put, List.setIfInBounds_toArray, List.set_cons_zero, List.set_cons_succ, zv, zw]
       rfl
      refine zaa (i := 8) (N := some 49) (v := ?_) (a' := ?_) #[true, true, true, false, true, true, false, true, true, false, false, false, false, false] rfl rfl (zu HT_.out (by kernel_rfl)) (fun _ _ _ h => h) (Or.inl ⟨by rfl, ?_⟩) ?_ ?_
      rotate_left
      ·intro w'
       go_simp
       with_reducible rfl
      rotate_left
      ·simp only [Act.put, List.setIfInBounds_toArray, List.set_cons_zero, List.set_cons_succ, zv, zw]
       rfl
      refine take_ (i := 3) (N := some 44) (v := ?_) (a' := ?_) #[true, true, true, true, true, true, false, true, true, false, false, false, false, false] rfl rfl (zea HT_.out HW_.out (by kernel_rfl)) (fun _ _ _ h => h) (Or.inl ⟨by rfl, ?_⟩) hHeld ?_ ?_
      rotate_left
      ·rintro w' ⟨s0, s1, s2, s3, s4, s5, s6, s7, s8, s9, s10, s11⟩
       go_simp
       with_reducible rfl
      rotate_left
      ·simp only [Act.put, List.setIfInBounds_toArray, List.set_cons_zero, List.set_cons_succ, zv, zw]
       rfl
      refine take_ (i := 6) (N := some 47) (v := ?_) (a' := ?_) #[true, true, true, true, true, true, true, true, true, false, false, false, false, false] rfl rfl (zea HT_.out HW_.out (by kernel_rfl)) (fun _ _ _ h => h) (Or.inl ⟨by rfl, ?_⟩) hHeld ?_ ?_
      rotate_left
      ·rintro w' ⟨s0, s1, s2, s3, s4, s5, s6, s7, s8, s9, s10, s11⟩
       go_simp
       with_reducible rfl
      rotate_left
      ·simp only [Act.put, List.setIfInBounds_toArray, List.set_cons_zero, List.set_cons_succ, zv, zw]
       rfl
      refine take_ (i := 9) (N := some 50) (v := ?_) (a' := ?_) #[true, true, true, true, true, true, true, true, true, true, false, false, false, false] rfl rfl (zea HT_.out HW_.out (by kernel_rfl)) (fun _ _ _ h => h) (Or.inl ⟨by rfl, ?_⟩) hHeld ?_ ?_
      rotate_left
      ·rintro w' ⟨s0, s1, s2, s3, s4, s5, s6, s7, s8, s9, s10, s11⟩
       go_simp
       with_reducible rfl
      rotate_left
      ·simp only [Act.put, List.setIfInBounds_toArray, List.set_cons_zero, List.set_cons_succ, zv, zw]
       rfl
      refine zaa (i := 10) (N := some 51) (v := ?_) (a' := ?_) #[true, true, true, true, true, true, true, true, true, true, true, false, false, false] rfl rfl (zu HT_.out (by kernel_rfl)) (fun _ _ _ h => h) (Or.inl ⟨by rfl, ?_⟩) ?_ ?_
      rotate_left
      ·intro w'
       go_simp
       with_reducible rfl
      rotate_left
      ·simp only [Act.put, List.setIfInBounds_toArray, List.set_cons_zero, List.set_cons_succ, zv, zw]
       rfl
      refine zaa (i := 11) (N := some 52) (v := ?_) (a' := ?_) #[true, true, true, true, true, true, true, true, true, true, true, true, false, false] rfl rfl (zu HT_.out (by kernel_rfl)) (fun _ _ _ h => h) (Or.inl ⟨by rfl, ?_⟩) ?_ ?_
      rotate_left
      ·intro w'
       go_simp
       with_reducible rfl
      rotate_left
      ·simp only [Act.put, List.setIfInBounds_toArray, List.set_cons_zero, List.set_cons_succ, zv, zw]
       rfl
      refine zaa (i := 12) (N := some 53) (v := ?_) (a' := ?_) #[true, true, true, true, true, true, true, true, true, true, true, true, true, false] rfl rfl (zu HT_.out (by kernel_rfl)) (fun _ _ _ h => h) (Or.inl ⟨by rfl, ?_⟩) ?_ ?_
      rotate_left
      ·intro w'
       go_simp
       with_reducible rfl
      rotate_left
      ·simp only [Act.put, List.setIfInBounds_toArray, List.set_cons_zero, List.set_cons_succ, zv, zw]
       rfl
      refine zpb (i := 13) (N := none) #[true, true, true, true, true, true, true, true, true, true, true, true, true, true] rfl rfl (zna HT_.out (by kernel_rfl)) (by decide) (fun K hK => ?_)
      have hs31 : w30.cell? ⟨gb119, 1, none⟩ = some (.int .i64 x120001_1) := (zh BK119.out 1).trans rfl
      have hfs31 := zj BK119.out 1
      have hns31_0 := NB115_119.out
      have hns31_1 := NB116_119.out
      have hns31_2 := NB117_119.out
      have hns31_3 := NB118_119.out
      have hns31_5 := NB120_119.out
      have hms31_0 := NB119_115.out
      have hms31_1 := NB119_116.out
      have hms31_2 := NB119_117.out
      have hms31_3 := NB119_118.out
      have hms31_5 := NB119_120.out
      refine zza (w1 := ?_) (by rfl) rfl ?_ ?_
      rotate_left
      ·go_simp
       rfl
      refine hK.out _ _ ?_
      clear hK K
      refine zeb (zla HT_.out (by kernel_rfl)) ?_
      try go_wp2
      have n0_ : zg ((w30.setCell ⟨gb119, 1, none⟩ (.int .i64 (wrap64 (x120001_1 + (wrap64 (a1_0 - a2_0)))))).heap[gb115]? = some (.cells #[.int .i64 a1_0, .int .i64 a1_1, .int .i64 a1_2, .int .i64 a1_3] 25 (0, 0))) := ⟨by (with_reducible repeat (first | refine ze ?_ _ | refine zf ?_ | refine za ?_ _)); refine zk ?_ NB115_119.out _; (with_reducible repeat (first | refine ze ?_ _ | refine zf ?_ | refine za ?_ _)); exact BK115.out⟩
      have n1_ : zg ((w30.setCell ⟨gb119, 1, none⟩ (.int .i64 (wrap64 (x120001_1 + (wrap64 (a1_0 - a2_0)))))).heap[gb116]? = some (.cells #[.int .i64 a2_0, .int .i64 a2_1, .int .i64 a2_2, .int .i64 a2_3] 25 (0, 0))) := ⟨by (with_reducible repeat (first | refine ze ?_ _ | refine zf ?_ | refine za ?_ _)); refine zk ?_ NB116_119.out _; (with_reducible repeat (first | refine ze ?_ _ | refine zf ?_ | refine za ?_ _)); exact BK116.out⟩
      have n2_ : zg ((w30.setCell ⟨gb119, 1, none⟩ (.int .i64 (wrap64 (x120001_1 + (wrap64 (a1_0 - a2_0)))))).heap[gb117]? = some (.cells #[.int .i64 0, .int .i64 0, .int .i64 0, .int .i64 0] 25 (0, 0))) := ⟨by (with_reducible repeat (first | refine ze ?_ _ | refine zf ?_ | refine za ?_ _)); refine zk ?_ NB117_119.out _; (with_reducible repeat (first | refine ze ?_ _ | refine zf ?_ | refine za ?_ _)); exact BK117.out⟩
      have n3_ : zg ((w30.setCell ⟨gb119, 1, none⟩ (.int .i64 (wrap64 (x120001_1 + (wrap64 (a1_0 - a2_0)))))).heap[gb118]? = some (.cells #[.int .i64 0, .int .i64 0, .int .i64 0, .int .i64 0] 25 (0, 0))) := ⟨by (with_reducible repeat (first | refine ze ?_ _ | refine zf ?_ | refine za ?_ _)); refine zk ?_ NB118_119.out _; (with_reducible repeat (first | refine ze ?_ _ | refine zf ?_ | refine za ?_ _)); exact BK118.out⟩
      have n4_ : zg ((w30.setCell ⟨gb119, 1, none⟩ (.int .i64 (wrap64 (x120001_1 + (wrap64 (a1_0 - a2_0)))))).heap[gb119]? = some (.cells #[.int .i64 (wrap64 (x120000_1 + a2_0)), .int .i64 (wrap64 (x120001_1 + (wrap64 (a1_0 - a2_0)))), .int .i64 x120002_1, .int .i64 x120003_1] 25 (0, 0))) := ⟨by (with_reducible repeat (first | refine ze ?_ _ | refine zf ?_ | refine za ?_ _)); refine zy (cs := #[.int .i64 (wrap64 (x120000_1 + a2_0)), .int .i64 x120001_1, .int .i64 x120002_1, .int .i64 x120003_1]) ?_ 1 _ rfl; (with_reducible repeat (first | refine ze ?_ _ | refine zf ?_ | refine za ?_ _)); exact BK119.out⟩
      have n5_ : zg ((w30.setCell ⟨gb119, 1, none⟩ (.int .i64 (wrap64 (x120001_1 + (wrap64 (a1_0 - a2_0)))))).heap[gb120]? = some (.cells #[.int .i64 (wrap64 (x121000_1 + (wrap64 (a1_0 - a2_0)))), .int .i64 x121001_1, .int .i64 x121002_1, .int .i64 x121003_1] 25 (0, 0))) := ⟨by (with_reducible repeat (first | refine ze ?_ _ | refine zf ?_ | refine za ?_ _)); refine zk ?_ NB120_119.out _; (with_reducible repeat (first | refine ze ?_ _ | refine zf ?_ | refine za ?_ _)); exact BK120.out⟩
      have n6_ : zg (Below w.heap.size w (w30.setCell ⟨gb119, 1, none⟩ (.int .i64 (wrap64 (x120001_1 + (wrap64 (a1_0 - a2_0))))))) := ⟨sB⟩
      (try clear BK115)
      (try clear BK116)
      (try clear BK117)
      (try clear BK118)
      (try clear BK119)
      (try clear BK120)
      (try clear HB)
      generalize (w30.setCell ⟨gb119, 1, none⟩ (.int .i64 (wrap64 (x120001_1 + (wrap64 (a1_0 - a2_0)))))) = w32 at n0_ n1_ n2_ n3_ n4_ n5_ n6_ ⊢
      have BK115 := n0_
      have BK116 := n1_
      have BK117 := n2_
      have BK118 := n3_
      have BK119 := n4_
      have BK120 := n5_
      have HB := n6_
      clear n0_ n1_ n2_ n3_ n4_ n5_ n6_
      have n0_ := zg.mk (zf BK115.out)
      have n1_ := zg.mk (zf BK116.out)
      have n2_ := zg.mk (zf BK117.out)
      have n3_ := zg.mk (zf BK118.out)
      have n4_ := zg.mk (zf BK119.out)
      have n5_ := zg.mk (zf BK120.out)
      have n6_ := zg.mk (zo HB.out)
      clear BK115
      clear BK116
      clear BK117
      clear BK118
      clear BK119
      clear BK120
      clear HB
      have BK115 := n0_
      have BK116 := n1_
      have BK117 := n2_
      have BK118 := n3_
      have BK119 := n4_
      have BK120 := n5_
      have HB := n6_
      clear n0_ n1_ n2_ n3_ n4_ n5_ n6_
      refine zra (n := 10) (S := fun w' => w'.cell? ⟨gb120, 0, none⟩ = some (.int .i64 (wrap64 (x121000_1 + (wrap64 (a1_0 - a2_0))))) ∧ w'.cell? ⟨gb120, 1, none⟩ = some (.int .i64 x121001_1) ∧ w'.cell? ⟨gb120, 2, none⟩ = some (.int .i64 x121002_1) ∧ w'.cell? ⟨gb120, 3, none⟩ = some (.int .i64 x121003_1) ∧ w'.cell? ⟨gb116, 0, none⟩ = some (.int .i64 a2_0) ∧ w'.cell? ⟨gb116, 1, none⟩ = some (.int .i64 a2_1) ∧ w'.cell? ⟨gb116, 2, none⟩ = some (.int .i64 a2_2) ∧ w'.cell? ⟨gb116, 3, none⟩ = some (.int .i64 a2_3)) (ds := [9]) #[false, false, false, false, false, false, false, false, false, false] (by kernel_rfl) rfl rfl ⟨(zh BK120.out 0).trans rfl, (zh BK120.out 1).trans rfl, (zh BK120.out 2).trans rfl, (zh BK120.out 3).trans rfl, (zh BK116.out 0).trans rfl, (zh BK116.out 1).trans rfl, (zh BK116.out 2).trans rfl, (zh BK116.out 3).trans rfl⟩ (fun hHeld => ?_); refine zka spec_l06Split.tab10 spec_l06Split.bits10 (fun HT_ HW_ => ?_)
      generalize w32.drew = w33 at BK115 BK116 BK117 BK118 BK119 BK120 HB hHeld ⊢
      refine zaa (i := 0) (N := some 54) (v := ?_) (a' := ?_) #[true, false, false, false, false, false, false, false, false, false] rfl rfl (zu HT_.out (by kernel_rfl)) (fun _ _ _ h => h) (Or.inl ⟨by rfl, ?_⟩) ?_ ?_
      rotate_left
      ·intro w'
       go_simp
       with_reducible rfl
      rotate_left
      ·simp only [Act.put, List.setIfInBounds_toArray, List.set_cons_zero, List.set_cons_succ, zv, zw]
       rfl
      refine zaa (i := 1) (N := some 55) (v := ?_) (a' := ?_) #[true, true, false, false, false, false, false, false, false, false] rfl rfl (zu HT_.out (by kernel_rfl)) (fun _ _ _ h => h) (Or.inl ⟨by rfl, ?_⟩) ?_ ?_
      rotate_left
      ·intro w'
       go_simp
       with_reducible rfl
      rotate_left
      ·simp only [Act.put, List.setIfInBounds_toArray, List.set_cons_zero, List.set_cons_succ, zv, zw]
       rfl
      refine zaa (i := 2) (N := some 56) (v := ?_) (a' := ?_) #[true, true, true, false, false, false, false, false, false, false] rfl rfl (zu HT_.out (by kernel_rfl)) (fun _ _ _ h => h) (Or.inl ⟨by rfl, ?_⟩) ?_ ?_
      rotate_left
      ·intro w'
       go_simp
       with_reducible rfl
      rotate_left
      ·simp only [Act.put, List.setIfInBounds_toArray, List.set_cons_zero, List.set_cons_succ, zv, zw]
       rfl
      refine zaa (i := 4) (N := some 58) (v := ?_) (a' := ?_) #[true, true, true, false, true, false, false, false, false, false] rfl rfl (zu HT_.out (by kernel_rfl)) (fun _ _ _ h => h) (Or.inl ⟨by rfl, ?_⟩) ?_ ?_
      rotate_left
      ·intro w'
       go_simp
       with_reducible rfl
      rotate_left
      ·simp only [Act.put, List.setIfInBounds_toArray, List.set_cons_zero, List.set_cons_succ, zv, zw]
       rfl
      refine zaa (i := 5) (N := some 59) (v := ?_) (a' := ?_) #[true, true, true, false, true, true, false, false, false, false] rfl rfl (zu HT_.out (by kernel_rfl)) (fun _ _ _ h => h) (Or.inl ⟨by rfl, ?_⟩) ?_ ?_
      rotate_left
      ·intro w'
       go_simp
       with_reducible rfl
      rotate_left
      ·simp only [Act.put, List.setIfInBounds_toArray, List.set_cons_zero, List.set_cons_succ, zv, zw]
       rfl
      refine take_ (i := 3) (N := some 57) (v := ?_) (a' := ?_) #[true, true, true, true, true, true, false, false, false, false] rfl rfl (zea HT_.out HW_.out (by kernel_rfl)) (fun _ _ _ h => h) (Or.inl ⟨by rfl, ?_⟩) hHeld ?_ ?_
      rotate_left
      ·rintro w' ⟨s0, s1, s2, s3, s4, s5, s6, s7⟩
       go_simp
       with_reducible rfl
      rotate_left
      ·simp only [Act.put, List.setIfInBounds_toArray, List.set_cons_zero, List.set_cons_succ, zv, zw]
       rfl
      refine take_ (i := 6) (N := some 60) (v := ?_) (a' := ?_) #[true, true, true, true, true, true, true, false, false, false] rfl rfl (zea HT_.out HW_.out (by kernel_rfl)) (fun _ _ _ h => h) (Or.inl ⟨by rfl, ?_⟩) hHeld ?_ ?_
      rotate_left
      ·rintro w' ⟨s0, s1, s2, s3, s4, s5, s6, s7⟩
       go_simp
       with_reducible rfl
      rotate_left
      ·simp only [Act.put, List.setIfInBounds_toArray, List.set_cons_zero, List.set_cons_succ, zv, zw]
       rfl
      refine zaa (i := 7) (N := some 61) (v := ?_) (a' := ?_) #[true, true, true, true, true, true, true, true, false, false] rfl rfl (zu HT_.out (by kernel_rfl)) (fun _ _ _ h => h) (Or.inl ⟨by rfl, ?_⟩) ?_ ?_
      rotate_left
      ·intro w'
       go_simp
       with_reducible rfl
      rotate_left
      ·simp only [Act.put, List.setIfInBounds_toArray, List.set_cons_zero, List.set_cons_succ, zv, zw]
       rfl
      refine zaa (i := 8) (N := some 62) (v := ?_) (a' := ?_) #[true, true, true, true, true, true, true, true, true, false] rfl rfl (zu HT_.out (by kernel_rfl)) (fun _ _ _ h => h) (Or.inl ⟨by rfl, ?_⟩) ?_ ?_
      rotate_left
      ·intro w'
       go_simp
       with_reducible rfl
      rotate_left
      ·simp only [Act.put, List.setIfInBounds_toArray, List.set_cons_zero, List.set_cons_succ, zv, zw]
       rfl
      refine zpb (i := 9) (N := none) #[true, true, true, true, true, true, true, true, true, true] rfl rfl (zna HT_.out (by kernel_rfl)) (by decide) (fun K hK => ?_)
      have hs34 : w33.cell? ⟨gb120, 1, none⟩ = some (.int .i64 x121001_1) := (zh BK120.out 1).trans rfl
      have hfs34 := zj BK120.out 1
      have hns34_0 := NB115_120.out
      have hns34_1 := NB116_120.out
      have hns34_2 := NB117_120.out
      have hns34_3 := NB118_120.out
      have hns34_4 := NB119_120.out
      have hms34_0 := NB120_115.out
      have hms34_1 := NB120_116.out
      have hms34_2 := NB120_117.out
      have hms34_3 := NB120_118.out
      have hms34_4 := NB120_119.out
      refine zza (w1 := ?_) (by rfl) rfl ?_ ?_
      rotate_left
      ·go_simp
       rfl
      refine hK.out _ _ ?_
      clear hK K
      refine zeb (zla HT_.out (by kernel_rfl)) ?_
      try go_wp2
      go_roundg k1
      case measure => have := HK1.out; omega
      case rel => exact ⟨(0 + 1), (wrap64 (x120000_1 + a2_0)), (wrap64 (x120001_1 + (wrap64 (a1_0 - a2_0)))), (x120002_1), (x120003_1), (wrap64 (x121000_1 + (wrap64 (a1_0 - a2_0)))), (wrap64 (x121001_1 + a2_0)), (x121002_1), (x121003_1), (by first | rfl | (simp; done) | (simp [*]; done)), H', ⟨by have := HK1.out; omega⟩, ⟨by (with_reducible repeat (first | refine ze ?_ _ | refine zf ?_ | refine za ?_ _)); refine zk ?_ NB115_120.out _; (with_reducible repeat (first | refine ze ?_ _ | refine zf ?_ | refine za ?_ _)); exact BK115.out⟩, ⟨by (with_reducible repeat (first | refine ze ?_ _ | refine zf ?_ | refine za ?_ _)); refine zk ?_ NB116_120.out _; (with_reducible repeat (first | refine ze ?_ _ | refine zf ?_ | refine za ?_ _)); exact BK116.out⟩, ⟨by (with_reducible repeat (first | refine ze ?_ _ | refine zf ?_ | refine za ?_ _)); refine zk ?_ NB117_120.out _; (with_reducible repeat (first | refine ze ?_ _ | refine zf ?_ | refine za ?_ _)); exact BK117.out⟩, ⟨by (with_reducible repeat (first | refine ze ?_ _ | refine zf ?_ | refine za ?_ _)); refine zk ?_ NB118_120.out _; (with_reducible repeat (first | refine ze ?_ _ | refine zf ?_ | refine za ?_ _)); exact BK118.out⟩, ⟨by (with_reducible repeat (first | refine ze ?_ _ | refine zf ?_ | refine za ?_ _)); refine zk ?_ NB119_120.out _; (with_reducible repeat (first | refine ze ?_ _ | refine zf ?_ | refine za ?_ _)); exact BK119.out⟩, ⟨by (with_reducible repeat (first | refine ze ?_ _ | refine zf ?_ | refine za ?_ _)); refine zy (cs := #[.int .i64 (wrap64 (x121000_1 + (wrap64 (a1_0 - a2_0)))), .int .i64 x121001_1, .int .i64 x121002_1, .int .i64 x121003_1]) ?_ 1 _ rfl; (with_reducible repeat (first | refine ze ?_ _ | refine zf ?_ | refine za ?_ _)); exact BK120.out⟩, ⟨sB⟩⟩
     rw [if_neg c23] at H
     have c23b0 : decide (0 < a0) = false := decide_eq_false c23
     clear c23
     have H' := zg.mk H
     clear H
     try go_wp2
     have n0_ := zg.mk (zf BK115.out)
     have n1_ := zg.mk (zf BK116.out)
     have n2_ := zg.mk (zf BK117.out)
     have n3_ := zg.mk (zf BK118.out)
     have n4_ := zg.mk (zf BK119.out)
     have n5_ := zg.mk (zf BK120.out)
     have n6_ := zg.mk (zo HB.out)
     clear BK115
     clear BK116
     clear BK117
     clear BK118
     clear BK119
     clear BK120
     clear HB
     have BK115 := n0_
     have BK116 := n1_
     have BK117 := n2_
     have BK118 := n3_
     have BK119 := n4_
     have BK120 := n5_
     have HB := n6_
     clear n0_ n1_ n2_ n3_ n4_ n5_ n6_
     refine zra (n := 9) (S := fun w' => w'.cell? ⟨gb119, 0, none⟩ = some (.int .i64 x120000_1) ∧ w'.cell? ⟨gb119, 1, none⟩ = some (.int .i64 x120001_1) ∧ w'.cell? ⟨gb119, 2, none⟩ = some (.int .i64 x120002_1) ∧ w'.cell? ⟨gb119, 3, none⟩ = some (.int .i64 x120003_1) ∧ w'.cell? ⟨gb116, 0, none⟩ = some (.int .i64 a2_0) ∧ w'.cell? ⟨gb116, 1, none⟩ = some (.int .i64 a2_1) ∧ w'.cell? ⟨gb116, 2, none⟩ = some (.int .i64 a2_2) ∧ w'.cell? ⟨gb116, 3, none⟩ = some (.int .i64 a2_3)) (ds := [8]) #[false, false, false, false, false, false, false, false, false] (by kernel_rfl) rfl rfl ⟨(zh BK119.out 0).trans rfl, (zh BK119.out 1).trans rfl, (zh BK119.out 2).trans rfl, (zh BK119.out 3).trans rfl, (zh BK116.out 0).trans rfl, (zh BK116.out 1).trans rfl, (zh BK116.out 2).trans rfl, (zh BK116.out 3).trans rfl⟩ (fun hHeld => ?_); refine zka spec_l06Split.tab6 spec_l06Split.bits6 (fun HT_ HW_ => ?_)
     generalize wr.drew = w35 at BK115 BK116 BK117 BK118 BK119 BK120 HB hHeld ⊢
     refine zaa (i := 0) (N := some 18) (v := ?_) (a' := ?_) #[true, false, false, false, false, false, false, false, false] rfl rfl (zu HT_.out (by kernel_rfl)) (fun _ _ _ h => h) (Or.inl ⟨by rfl, ?_⟩) ?_ ?_
     rotate_left
     ·intro w'
      go_simp
      with_reducible rfl
     rotate_left
     ·simp only [Act.put, List.setIfInBounds_toArray, List.set_cons_zero, List.set_cons_succ, zv, zw]
      rfl
     refine zaa (i := 1) (N := some 19) (v := ?_) (a' := ?_) #[true, true, false, false, false, false, false, false, false] rfl rfl (zu HT_.out (by kernel_rfl)) (fun _ _ _ h => h) (Or.inl ⟨by rfl, ?_⟩) ?_ ?_
     rotate_left
     ·intro w'
      go_simp
      with_reducible rfl
     rotate_left
     ·simp only [Act.put, List.setIfInBounds_toArray, List.set_cons_zero, List.set_cons_succ, zv, zw]
      rfl
     refine zaa (i := 3) (N := some 21) (v := ?_) (a' := ?_) #[true, true, false, true, false, false, false, false, false] rfl rfl (zu HT_.out (by kernel_rfl)) (fun _ _ _ h => h) (Or.inl ⟨by rfl, ?_⟩) ?_ ?_
     rotate_left
     ·intro w'
      go_simp
      with_reducible rfl
     rotate_left
     ·simp only [Act.put, List.setIfInBounds_toArray, List.set_cons_zero, List.set_cons_succ, zv, zw]
      rfl
     refine zaa (i := 4) (N := some 22) (v := ?_) (a' := ?_) #[true, true, false, true, true, false, false, false, false] rfl rfl (zu HT_.out (by kernel_rfl)) (fun _ _ _ h => h) (Or.inl ⟨by rfl, ?_⟩) ?_ ?_
     rotate_left
     ·intro w'
      go_simp
      with_reducible rfl
     rotate_left
     ·simp only [Act.put, List.setIfInBounds_toArray, List.set_cons_zero, List.set_cons_succ, zv, zw]
      rfl
     refine take_ (i := 2) (N := some 20) (v := ?_) (a' := ?_) #[true, true, true, true, true, false, false, false, false] rfl rfl (zea HT_.out HW_.out (by kernel_rfl)) (fun _ _ _ h => h) (Or.inl ⟨by rfl, ?_⟩) hHeld ?_ ?_
     rotate_left
     ·rintro w' ⟨s0, s1, s2, s3, s4, s5, s6, s7⟩
      go_simp
      with_reducible rfl
     rotate_left
     ·simp only [Act.put, List.setIfInBounds_toArray, List.set_cons_zero, List.set_cons_succ, zv, zw]
      rfl
     refine take_ (i := 5) (N := some 23) (v := ?_) (a' := ?_) #[true, true, true, true, true, true, false, false, false] rfl rfl (zea HT_.out HW_.out (by kernel_rfl)) (fun _ _ _ h => h) (Or.inl ⟨by rfl, ?_⟩) hHeld ?_ ?_
     rotate_left
     ·rintro w' ⟨s0, s1, s2, s3, s4, s5, s6, s7⟩
      go_simp
      with_reducible rfl
     rotate_left
     ·simp only [Act.put, List.setIfInBounds_toArray, List.set_cons_zero, List.set_cons_succ, zv, zw]
      rfl
     refine zaa (i := 6) (N := some 24) (v := ?_) (a' := ?_) #[true, true, true, true, true, true, true, false, false] rfl rfl (zu HT_.out (by kernel_rfl)) (fun _ _ _ h => h) (Or.inl ⟨by rfl, ?_⟩) ?_ ?_
     rotate_left
     ·intro w'
      go_simp
      with_reducible rfl
     rotate_left
     ·simp only [Act.put, List.setIfInBounds_toArray, List.set_cons_zero, List.set_cons_succ, zv, zw]
      rfl
     refine zaa (i := 7) (N := some 25) (v := ?_) (a' := ?_) #[true, true, true, true, true, true, true, true, false] rfl rfl (zu HT_.out (by kernel_rfl)) (fun _ _ _ h => h) (Or.inl ⟨by rfl, ?_⟩) ?_ ?_
     rotate_left
     ·intro w'
      go_simp
      with_reducible rfl
     rotate_left
     ·simp only [Act.put, List.setIfInBounds_toArray, List.set_cons_zero, List.set_cons_succ, zv, zw]
      rfl
     refine zpb (i := 8) (N := none) #[true, true, true, true, true, true, true, true, true] rfl rfl (zna HT_.out (by kernel_rfl)) (by decide) (fun K hK => ?_)
     have hs36 : w35.cell? ⟨gb119, 0, none⟩ = some (.int .i64 x120000_1) := (zh BK119.out 0).trans rfl
     have hfs36 := zj BK119.out 0
     have hns36_0 := NB115_119.out
     have hns36_1 := NB116_119.out
     have hns36_2 := NB117_119.out
     have hns36_3 := NB118_119.out
     have hns36_5 := NB120_119.out
     have hms36_0 := NB119_115.out
     have hms36_1 := NB119_116.out
     have hms36_2 := NB119_117.out
     have hms36_3 := NB119_118.out
     have hms36_5 := NB119_120.out
     refine zza (w1 := ?_) (by rfl) rfl ?_ ?_
     rotate_left
     ·go_simp
      rfl
     refine hK.out _ _ ?_
     clear hK K
     refine zeb (zla HT_.out (by kernel_rfl)) ?_
     try go_wp2
     have n0_ : zg ((w35.setCell ⟨gb119, 0, none⟩ (.int .i64 (wrap64 (x120000_1 + a2_0)))).heap[gb115]? = some (.cells #[.int .i64 a1_0, .int .i64 a1_1, .int .i64 a1_2, .int .i64 a1_3] 25 (0, 0))) := ⟨by (with_reducible repeat (first | refine ze ?_ _ | refine zf ?_ | refine za ?_ _)); refine zk ?_ NB115_119.out _; (with_reducible repeat (first | refine ze ?_ _ | refine zf ?_ | refine za ?_ _)); exact BK115.out⟩
     have n1_ : zg ((w35.setCell ⟨gb119, 0, none⟩ (.int .i64 (wrap64 (x120000_1 + a2_0)))).heap[gb116]? = some (.cells #[.int .i64 a2_0, .int .i64 a2_1, .int .i64 a2_2, .int .i64 a2_3] 25 (0, 0))) := ⟨by (with_reducible repeat (first | refine ze ?_ _ | refine zf ?_ | refine za ?_ _)); refine zk ?_ NB116_119.out _; (with_reducible repeat (first | refine ze ?_ _ | refine zf ?_ | refine za ?_ _)); exact BK116.out⟩
     have n2_ : zg ((w35.setCell ⟨gb119, 0, none⟩ (.int .i64 (wrap64 (x120000_1 + a2_0)))).heap[gb117]? = some (.cells #[.int .i64 0, .int .i64 0, .int .i64 0, .int .i64 0] 25 (0, 0))) := ⟨by (with_reducible repeat (first | refine ze ?_ _ | refine zf ?_ | refine za ?_ _)); refine zk ?_ NB117_119.out _; (with_reducible repeat (first | refine ze ?_ _ | refine zf ?_ | refine za ?_ _)); exact BK117.out⟩
     have n3_ : zg ((w35.setCell ⟨gb119, 0, none⟩ (.int .i64 (wrap64 (x120000_1 + a2_0)))).heap[gb118]? = some (.cells #[.int .i64 0, .int .i64 0, .int .i64 0, .int .i64 0] 25 (0, 0))) := ⟨by (with_reducible repeat (first | refine ze ?_ _ | refine zf ?_ | refine za ?_ _)); refine zk ?_ NB118_119.out _; (with_reducible repeat (first | refine ze ?_ _ | refine zf ?_ | refine za ?_ _)); exact BK118.out⟩
     have n4_ : zg ((w35.setCell ⟨gb119, 0, none⟩ (.int .i64 (wrap64 (x120000_1 + a2_0)))).heap[gb119]? = some (.cells #[.int .i64 (wrap64 (x120000_1 + a2_0)), .int .i64 x120001_1, .int .i64 x120002_1, .int .i64 x120003_1] 25 (0, 0))) := ⟨by (with_reducible repeat (first | refine ze ?_ _ | refine zf ?_ | refine za ?_ _)); refine zy (cs := #[.int .i64 x120000_1, .int .i64 x120001_1, .int .i64 x120002_1, .int .i64 x120003_1]) ?_ 0 _ rfl; (with_reducible repeat (first | refine ze ?_ _ | refine zf ?_ | refine za ?_ _)); exact BK119.out⟩
     have n5_ : zg ((w35.setCell ⟨gb119, 0, none⟩ (.int .i64 (wrap64 (x120000_1 + a2_0)))).heap[gb120]? = some (.cells #[.int .i64 x121000_1, .int .i64 x121001_1, .int .i64 x121002_1, .int .i64 x121003_1] 25 (0, 0))) := ⟨by (with_reducible repeat (first | refine ze ?_ _ | refine zf ?_ | refine za ?_ _)); refine zk ?_ NB120_119.out _; (with_reducible repeat (first | refine ze ?_ _ | refine zf ?_ | refine za ?_ _)); exact BK120.out⟩
     have n6_ : zg (Below w.heap.size w (w35.setCell ⟨gb119, 0, none⟩ (.int .i64 (wrap64 (x120000_1 + a2_0))))) := ⟨sB⟩
     (try clear BK115)
     (try clear BK116)
     (try clear BK117)
     (try clear BK118)
     (try clear BK119)
     (try clear BK120)
     (try clear HB)
     generalize (w35.setCell ⟨gb119, 0, none⟩ (.int .i64 (wrap64 (x120000_1 + a2_0)))) = w37 at n0_ n1_ n2_ n3_ n4_ n5_ n6_ ⊢
     have BK115 := n0_
     have BK116 := n1_
     have BK117 := n2_
     have BK118 := n3_
     have BK119 := n4_
     have BK120 := n5_
     have HB := n6_
     clear n0_ n1_ n2_ n3_ n4_ n5_ n6_
     have n0_ := zg.mk (zf BK115.out)
     have n1_ := zg.mk (zf BK116.out)
     have n2_ := zg.mk (zf BK117.out)
     have n3_ := zg.mk (zf BK118.out)
     have n4_ := zg.mk (zf BK119.out)
     have n5_ := zg.mk (zf BK120.out)
     have n6_ := zg.mk (zo HB.out)
     clear BK115
     clear BK116
     clear BK117
     clear BK118
     clear BK119
     clear BK120
     clear HB
     have BK115 := n0_
     have BK116 := n1_
     have BK117 := n2_
     have BK118 := n3_
     have BK119 := n4_
     have BK120 := n5_
     have HB := n6_
     clear n0_ n1_ n2_ n3_ n4_ n5_ n6_
     refine zra (n := 13) (S := fun w' => w'.cell? ⟨gb120, 0, none⟩ = some (.int .i64 x121000_1) ∧ w'.cell? ⟨gb120, 1, none⟩ = some (.int .i64 x121001_1) ∧ w'.cell? ⟨gb120, 2, none⟩ = some (.int .i64 x121002_1) ∧ w'.cell? ⟨gb120, 3, none⟩ = some (.int .i64 x121003_1) ∧ w'.cell? ⟨gb115, 0, none⟩ = some (.int .i64 a1_0) ∧ w'.cell? ⟨gb115, 1, none⟩ = some (.int .i64 a1_1) ∧ w'.cell? ⟨gb115, 2, none⟩ = some (.int .i64 a1_2) ∧ w'.cell? ⟨gb115, 3, none⟩ = some (.int .i64 a1_3) ∧ w'.cell? ⟨gb116, 0, none⟩ = some (.int .i64 a2_0) ∧ w'.cell? ⟨gb116, 1, none⟩ = some (.int .i64 a2_1) ∧ w'.cell? ⟨gb116, 2, none⟩ = some (.int .i64 a2_2) ∧ w'.cell? ⟨gb116, 3, none⟩ = some (.int .i64 a2_3)) (ds := [12]) #[false, false, false, false, false, false, false, false, false, false, false, false, false] (by kernel_rfl) rfl rfl ⟨(zh BK120.out 0).trans rfl, (zh BK120.out 1).trans rfl, (zh BK120.out 2).trans rfl, (zh BK120.out 3).trans rfl, (zh BK115.out 0).trans rfl, (zh BK115.out 1).trans rfl, (zh BK115.out 2).trans rfl, (zh BK115.out 3).trans rfl, (zh BK116.out 0).trans rfl, (zh BK116.out 1).trans rfl, (zh BK116.out 2).trans rfl, (zh BK116.out 3).trans rfl⟩ (fun hHeld => ?_); refine zka spec_l06Split.tab7 spec_l06Split.bits7 (fun HT_ HW_ => ?_)
     generalize w37.drew = w38 at BK115 BK116 BK117 BK118 BK119 BK120 HB hHeld ⊢
     refine zaa (i := 0) (N := some 26) (v := ?_) (a' := ?_) #[true, false, false, false, false, false, false, false, false, false, false, false, false] rfl rfl (zu HT_.out (by kernel_rfl)) (fun _ _ _ h => h) (Or.inl ⟨by rfl, ?_⟩) ?_ ?_
     rotate_left
     ·intro w'
      go_simp
      with_reducible rfl
     rotate_left
     ·simp only [Act.put, List.setIfInBounds_toArray, List.set_cons_zero, List.set_cons_succ, zv, zw]
      rfl
     refine zaa (i := 1) (N := some 27) (v := ?_) (a' := ?_) #[true, true, false, false, false, false, false, false, false, false, false, false, false] rfl rfl (zu HT_.out (by kernel_rfl)) (fun _ _ _ h => h) (Or.inl ⟨by rfl, ?_⟩) ?_ ?_
     rotate_left
     ·intro w'
      go_simp
      with_reducible rfl
     rotate_left
     ·simp only [Act.put, List.setIfInBounds_toArray, List.set_cons_zero, List.set_cons_succ, zv, zw]
      rfl
     refine zaa (i := 3) (N := some 29) (v := ?_) (a' := ?_) #[true, true, false, true, false, false, false, false, false, false, false, false, false] rfl rfl (zu HT_.out (by kernel_rfl)) (fun _ _ _ h => h) (Or.inl ⟨by rfl, ?_⟩) ?_ ?_
     rotate_left
     ·intro w'
      go_simp
      with_reducible rfl
     rotate_left
     ·simp only [Act.put, List.setIfInBounds_toArray, List.set_cons_zero, List.set_cons_succ, zv, zw]
      rfl
     refine zaa (i := 4) (N := some 30) (v := ?_) (a' := ?_) #[true, true, false, true, true, false, false, false, false, false, false, false, false] rfl rfl (zu HT_.out (by kernel_rfl)) (fun _ _ _ h => h) (Or.inl ⟨by rfl, ?_⟩) ?_ ?_
     rotate_left
     ·intro w'
      go_simp
      with_reducible rfl
     rotate_left
     ·simp only [Act.put, List.setIfInBounds_toArray, List.set_cons_zero, List.set_cons_succ, zv, zw]
      rfl
     refine zaa (i := 6) (N := some 32) (v := ?_) (a' := ?_) #[true, true, false, true, true, false, true, false, false, false, false, false, false] rfl rfl (zu HT_.out (by kernel_rfl)) (fun _ _ _ h => h) (Or.inl ⟨by rfl, ?_⟩) ?_ ?_
     rotate_left
     ·intro w'
      go_simp
      with_reducible rfl
     rotate_left
     ·simp only [Act.put, List.setIfInBounds_toArray, List.set_cons_zero, List.set_cons_succ, zv, zw]
      rfl
     refine zaa (i := 7) (N := some 33) (v := ?_) (a' := ?_) #[true, true, false, true, true, false, true, true, false, false, false, false, false] rfl rfl (zu HT_.out (by kernel_rfl)) (fun _ _ _ h => h) (Or.inl ⟨by rfl, ?_⟩) ?_ ?_
     rotate_left
     ·intro w'
      go_simp
      with_reducible rfl
     rotate_left
     ·simp only [Act.put, List.setIfInBounds_toArray, List.set_cons_zero, List.set_cons_succ, zv, zw]
      rfl
     refine take_ (i := 2) (N := some 28) (v := ?_) (a' := ?_) #[true, true, true, true, true, false, true, true, false, false, false, false, false] rfl rfl (zea HT_.out HW_.out (by kernel_rfl)) (fun _ _ _ h => h) (Or.inl ⟨by rfl, ?_⟩) hHeld ?_ ?_
     rotate_left
     ·rintro w' ⟨s0, s1, s2, s3, s4, s5, s6, s7, s8, s9, s10, s11⟩
      go_simp
      with_reducible rfl
     rotate_left
     ·simp only [Act.put, List.setIfInBounds_toArray, List.set_cons_zero, List.set_cons_succ, zv, zw]
      rfl
     refine take_ (i := 5) (N := some 31) (v := ?_) (a' := ?_) #[true, true, true, true, true, true, true, true, false, false, false, false, false] rfl rfl (zea HT_.out HW_.out (by kernel_rfl)) (fun _ _ _ h => h) (Or.inl ⟨by rfl, ?_⟩) hHeld ?_ ?_
     rotate_left
     ·rintro w' ⟨s0, s1, s2, s3, s4, s5, s6, s7, s8, s9, s10, s11⟩
      go_simp
      with_reducible rfl
     rotate_left
     ·simp only [Act.put, List.setIfInBounds_toArray, List.set_cons_zero, List.set_cons_succ, zv, zw]
      rfl
     refine take_ (i := 8) (N := some 34) (v := ?_) (a' := ?_) #[true, true, true, true, true, true, true, true, true, false, false, false, false] rfl rfl (zea HT_.out HW_.out (by kernel_rfl)) (fun _ _ _ h => h) (Or.inl ⟨by rfl, ?_⟩) hHeld ?_ ?_
     rotate_left
     ·rintro w' ⟨s0, s1, s2, s3, s4, s5, s6, s7, s8, s9, s10, s11⟩
      go_simp
      with_reducible rfl
     rotate_left
     ·simp only [Act.put, List.setIfInBounds_toArray, List.set_cons_zero, List.set_cons_succ, zv, zw]
      rfl
     refine zaa (i := 9) (N := some 35) (v := ?_) (a' := ?_) #[true, true, true, true, true, true, true, true, true, true, false, false, false] rfl rfl (zu HT_.out (by kernel_rfl)) (fun _ _ _ h => h) (Or.inl ⟨by rfl, ?_⟩) ?_ ?_
     rotate_left
     ·intro w'
      go_simp
      with_reducible rfl
     rotate_left
     ·simp only [Act.put, List.setIfInBounds_toArray, List.set_cons_zero, List.set_cons_succ, zv, zw]
      rfl
     refine zaa (i := 10) (N := some 36) (v := ?_) (a' := ?_) #[true, true, true, true, true, true, true, true, true, true, true, false, false] rfl rfl (zu HT_.out (by kernel_rfl)) (fun _ _ _ h => h) (Or.inl ⟨by rfl, ?_⟩) ?_ ?_
     rotate_left
     ·intro w'
      go_simp
      with_reducible rfl
     rotate_left
     ·simp only [Act.put, List.setIfInBounds_toArray, List.set_cons_zero, List.set_cons_succ, zv, zw]
      rfl
     refine zaa (i := 11) (N := some 37) (v := ?_) (a' := ?_) #[true, true, true, true, true, true, true, true, true, true, true, true, false] rfl rfl (zu HT_.out (by kernel_rfl)) (fun _ _ _ h => h) (Or.inl ⟨by rfl, ?_⟩) ?_ ?_
     rotate_left
     ·intro w'
      go_simp
      with_reducible rfl
     rotate_left
     ·simp only [Act.put, List.setIfInBounds_toArray, List.set_cons_zero, List.set_cons_succ, zv, zw]
      rfl
     refine zpb (i := 12) (N := none) #[true, true, true, true, true, true, true, true, true, true, true, true, true] rfl rfl (zna HT_.out (by kernel_rfl)) (by decide) (fun K hK => ?_)
     have hs39 : w38.cell? ⟨gb120, 0, none⟩ = some (.int .i64 x121000_1) := (zh BK120.out 0).trans rfl
     have hfs39 := zj BK120.out 0
     have hns39_0 := NB115_120.out
     have hns39_1 := NB116_120.out
     have hns39_2 := NB117_120.out
     have hns39_3 := NB118_120.out
     have hns39_4 := NB119_120.out
     have hms39_0 := NB120_115.out
     have hms39_1 := NB120_116.out
     have hms39_2 := NB120_117.out
     have hms39_3 := NB120_118.out
     have hms39_4 := NB120_119.out
     refine zza (w1 := ?_) (by rfl) rfl ?_ ?_
     rotate_left
     ·go_simp
      rfl
     refine hK.out _ _ ?_
     clear hK K
     refine zeb (zla HT_.out (by kernel_rfl)) ?_
     try go_wp2
     go_roundg k1
     case measure => have := HK1.out; omega
     case rel => exact ⟨(0 + 1), (wrap64 (x120000_1 + a2_0)), (x120001_1), (x120002_1), (x120003_1), (wrap64 (x121000_1 + (wrap64 (a1_0 - a2_0)))), (x121001_1), (x121002_1), (x121003_1), (by first | rfl | (simp; done) | (simp [*]; done)), H', ⟨by have := HK1.out; omega⟩, ⟨by (with_reducible repeat (first | refine ze ?_ _ | refine zf ?_ | refine za ?_ _)); refine zk ?_ NB115_120.out _; (with_reducible repeat (first | refine ze ?_ _ | refine zf ?_ | refine za ?_ _)); exact BK115.out⟩, ⟨by (with_reducible repeat (first | refine ze ?_ _ | refine zf ?_ | refine za ?_ _)); refine zk ?_ NB116_120.out _; (with_reducible repeat (first | refine ze ?_ _ | refine zf ?_ | refine za ?_ _)); exact BK116.out⟩, ⟨by (with_reducible repeat (first | refine ze ?_ _ | refine zf ?_ | refine za ?_ _)); refine zk ?_ NB117_120.out _; (with_reducible repeat (first | refine ze ?_ _ | refine zf ?_ | refine za ?_ _)); exact BK117.out⟩, ⟨by (with_reducible repeat (first | refine ze ?_ _ | refine zf ?_ | refine za ?_ _)); refine zk ?_ NB118_120.out _; (with_reducible repeat (first | refine ze ?_ _ | refine zf ?_ | refine za ?_ _)); exact BK118.out⟩, ⟨by (with_reducible repeat (first | refine ze ?_ _ | refine zf ?_ | refine za ?_ _)); refine zk ?_ NB119_120.out _; (with_reducible repeat (first | refine ze ?_ _ | refine zf ?_ | refine za ?_ _)); exact BK119.out⟩, ⟨by (with_reducible repeat (first | refine ze ?_ _ | refine zf ?_ | refine za ?_ _)); refine zy (cs := #[.int .i64 x121000_1, .int .i64 x121001_1, .int .i64 x121002_1, .int .i64 x121003_1]) ?_ 0 _ rfl; (with_reducible repeat (first | refine ze ?_ _ | refine zf ?_ | refine za ?_ _)); exact BK120.out⟩, ⟨sB⟩⟩
    rw [if_neg c22] at H
    clear c22
    by_cases c40 : x10_1 = 1
    ·rw [if_pos c40] at H
     subst c40
     by_cases c41 : 1 < a0
     ·rw [if_pos c41] at H
      have c41b0 : decide (1 < a0) = true := decide_eq_true c41
      clear c41
      have H' := zg.mk H
      clear H
      try go_wp2
      have n0_ := zg.mk (zf BK115.out)
      have n1_ := zg.mk (zf BK116.out)
      have n2_ := zg.mk (zf BK117.out)
      have n3_ := zg.mk (zf BK118.out)
      have n4_ := zg.mk (zf BK119.out)
      have n5_ := zg.mk (zf BK120.out)
      have n6_ := zg.mk (zo HB.out)
      clear BK115
      clear BK116
      clear BK117
      clear BK118
      clear BK119
      clear BK120
      clear HB
      have BK115 := n0_
      have BK116 := n1_
      have BK117 := n2_
      have BK118 := n3_
      have BK119 := n4_
      have BK120 := n5_
      have HB := n6_
      clear n0_ n1_ n2_ n3_ n4_ n5_ n6_
      refine zra (n := 9) (S := fun w' => w'.cell? ⟨gb119, 0, none⟩ = some (.int .i64 x120000_1) ∧ w'.cell? ⟨gb119, 1, none⟩ = some (.int .i64 x120001_1) ∧ w'.cell? ⟨gb119, 2, none⟩ = some (.int .i64 x120002_1) ∧ w'.cell? ⟨gb119, 3, none⟩ = some (.int .i64 x120003_1) ∧ w'.cell? ⟨gb116, 0, none⟩ = some (.int .i64 a2_0) ∧ w'.cell? ⟨gb116, 1, none⟩ = some (.int .i64 a2_1) ∧ w'.cell? ⟨gb116, 2, none⟩ = some (.int .i64 a2_2) ∧ w'.cell? ⟨gb116, 3, none⟩ = some (.int .i64 a2_3)) (ds := [8]) #[false, false, false, false, false, false, false, false, false] (by kernel_rfl) rfl rfl ⟨(zh BK119.out 0).trans rfl, (zh BK119.out 1).trans rfl, (zh BK119.out 2).trans rfl, (zh BK119.out 3).trans rfl, (zh BK116.out 0).trans rfl, (zh BK116.out 1).trans rfl, (zh BK116.out 2).trans rfl, (zh BK116.out 3).trans rfl⟩ (fun hHeld => ?_); refine zka spec_l06Split.tab6 spec_l06Split.bits6 (fun HT_ HW_ => ?_)
      generalize wr.drew = w42 at BK115 BK116 BK117 BK118 BK119 BK120 HB hHeld ⊢
      refine zaa (i := 0) (N := some 18) (v := ?_) (a' := ?_) #[true, false, false, false, false, false, false, false, false] rfl rfl (zu HT_.out (by kernel_rfl)) (fun _ _ _ h => h) (Or.inl ⟨by rfl, ?_⟩) ?_ ?_
      rotate_left
      ·intro w'
       go_simp
       with_reducible rfl
      rotate_left
      ·simp only [Act.put, List.setIfInBounds_toArray, List.set_cons_zero, List.set_cons_succ, zv, zw]
       rfl
      refine zaa (i := 1) (N := some 19) (v := ?_) (a' := ?_) #[true, true, false, false, false, false, false, false, false] rfl rfl (zu HT_.out (by kernel_rfl)) (fun _ _ _ h => h) (Or.inl ⟨by rfl, ?_⟩) ?_ ?_
      rotate_left
      ·intro w'
       go_simp
       with_reducible rfl
      rotate_left
      ·simp only [Act.put, List.setIfInBounds_toArray, List.set_cons_zero, List.set_cons_succ, zv, zw]
       rfl
      refine zaa (i := 3) (N := some 21) (v := ?_) (a' := ?_) #[true, true, false, true, false, false, false, false, false] rfl rfl (zu HT_.out (by kernel_rfl)) (fun _ _ _ h => h) (Or.inl ⟨by rfl, ?_⟩) ?_ ?_
      rotate_left
      ·intro w'
       go_simp
       with_reducible rfl
      rotate_left
      ·simp only [Act.put, List.setIfInBounds_toArray, List.set_cons_zero, List.set_cons_succ, zv, zw]
       rfl
      refine zaa (i := 4) (N := some 22) (v := ?_) (a' := ?_) #[true, true, false, true, true, false, false, false, false] rfl rfl (zu HT_.out (by kernel_rfl)) (fun _ _ _ h => h) (Or.inl ⟨by rfl, ?_⟩) ?_ ?_
      rotate_left
      ·intro w'
       go_simp
       with_reducible rfl
      rotate_left
      ·simp only [Act.put, List.setIfInBounds_toArray, List.set_cons_zero, List.set_cons_succ, zv, zw]
       rfl
      refine take_ (i := 2) (N := some 20) (v := ?_) (a' := ?_) #[true, true, true, true, true, false, false, false, false] rfl rfl (zea HT_.out HW_.out (by kernel_rfl)) (fun _ _ _ h => h) (Or.inl ⟨by rfl, ?_⟩) hHeld ?_ ?_
      rotate_left
      ·rintro w' ⟨s0, s1, s2, s3, s4, s5, s6, s7⟩
       go_simp
       with_reducible rfl
      rotate_left
      ·simp only [Act.put, List.setIfInBounds_toArray, List.set_cons_zero, List.set_cons_succ, zv, zw]
       rfl
      refine take_ (i := 5) (N := some 23) (v := ?_) (a' := ?_) #[true, true, true, true, true, true, false, false, false] rfl rfl (zea HT_.out HW_.out (by kernel_rfl)) (fun _ _ _ h => h) (Or.inl ⟨by rfl, ?_⟩) hHeld ?_ ?_
      rotate_left
      ·rintro w' ⟨s0, s1, s2, s3, s4, s5, s6, s7⟩
       go_simp
       with_reducible rfl
      rotate_left
      ·simp only [Act.put, List.setIfInBounds_toArray, List.set_cons_zero, List.set_cons_succ, zv, zw]
       rfl
      refine zaa (i := 6) (N := some 24) (v := ?_) (a' := ?_) #[true, true, true, true, true, true, true, false, false] rfl rfl (zu HT_.out (by kernel_rfl)) (fun _ _ _ h => h) (Or.inl ⟨by rfl, ?_⟩) ?_ ?_
      rotate_left
      ·intro w'
       go_simp
       with_reducible rfl
      rotate_left
      ·simp only [Act.put, List.setIfInBounds_toArray, List.set_cons_zero, List.set_cons_succ, zv, zw]
       rfl
      refine zaa (i := 7) (N := some 25) (v := ?_) (a' := ?_) #[true, true, true, true, true, true, true, true, false] rfl rfl (zu HT_.out (by kernel_rfl)) (fun _ _ _ h => h) (Or.inl ⟨by rfl, ?_⟩) ?_ ?_
      rotate_left
      ·intro w'
       go_simp
       with_reducible rfl
      rotate_left
      ·simp only [Act.put, List.setIfInBounds_toArray, List.set_cons_zero, List.set_cons_succ, zv, zw]
       rfl
      refine zpb (i := 8) (N := none) #[true, true, true, true, true, true, true, true, true] rfl rfl (zna HT_.out (by kernel_rfl)) (by decide) (fun K hK => ?_)
      have hs43 : w42.cell? ⟨gb119, 1, none⟩ = some (.int .i64 x120001_1) := (zh BK119.out 1).trans rfl
      have hfs43 := zj BK119.out 1
      have hns43_0 := NB115_119.out
      have hns43_1 := NB116_119.out
      have hns43_2 := NB117_119.out
      have hns43_3 := NB118_119.out
      have hns43_5 := NB120_119.out
      have hms43_0 := NB119_115.out
      have hms43_1 := NB119_116.out
      have hms43_2 := NB119_117.out
      have hms43_3 := NB119_118.out
      have hms43_5 := NB119_120.out
      refine zza (w1 := ?_) (by rfl) rfl ?_ ?_
      rotate_left
      ·go_simp
       rfl
      refine hK.out _ _ ?_
      clear hK K
      refine zeb (zla HT_.out (by kernel_rfl)) ?_
      try go_wp2
      have n0_ : zg ((w42.setCell ⟨gb119, 1, none⟩ (.int .i64 (wrap64 (x120001_1 + a2_1)))).heap[gb115]? = some (.cells #[.int .i64 a1_0, .int .i64 a1_1, .int .i64 a1_2, .int .i64 a1_3] 25 (0, 0))) := ⟨by (with_reducible repeat (first | refine ze ?_ _ | refine zf ?_ | refine za ?_ _)); refine zk ?_ NB115_119.out _; (with_reducible repeat (first | refine ze ?_ _ | refine zf ?_ | refine za ?_ _)); exact BK115.out⟩
      have n1_ : zg ((w42.setCell ⟨gb119, 1, none⟩ (.int .i64 (wrap64 (x120001_1 + a2_1)))).heap[gb116]? = some (.cells #[.int .i64 a2_0, .int .i64 a2_1, .int .i64 a2_2, .int .i64 a2_3] 25 (0, 0))) := ⟨by (with_reducible repeat (first | refine ze ?_ _ | refine zf ?_ | refine za ?_ _)); refine zk ?_ NB116_119.out _; (with_reducible repeat (first | refine ze ?_ _ | refine zf ?_ | refine za ?_ _)); exact BK116.out⟩
      have n2_ : zg ((w42.setCell ⟨gb119, 1, none⟩ (.int .i64 (wrap64 (x120001_1 + a2_1)))).heap[gb117]? = some (.cells #[.int .i64 0, .int .i64 0, .int .i64 0, .int .i64 0] 25 (0, 0))) := ⟨by (with_reducible repeat (first | refine ze ?_ _ | refine zf ?_ | refine za ?_ _)); refine zk ?_ NB117_119.out _; (with_reducible repeat (first | refine ze ?_ _ | refine zf ?_ | refine za ?_ _)); exact BK117.out⟩
      have n3_ : zg ((w42.setCell ⟨gb119, 1, none⟩ (.int .i64 (wrap64 (x120001_1 + a2_1)))).heap[gb118]? = some (.cells #[.int .i64 0, .int .i64 0, .int .i64 0, .int .i64 0] 25 (0, 0))) := ⟨by (with_reducible repeat (first | refine ze ?_ _ | refine zf ?_ | refine za ?_ _)); refine zk ?_ NB118_119.out _; (with_reducible repeat (first | refine ze ?_ _ | refine zf ?_ | refine za ?_ _)); exact BK118.out⟩
      have n4_ : zg ((w42.setCell ⟨gb119, 1, none⟩ (.int .i64 (wrap64 (x120001_1 + a2_1)))).heap[gb119]? = some (.cells #[.int .i64 x120000_1, .int .i64 (wrap64 (x120001_1 + a2_1)), .int .i64 x120002_1, .int .i64 x120003_1] 25 (0, 0))) := ⟨by (with_reducible repeat (first | refine ze ?_ _ | refine zf ?_ | refine za ?_ _)); refine zy (cs := #[.int .i64 x120000_1, .int .i64 x120001_1, .int .i64 x120002_1, .int .i64 x120003_1]) ?_ 1 _ rfl; (with_reducible repeat (first | refine ze ?_ _ | refine zf ?_ | refine za ?_ _)); exact BK119.out⟩
      have n5_ : zg ((w42.setCell ⟨gb119, 1, none⟩ (.int .i64 (wrap64 (x120001_1 + a2_1)))).heap[gb120]? = some (.cells #[.int .i64 x121000_1, .int .i64 x121001_1, .int .i64 x121002_1, .int .i64 x121003_1] 25 (0, 0))) := ⟨by (with_reducible repeat (first | refine ze ?_ _ | refine zf ?_ | refine za ?_ _)); refine zk ?_ NB120_119.out _; (with_reducible repeat (first | refine ze ?_ _ | refine zf ?_ | refine za ?_ _)); exact BK120.out⟩
      have n6_ : zg (Below w.heap.size w (w42.setCell ⟨gb119, 1, none⟩ (.int .i64 (wrap64 (x120001_1 + a2_1))))) := ⟨sB⟩
      (try clear BK115)
      (try clear BK116)
      (try clear BK117)
      (try clear BK118)
      (try clear BK119)
      (try clear BK120)
      (try clear HB)
      generalize (w42.setCell ⟨gb119, 1, none⟩ (.int .i64 (wrap64 (x120001_1 + a2_1)))) = w44 at n0_ n1_ n2_ n3_ n4_ n5_ n6_ ⊢
      have BK115 := n0_
      have BK116 := n1_
      have BK117 := n2_
      have BK118 := n3_
      have BK119 := n4_
      have BK120 := n5_
      have HB := n6_
      clear n0_ n1_ n2_ n3_ n4_ n5_ n6_
      have n0_ := zg.mk (zf BK115.out)
      have n1_ := zg.mk (zf BK116.out)
      have n2_ := zg.mk (zf BK117.out)
      have n3_ := zg.mk (zf BK118.out)
      have n4_ := zg.mk (zf BK119.out)
      have n5_ := zg.mk (zf BK120.out)
      have n6_ := zg.mk (zo HB.out)
      clear BK115
      clear BK116
      clear BK117
      clear BK118
      clear BK119
      clear BK120
      clear HB
      have BK115 := n0_
      have BK116 := n1_
      have BK117 := n2_
      have BK118 := n3_
      have BK119 := n4_
      have BK120 := n5_
      have HB := n6_
      clear n0_ n1_ n2_ n3_ n4_ n5_ n6_
      refine zra (n := 13) (S := fun w' => w'.cell? ⟨gb120, 0, none⟩ = some (.int .i64 x121000_1) ∧ w'.cell? ⟨gb120, 1, none⟩ = some (.int .i64 x121001_1) ∧ w'.cell? ⟨gb120, 2, none⟩ = some (.int .i64 x121002_1) ∧ w'.cell? ⟨gb120, 3, none⟩ = some (.int .i64 x121003_1) ∧ w'.cell? ⟨gb115, 0, none⟩ = some (.int .i64 a1_0) ∧ w'.cell? ⟨gb115, 1, none⟩ = some (.int .i64 a1_1) ∧ w'.cell? ⟨gb115, 2, none⟩ = some (.int .i64 a1_2) ∧ w'.cell? ⟨gb115, 3, none⟩ = some (.int .i64 a1_3) ∧ w'.cell? ⟨gb116, 0, none⟩ = some (.int .i64 a2_0) ∧ w'.cell? ⟨gb116, 1, none⟩ = some (.int .i64 a2_1) ∧ w'.cell? ⟨gb116, 2, none⟩ = some (.int .i64 a2_2) ∧ w'.cell? ⟨gb116, 3, none⟩ = some (.int .i64 a2_3)) (ds := [12]) #[false, false, false, false, false, false, false, false, false, false, false, false, false] (by kernel_rfl) rfl rfl ⟨(zh BK120.out 0).trans rfl, (zh BK120.out 1).trans rfl, (zh BK120.out 2).trans rfl, (zh BK120.out 3).trans rfl, (zh BK115.out 0).trans rfl, (zh BK115.out 1).trans rfl, (zh BK115.out 2).trans rfl, (zh BK115.out 3).trans rfl, (zh BK116.out 0).trans rfl, (zh BK116.out 1).trans rfl, (zh BK116.out 2).trans rfl, (zh BK116.out 3).trans rfl⟩ (fun hHeld => ?_); refine zka spec_l06Split.tab7 spec_l06Split.bits7 (fun HT_ HW_ => ?_)
      generalize w44.drew = w45 at BK115 BK116 BK117 BK118 BK119 BK120 HB hHeld ⊢
      refine zaa (i := 0) (N := some 26) (v := ?_) (a' := ?_) #[true, false, false, false, false, false, false, false, false, false, false, false, false] rfl rfl (zu HT_.out (by kernel_rfl)) (fun _ _ _ h => h) (Or.inl ⟨by rfl, ?_⟩) ?_ ?_
      rotate_left
      ·intro w'
       go_simp
       with_reducible rfl
      rotate_left
      ·simp only [Act.put, List.setIfInBounds_toArray, List.set_cons_zero, List.set_cons_succ, zv, zw]
       rfl
      refine zaa (i := 1) (N := some 27) (v := ?_) (a' := ?_) #[true, true, false, false, false, false, false, false, false, false, false, false, false] rfl rfl (zu HT_.out (by kernel_rfl)) (fun _ _ _ h => h) (Or.inl ⟨by rfl, ?_⟩) ?_ ?_
      rotate_left
      ·intro w'
       go_simp
       with_reducible rfl
      rotate_left
      ·simp only [Act.put, List.setIfInBounds_toArray, List.set_cons_zero, List.set_cons_succ, zv, zw]
       rfl
      refine zaa (i := 3) (N := some 29) (v := ?_) (a' := ?_) #[true, true, false, true, false, false, false, false, false, false, false, false, false] rfl rfl (zu HT_.out (by kernel_rfl)) (fun _ _ _ h => h) (Or.inl ⟨by rfl, ?_⟩) ?_ ?_
      rotate_left
      ·intro w'
       go_simp
       with_reducible rfl
      rotate_left
      ·simp only [Act.put, List.setIfInBounds_toArray, List.set_cons_zero, List.set_cons_succ, zv, zw]
       rfl
      refine zaa (i := 4) (N := some 30) (v := ?_) (a' := ?_) #[true, true, false, true, true, false, false, false, false, false, false, false, false] rfl rfl (zu HT_.out (by kernel_rfl)) (fun _ _ _ h => h) (Or.inl ⟨by rfl, ?_⟩) ?_ ?_
      rotate_left
      ·intro w'
       go_simp
       with_reducible rfl
      rotate_left
      ·simp only [Act.put, List.setIfInBounds_toArray, List.set_cons_zero, List.set_cons_succ, zv, zw]
       rfl
      refine zaa (i := 6) (N := some 32) (v := ?_) (a' := ?_) #[true, true, false, true, true, false, true, false, false, false, false, false, false] rfl rfl (zu HT_.out (by kernel_rfl)) (fun _ _ _ h => h) (Or.inl ⟨by rfl, ?_⟩) ?_ ?_
      rotate_left
      ·intro w'
       go_simp
       with_reducible rfl
      rotate_left
      ·simp only [Act.put, List.setIfInBounds_toArray, List.set_cons_zero, List.set_cons_succ, zv, zw]
       rfl
      refine zaa (i := 7) (N := some 33) (v := ?_) (a' := ?_) #[true, true, false, true, true, false, true, true, false, false, false, false, false] rfl rfl (zu HT_.out (by kernel_rfl)) (fun _ _ _ h => h) (Or.inl ⟨by rfl, ?_⟩) ?_ ?_
      rotate_left
      ·intro w'
       go_simp
       with_reducible rfl
      rotate_left
      ·simp only [Act.put, List.setIfInBounds_toArray, List.set_cons_zero, List.set_cons_succ, zv, zw]
       rfl
      refine take_ (i := 2) (N := some 28) (v := ?_) (a' := ?_) #[true, true, true, true, true, false, true, true, false, false, false, false, false] rfl rfl (zea HT_.out HW_.out (by kernel_rfl)) (fun _ _ _ h => h) (Or.inl ⟨by rfl, ?_⟩) hHeld ?_ ?_
      rotate_left
      ·rintro w' ⟨s0, s1, s2, s3, s4, s5, s6, s7, s8, s9, s10, s11⟩
       go_simp
       with_reducible rfl
      rotate_left
      ·simp only [Act.put, List.setIfInBounds_toArray, List.set_cons_zero, List.set_cons_succ, zv, zw]
       rfl
      refine take_ (i := 5) (N := some 31) (v := ?_) (a' := ?_) #[true, true, true, true, true, true, true, true, false, false, false, false, false] rfl rfl (zea HT_.out HW_.out (by kernel_rfl)) (fun _ _ _ h => h) (Or.inl ⟨by rfl, ?_⟩) hHeld ?_ ?_
      rotate_left
      ·rintro w' ⟨s0, s1, s2, s3, s4, s5, s6, s7, s8, s9, s10, s11⟩
       go_simp
       with_reducible rfl
      rotate_left
      ·simp only [Act.put, List.setIfInBounds_toArray, List.set_cons_zero, List.set_cons_succ, zv, zw]
       rfl
      refine take_ (i := 8) (N := some 34) (v := ?_) (a' := ?_) #[true, true, true, true, true, true, true, true, true, false, false, false, false] rfl rfl (zea HT_.out HW_.out (by kernel_rfl)) (fun _ _ _ h => h) (Or.inl ⟨by rfl, ?_⟩) hHeld ?_ ?_
      rotate_left
      ·rintro w' ⟨s0, s1, s2, s3, s4, s5, s6, s7, s8, s9, s10, s11⟩
       go_simp
       with_reducible rfl
      rotate_left
      ·simp only [Act.put, List.setIfInBounds_toArray, List.set_cons_zero, List.set_cons_succ, zv, zw]
       rfl
      refine zaa (i := 9) (N := some 35) (v := ?_) (a' := ?_) #[true, true, true, true, true, true, true, true, true, true, false, false, false] rfl rfl (zu HT_.out (by kernel_rfl)) (fun _ _ _ h => h) (Or.inl ⟨by rfl, ?_⟩) ?_ ?_
      rotate_left
      ·intro w'
       go_simp
       with_reducible rfl
      rotate_left
      ·simp only [Act.put, List.setIfInBounds_toArray, List.set_cons_zero, List.set_cons_succ, zv, zw]
       rfl
      refine zaa (i := 10) (N := some 36) (v := ?_) (a' := ?_) #[true, true, true, true, true, true, true, true, true, true, true, false, false] rfl rfl (zu HT_.out (by kernel_rfl)) (fun _ _ _ h => h) (Or.inl ⟨by rfl, ?_⟩) ?_ ?_
      rotate_left
      ·intro w'
       go_simp
       with_reducible rfl
      rotate_left
      ·simp only [Act.put, List.setIfInBounds_toArray, List.set_cons_zero, List.set_cons_succ, zv, zw]
       rfl
      refine zaa (i := 11) (N := some 37) (v := ?_) (a' := ?_) #[true, true, true, true, true, true, true, true, true, true, true, true, false] rfl rfl (zu HT_.out (by kernel_rfl)) (fun _ _ _ h => h) (Or.inl ⟨by rfl, ?_⟩) ?_ ?_
      rotate_left
      ·intro w'
       go_simp
       with_reducible rfl
      rotate_left
      ·simp only [Act.put, List.setIfInBounds_toArray, List.set_cons_zero, List.set_cons_succ, zv, zw]
       rfl
      refine zpb (i := 12) (N := none) #[true, true, true, true, true, true, true, true, true, true, true, true, true] rfl rfl (zna HT_.out (by kernel_rfl)) (by decide) (fun K hK => ?_)
      have hs46 : w45.cell? ⟨gb120, 1, none⟩ = some (.int .i64 x121001_1) := (zh BK120.out 1).trans rfl
      have hfs46 := zj BK120.out 1
      have hns46_0 := NB115_120.out
      have hns46_1 := NB116_120.out
      have hns46_2 := NB117_120.out
      have hns46_3 := NB118_120.out
      have hns46_4 := NB119_120.out
      have hms46_0 := NB120_115.out
      have hms46_1 := NB120_116.out
      have hms46_2 := NB120_117.out
      have hms46_3 := NB120_118.out
      have hms46_4 := NB120_119.out
      refine zza (w1 := ?_) (by rfl) rfl ?_ ?_
      rotate_left
      ·go_simp
       rfl
      refine hK.out _ _ ?_
      clear hK K
      refine zeb (zla HT_.out (by kernel_rfl)) ?_
      try go_wp2
      have n0_ : zg ((w45.setCell ⟨gb120, 1, none⟩ (.int .i64 (wrap64 (x121001_1 + (wrap64 (a1_1 - a2_1)))))).heap[gb115]? = some (.cells #[.int .i64 a1_0, .int .i64 a1_1, .int .i64 a1_2, .int .i64 a1_3] 25 (0, 0))) := ⟨by (with_reducible repeat (first | refine ze ?_ _ | refine zf ?_ | refine za ?_ _)); refine zk ?_ NB115_120.out _; (with_reducible repeat (first | refine ze ?_ _ | refine zf ?_ | refine za ?_ _)); exact BK115.out⟩
      have n1_ : zg ((w45.setCell ⟨gb120, 1, none⟩ (.int .i64 (wrap64 (x121001_1 + (wrap64 (a1_1 - a2_1)))))).heap[gb116]? = some (.cells #[.int .i64 a2_0, .int .i64 a2_1, .int .i64 a2_2, .int .i64 a2_3] 25 (0, 0))) := ⟨by (with_reducible repeat (first | refine ze ?_ _ | refine zf ?_ | refine za ?_ _)); refine zk ?_ NB116_120.out _; (with_reducible repeat (first | refine ze ?_ _ | refine zf ?_ | refine za ?_ _)); exact BK116.out⟩
      have n2_ : zg ((w45.setCell ⟨gb120, 1, none⟩ (.int .i64 (wrap64 (x121001_1 + (wrap64 (a1_1 - a2_1)))))).heap[gb117]? = some (.cells #[.int .i64 0, .int .i64 0, .int .i64 0, .int .i64 0] 25 (0, 0))) := ⟨by (with_reducible repeat (first | refine ze ?_ _ | refine zf ?_ | refine za ?_ _)); refine zk ?_ NB117_120.out _; (with_reducible repeat (first | refine ze ?_ _ | refine zf ?_ | refine za ?_ _)); exact BK117.out⟩
      have n3_ : zg ((w45.setCell ⟨gb120, 1, none⟩ (.int .i64 (wrap64 (x121001_1 + (wrap64 (a1_1 - a2_1)))))).heap[gb118]? = some (.cells #[.int .i64 0, .int .i64 0, .int .i64 0, .int .i64 0] 25 (0, 0))) := ⟨by (with_reducible repeat (first | refine ze ?_ _ | refine zf ?_ | refine za ?_ _)); refine zk ?_ NB118_120.out _; (with_reducible repeat (first | refine ze ?_ _ | refine zf ?_ | refine za ?_ _)); exact BK118.out⟩
      have n4_ : zg ((w45.setCell ⟨gb120, 1, none⟩ (.int .i64 (wrap64 (x121001_1 + (wrap64 (a1_1 - a2_1)))))).heap[gb119]? = some (.cells #[.int .i64 x120000_1, .int .i64 (wrap64 (x120001_1 + a2_1)), .int .i64 x120002_1, .int .i64 x120003_1] 25 (0, 0))) := ⟨by (with_reducible repeat (first | refine ze ?_ _ | refine zf ?_ | refine za ?_ _)); refine zk ?_ NB119_120.out _; (with_reducible repeat (first | refine ze ?_ _ | refine zf ?_ | refine za ?_ _)); exact BK119.out⟩
      have n5_ : zg ((w45.setCell ⟨gb120, 1, none⟩ (.int .i64 (wrap64 (x121001_1 + (wrap64 (a1_1 - a2_1)))))).heap[gb120]? = some (.cells #[.int .i64 x121000_1, .int .i64 (wrap64 (x121001_1 + (wrap64 (a1_1 - a2_1)))), .int .i64 x121002_1, .int .i64 x121003_1] 25 (0, 0))) := ⟨by (with_reducible repeat (first | refine ze ?_ _ | refine zf ?_ | refine za ?_ _)); refine zy (cs := #[.int .i64 x121000_1, .int .i64 x121001_1, .int .i64 x121002_1, .int .i64 x121003_1]) ?_ 1 _ rfl; (with_reducible repeat (first | refine ze ?_ _ | refine zf ?_ | refine za ?_ _)); exact BK120.out⟩
      have n6_ : zg (Below w.heap.size w (w45.setCell ⟨gb120, 1, none⟩ (.int .i64 (wrap64 (x121001_1 + (wrap64 (a1_1 - a2_1))))))) := ⟨sB⟩
      (try clear BK115)
      (try clear BK116)
      (try clear BK117)
      (try clear BK118)
      (try clear BK119)
      (try clear BK120)
      (try clear HB)
      generalize (w45.setCell ⟨gb120, 1, none⟩ (.int .i64 (wrap64 (x121001_1 + (wrap64 (a1_1 - a2_1)))))) = w47 at n0_ n1_ n2_ n3_ n4_ n5_ n6_ ⊢
      have BK115 := n0_
      have BK116 := n1_
      have BK117 := n2_
      have BK118 := n3_
      have BK119 := n4_
      have BK120 := n5_
      have HB := n6_
      clear n0_ n1_ n2_ n3_ n4_ n5_ n6_
      have n0_ := zg.mk (zf BK115.out)
      have n1_ := zg.mk (zf BK116.out)
      have n2_ := zg.mk (zf BK117.out)
      have n3_ := zg.mk (zf BK118.out)
      have n4_ := zg.mk (zf BK119.out)
      have n5_ := zg.mk (zf BK120.out)
      have n6_ := zg.mk (zo HB.out)
      clear BK115
      clear BK116
      clear BK117
      clear BK118
      clear BK119
      clear BK120
      clear HB
      have BK115 := n0_
      have BK116 := n1_
      have BK117 := n2_
      have BK118 := n3_
      have BK119 := n4_
      have BK120 := n5_
      have HB := n6_
      clear n0_ n1_ n2_ n3_ n4_ n5_ n6_
      refine zra (n := 14) (S := fun w' => w'.cell? ⟨gb119, 0, none⟩ = some (.int .i64 x120000_1) ∧ w'.cell? ⟨gb119, 1, none⟩ = some (.int .i64 (wrap64 (x120001_1 + a2_1))) ∧ w'.cell? ⟨gb119, 2, none⟩ = some (.int .i64 x120002_1) ∧ w'.cell? ⟨gb119, 3, none⟩ = some (.int .i64 x120003_1) ∧ w'.cell? ⟨gb115, 0, none⟩ = some (.int .i64 a1_0) ∧ w'.cell? ⟨gb115, 1, none⟩ = some (.int .i64 a1_1) ∧ w'.cell? ⟨gb115, 2, none⟩ = some (.int .i64 a1_2) ∧ w'.cell? ⟨gb115, 3, none⟩ = some (.int .i64 a1_3) ∧ w'.cell? ⟨gb116, 0, none⟩ = some (.int .i64 a2_0) ∧ w'.cell? ⟨gb116, 1, none⟩ = some (.int .i64 a2_1) ∧ w'.cell? ⟨gb116, 2, none⟩ = some (.int .i64 a2_2) ∧ w'.cell? ⟨gb116, 3, none⟩ = some (.int .i64 a2_3)) (ds := [13]) #[false, false, false, false, false, false, false, false, false, false, false, false, false, false] (by kernel_rfl) rfl rfl ⟨(zh BK119.out 0).trans rfl, (zh BK119.out 1).trans rfl, (zh BK119.out 2).trans rfl, (zh BK119.out 3).trans rfl, (zh BK115.out 0).trans rfl, (zh BK115.out 1).trans rfl, (zh BK115.out 2).trans rfl, (zh BK115.out 3).trans rfl, (zh BK116.out 0).trans rfl, (zh BK116.out 1).trans rfl, (zh BK116.out 2).trans rfl, (zh BK116.out 3).trans rfl⟩ (fun hHeld => ?_); refine zka spec_l06Split.tab9 spec_l06Split.bits9 (fun HT_ HW_ => ?_)
      generalize w47.drew = w48 at BK115 BK116 BK117 BK118 BK119 BK120 HB hHeld ⊢
      refine zaa (i := 0) (N := some 41) (v := ?_) (a' := ?_) #[true, false, false, false, false, false, false, false, false, false, false, false, false, false] rfl rfl (zu HT_.out (by kernel_rfl)) (fun _ _ _ h => h) (Or.inl ⟨by rfl, ?_⟩) ?_ ?_
      rotate_left
      ·intro w'
       go_simp
       with_reducible rfl
      rotate_left
      ·simp only [Act.put, List.setIfInBounds_toArray, List.set_cons_zero, List.set_cons_succ, zv, zw]
       rfl
      refine zaa (i := 1) (N := some 42) (v := ?_) (a' := ?_) #[true, true, false, false, false, false, false, false, false, false, false, false, false, false] rfl rfl (zu HT_.out (by kernel_rfl)) (fun _ _ _ h => h) (Or.inl ⟨by rfl, ?_⟩) ?_ ?_
      rotate_left
      ·intro w'
       go_simp
       with_reducible rfl
      rotate_left
      ·simp only [Act.put, List.setIfInBounds_toArray, List.set_cons_zero, List.set_cons_succ, zv, zw]
       rfl
      refine zaa (i := 2) (N := some 43) (v := ?_) (a' := ?_) #[true, true, true, false, false, false, false, false, false, false, false, false, false, false] rfl rfl (zu HT_.out (by kernel_rfl)) (fun _ _ _ h => h) (Or.inl ⟨by rfl, ?_⟩) ?_ ?_
      rotate_left
      ·intro w'
       go_simp
       with_reducible rfl
      rotate_left
      ·simp only [Act.put, List.setIfInBounds_toArray, List.set_cons_zero, List.set_cons_succ, zv, zw]
       rfl
      refine zaa (i := 4) (N := some 45) (v := ?_) (a' := ?_) #[true, true, true, false, true, false, false, false, false, false, false, false, false, false] rfl rfl (zu HT_.out (by kernel_rfl)) (fun _ _ _ h => h) (Or.inl ⟨by rfl, ?_⟩) ?_ ?_
      rotate_left
      ·intro w'
       go_simp
       with_reducible rfl
      rotate_left
      ·simp only [Act.put, List.setIfInBounds_toArray, List.set_cons_zero, List.set_cons_succ, zv, zw]
       rfl
      refine zaa (i := 5) (N := some 46) (v := ?_) (a' := ?_) #[true, true, true, false, true, true, false, false, false, false, false, false, false, false] rfl rfl (zu HT_.out (by kernel_rfl)) (fun _ _ _ h => h) (Or.inl ⟨by rfl, ?_⟩) ?_ ?_
      rotate_left
      ·intro w'
       go_simp
       with_reducible rfl
      rotate_left
      ·simp only [Act.put, List.setIfInBounds_toArray, List.set_cons_zero, List.set_cons_succ, zv, zw]
       rfl
      refine zaa (i := 7) (N := some 48) (v := ?_) (a' := ?_) #[true, true, true, false, true, true, false, true, false, false, false, false, false, false] rfl rfl (zu HT_.out (by kernel_rfl)) (fun _ _ _ h => h) (Or.inl ⟨by rfl, ?_⟩) ?_ ?_
      rotate_left
      ·intro w'
       go_simp
       with_reducible rfl
      rotate_left
      ·simp only [Act.put, List.setIfInBounds_toArray, List.set_cons_zero, List.set_cons_succ, zv, zw]
       rfl
      refine zaa (i := 8) (N := some 49) (v := ?_) (a' := ?_) #[true, true, true, false, true, true, false, true, true, false, false, false, false, false] rfl rfl (zu HT_.out (by kernel_rfl)) (fun _ _ _ h => h) (Or.inl ⟨by rfl, ?_⟩) ?_ ?_
      rotate_left
      ·intro w'
       go_simp
       with_reducible rfl
      rotate_left
      ·simp only [Act.put, List.setIfInBounds_toArray, List.set_cons_zero, List.set_cons_succ, zv, zw]
       rfl
      refine take_ (i := 3) (N := some 44) (v := ?_) (a' := ?_) #[true, true, true, true, true, true, false, true, true, false, false, false, false, false] rfl rfl (zea HT_.out HW_.out (by kernel_rfl)) (fun _ _ _ h => h) (Or.inl ⟨by rfl, ?_⟩) hHeld ?_ ?_
      rotate_left
      ·rintro w' ⟨s0, s1, s2, s3, s4, s5, s6, s7, s8, s9, s10, s11⟩
       go_simp
       with_reducible rfl
      rotate_left
      ·simp only [Act.put, List.setIfInBounds_toArray, List.set_cons_zero, List.set_cons_succ, zv, zw]
       rfl
      refine take_ (i := 6) (N := some 47) (v := ?_) (a' := ?_) #[true, true, true, true, true, true, true, true, true, false, false, false, false, false] rfl rfl (zea HT_.out HW_.out (by kernel_rfl)) (fun _ _ _ h => h) (Or.inl ⟨by rfl, ?_⟩) hHeld ?_ ?_
      rotate_left
      ·rintro w' ⟨s0, s1, s2, s3, s4, s5, s6, s7, s8, s9, s10, s11⟩
       go_simp
       with_reducible rfl
      rotate_left
      ·simp only [Act.put, List.setIfInBounds_toArray, List.set_cons_zero, List.set_cons_succ, zv, zw]
       rfl
      refine take_ (i := 9) (N := some 50) (v := ?_) (a' := ?_) #[true, true, true, true, true, true, true, true, true, true, false, false, false, false] rfl rfl (zea HT_.out HW_.out (by kernel_rfl)) (fun _ _ _ h => h) (Or.inl ⟨by rfl, ?_⟩) hHeld ?_ ?_
      rotate_left
      ·rintro w' ⟨s0, s1, s2, s3, s4, s5, s6, s7, s8, s9, s10, s11⟩
       go_simp
       with_reducible rfl
      rotate_left
      ·simp only [Act.put, List.setIfInBounds_toArray, List.set_cons_zero, List.set_cons_succ, zv, zw]
       rfl
      refine zaa (i := 10) (N := some 51) (v := ?_) (a' := ?_) #[true, true, true, true, true, true, true, true, true, true, true, false, false, false] rfl rfl (zu HT_.out (by kernel_rfl)) (fun _ _ _ h => h) (Or.inl ⟨by rfl, ?_⟩) ?_ ?_
      rotate_left
      ·intro w'
       go_simp
       with_reducible rfl
      rotate_left
      ·simp only [Act.put, List.setIfInBounds_toArray, List.set_cons_zero, List.set_cons_succ, zv, zw]
       rfl
      refine zaa (i := 11) (N := some 52) (v := ?_) (a' := ?_) #[true, true, true, true, true, true, true, true, true, true, true, true, false, false] rfl rfl (zu HT_.out (by kernel_rfl)) (fun _ _ _ h => h) (Or.inl ⟨by rfl, ?_⟩) ?_ ?_
      rotate_left
      ·intro w'
       go_simp
       with_reducible rfl
      rotate_left
      ·simp only [Act.put, List.setIfInBounds_toArray, List.set_cons_zero, List.set_cons_succ, zv, zw]
       rfl
      refine zaa (i := 12) (N := some 53) (v := ?_) (a' := ?_) #[true, true, true, true, true, true, true, true, true, true, true, true, true, false] rfl rfl (zu HT_.out (by kernel_rfl)) (fun _ _ _ h => h) (Or.inl ⟨by rfl, ?_⟩) ?_ ?_
      rotate_left
      ·intro w'
       go_simp
       with_reducible rfl
      rotate_left
      ·simp only [Act.put, List.setIfInBounds_toArray, List.set_cons_zero, List.set_cons_succ, zv, zw]
       rfl
      refine zpb (i := 13) (N := none) #[true, true, true, true, true, true, true, true, true, true, true, true, true, true] rfl rfl (zna HT_.out (by kernel_rfl)) (by decide) (fun K hK => ?_)
      have hs49 : w48.cell? ⟨gb119, 2, none⟩ = some (.int .i64 x120002_1) := (zh BK119.out 2).trans rfl
      have hfs49 := zj BK119.out 2
      have hns49_0 := NB115_119.out
      have hns49_1 := NB116_119.out
      have hns49_2 := NB117_119.out
      have hns49_3 := NB118_119.out
      have hns49_5 := NB120_119.out
      have hms49_0 := NB119_115.out
      have hms49_1 := NB119_116.out
      have hms49_2 := NB119_117.out
      have hms49_3 := NB119_118.out
      have hms49_5 := NB119_120.out
      refine zza (w1 := ?_) (by rfl) rfl ?_ ?_
      rotate_left
      ·go_simp
       rfl
      refine hK.out _ _ ?_
      clear hK K
      refine zeb (zla HT_.out (by kernel_rfl)) ?_
      try go_wp2
      have n0_ : zg ((w48.setCell ⟨gb119, 2, none⟩ (.int .i64 (wrap64 (x120002_1 + (wrap64 (a1_1 - a2_1)))))).heap[gb115]? = some (.cells #[.int .i64 a1_0, .int .i64 a1_1, .int .i64 a1_2, .int .i64 a1_3] 25 (0, 0))) := ⟨by (with_reducible repeat (first | refine ze ?_ _ | refine zf ?_ | refine za ?_ _)); refine zk ?_ NB115_119.out _; (with_reducible repeat (first | refine ze ?_ _ | refine zf ?_ | refine za ?_ _)); exact BK115.out⟩
      have n1_ : zg ((w48.setCell ⟨gb119, 2, none⟩ (.int .i64 (wrap64 (x120002_1 + (wrap64 (a1_1 - a2_1)))))).heap[gb116]? = some (.cells #[.int .i64 a2_0, .int .i64 a2_1, .int .i64 a2_2, .int .i64 a2_3] 25 (0, 0))) := ⟨by (with_reducible repeat (first | refine ze ?_ _ | refine zf ?_ | refine za ?_ _)); refine zk ?_ NB116_119.out _; (with_reducible repeat (first | refine ze ?_ _ | refine zf ?_ | refine za ?_ _)); exact BK116.out⟩
      have n2_ : zg ((w48.setCell ⟨gb119, 2, none⟩ (.int .i64 (wrap64 (x120002_1 + (wrap64 (a1_1 - a2_1)))))).heap[gb117]? = some (.cells #[.int .i64 0, .int .i64 0, .int .i64 0, .int .i64 0] 25 (0, 0))) := ⟨by (with_reducible repeat (first | refine ze ?_ _ | refine zf ?_ | refine za ?_ _)); refine zk ?_ NB117_119.out _; (with_reducible repeat (first | refine ze ?_ _ | refine zf ?_ | refine za ?_ _)); exact BK117.out⟩
      have n3_ : zg ((w48.setCell ⟨gb119, 2, none⟩ (.int .i64 (wrap64 (x120002_1 + (wrap64 (a1_1 - a2_1)))))).heap[gb118]? = some (.cells #[.int .i64 0, .int .i64 0, .int .i64 0, .int .i64 0] 25 (0, 0))) := ⟨by (with_reducible repeat (first | refine ze ?_ _ | refine zf ?_ | refine za ?_ _)); refine zk ?_ NB118_119.out _; (with_reducible repeat (first | refine ze ?_ _ | refine zf ?_ | refine za ?_ _)); exact BK118.out⟩
      have n4_ : zg ((w48.setCell ⟨gb119, 2, none⟩ (.int .i64 (wrap64 (x120002_1 + (wrap64 (a1_1 - a2_1)))))).heap[gb119]? = some (.cells #[.int .i64 x120000_1, .int .i64 (wrap64 (x120001_1 + a2_1)), .int .i64 (wrap64 (x120002_1 + (wrap64 (a1_1 - a2_1)))), .int .i64 x120003_1] 25 (0, 0))) := ⟨by (with_reducible repeat (first | refine ze ?_ _ | refine zf ?_ | refine za ?_ _)); refine zy (cs := #[.int .i64 x120000_1, .int .i64 (wrap64 (x120001_1 + a2_1)), .int .i64 x120002_1, .int .i64 x120003_1]) ?_ 2 _ rfl; (with_reducible repeat (first | refine ze ?_ _ | refine zf ?_ | refine za ?_ _)); exact BK119.out⟩
      have n5_ : zg ((w48.setCell ⟨gb119, 2, none⟩ (.int .i64 (wrap64 (x120002_1 + (wrap64 (a1_1 - a2_1)))))).heap[gb120]? = some (.cells #[.int .i64 x121000_1, .int .i64 (wrap64 (x121001_1 + (wrap64 (a1_1 - a2_1)))), .int .i64 x121002_1, .int .i64 x121003_1] 25 (0, 0))) := ⟨by (with_reducible repeat (first | refine ze ?_ _ | refine zf ?_ | refine za ?_ _)); refine zk ?_ NB120_119.out _; (with_reducible repeat (first | refine ze ?_ _ | refine zf ?_ | refine za ?_ _)); exact BK120.out⟩
      have n6_ : zg (Below w.heap.size w (w48.setCell ⟨gb119, 2, none⟩ (.int .i64 (wrap64 (x120002_1 + (wrap64 (a1_1 - a2_1))))))) := ⟨sB⟩
      (try clear BK115)
      (try clear BK116)
      (try clear BK117)
      (try clear BK118)
      (try clear BK119)
      (try clear BK120)
      (try clear HB)
      generalize (w48.setCell ⟨gb119, 2, none⟩ (.int .i64 (wrap64 (x120002_1 + (wrap64 (a1_1 - a2_1)))))) = w50 at n0_ n1_ n2_ n3_ n4_ n5_ n6_ ⊢
      have BK115 := n0_
      have BK116 := n1_
      have BK117 := n2_
      have BK118 := n3_
      have BK119 := n4_
      have BK120 := n5_
      have HB := n6_
      clear n0_ n1_ n2_ n3_ n4_ n5_ n6_
      have n0_ := zg.mk (zf BK115.out)
      have n1_ := zg.mk (zf BK116.out)
      have n2_ := zg.mk (zf BK117.out)
      have n3_ := zg.mk (zf BK118.out)
      have n4_ := zg.mk (zf BK119.out)
      have n5_ := zg.mk (zf BK120.out)
      have n6_ := zg.mk (zo HB.out)
      clear BK115
      clear BK116
      clear BK117
      clear BK118
      clear BK119
      clear BK120
      clear HB
      have BK115 := n0_
      have BK116 := n1_
      have BK117 := n2_
      have BK118 := n3_
      have BK119 := n4_
      have BK120 := n5_
      have HB := n6_
      clear n0_ n1_ n2_ n3_ n4_ n5_ n6_
      refine zra (n := 10) (S := fun w' => w'.cell? ⟨gb120, 0, none⟩ = some (.int .i64 x121000_1) ∧ w'.cell? ⟨gb120, 1, none⟩ = some (.int .i64 (wrap64 (x121001_1 + (wrap64 (a1_1 - a2_1))))) ∧ w'.cell? ⟨gb120, 2, none⟩ = some (.int .i64 x121002_1) ∧ w'.cell? ⟨gb120, 3, none⟩ = some (.int .i64 x121003_1) ∧ w'.cell? ⟨gb116, 0, none⟩ = some (.int .i64 a2_0) ∧ w'.cell? ⟨gb116, 1, none⟩ = some (.int .i64 a2_1) ∧ w'.cell? ⟨gb116, 2, none⟩ = some (.int .i64 a2_2) ∧ w'.cell? ⟨gb116, 3, none⟩ = some (.int .i64 a2_3)) (ds := [9]) #[false, false, false, false, false, false, false, false, false, false] (by kernel_rfl) rfl rfl ⟨(zh BK120.out 0).trans rfl, (zh BK120.out 1).trans rfl, (zh BK120.out 2).trans rfl, (zh BK120.out 3).trans rfl, (zh BK116.out 0).trans rfl, (zh BK116.out 1).trans rfl, (zh BK116.out 2).trans rfl, (zh BK116.out 3).trans rfl⟩ (fun hHeld => ?_); refine zka spec_l06Split.tab10 spec_l06Split.bits10 (fun HT_ HW_ => ?_)
      generalize w50.drew = w51 at BK115 BK116 BK117 BK118 BK119 BK120 HB hHeld ⊢
      refine zaa (i := 0) (N := some 54) (v := ?_) (a' := ?_) #[true, false, false, false, false, false, false, false, false, false] rfl rfl (zu HT_.out (by kernel_rfl)) (fun _ _ _ h => h) (Or.inl ⟨by rfl, ?_⟩) ?_ ?_
      rotate_left
      ·intro w'
       go_simp
       with_reducible rfl
      rotate_left
      ·simp only [Act.put, List.setIfInBounds_toArray, List.set_cons_zero, List.set_cons_succ, zv, zw]
       rfl
      refine zaa (i := 1) (N := some 55) (v := ?_) (a' := ?_) #[true, true, false, false, false, false, false, false, false, false] rfl rfl (zu HT_.out (by kernel_rfl)) (fun _ _ _ h => h) (Or.inl ⟨by rfl, ?_⟩) ?_ ?_
      rotate_left
      ·intro w'
       go_simp
       with_reducible rfl
      rotate_left
      ·simp only [Act.put, List.setIfInBounds_toArray, List.set_cons_zero, List.set_cons_succ, zv, zw]
       rfl
      refine zaa (i := 2) (N := some 56) (v := ?_) (a' := ?_) #[true, true, true, false, false, false, false, false, false, false] rfl rfl (zu HT_.out (by kernel_rfl)) (fun _ _ _ h => h) (Or.inl ⟨by rfl, ?_⟩) ?_ ?_
      rotate_left
      ·intro w'
       go_simp
       with_reducible rfl
      rotate_left
      ·simp only [Act.put, List.setIfInBounds_toArray, List.set_cons_zero, List.set_cons_succ, zv, zw]
       rfl
      refine zaa (i := 4) (N := some 58) (v := ?_) (a' := ?_) #[true, true, true, false, true, false, false, false, false, false] rfl rfl (zu HT_.out (by kernel_rfl)) (fun _ _ _ h => h) (Or.inl ⟨by rfl, ?_⟩) ?_ ?_
      rotate_left
      ·intro w'
       go_simp
       with_reducible rfl
      rotate_left
      ·simp only [Act.put, List.setIfInBounds_toArray, List.set_cons_zero, List.set_cons_succ, zv, zw]
       rfl
      refine zaa (i := 5) (N := some 59) (v := ?_) (a' := ?_) #[true, true, true, false, true, true, false, false, false, false] rfl rfl (zu HT_.out (by kernel_rfl)) (fun _ _ _ h => h) (Or.inl ⟨by rfl, ?_⟩) ?_ ?_
      rotate_left
      ·intro w'
       go_simp
       with_reducible rfl
      rotate_left
      ·simp only [Act.put, List.setIfInBounds_toArray, List.set_cons_zero, List.set_cons_succ, zv, zw]
       rfl
      refine take_ (i := 3) (N := some 57) (v := ?_) (a' := ?_) #[true, true, true, true, true, true, false, false, false, false] rfl rfl (zea HT_.out HW_.out (by kernel_rfl)) (fun _ _ _ h => h) (Or.inl ⟨by rfl, ?_⟩) hHeld ?_ ?_
      rotate_left
      ·rintro w' ⟨s0, s1, s2, s3, s4, s5, s6, s7⟩
       go_simp
       with_reducible rfl
      rotate_left
      ·simp only [Act.put, List.setIfInBounds_toArray, List.set_cons_zero, List.set_cons_succ, zv, zw]
       rfl
      refine take_ (i := 6) (N := some 60) (v := ?_) (a' := ?_) #[true, true, true, true, true, true, true, false, false, false] rfl rfl (zea HT_.out HW_.out (by kernel_rfl)) (fun _ _ _ h => h) (Or.inl ⟨by rfl, ?_⟩) hHeld ?_ ?_
      rotate_left
      ·rintro w' ⟨s0, s1, s2, s3, s4, s5, s6, s7⟩
       go_simp
       with_reducible rfl
      rotate_left
      ·simp only [Act.put, List.setIfInBounds_toArray, List.set_cons_zero, List.set_cons_succ, zv, zw]
       rfl
      refine zaa (i := 7) (N := some 61) (v := ?_) (a' := ?_) #[true, true, true, true, true, true, true, true, false, false] rfl rfl (zu HT_.out (by kernel_rfl)) (fun _ _ _ h => h) (Or.inl ⟨by rfl, ?_⟩) ?_ ?_
      rotate_left
      ·intro w'
       go_simp
       with_reducible rfl
      rotate_left
      ·simp only [Act.put, List.setIfInBounds_toArray, List.set_cons_zero, List.set_cons_succ, zv, zw]
       rfl
      refine zaa (i := 8) (N := some 62) (v := ?_) (a' := ?_) #[true, true, true, true, true, true, true, true, true, false] rfl rfl (zu HT_.out (by kernel_rfl)) (fun _ _ _ h => h) (Or.inl ⟨by rfl, ?_⟩) ?_ ?_
      rotate_left
      ·intro w'
       go_simp
       with_reducible rfl
      rotate_left
      ·simp only [Act.put, List.setIfInBounds_toArray, List.set_cons_zero, List.set_cons_succ, zv, zw]
       rfl
      refine zpb (i := 9) (N := none) #[true, true, true, true, true, true, true, true, true, true] rfl rfl (zna HT_.out (by kernel_rfl)) (by decide) (fun K hK => ?_)
      have hs52 : w51.cell? ⟨gb120, 2, none⟩ = some (.int .i64 x121002_1) := (zh BK120.out 2).trans rfl
      have hfs52 := zj BK120.out 2
      have hns52_0 := NB115_120.out
      have hns52_1 := NB116_120.out
      have hns52_2 := NB117_120.out
      have hns52_3 := NB118_120.out
      have hns52_4 := NB119_120.out
      have hms52_0 := NB120_115.out
      have hms52_1 := NB120_116.out
      have hms52_2 := NB120_117.out
      have hms52_3 := NB120_118.out
      have hms52_4 := NB120_119.out
      refine zza (w1 := ?_) (by rfl) rfl ?_ ?_
      rotate_left
      ·go_simp
       rfl
      refine hK.out _ _ ?_
      clear hK K
      refine zeb (zla HT_.out (by kernel_rfl)) ?_
      try go_wp2
      go_roundg k1
      case measure => have := HK1.out; omega
      case rel => exact ⟨(1 + 1), (x120000_1), (wrap64 (x120001_1 + a2_1)), (wrap64 (x120002_1 + (wrap64 (a1_1 - a2_1)))), (x120003_1), (x121000_1), (wrap64 (x121001_1 + (wrap64 (a1_1 - a2_1)))), (wrap64 (x121002_1 + a2_1)), (x121003_1), (by first | rfl | (simp; done) | (simp [*]; done)), H', ⟨by have := HK1.out; omega⟩, ⟨by (with_reducible repeat (first | refine ze ?_ _ | refine zf ?_ | refine za ?_ _)); refine zk ?_ NB115_120.out _; (with_reducible repeat (first | refine ze ?_ _ | refine zf ?_ | refine za ?_ _)); exact BK115.out⟩, ⟨by (with_reducible repeat (first | refine ze ?_ _ | refine zf ?_ | refine za ?_ _)); refine zk ?_ NB116_120.out _; (with_reducible repeat (first | refine ze ?_ _ | refine zf ?_ | refine za ?_ _)); exact BK116.out⟩, ⟨by (with_reducible repeat (first | refine ze ?_ _ | refine zf ?_ | refine za ?_ _)); refine zk ?_ NB117_120.out _; (with_reducible repeat (first | refine ze ?_ _ | refine zf ?_ | refine za ?_ _)); exact BK117.out⟩, ⟨by (with_reducible repeat (first | refine ze ?_ _ | refine zf ?_ | refine za ?_ _)); refine zk ?_ NB118_120.out _; (with_reducible repeat (first | refine ze ?_ _ | refine zf ?_ | refine za ?_ _)); exact BK118.out⟩, ⟨by (with_reducible repeat (first | refine ze ?_ _ | refine zf ?_ | refine za ?_ _)); refine zk ?_ NB119_120.out _; (with_reducible repeat (first | refine ze ?_ _ | refine zf ?_ | refine za ?_ _)); exact BK119.out⟩, ⟨by (with_reducible repeat (first | refine ze ?_ _ | refine zf ?_ | refine za ?_ _)); refine zy (cs := #[.int .i64 x121000_1, .int .i64 (wrap64 (x121001_1 + (wrap64 (a1_1 - a2_1)))), .int .i64 x121002_1, .int .i64 x121003_1]) ?_ 2 _ rfl; (with_reducible repeat (first | refine ze ?_ _ | refine zf ?_ | refine za ?_ _)); exact BK120.out⟩, ⟨sB⟩⟩
     rw [if_neg c41] at H
     have c41b0 : decide (1 < a0) = false := decide_eq_false c41
     clear c41
     have H' := zg.mk H
     clear H
     try go_wp2
     have n0_ := zg.mk (zf BK115.out)
     have n1_ := zg.mk (zf BK116.out)
     have n2_ := zg.mk (zf BK117.out)
     have n3_ := zg.mk (zf BK118.out)
     have n4_ := zg.mk (zf BK119.out)
     have n5_ := zg.mk (zf BK120.out)
     have n6_ := zg.mk (zo HB.out)
     clear BK115
     clear BK116
     clear BK117
     clear BK118
     clear BK119
     clear BK120
     clear HB
     have BK115 := n0_
     have BK116 := n1_
     have BK117 := n2_
     have BK118 := n3_
     have BK119 := n4_
     have BK120 := n5_
     have HB := n6_
     clear n0_ n1_ n2_ n3_ n4_ n5_ n6_
     refine zra (n := 9) (S := fun w' => w'.cell? ⟨gb119, 0, none⟩ = some (.int .i64 x120000_1) ∧ w'.cell? ⟨gb119, 1, none⟩ = some (.int .i64 x120001_1) ∧ w'.cell? ⟨gb119, 2, none⟩ = some (.int .i64 x120002_1) ∧ w'.cell? ⟨gb119, 3, none⟩ = some (.int .i64 x120003_1) ∧ w'.cell? ⟨gb116, 0, none⟩ = some (.int .i64 a2_0) ∧ w'.cell? ⟨gb116, 1, none⟩ = some (.int .i64 a2_1) ∧ w'.cell? ⟨gb116, 2, none⟩ = some (.int .i64 a2_2) ∧ w'.cell? ⟨gb116, 3, none⟩ = some (.int .i64 a2_3)) (ds := [8]) #[false, false, false, false, false, false, false, false, false] (by kernel_rfl) rfl rfl ⟨(zh BK119.out 0).trans rfl, (zh BK119.out 1).trans rfl, (zh BK119.out 2).trans rfl, (zh BK119.out 3).trans rfl, (zh BK116.out 0).trans rfl, (zh BK116.out 1).trans rfl, (zh BK116.out 2).trans rfl, (zh BK116.out 3).trans rfl⟩ (fun hHeld => ?_); refine zka spec_l06Split.tab6 spec_l06Split.bits6 (fun HT_ HW_ => ?_)
     generalize wr.drew = w53 at BK115 BK116 BK117 BK118 BK119 BK120 HB hHeld ⊢
     refine zaa (i := 0) (N := some 18) (v := ?_) (a' := ?_) #[true, false, false, false, false, false, false, false, false] rfl rfl (zu HT_.out (by kernel_rfl)) (fun _ _ _ h => h) (Or.inl ⟨by rfl, ?_⟩) ?_ ?_
     rotate_left
     ·intro w'
      go_simp
      with_reducible rfl
     rotate_left
     ·simp only [Act.put, List.setIfInBounds_toArray, List.set_cons_zero, List.set_cons_succ, zv, zw]
      rfl
     refine zaa (i := 1) (N := some 19) (v := ?_) (a' := ?_) #[true, true, false, false, false, false, false, false, false] rfl rfl (zu HT_.out (by kernel_rfl)) (fun _ _ _ h => h) (Or.inl ⟨by rfl, ?_⟩) ?_ ?_
     rotate_left
     ·intro w'
      go_simp
      with_reducible rfl
     rotate_left
     ·simp only [Act.put, List.setIfInBounds_toArray, List.set_cons_zero, List.set_cons_succ, zv, zw]
      rfl
     refine zaa (i := 3) (N := some 21) (v := ?_) (a' := ?_) #[true, true, false, true, false, false, false, false, false] rfl rfl (zu HT_.out (by kernel_rfl)) (fun _ _ _ h => h) (Or.inl ⟨by rfl, ?_⟩) ?_ ?_
     rotate_left
     ·intro w'
      go_simp
      with_reducible rfl
     rotate_left
     ·simp only [Act.put, List.setIfInBounds_toArray, List.set_cons_zero, List.set_cons_succ, zv, zw]
      rfl
     refine zaa (i := 4) (N := some 22) (v := ?_) (a' := ?_) #[true, true, false, true, true, false, false, false, false] rfl rfl (zu HT_.out (by kernel_rfl)) (fun _ _ _ h => h) (Or.inl ⟨by rfl, ?_⟩) ?_ ?_
     rotate_left
     ·intro w'
      go_simp
      with_reducible rfl
     rotate_left
     ·simp only [Act.put, List.setIfInBounds_toArray, List.set_cons_zero, List.set_cons_succ, zv, zw]
      rfl
     refine take_ (i := 2) (N := some 20) (v := ?_) (a' := ?_) #[true, true, true, true, true, false, false, false, false] rfl rfl (zea HT_.out HW_.out (by kernel_rfl)) (fun _ _ _ h => h) (Or.inl ⟨by rfl, ?_⟩) hHeld ?_ ?_
     rotate_left
     ·rintro w' ⟨s0, s1, s2, s3, s4, s5, s6, s7⟩
      go_simp
      with_reducible rfl
     rotate_left
     ·simp only [Act.put, List.setIfInBounds_toArray, List.set_cons_zero, List.set_cons_succ, zv, zw]
      rfl
     refine take_ (i := 5) (N := some 23) (v := ?_) (a' := ?_) #[true, true, true, true, true, true, false, false, false] rfl rfl (zea HT_.out HW_.out (by kernel_rfl)) (fun _ _ _ h => h) (Or.inl ⟨by rfl, ?_⟩) hHeld ?_ ?_
     rotate_left
     ·rintro w' ⟨s0, s1, s2, s3, s4, s5, s6, s7⟩
      go_simp
      with_reducible rfl
     rotate_left
     ·simp only [Act.put, List.setIfInBounds_toArray, List.set_cons_zero, List.set_cons_succ, zv, zw]
      rfl
     refine zaa (i := 6) (N := some 24) (v := ?_) (a' := ?_) #[true, true, true, true, true, true, true, false, false] rfl rfl (zu HT_.out (by kernel_rfl)) (fun _ _ _ h => h) (Or.inl ⟨by rfl, ?_⟩) ?_ ?_
     rotate_left
     ·intro w'
      go_simp
      with_reducible rfl
     rotate_left
     ·simp only [Act.put, List.setIfInBounds_toArray, List.set_cons_zero, List.set_cons_succ, zv, zw]
      rfl
     refine zaa (i := 7) (N := some 25) (v := ?_) (a' := ?_) #[true, true, true, true, true, true, true, true, false] rfl rfl (zu HT_.out (by kernel_rfl)) (fun _ _ _ h => h) (Or.inl ⟨by rfl, ?_⟩) ?_ ?_
     rotate_left
     ·intro w'
      go_simp
      with_reducible rfl
     rotate_left
     ·simp only [Act.put, List.setIfInBounds_toArray, List.set_cons_zero, List.set_cons_succ, zv, zw]
      rfl
     refine zpb (i := 8) (N := none) #[true, true, true, true, true, true, true, true, true] rfl rfl (zna HT_.out (by kernel_rfl)) (by decide) (fun K hK => ?_)
     have hs54 : w53.cell? ⟨gb119, 1, none⟩ = some (.int .i64 x120001_1) := (zh BK119.out 1).trans rfl
     have hfs54 := zj BK119.out 1
     have hns54_0 := NB115_119.out
     have hns54_1 := NB116_119.out
     have hns54_2 := NB117_119.out
     have hns54_3 := NB118_119.out
     have hns54_5 := NB120_119.out
     have hms54_0 := NB119_115.out
     have hms54_1 := NB119_116.out
     have hms54_2 := NB119_117.out
     have hms54_3 := NB119_118.out
     have hms54_5 := NB119_120.out
     refine zza (w1 := ?_) (by rfl) rfl ?_ ?_
     rotate_left
     ·go_simp
      rfl
     refine hK.out _ _ ?_
     clear hK K
     refine zeb (zla HT_.out (by kernel_rfl)) ?_
     try go_wp2
     have n0_ : zg ((w53.setCell ⟨gb119, 1, none⟩ (.int .i64 (wrap64 (x120001_1 + a2_1)))).heap[gb115]? = some (.cells #[.int .i64 a1_0, .int .i64 a1_1, .int .i64 a1_2, .int .i64 a1_3] 25 (0, 0))) := ⟨by (with_reducible repeat (first | refine ze ?_ _ | refine zf ?_ | refine za ?_ _)); refine zk ?_ NB115_119.out _; (with_reducible repeat (first | refine ze ?_ _ | refine zf ?_ | refine za ?_ _)); exact BK115.out⟩
     have n1_ : zg ((w53.setCell ⟨gb119, 1, none⟩ (.int .i64 (wrap64 (x120001_1 + a2_1)))).heap[gb116]? = some (.cells #[.int .i64 a2_0, .int .i64 a2_1, .int .i64 a2_2, .int .i64 a2_3] 25 (0, 0))) := ⟨by (with_reducible repeat (first | refine ze ?_ _ | refine zf ?_ | refine za ?_ _)); refine zk ?_ NB116_119.out _; (with_reducible repeat (first | refine ze ?_ _ | refine zf ?_ | refine za ?_ _)); exact BK116.out⟩
     have n2_ : zg ((w53.setCell ⟨gb119, 1, none⟩ (.int .i64 (wrap64 (x120001_1 + a2_1)))).heap[gb117]? = some (.cells #[.int .i64 0, .int .i64 0, .int .i64 0, .int .i64 0] 25 (0, 0))) := ⟨by (with_reducible repeat (first | refine ze ?_ _ | refine zf ?_ | refine za ?_ _)); refine zk ?_ NB117_119.out _; (with_reducible repeat (first | refine ze ?_ _ | refine zf ?_ | refine za ?_ _)); exact BK117.out⟩
     have n3_ : zg ((w53.setCell ⟨gb119, 1, none⟩ (.int .i64 (wrap64 (x120001_1 + a2_1)))).heap[gb118]? = some (.cells #[.int .i64 0, .int .i64 0, .int .i64 0, .int .i64 0] 25 (0, 0))) := ⟨by (with_reducible repeat (first | refine ze ?_ _ | refine zf ?_ | refine za ?_ _)); refine zk ?_ NB118_119.out _; (with_reducible repeat (first | refine ze ?_ _ | refine zf ?_ | refine za ?_ _)); exact BK118.out⟩
     have n4_ : zg ((w53.setCell ⟨gb119, 1, none⟩ (.int .i64 (wrap64 (x120001_1 + a2_1)))).heap[gb119]? = some (.cells #[.int .i64 x120000_1, .int .i64 (wrap64 (x120001_1 + a2_1)), .int .i64 x120002_1, .int .i64 x120003_1] 25 (0, 0))) := ⟨by (with_reducible repeat (first | refine ze ?_ _ | refine zf ?_ | refine za ?_ _)); refine zy (cs := #[.int .i64 x120000_1, .int .i64 x120001_1, .int .i64 x120002_1, .int .i64 x120003_1]) ?_ 1 _ rfl; (with_reducible repeat (first | refine ze ?_ _ | refine zf ?_ | refine za ?_ _)); exact BK119.out⟩
     have n5_ : zg ((w53.setCell ⟨gb119, 1, none⟩ (.int .i64 (wrap64 (x120001_1 + a2_1)))).heap[gb120]? = some (.cells #[.int .i64 x121000_1, .int .i64 x121001_1, .int .i64 x121002_1, .int .i64 x121003_1] 25 (0, 0))) := ⟨by (with_reducible repeat (first | refine ze ?_ _ | refine zf ?_ | refine za ?_ _)); refine zk ?_ NB120_119.out _; (with_reducible repeat (first | refine ze ?_ _ | refine zf ?_ | refine za ?_ _)); exact BK120.out⟩
     have n6_ : zg (Below w.heap.size w (w53.setCell ⟨gb119, 1, none⟩ (.int .i64 (wrap64 (x120001_1 + a2_1))))) := ⟨sB⟩
     (try clear BK115)
     (try clear BK116)
     (try clear BK117)
     (try clear BK118)
     (try clear BK119)
     (try clear BK120)
     (try clear HB)
     generalize (w53.setCell ⟨gb119, 1, none⟩ (.int .i64 (wrap64 (x120001_1 + a2_1)))) = w55 at n0_ n1_ n2_ n3_ n4_ n5_ n6_ ⊢
     have BK115 := n0_
     have BK116 := n1_
     have BK117 := n2_
     have BK118 := n3_
     have BK119 := n4_
     have BK120 := n5_
     have HB := n6_
     clear n0_ n1_ n2_ n3_ n4_ n5_ n6_
     have n0_ := zg.mk (zf BK115.out)
     have n1_ := zg.mk (zf BK116.out)
     have n2_ := zg.mk (zf BK117.out)
     have n3_ := zg.mk (zf BK118.out)
     have n4_ := zg.mk (zf BK119.out)
     have n5_ := zg.mk (zf BK120.out)
     have n6_ := zg.mk (zo HB.out)
     clear BK115
     clear BK116
     clear BK117
     clear BK118
     clear BK119
     clear BK120
     clear HB
     have BK115 := n0_
     have BK116 := n1_
     have BK117 := n2_
     have BK118 := n3_
     have BK119 := n4_
     have BK120 := n5_
     have HB := n6_
     clear n0_ n1_ n2_ n3_ n4_ n5_ n6_
     refine zra (n := 13) (S := fun w' => w'.cell? ⟨gb120, 0, none⟩ = some (.int .i64 x121000_1) ∧ w'.cell? ⟨gb120, 1, none⟩ = some (.int .i64 x121001_1) ∧ w'.cell? ⟨gb120, 2, none⟩ = some (.int .i64 x121002_1) ∧ w'.cell? ⟨gb120, 3, none⟩ = some (.int .i64 x121003_1) ∧ w'.cell? ⟨gb115, 0, none⟩ = some (.int .i64 a1_0) ∧ w'.cell? ⟨gb115, 1, none⟩ = some (.int .i64 a1_1) ∧ w'.cell? ⟨gb115, 2, none⟩ = some (.int .i64 a1_2) ∧ w'.cell? ⟨gb115, 3, none⟩ = some (.int .i64 a1_3) ∧ w'.cell? ⟨gb116, 0, none⟩ = some (.int .i64 a2_0) ∧ w'.cell? ⟨gb116, 1, none⟩ = some (.int .i64 a2_1) ∧ w'.cell? ⟨gb116, 2, none⟩ = some (.int .i64 a2_2) ∧ w'.cell? ⟨gb116, 3, none⟩ = some (.int .i64 a2_3)) (ds := [12]) #[false, false, false, false, false, false, false, false, false, false, false, false, false] (by kernel_rfl) rfl rfl ⟨(zh BK120.out 0).trans rfl, (zh BK120.out 1).trans rfl, (zh BK120.out 2).trans rfl, (zh BK120.out 3).trans rfl, (zh BK115.out 0).trans rfl, (zh BK115.out 1).trans rfl, (zh BK115.out 2).trans rfl, (zh BK115.out 3).trans rfl, (zh BK116.out 0).trans rfl, (zh BK116.out 1).trans rfl, (zh BK116.out 2).trans rfl, (zh BK116.out 3).trans rfl⟩ (fun hHeld => ?_); refine zka spec_l06Split.tab7 spec_l06Split.bits7 (fun HT_ HW_ => ?_)
     generalize w55.drew = w56 at BK115 BK116 BK117 BK118 BK119 BK120 HB hHeld ⊢
     refine zaa (i := 0) (N := some 26) (v := ?_) (a' := ?_) #[true, false, false, false, false, false, false, false, false, false, false, false, false] rfl rfl (zu HT_.out (by kernel_rfl)) (fun _ _ _ h => h) (Or.inl ⟨by rfl, ?_⟩) ?_ ?_
     rotate_left
     ·intro w'
      go_simp
      with_reducible rfl
     rotate_left
     ·simp only [Act.put, List.setIfInBounds_toArray, List.set_cons_zero, List.set_cons_succ, zv, zw]
      rfl
     refine zaa (i := 1) (N := some 27) (v := ?_) (a' := ?_) #[true, true, false, false, false, false, false, false, false, false, false, false, false] rfl rfl (zu HT_.out (by kernel_rfl)) (fun _ _ _ h => h) (Or.inl ⟨by rfl, ?_⟩) ?_ ?_
     rotate_left
     ·intro w'
      go_simp
      with_reducible rfl
     rotate_left
     ·simp only [Act.put, List.setIfInBounds_toArray, List.set_cons_zero, List.set_cons_succ, zv, zw]
      rfl
     refine zaa (i := 3) (N := some 29) (v := ?_) (a' := ?_) #[true, true, false, true, false, false, false, false, false, false, false, false, false] rfl rfl (zu HT_.out (by kernel_rfl)) (fun _ _ _ h => h) (Or.inl ⟨by rfl, ?_⟩) ?_ ?_
     rotate_left
     ·intro w'
      go_simp
      with_reducible rfl
     rotate_left
     ·simp only [Act.put, List.setIfInBounds_toArray, List.set_cons_zero, List.set_cons_succ, zv, zw]
      rfl
     refine zaa (i := 4) (N := some 30) (v := ?_) (a' := ?_) #[true, true, false, true, true, false, false, false, false, false, false, false, false] rfl rfl (zu HT_.out (by kernel_rfl)) (fun _ _ _ h => h) (Or.inl ⟨by rfl, ?_⟩) ?_ ?_
     rotate_left
     ·intro w'
      go_simp
      with_reducible rfl
     rotate_left
     ·simp only [Act.put, List.setIfInBounds_toArray, List.set_cons_zero, List.set_cons_succ, zv, zw]
      rfl
     refine zaa (i := 6) (N := some 32) (v := ?_) (a' := ?_) #[true, true, false, true, true, false, true, false, false, false, false, false, false] rfl rfl (zu HT_.out (by kernel_rfl)) (fun _ _ _ h => h) (Or.inl ⟨by rfl, ?_⟩) ?_ ?_
     rotate_left
     ·intro w'
      go_simp
      with_reducible rfl
     rotate_left
     ·simp only [Act.put, List.setIfInBounds_toArray, List.set_cons_zero, List.set_cons_succ, zv, zw]
      rfl
     refine zaa (i := 7) (N := some 33) (v := ?_) (a' := ?_) #[true, true, false, true, true, false, true, true, false, false, false, false, false] rfl rfl (zu HT_.out (by kernel_rfl)) (fun _ _ _ h => h) (Or.inl ⟨by rfl, ?_⟩) ?_ ?_
     rotate_left
     ·intro w'
      go_simp
      with_reducible rfl
     rotate_left
     ·simp only [Act.put, List.setIfInBounds_toArray, List.set_cons_zero, List.set_cons_succ, zv, zw]
      rfl
     refine take_ (i := 2) (N := some 28) (v := ?_) (a' := ?_) #[true, true, true, true, true, false, true, true, false, false, false, false, false] rfl rfl (zea HT_.out HW_.out (by kernel_rfl)) (fun _ _ _ h => h) (Or.inl ⟨by rfl, ?_⟩) hHeld ?_ ?_
     rotate_left
     ·rintro w' ⟨s0, s1, s2, s3, s4, s5, s6, s7, s8, s9, s10, s11⟩
      go_simp
      with_reducible rfl
     rotate_left
     ·simp only [Act.put, List.setIfInBounds_toArray, List.set_cons_zero, List.set_cons_succ, zv, zw]
      rfl
     refine take_ (i := 5) (N := some 31) (v := ?_) (a' := ?_) #[true, true, true, true, true, true, true, true, false, false, false, false, false] rfl rfl (zea HT_.out HW_.out (by kernel_rfl)) (fun _ _ _ h => h) (Or.inl ⟨by rfl, ?_⟩) hHeld ?_ ?_
     rotate_left
     ·rintro w' ⟨s0, s1, s2, s3, s4, s5, s6, s7, s8, s9, s10, s11⟩
      go_simp
      with_reducible rfl
     rotate_left
     ·simp only [Act.put, List.setIfInBounds_toArray, List.set_cons_zero, List.set_cons_succ, zv, zw]
      rfl
     refine take_ (i := 8) (N := some 34) (v := ?_) (a' := ?_) #[true, true, true, true, true, true, true, true, true, false, false, false, false] rfl rfl (zea HT_.out HW_.out (by kernel_rfl)) (fun _ _ _ h => h) (Or.inl ⟨by rfl, ?_⟩) hHeld ?_ ?_
     rotate_left
     ·rintro w' ⟨s0, s1, s2, s3, s4, s5, s6, s7, s8, s9, s10, s11⟩
      go_simp
      with_reducible rfl
     rotate_left
     ·simp only [Act.put, List.setIfInBounds_toArray, List.set_cons_zero, List.set_cons_succ, zv, zw]
      rfl
     refine zaa (i := 9) (N := some 35) (v := ?_) (a' := ?_) #[true, true, true, true, true, true, true, true, true, true, false, false, false] rfl rfl (zu HT_.out (by kernel_rfl)) (fun _ _ _ h => h) (Or.inl ⟨by rfl, ?_⟩) ?_ ?_
     rotate_left
     ·intro w'
      go_simp
      with_reducible rfl
     rotate_left
     ·simp only [Act.put, List.setIfInBounds_toArray, List.set_cons_zero, List.set_cons_succ, zv, zw]
      rfl
     refine zaa (i := 10) (N := some 36) (v := ?_) (a' := ?_) #[true, true, true, true, true, true, true, true, true, true, true, false, false] rfl rfl (zu HT_.out (by kernel_rfl)) (fun _ _ _ h => h) (Or.inl ⟨by rfl, ?_⟩) ?_ ?_
     rotate_left
     ·intro w'
      go_simp
      with_reducible rfl
     rotate_left
     ·simp only [Act.put, List.setIfInBounds_toArray, List.set_cons_zero, List.set_cons_succ, zv, zw]
      rfl
     refine zaa (i := 11) (N := some 37) (v := ?_) (a' := ?_) #[true, true, true, true, true, true, true, true, true, true, true, true, false] rfl rfl (zu HT_.out (by kernel_rfl)) (fun _ _ _ h => h) (Or.inl ⟨by rfl, ?_⟩) ?_ ?_
     rotate_left
     ·intro w'
      go_simp
      with_reducible rfl
     rotate_left
     ·simp only [Act.put, List.setIfInBounds_toArray, List.set_cons_zero, List.set_cons_succ, zv, zw]
      rfl
     refine zpb (i := 12) (N := none) #[true, true, true, true, true, true, true, true, true, true, true, true, true] rfl rfl (zna HT_.out (by kernel_rfl)) (by decide) (fun K hK => ?_)
     have hs57 : w56.cell? ⟨gb120, 1, none⟩ = some (.int .i64 x121001_1) := (zh BK120.out 1).trans rfl
     have hfs57 := zj BK120.out 1
     have hns57_0 := NB115_120.out
     have hns57_1 := NB116_120.out
     have hns57_2 := NB117_120.out
     have hns57_3 := NB118_120.out
     have hns57_4 := NB119_120.out
     have hms57_0 := NB120_115.out
     have hms57_1 := NB120_116.out
     have hms57_2 := NB120_117.out
     have hms57_3 := NB120_118.out
     have hms57_4 := NB120_119.out
     refine zza (w1 := ?_) (by rfl) rfl ?_ ?_
     rotate_left
     ·go_simp
      rfl
     refine hK.out _ _ ?_
     clear hK K
     refine zeb (zla HT_.out (by kernel_rfl)) ?_
     try go_wp2
     go_roundg k1
     case measure => have := HK1.out; omega
     case rel => exact ⟨(1 + 1), (x120000_1), (wrap64 (x120001_1 + a2_1)), (x120002_1), (x120003_1), (x121000_1), (wrap64 (x121001_1 + (wrap64 (a1_1 - a2_1)))), (x121002_1), (x121003_1), (by first | rfl | (simp; done) | (simp [*]; done)), H', ⟨by have := HK1.out; omega⟩, ⟨by (with_reducible repeat (first | refine ze ?_ _ | refine zf ?_ | refine za ?_ _)); refine zk ?_ NB115_120.out _; (with_reducible repeat (first | refine ze ?_ _ | refine zf ?_ | refine za ?_ _)); exact BK115.out⟩, ⟨by (with_reducible repeat (first | refine ze ?_ _ | refine zf ?_ | refine za ?_ _)); refine zk ?_ NB116_120.out _; (with_reducible repeat (first | refine ze ?_ _ | refine zf ?_ | refine za ?_ _)); exact BK116.out⟩, ⟨by (with_reducible repeat (first | refine ze ?_ _ | refine zf ?_ | refine za ?_ _)); refine zk ?_ NB117_120.out _; (with_reducible repeat (first | refine ze ?_ _ | refine zf ?_ | refine za ?_ _)); exact BK117.out⟩, ⟨by (with_reducible repeat (first | refine ze ?_ _ | refine zf ?_ | refine za ?_ _)); refine zk ?_ NB118_120.out _; (with_reducible repeat (first | refine ze ?_ _ | refine zf ?_ | refine za ?_ _)); exact BK118.out⟩, ⟨by (with_reducible repeat (first | refine ze ?_ _ | refine zf ?_ | refine za ?_ _)); refine zk ?_ NB119_120.out _; (with_reducible repeat (first | refine ze ?_ _ | refine zf ?_ | refine za ?_ _)); exact BK119.out⟩, ⟨by (with_reducible repeat (first | refine ze ?_ _ | refine zf ?_ | refine za ?_ _)); refine zy (cs := #[.int .i64 x121000_1, .int .i64 x121001_1, .int .i64 x121002_1, .int .i64 x121003_1]) ?_ 1 _ rfl; (with_reducible repeat (first | refine ze ?_ _ | refine zf ?_ | refine za ?_ _)); exact BK120.out⟩, ⟨sB⟩⟩
    rw [if_neg c40] at H
    clear c40
    by_cases c58 : x10_1 = 2
    ·rw [if_pos c58] at H
     subst c58
     by_cases c59 : 2 < a0
     ·rw [if_pos c59] at H
      have c59b0 : decide (2 < a0) = true := decide_eq_true c59
      clear c59
      have H' := zg.mk H
      clear H
      try go_wp2
      have n0_ := zg.mk (zf BK115.out)
      have n1_ := zg.mk (zf BK116.out)
      have n2_ := zg.mk (zf BK117.out)
      have n3_ := zg.mk (zf BK118.out)
      have n4_ := zg.mk (zf BK119.out)
      have n5_ := zg.mk (zf BK120.out)
      have n6_ := zg.mk (zo HB.out)
      clear BK115
      clear BK116
      clear BK117
      clear BK118
      clear BK119
      clear BK120
      clear HB
      have BK115 := n0_
      have BK116 := n1_
      have BK117 := n2_
      have BK118 := n3_
      have BK119 := n4_
      have BK120 := n5_
      have HB := n6_
      clear n0_ n1_ n2_ n3_ n4_ n5_ n6_
      refine zra (n := 9) (S := fun w' => w'.cell? ⟨gb119, 0, none⟩ = some (.int .i64 x120000_1) ∧ w'.cell? ⟨gb119, 1, none⟩ = some (.int .i64 x120001_1) ∧ w'.cell? ⟨gb119, 2, none⟩ = some (.int .i64 x120002_1) ∧ w'.cell? ⟨gb119, 3, none⟩ = some (.int .i64 x120003_1) ∧ w'.cell? ⟨gb116, 0, none⟩ = some (.int .i64 a2_0) ∧ w'.cell? ⟨gb116, 1, none⟩ = some (.int .i64 a2_1) ∧ w'.cell? ⟨gb116, 2, none⟩ = some (.int .i64 a2_2) ∧ w'.cell? ⟨gb116, 3, none⟩ = some (.int .i64 a2_3)) (ds := [8]) #[false, false, false, false, false, false, false, false, false] (by kernel_rfl) rfl rfl ⟨(zh BK119.out 0).trans rfl, (zh BK119.out 1).trans rfl, (zh BK119.out 2).trans rfl, (zh BK119.out 3).trans rfl, (zh BK116.out 0).trans rfl, (zh BK116.out 1).trans rfl, (zh BK116.out 2).trans rfl, (zh BK116.out 3).trans rfl⟩ (fun hHeld => ?_); refine zka spec_l06Split.tab6 spec_l06Split.bits6 (fun HT_ HW_ => ?_)
      generalize wr.drew = w60 at BK115 BK116 BK117 BK118 BK119 BK120 HB hHeld ⊢
      refine zaa (i := 0) (N := some 18) (v := ?_) (a' := ?_) #[true, false, false, false, false, false, false, false, false] rfl rfl (zu HT_.out (by kernel_rfl)) (fun _ _ _ h => h) (Or.inl ⟨by rfl, ?_⟩) ?_ ?_
      rotate_left
      ·intro w'
       go_simp
       with_reducible rfl
      rotate_left
      ·simp only [Act.put, List.setIfInBounds_toArray, List.set_cons_zero, List.set_cons_succ, zv, zw]
       rfl
      refine zaa (i := 1) (N := some 19) (v := ?_) (a' := ?_) #[true, true, false, false, false, false, false, false, false] rfl rfl (zu HT_.out (by kernel_rfl)) (fun _ _ _ h => h) (Or.inl ⟨by rfl, ?_⟩) ?_ ?_
      rotate_left
      ·intro w'
       go_simp
       with_reducible rfl
      rotate_left
      ·simp only [Act.put, List.setIfInBounds_toArray, List.set_cons_zero, List.set_cons_succ, zv, zw]
       rfl
      refine zaa (i := 3) (N := some 21) (v := ?_) (a' := ?_) #[true, true, false, true, false, false, false, false, false] rfl rfl (zu HT_.out (by kernel_rfl)) (fun _ _ _ h => h) (Or.inl ⟨by rfl, ?_⟩) ?_ ?_
      rotate_left
      ·intro w'
       go_simp
       with_reducible rfl
      rotate_left
      ·simp only [Act.put, List.setIfInBounds_toArray, List.set_cons_zero, List.set_cons_succ, zv, zw]
       rfl
      refine zaa (i := 4) (N := some 22) (v := ?_) (a' := ?_) #[true, true, false, true, true, false, false, false, false] rfl rfl (zu HT_.out (by kernel_rfl)) (fun _ _ _ h => h) (Or.inl ⟨by rfl, ?_⟩) ?_ ?_
      rotate_left
      ·intro w'
       go_simp
       with_reducible rfl
      rotate_left
      ·simp only [Act.put, List.setIfInBounds_toArray, List.set_cons_zero, List.set_cons_succ, zv, zw]
       rfl
      refine take_ (i := 2) (N := some 20) (v := ?_) (a' := ?_) #[true, true, true, true, true, false, false, false, false] rfl rfl (zea HT_.out HW_.out (by kernel_rfl)) (fun _ _ _ h => h) (Or.inl ⟨by rfl, ?_⟩) hHeld ?_ ?_
      rotate_left
      ·rintro w' ⟨s0, s1, s2, s3, s4, s5, s6, s7⟩
       go_simp
       with_reducible rfl
      rotate_left
      ·simp only [Act.put, List.setIfInBounds_toArray, List.set_cons_zero, List.set_cons_succ, zv, zw]
       rfl
      refine take_ (i := 5) (N := some 23) (v := ?_) (a' := ?_) #[true, true, true, true, true, true, false, false, false] rfl rfl (zea HT_.out HW_.out (by kernel_rfl)) (fun _ _ _ h => h) (Or.inl ⟨by rfl, ?_⟩) hHeld ?_ ?_
      rotate_left
      ·rintro w' ⟨s0, s1, s2, s3, s4, s5, s6, s7⟩
       go_simp
       with_reducible rfl
      rotate_left
      ·simp only [Act.put, List.setIfInBounds_toArray, List.set_cons_zero, List.set_cons_succ, zv, zw]
       rfl
      refine zaa (i := 6) (N := some 24) (v := ?_) (a' := ?_) #[true, true, true, true, true, true, true, false, false] rfl rfl (zu HT_.out (by kernel_rfl)) (fun _ _ _ h => h) (Or.inl ⟨by rfl, ?_⟩) ?_ ?_
      rotate_left
      ·intro w'
       go_simp
       with_reducible rfl
      rotate_left
      ·simp only [Act.put, List.setIfInBounds_toArray, List.set_cons_zero, List.set_cons_succ, zv, zw]
       rfl
      refine zaa (i := 7) (N := some 25) (v := ?_) (a' := ?_) #[true, true, true, true, true, true, true, true, false] rfl rfl (zu HT_.out (by kernel_rfl)) (fun _ _ _ h => h) (Or.inl ⟨by rfl, ?_⟩) ?_ ?_
      rotate_left
      ·intro w'
       go_simp
       with_reducible rfl
      rotate_left
      ·simp only [Act.put, List.setIfInBounds_toArray, List.set_cons_zero, List.set_cons_succ, zv, zw]
       rfl
      refine zpb (i := 8) (N := none) #[true, true, true, true, true, true, true, true, true] rfl rfl (zna HT_.out (by kernel_rfl)) (by decide) (fun K hK => ?_)
      have hs61 : w60.cell? ⟨gb119, 2, none⟩ = some (.int .i64 x120002_1) := (zh BK119.out 2).trans rfl
      have hfs61 := zj BK119.out 2
      have hns61_0 := NB115_119.out
      have hns61_1 := NB116_119.out
      have hns61_2 := NB117_119.out
      have hns61_3 := NB118_119.out
      have hns61_5 := NB120_119.out
      have hms61_0 := NB119_115.out
      have hms61_1 := NB119_116.out
      have hms61_2 := NB119_117.out
      have hms61_3 := NB119_118.out
      have hms61_5 := NB119_120.out
      refine zza (w1 := ?_) (by rfl) rfl ?_ ?_
      rotate_left
      ·go_simp
       rfl
      refine hK.out _ _ ?_
      clear hK K
      refine zeb (zla HT_.out (by kernel_rfl)) ?_
      try go_wp2
      have n0_ : zg ((w60.setCell ⟨gb119, 2, none⟩ (.int .i64 (wrap64 (x120002_1 + a2_2)))).heap[gb115]? = some (.cells #[.int .i64 a1_0, .int .i64 a1_1, .int .i64 a1_2, .int .i64 a1_3] 25 (0, 0))) := ⟨by (with_reducible repeat (first | refine ze ?_ _ | refine zf ?_ | refine za ?_ _)); refine zk ?_ NB115_119.out _; (with_reducible repeat (first | refine ze ?_ _ | refine zf ?_ | refine za ?_ _)); exact BK115.out⟩
      have n1_ : zg ((w60.setCell ⟨gb119, 2, none⟩ (.int .i64 (wrap64 (x120002_1 + a2_2)))).heap[gb116]? = some (.cells #[.int .i64 a2_0, .int .i64 a2_1, .int .i64 a2_2, .int .i64 a2_3] 25 (0, 0))) := ⟨by (with_reducible repeat (first | refine ze ?_ _ | refine zf ?_ | refine za ?_ _)); refine zk ?_ NB116_119.out _; (with_reducible repeat (first | refine ze ?_ _ | refine zf ?_ | refine za ?_ _)); exact BK116.out⟩
      have n2_ : zg ((w60.setCell ⟨gb119, 2, none⟩ (.int .i64 (wrap64 (x120002_1 + a2_2)))).heap[gb117]? = some (.cells #[.int .i64 0, .int .i64 0, .int .i64 0, .int .i64 0] 25 (0, 0))) := ⟨by (with_reducible repeat (first | refine ze ?_ _ | refine zf ?_ | refine za ?_ _)); refine zk ?_ NB117_119.out _; (with_reducible repeat (first | refine ze ?_ _ | refine zf ?_ | refine za ?_ _)); exact BK117.out⟩
      have n3_ : zg ((w60.setCell ⟨gb119, 2, none⟩ (.int .i64 (wrap64 (x120002_1 + a2_2)))).heap[gb118]? = some (.cells #[.int .i64 0, .int .i64 0, .int .i64 0, .int .i64 0] 25 (0, 0))) := ⟨by (with_reducible repeat (first | refine ze ?_ _ | refine zf ?_ | refine za ?_ _)); refine zk ?_ NB118_119.out _; (with_reducible repeat (first | refine ze ?_ _ | refine zf ?_ | refine za ?_ _)); exact BK118.out⟩
      have n4_ : zg ((w60.setCell ⟨gb119, 2, none⟩ (.int .i64 (wrap64 (x120002_1 + a2_2)))).heap[gb119]? = some (.cells #[.int .i64 x120000_1, .int .i64 x120001_1, .int .i64 (wrap64 (x120002_1 + a2_2)), .int .i64 x120003_1] 25 (0, 0))) := ⟨by (with_reducible repeat (first | refine ze ?_ _ | refine zf ?_ | refine za ?_ _)); refine zy (cs := #[.int .i64 x120000_1, .int .i64 x120001_1, .int .i64 x120002_1, .int .i64 x120003_1]) ?_ 2 _ rfl; (with_reducible repeat (first | refine ze ?_ _ | refine zf ?_ | refine za ?_ _)); exact BK119.out⟩
      have n5_ : zg ((w60.setCell ⟨gb119, 2, none⟩ (.int .i64 (wrap64 (x120002_1 + a2_2)))).heap[gb120]? = some (.cells #[.int .i64 x121000_1, .int .i64 x121001_1, .int .i64 x121002_1, .int .i64 x121003_1] 25 (0, 0))) := ⟨by (with_reducible repeat (first | refine ze ?_ _ | refine zf ?_ | refine za ?_ _)); refine zk ?_ NB120_119.out _; (with_reducible repeat (first | refine ze ?_ _ | refine zf ?_ | refine za ?_ _)); exact BK120.out⟩
      have n6_ : zg (Below w.heap.size w (w60.setCell ⟨gb119, 2, none⟩ (.int .i64 (wrap64 (x120002_1 + a2_2))))) := ⟨sB⟩
      (try clear BK115)
      (try clear BK116)
      (try clear BK117)
      (try clear BK118)
      (try clear BK119)
      (try clear BK120)
      (try clear HB)
      generalize (w60.setCell ⟨gb119, 2, none⟩ (.int .i64 (wrap64 (x120002_1 + a2_2)))) = w62 at n0_ n1_ n2_ n3_ n4_ n5_ n6_ ⊢
      have BK115 := n0_
      have BK116 := n1_
      have BK117 := n2_
      have BK118 := n3_
      have BK119 := n4_
      have BK120 := n5_
      have HB := n6_
      clear n0_ n1_ n2_ n3_ n4_ n5_ n6_
      have n0_ := zg.mk (zf BK115.out)
      have n1_ := zg.mk (zf BK116.out)
      have n2_ := zg.mk (zf BK117.out)
      have n3_ := zg.mk (zf BK118.out)
      have n4_ := zg.mk (zf BK119.out)
      have n5_ := zg.mk (zf BK120.out)
      have n6_ := zg.mk (zo HB.out)
      clear BK115
      clear BK116
      clear BK117
      clear BK118
      clear BK119
      clear BK120
      clear HB
      have BK115 := n0_
      have BK116 := n1_
      have BK117 := n2_
      have BK118 := n3_
      have BK119 := n4_
      have BK120 := n5_
      have HB := n6_
      clear n0_ n1_ n2_ n3_ n4_ n5_ n6_
      refine zra (n := 13) (S := fun w' => w'.cell? ⟨gb120, 0, none⟩ = some (.int .i64 x121000_1) ∧ w'.cell? ⟨gb120, 1, none⟩ = some (.int .i64 x121001_1) ∧ w'.cell? ⟨gb120, 2, none⟩ = some (.int .i64 x121002_1) ∧ w'.cell? ⟨gb120, 3, none⟩ = some (.int .i64 x121003_1) ∧ w'.cell? ⟨gb115, 0, none⟩ = some (.int .i64 a1_0) ∧ w'.cell? ⟨gb115, 1, none⟩ = some (.int .i64 a1_1) ∧ w'.cell? ⟨gb115, 2, none⟩ = some (.int .i64 a1_2) ∧ w'.cell? ⟨gb115, 3, none⟩ = some (.int .i64 a1_3) ∧ w'.cell? ⟨gb116, 0, none⟩ = some (.int .i64 a2_0) ∧ w'.cell? ⟨gb116, 1, none⟩ = some (.int .i64 a2_1) ∧ w'.cell? ⟨gb116, 2, none⟩ = some (.int .i64 a2_2) ∧ w'.cell? ⟨gb116, 3, none⟩ = some (.int .i64 a2_3)) (ds := [12]) #[false, false, false, false, false, false, false, false, false, false, false, false, false] (by kernel_rfl) rfl rfl ⟨(zh BK120.out 0).trans rfl, (zh BK120.out 1).trans rfl, (zh BK120.out 2).trans rfl, (zh BK120.out 3).trans rfl, (zh BK115.out 0).trans rfl, (zh BK115.out 1).trans rfl, (zh BK115.out 2).trans rfl, (zh BK115.out 3).trans rfl, (zh BK116.out 0).trans rfl, (zh BK116.out 1).trans rfl, (zh BK116.out 2).trans rfl, (zh BK116.out 3).trans rfl⟩ (fun hHeld => ?_); refine zka spec_l06Split.tab7 spec_l06Split.bits7 (fun HT_ HW_ => ?_)
      generalize w62.drew = w63 at BK115 BK116 BK117 BK118 BK119 BK120 HB hHeld ⊢
      refine zaa (i := 0) (N := some 26) (v := ?_) (a' := ?_) #[true, false, false, false, false, false, false, false, false, false, false, false, false] rfl rfl (zu HT_.out (by kernel_rfl)) (fun _ _ _ h => h) (Or.inl ⟨by rfl, ?_⟩) ?_ ?_
      rotate_left
      ·intro w'
       go_simp
       with_reducible rfl
      rotate_left
      ·simp only [Act.put, List.setIfInBounds_toArray, List.set_cons_zero, List.set_cons_succ, zv, zw]
       rfl
      refine zaa (i := 1) (N := some 27) (v := ?_) (a' := ?_) #[true, true, false, false, false, false, false, false, false, false, false, false, false] rfl rfl (zu HT_.out (by kernel_rfl)) (fun _ _ _ h => h) (Or.inl ⟨by rfl, ?_⟩) ?_ ?_
      rotate_left
      ·intro w'
       go_simp
       with_reducible rfl
      rotate_left
      ·simp only [Act.put, List.setIfInBounds_toArray, List.set_cons_zero, List.set_cons_succ, zv, zw]
       rfl
      refine zaa (i := 3) (N := some 29) (v := ?_) (a' := ?_) #[true, true, false, true, false, false, false, false, false, false, false, false, false] rfl rfl (zu HT_.out (by kernel_rfl)) (fun _ _ _ h => h) (Or.inl ⟨by rfl, ?_⟩) ?_ ?_
      rotate_left
      ·intro w'
       go_simp
       with_reducible rfl
      rotate_left
      ·simp only [Act.put, List.setIfInBounds_toArray, List.set_cons_zero, List.set_cons_succ, zv, zw]
       rfl
      refine zaa (i := 4) (N := some 30) (v := ?_) (a' := ?_) #[true, true, false, true, true, false, false, false, false, false, false, false, false] rfl rfl (zu HT_.out (by kernel_rfl)) (fun _ _ _ h => h) (Or.inl ⟨by rfl, ?_⟩) ?_ ?_
      rotate_left
      ·intro w'
       go_simp
       with_reducible rfl
      rotate_left
      ·simp only [Act.put, List.setIfInBounds_toArray, List.set_cons_zero, List.set_cons_succ, zv, zw]
       rfl
      refine zaa (i := 6) (N := some 32) (v := ?_) (a' := ?_) #[true, true, false, true, true, false, true, false, false, false, false, false, false] rfl rfl (zu HT_.out (by kernel_rfl)) (fun _ _ _ h => h) (Or.inl ⟨by rfl, ?_⟩) ?_ ?_
      rotate_left
      ·intro w'
       go_simp
       with_reducible rfl
      rotate_left
      ·simp only [Act.put, List.setIfInBounds_toArray, List.set_cons_zero, List.set_cons_succ, zv, zw]
       rfl
      refine zaa (i := 7) (N := some 33) (v := ?_) (a' := ?_) #[true, true, false, true, true, false, true, true, false, false, false, false, false] rfl rfl (zu HT_.out (by kernel_rfl)) (fun _ _ _ h => h) (Or.inl ⟨by rfl, ?_⟩) ?_ ?_
      rotate_left
      ·intro w'
       go_simp
       with_reducible rfl
      rotate_left
      ·simp only [Act.put, List.setIfInBounds_toArray, List.set_cons_zero, List.set_cons_succ, zv, zw]
       rfl
      refine take_ (i := 2) (N := some 28) (v := ?_) (a' := ?_) #[true, true, true, true, true, false, true, true, false, false, false, false, false] rfl rfl (zea HT_.out HW_.out (by kernel_rfl)) (fun _ _ _ h => h) (Or.inl ⟨by rfl, ?_⟩) hHeld ?_ ?_
      rotate_left
      ·rintro w' ⟨s0, s1, s2, s3, s4, s5, s6, s7, s8, s9, s10, s11⟩
       go_simp
       with_reducible rfl
      rotate_left
      ·simp only [Act.put, List.setIfInBounds_toArray, List.set_cons_zero, List.set_cons_succ, zv, zw]
       rfl
      refine take_ (i := 5) (N := some 31) (v := ?_) (a' := ?_) #[true, true, true, true, true, true, true, true, false, false, false, false, false] rfl rfl (zea HT_.out HW_.out (by kernel_rfl)) (fun _ _ _ h => h) (Or.inl ⟨by rfl, ?_⟩) hHeld ?_ ?_
      rotate_left
      ·rintro w' ⟨s0, s1, s2, s3, s4, s5, s6, s7, s8, s9, s10, s11⟩
       go_simp
       with_reducible rfl
      rotate_left
      ·simp only [Act.put, List.setIfInBounds_toArray, List.set_cons_zero, List.set_cons_succ, zv, zw]
       rfl
      refine take_ (i := 8) (N := some 34) (v := ?_) (a' := ?_) #[true, true, true, true, true, true, true, true, true, false, false, false, false] rfl rfl (zea HT_.out HW_.out (by kernel_rfl)) (fun _ _ _ h => h) (Or.inl ⟨by rfl, ?_⟩) hHeld ?_ ?_
      rotate_left
      ·rintro w' ⟨s0, s1, s2, s3, s4, s5, s6, s7, s8, s9, s10, s11⟩
       go_simp
       with_reducible rfl
      rotate_left
      ·simp only [Act.put, List.setIfInBounds_toArray, List.set_cons_zero, List.set_cons_succ, zv, zw]
       rfl
      refine zaa (i := 9) (N := some 35) (v := ?_) (a' := ?_) #[true, true, true, true, true, true, true, true, true, true, false, false, false] rfl rfl (zu HT_.out (by kernel_rfl)) (fun _ _ _ h => h) (Or.inl ⟨by rfl, ?_⟩) ?_ ?_
      rotate_left
      ·intro w'
       go_simp
       with_reducible rfl
      rotate_left
      ·simp only [Act.put, List.setIfInBounds_toArray, List.set_cons_zero, List.set_cons_succ, zv, zw]
       rfl
      refine zaa (i := 10) (N := some 36) (v := ?_) (a' := ?_) #[true, true, true, true, true, true, true, true, true, true, true, false, false] rfl rfl (zu HT_.out (by kernel_rfl)) (fun _ _ _ h => h) (Or.inl ⟨by rfl, ?_⟩) ?_ ?_
      rotate_left
      ·intro w'
       go_simp
       with_reducible rfl
      rotate_left
      ·simp only [Act.put, List.setIfInBounds_toArray, List.set_cons_zero, List.set_cons_succ, zv, zw]
       rfl
      refine zaa (i := 11) (N := some 37) (v := ?_) (a' := ?_) #[true, true, true, true, true, true, true, true, true, true, true, true, false] rfl rfl (zu HT_.out (by kernel_rfl)) (fun _ _ _ h => h) (Or.inl ⟨by rfl, ?_⟩) ?_ ?_
      rotate_left
      ·intro w'
       go_simp
       with_reducible rfl
      rotate_left
      ·simp only [Act.put, List.setIfInBounds_toArray, List.set_cons_zero, List.set_cons_succ, zv, zw]
       rfl
      refine zpb (i := 12) (N := none) #[true, true, true, true, true, true, true, true, true, true, true, true, true] rfl rfl (zna HT_.out (by kernel_rfl)) (by decide) (fun K hK => ?_)
      have hs64 : w63.cell? ⟨gb120, 2, none⟩ = some (.int .i64 x121002_1) := (zh BK120.out 2).trans rfl
      have hfs64 := zj BK120.out 2
      have hns64_0 := NB115_120.out
      have hns64_1 := NB116_120.out
      have hns64_2 := NB117_120.out
      have hns64_3 := NB118_120.out
      have hns64_4 := NB119_120.out
      have hms64_0 := NB120_115.out
      have hms64_1 := NB120_116.out
      have hms64_2 := NB120_117.out
      have hms64_3 := NB120_118.out
      have hms64_4 := NB120_119.out
      refine zza (w1 := ?_) (by rfl) rfl ?_ ?_
      rotate_left
      ·go_simp
       rfl
      refine hK.out _ _ ?_
      clear hK K
      refine zeb (zla HT_.out (by kernel_rfl)) ?_
      try go_wp2
      have n0_ : zg ((w63.setCell ⟨gb120, 2, none⟩ (.int .i64 (wrap64 (x121002_1 + (wrap64 (a1_2 - a2_2)))))).heap[gb115]? = some (.cells #[.int .i64 a1_0, .int .i64 a1_1, .int .i64 a1_2, .int .i64 a1_3] 25 (0, 0))) := ⟨by (with_reducible repeat (first | refine ze ?_ _ | refine zf ?_ | refine za ?_ _)); refine zk ?_ NB115_120.out _; (with_reducible repeat (first | refine ze ?_ _ | refine zf ?_ | refine za ?_ _)); exact BK115.out⟩
      have n1_ : zg ((w63.setCell ⟨gb120, 2, none⟩ (.int .i64 (wrap64 (x121002_1 + (wrap64 (a1_2 - a2_2)))))).heap[gb116]? = some (.cells #[.int .i64 a2_0, .int .i64 a2_1, .int .i64 a2_2, .int .i64 a2_3] 25 (0, 0))) := ⟨by (with_reducible repeat (first | refine ze ?_ _ | refine zf ?_ | refine za ?_ _)); refine zk ?_ NB116_120.out _; (with_reducible repeat (first | refine ze ?_ _ | refine zf ?_ | refine za ?_ _)); exact BK116.out⟩
      have n2_ : zg ((w63.setCell ⟨gb120, 2, none⟩ (.int .i64 (wrap64 (x121002_1 + (wrap64 (a1_2 - a2_2)))))).heap[gb117]? = some (.cells #[.int .i64 0, .int .i64 0, .int .i64 0, .int .i64 0] 25 (0, 0))) := ⟨by (with_reducible repeat (first | refine ze ?_ _ | refine zf ?_ | refine za ?_ _)); refine zk ?_ NB117_120.out _; (with_reducible repeat (first | refine ze ?_ _ | refine zf ?_ | refine za ?_ _)); exact BK117.out⟩
      have n3_ : zg ((w63.setCell ⟨gb120, 2, none⟩ (.int .i64 (wrap64 (x121002_1 + (wrap64 (a1_2 - a2_2)))))).heap[gb118]? = some (.cells #[.int .i64 0, .int .i64 0, .int .i64 0, .int .i64 0] 25 (0, 0))) := ⟨by (with_reducible repeat (first | refine ze ?_ _ | refine zf ?_ | refine za ?_ _)); refine zk ?_ NB118_120.out _; (with_reducible repeat (first | refine ze ?_ _ | refine zf ?_ | refine za ?_ _)); exact BK118.out⟩
      have n4_ : zg ((w63.setCell ⟨gb120, 2, none⟩ (.int .i64 (wrap64 (x121002_1 + (wrap64 (a1_2 - a2_2)))))).heap[gb119]? = some (.cells #[.int .i64 x120000_1, .int .i64 x120001_1, .int .i64 (wrap64 (x120002_1 + a2_2)), .int .i64 x120003_1] 25 (0, 0))) := ⟨by (with_reducible repeat (first | refine ze ?_ _ | refine zf ?_ | refine za ?_ _)); refine zk ?_ NB119_120.out _; (with_reducible repeat (first | refine ze ?_ _ | refine zf ?_ | refine za ?_ _)); exact BK119.out⟩
      have n5_ : zg ((w63.setCell ⟨gb120, 2, none⟩ (.int .i64 (wrap64 (x121002_1 + (wrap64 (a1_2 - a2_2)))))).heap[gb120]? = some (.cells #[.int .i64 x121000_1, .int .i64 x121001_1, .int .i64 (wrap64 (x121002_1 + (wrap64 (a1_2 - a2_2)))), .int .i64 x121003_1] 25 (0, 0))) := ⟨by (with_reducible repeat (first | refine ze ?_ _ | refine zf ?_ | refine za ?_ _)); refine zy (cs := #[.int .i64 x121000_1, .int .i64 x121001_1, .int .i64 x121002_1, .int .i64 x121003_1]) ?_ 2 _ rfl; (with_reducible repeat (first | refine ze ?_ _ | refine zf ?_ | refine za ?_ _)); exact BK120.out⟩
      have n6_ : zg (Below w.heap.size w (w63.setCell ⟨gb120, 2, none⟩ (.int .i64 (wrap64 (x121002_1 + (wrap64 (a1_2 - a2_2))))))) := ⟨sB⟩
      (try clear BK115)
      (try clear BK116)
      (try clear BK117)
      (try clear BK118)
      (try clear BK119)
      (try clear BK120)
      (try clear HB)
      generalize (w63.setCell ⟨gb120, 2, none⟩ (.int .i64 (wrap64 (x121002_1 + (wrap64 (a1_2 - a2_2)))))) = w65 at n0_ n1_ n2_ n3_ n4_ n5_ n6_ ⊢
      have BK115 := n0_
      have BK116 := n1_
      have BK117 := n2_
      have BK118 := n3_
      have BK119 := n4_
      have BK120 := n5_
      have HB := n6_
      clear n0_ n1_ n2_ n3_ n4_ n5_ n6_
      have n0_ := zg.mk (zf BK115.out)
      have n1_ := zg.mk (zf BK116.out)
      have n2_ := zg.mk (zf BK117.out)
      have n3_ := zg.mk (zf BK118.out)
      have n4_ := zg.mk (zf BK119.out)
      have n5_ := zg.mk (zf BK120.out)
      have n6_ := zg.mk (zo HB.out)
      clear BK115
      clear BK116
      clear BK117
      clear BK118
      clear BK119
      clear BK120
      clear HB
      have BK115 := n0_
      have BK116 := n1_
      have BK117 := n2_
      have BK118 := n3_
      have BK119 := n4_
      have BK120 := n5_
      have HB := n6_
      clear n0_ n1_ n2_ n3_ n4_ n5_ n6_
      refine zra (n := 14) (S := fun w' => w'.cell? ⟨gb119, 0, none⟩ = some (.int .i64 x120000_1) ∧ w'.cell? ⟨gb119, 1, none⟩ = some (.int .i64 x120001_1) ∧ w'.cell? ⟨gb119, 2, none⟩ = some (.int .i64 (wrap64 (x120002_1 + a2_2))) ∧ w'.cell? ⟨gb119, 3, none⟩ = some (.int .i64 x120003_1) ∧ w'.cell? ⟨gb115, 0, none⟩ = some (.int .i64 a1_0) ∧ w'.cell? ⟨gb115, 1, none⟩ = some (.int .i64 a1_1) ∧ w'.cell? ⟨gb115, 2, none⟩ = some (.int .i64 a1_2) ∧ w'.cell? ⟨gb115, 3, none⟩ = some (.int .i64 a1_3) ∧ w'.cell? ⟨gb116, 0, none⟩ = some (.int .i64 a2_0) ∧ w'.cell? ⟨gb116, 1, none⟩ = some (.int .i64 a2_1) ∧ w'.cell? ⟨gb116, 2, none⟩ = some (.int .i64 a2_2) ∧ w'.cell? ⟨gb116, 3, none⟩ = some (.int .i64 a2_3)) (ds := [13]) #[false, false, false, false, false, false, false, false, false, false, false, false, false, false] (by kernel_rfl) rfl rfl ⟨(zh BK119.out 0).trans rfl, (zh BK119.out 1).trans rfl, (zh BK119.out 2).trans rfl, (zh BK119.out 3).trans rfl, (zh BK115.out 0).trans rfl, (zh BK115.out 1).trans rfl, (zh BK115.out 2).trans rfl, (zh BK115.out 3).trans rfl, (zh BK116.out 0).trans rfl, (zh BK116.out 1).trans rfl, (zh BK116.out 2).trans rfl, (zh BK116.out 3).trans rfl⟩ (fun hHeld => ?_); refine zka spec_l06Split.tab9 spec_l06Split.bits9 (fun HT_ HW_ => ?_)
      generalize w65.drew = w66 at BK115 BK116 BK117 BK118 BK119 BK120 HB hHeld ⊢
      refine zaa (i := 0) (N := some 41) (v := ?_) (a' := ?_) #[true, false, false, false, false, false, false, false, false, false, false, false, false, false] rfl rfl (zu HT_.out (by kernel_rfl)) (fun _ _ _ h => h) (Or.inl ⟨by rfl, ?_⟩) ?_ ?_
      rotate_left
      ·intro w'
       go_simp
       with_reducible rfl
      rotate_left
      ·simp only [Act.put, List.setIfInBounds_toArray, List.set_cons_zero, List.set_cons_succ, zv, zw]
       rfl
      refine zaa (i := 1) (N := some 42) (v := ?_) (a' := ?_) #[true, true, false, false, false, false, false, false, false, false, false, false, false, false] rfl rfl (zu HT_.out (by kernel_rfl)) (fun _ _ _ h => h) (Or.inl ⟨by rfl, ?_⟩) ?_ ?_
      rotate_left
      ·intro w'
       go_simp
       with_reducible rfl
      rotate_left
      ·simp only [Act.put, List.setIfInBounds_toArray, List.set_cons_zero, List.set_cons_succ, zv, zw]
       rfl
      refine zaa (i := 2) (N := some 43) (v := ?_) (a' := ?_) #[true, true, true, false, false, false, false, false, false, false, false, false, false, false] rfl rfl (zu HT_.out (by kernel_rfl)) (fun _ _ _ h => h) (Or.inl ⟨by rfl, ?_⟩) ?_ ?_
      rotate_left
      ·intro w'
       go_simp
       with_reducible rfl
      rotate_left
      ·simp only [Act.put, List.setIfInBounds_toArray, List.set_cons_zero, List.set_cons_succ, zv, zw]
       rfl
      refine zaa (i := 4) (N := some 45) (v := ?_) (a' := ?_) #[true, true, true, false, true, false, false, false, false, false, false, false, false, false] rfl rfl (zu HT_.out (by kernel_rfl)) (fun _ _ _ h => h) (Or.inl ⟨by rfl, ?_⟩) ?_ ?_
      rotate_left
      ·intro w'
       go_simp
       with_reducible rfl
      rotate_left
      ·simp only [Act.put, List.setIfInBounds_toArray, List.set_cons_zero, List.set_cons_succ, zv, zw]
       rfl
      refine zaa (i := 5) (N := some 46) (v := ?_) (a' := ?_) #[true, true, true, false, true, true, false, false, false, false, false, false, false, false] rfl rfl (zu HT_.out (by kernel_rfl)) (fun _ _ _ h => h) (Or.inl ⟨by rfl, ?_⟩) ?_ ?_
      rotate_left
      ·intro w'
       go_simp
       with_reducible rfl
      rotate_left
      ·simp only [Act.put, List.setIfInBounds_toArray, List.set_cons_zero, List.set_cons_succ, zv, zw]
       rfl
      refine zaa (i := 7) (N := some 48) (v := ?_) (a' := ?_) #[true, true, true, false, true, true, false, true, false, false, false, false, false, false] rfl rfl (zu HT_.out (by kernel_rfl)) (fun _ _ _ h => h) (Or.inl ⟨by rfl, ?_⟩) ?_ ?_
      rotate_left
      ·intro w'
       go_simp
       with_reducible rfl
      rotate_left
      ·simp only [Act.put, List.setIfInBounds_toArray, List.set_cons_zero, List.set_cons_succ, zv, zw]
       rfl
      refine zaa (i := 8) (N := some 49) (v := ?_) (a' := ?_) #[true, true, true, false, true, true, false, true, true, false, false, false, false, false] rfl rfl (zu HT_.out (by kernel_rfl)) (fun _ _ _ h => h) (Or.inl ⟨by rfl, ?_⟩) ?_ ?_
      rotate_left
      ·intro w'
       go_simp
       with_reducible rfl
      rotate_left
      ·simp only [Act.put, List.setIfInBounds_toArray, List.set_cons_zero, List.set_cons_succ, zv, zw]
       rfl
      refine take_ (i := 3) (N := some 44) (v := ?_) (a' := ?_) #[true, true, true, true, true, true, false, true, true, false, false, false, false, false] rfl rfl (zea HT_.out HW_.out (by kernel_rfl)) (fun _ _ _ h => h) (Or.inl ⟨by rfl, ?_⟩) hHeld ?_ ?_
      rotate_left
      ·rintro w' ⟨s0, s1, s2, s3, s4, s5, s6, s7, s8, s9, s10, s11⟩
       go_simp
       with_reducible rfl
      rotate_left
      ·simp only [Act.put, List.setIfInBounds_toArray, List.set_cons_zero, List.set_cons_succ, zv, zw]
       rfl
      refine take_ (i := 6) (N := some 47) (v := ?_) (a' := ?_) #[true, true, true, true, true, true, true, true, true, false, false, false, false, false] rfl rfl (zea HT_.out HW_.out (by kernel_rfl)) (fun _ _ _ h => h) (Or.inl ⟨by rfl, ?_⟩) hHeld ?_ ?_
      rotate_left
      ·rintro w' ⟨s0, s1, s2, s3, s4, s5, s6, s7, s8, s9, s10, s11⟩
       go_simp
       with_reducible rfl
      rotate_left
      ·simp only [Act.put, List.setIfInBounds_toArray, List.set_cons_zero, List.set_cons_succ, zv, zw]
       rfl
      refine take_ (i := 9) (N := some 50) (v := ?_) (a' := ?_) #[true, true, true, true, true, true, true, true, true, true, false, false, false, false] rfl rfl (zea HT_.out HW_.out (by kernel_rfl)) (fun _ _ _ h => h) (Or.inl ⟨by rfl, ?_⟩) hHeld ?_ ?_
      rotate_left
      ·rintro w' ⟨s0, s1, s2, s3, s4, s5, s6, s7, s8, s9, s10, s11⟩
       go_simp
       with_reducible rfl
      rotate_left
      ·simp only [Act.put, List.setIfInBounds_toArray, List.set_cons_zero, List.set_cons_succ, zv, zw]
       rfl
      refine zaa (i := 10) (N := some 51) (v := ?_) (a' := ?_) #[true, true, true, true, true, true, true, true, true, true, true, false, false, false] rfl rfl (zu HT_.out (by kernel_rfl)) (fun _ _ _ h => h) (Or.inl ⟨by rfl, ?_⟩) ?_ ?_
      rotate_left
      ·intro w'
       go_simp
       with_reducible rfl
      rotate_left
      ·simp only [Act.put, List.setIfInBounds_toArray, List.set_cons_zero, List.set_cons_succ, zv, zw]
       rfl
      refine zaa (i := 11) (N := some 52) (v := ?_) (a' := ?_) #[true, true, true, true, true, true, true, true, true, true, true, true, false, false] rfl rfl (zu HT_.out (by kernel_rfl)) (fun _ _ _ h => h) (Or.inl ⟨by rfl, ?_⟩) ?_ ?_
      rotate_left
      ·intro w'
       go_simp
       with_reducible rfl
      rotate_left
      ·simp only [Act.put, List.setIfInBounds_toArray, List.set_cons_zero, List.set_cons_succ, zv, zw]
       rfl
      refine zaa (i := 12) (N := some 53) (v := ?_) (a' := ?_) #[true, true, true, true, true, true, true, true, true, true, true, true, true, false] rfl rfl (zu HT_.out (by kernel_rfl)) (fun _ _ _ h => h) (Or.inl ⟨by rfl, ?_⟩) ?_ ?_
      rotate_left
      ·intro w'
       go_simp
       with_reducible rfl
      rotate_left
      ·simp only [Act.put, List.setIfInBounds_toArray, List.set_cons_zero, List.set_cons_succ, zv, zw]
       rfl
      refine zpb (i := 13) (N := none) #[true, true, true, true, true, true, true, true, true, true, true, true, true, true] rfl rfl (zna HT_.out (by kernel_rfl)) (by decide) (fun K hK => ?_)
      have hs67 : w66.cell? ⟨gb119, 3, none⟩ = some (.int .i64 x120003_1) := (zh BK119.out 3).trans rfl
      have hfs67 := zj BK119.out 3
      have hns67_0 := NB115_119.out
      have hns67_1 := NB116_119.out
      have hns67_2 := NB117_119.out
      have hns67_3 := NB118_119.out
      have hns67_5 := NB120_119.out
      have hms67_0 := NB119_115.out
      have hms67_1 := NB119_116.out
      have hms67_2 := NB119_117.out
      have hms67_3 := NB119_118.out
      have hms67_5 := NB119_120.out
      refine zza (w1 := ?_) (by rfl) rfl ?_ ?_
      rotate_left
      ·go_simp
       rfl
      refine hK.out _ _ ?_
      clear hK K
      refine zeb (zla HT_.out (by kernel_rfl)) ?_
      try go_wp2
      have n0_ : zg ((w66.setCell ⟨gb119, 3, none⟩ (.int .i64 (wrap64 (x120003_1 + (wrap64 (a1_2 - a2_2)))))).heap[gb115]? = some (.cells #[.int .i64 a1_0, .int .i64 a1_1, .int .i64 a1_2, .int .i64 a1_3] 25 (0, 0))) := ⟨by (with_reducible repeat (first | refine ze ?_ _ | refine zf ?_ | refine za ?_ _)); refine zk ?_ NB115_119.out _; (with_reducible repeat (first | refine ze ?_ _ | refine zf ?_ | refine za ?_ _)); exact BK115.out⟩
      have n1_ : zg ((w66.setCell ⟨gb119, 3, none⟩ (.int .i64 (wrap64 (x120003_1 + (wrap64 (a1_2 - a2_2)))))).heap[gb116]? = some (.cells #[.int .i64 a2_0, .int .i64 a2_1, .int .i64 a2_2, .int .i64 a2_3] 25 (0, 0))) := ⟨by (with_reducible repeat (first | refine ze ?_ _ | refine zf ?_ | refine za ?_ _)); refine zk ?_ NB116_119.out _; (with_reducible repeat (first | refine ze ?_ _ | refine zf ?_ | refine za ?_ _)); exact BK116.out⟩
      have n2_ : zg ((w66.setCell ⟨gb119, 3, none⟩ (.int .i64 (wrap64 (x120003_1 + (wrap64 (a1_2 - a2_2)))))).heap[gb117]? = some (.cells #[.int .i64 0, .int .i64 0, .int .i64 0, .int .i64 0] 25 (0, 0))) := ⟨by (with_reducible repeat (first | refine ze ?_ _ | refine zf ?_ | refine za ?_ _)); refine zk ?_ NB117_119.out _; (with_reducible repeat (first | refine ze ?_ _ | refine zf ?_ | refine za ?_ _)); exact BK117.out⟩
      have n3_ : zg ((w66.setCell ⟨gb119, 3, none⟩ (.int .i64 (wrap64 (x120003_1 + (wrap64 (a1_2 - a2_2)))))).heap[gb118]? = some (.cells #[.int .i64 0, .int .i64 0, .int .i64 0, .int .i64 0] 25 (0, 0))) := ⟨by (with_reducible repeat (first | refine ze ?_ _ | refine zf ?_ | refine za ?_ _)); refine zk ?_ NB118_119.out _; (with_reducible repeat (first | refine ze ?_ _ | refine zf ?_ | refine za ?_ _)); exact BK118.out⟩
      have n4_ : zg ((w66.setCell ⟨gb119, 3, none⟩ (.int .i64 (wrap64 (x120003_1 + (wrap64 (a1_2 - a2_2)))))).heap[gb119]? = some (.cells #[.int .i64 x120000_1, .int .i64 x120001_1, .int .i64 (wrap64 (x120002_1 + a2_2)), .int .i64 (wrap64 (x120003_1 + (wrap64 (a1_2 - a2_2))))] 25 (0, 0))) := ⟨by (with_reducible repeat (first | refine ze ?_ _ | refine zf ?_ | refine za ?_ _)); refine zy (cs := #[.int .i64 x120000_1, .int .i64 x120001_1, .int .i64 (wrap64 (x120002_1 + a2_2)), .int .i64 x120003_1]) ?_ 3 _ rfl; (with_reducible repeat (first | refine ze ?_ _ | refine zf ?_ | refine za ?_ _)); exact BK119.out⟩
      have n5_ : zg ((w66.setCell ⟨gb119, 3, none⟩ (.int .i64 (wrap64 (x120003_1 + (wrap64 (a1_2 - a2_2)))))).heap[gb120]? = some (.cells #[.int .i64 x121000_1, .int .i64 x121001_1, .int .i64 (wrap64 (x121002_1 + (wrap64 (a1_2 - a2_2)))), .int .i64 x121003_1] 25 (0, 0))) := ⟨by (with_reducible repeat (first | refine ze ?_ _ | refine zf ?_ | refine za ?_ _)); refine zk ?_ NB120_119.out _; (with_reducible repeat (first | refine ze ?_ _ | refine zf ?_ | refine za ?_ _)); exact BK120.out⟩
      have n6_ : zg (Below w.heap.size w (w66.setCell ⟨gb119, 3, none⟩ (.int .i64 (wrap64 (x120003_1 + (wrap64 (a1_2 - a2_2))))))) := ⟨sB⟩
      (try clear BK115)
      (try clear BK116)
      (try clear BK117)
      (try clear BK118)
      (try clear BK119)
      (try clear BK120)
      (try clear HB)
      generalize (w66.setCell ⟨gb119, 3, none⟩ (.int .i64 (wrap64 (x120003_1 + (wrap64 (a1_2 - a2_2)))))) = w68 at n0_ n1_ n2_ n3_ n4_ n5_ n6_ ⊢
      have BK115 := n0_
      have BK116 := n1_
      have BK117 := n2_
      have BK118 := n3_
      have BK119 := n4_
      have BK120 := n5_
      have HB := n6_
      clear n0_ n1_ n2_ n3_ n4_ n5_ n6_
      have n0_ := zg.mk (zf BK115.out)
      have n1_ := zg.mk (zf BK116.out)
      have n2_ := zg.mk (zf BK117.out)
      have n3_ := zg.mk (zf BK118.out)
      have n4_ := zg.mk (zf BK119.out)
      have n5_ := zg.mk (zf BK120.out)
      have n6_ := zg.mk (zo HB.out)
      clear BK115
      clear BK116
      clear BK117
      clear BK118
      clear BK119
      clear BK120
      clear HB
      have BK115 := n0_
      have BK116 := n1_
      have BK117 := n2_
      have BK118 := n3_
      have BK119 := n4_
      have BK120 := n5_
      have HB := n6_
      clear n0_ n1_ n2_ n3_ n4_ n5_ n6_
      refine zra (n := 10) (S := fun w' => w'.cell? ⟨gb120, 0, none⟩ = some (.int .i64 x121000_1) ∧ w'.cell? ⟨gb120, 1, none⟩ = some (.int .i64 x121001_1) ∧ w'.cell? ⟨gb120, 2, none⟩ = some (.int .i64 (wrap64 (x121002_1 + (wrap64 (a1_2 - a2_2))))) ∧ w'.cell? ⟨gb120, 3, none⟩ = some (.int .i64 x121003_1) ∧ w'.cell? ⟨gb116, 0, none⟩ = some (.int .i64 a2_0) ∧ w'.cell? ⟨gb116, 1, none⟩ = some (.int .i64 a2_1) ∧ w'.cell? ⟨gb116, 2, none⟩ = some (.int .i64 a2_2) ∧ w'.cell? ⟨gb116, 3, none⟩ = some (.int .i64 a2_3)) (ds := [9]) #[false, false, false, false, false, false, false, false, false, false] (by kernel_rfl) rfl rfl ⟨(zh BK120.out 0).trans rfl, (zh BK120.out 1).trans rfl, (zh BK120.out 2).trans rfl, (zh BK120.out 3).trans rfl, (zh BK116.out 0).trans rfl, (zh BK116.out 1).trans rfl, (zh BK116.out 2).trans rfl, (zh BK116.out 3).trans rfl⟩ (fun hHeld => ?_); refine zka spec_l06Split.tab10 spec_l06Split.bits10 (fun HT_ HW_ => ?_)
      generalize w68.drew = w69 at BK115 BK116 BK117 BK118 BK119 BK120 HB hHeld ⊢
      refine zaa (i := 0) (N := some 54) (v := ?_) (a' := ?_) #[true, false, false, false, false, false, false, false, false, false] rfl rfl (zu HT_.out (by kernel_rfl)) (fun _ _ _ h => h) (Or.inl ⟨by rfl, ?_⟩) ?_ ?_
      rotate_left
      ·intro w'
       go_simp
       with_reducible rfl
      rotate_left
      ·simp only [Act.put, List.setIfInBounds_toArray, List.set_cons_zero, List.set_cons_succ, zv, zw]
       rfl
      refine zaa (i := 1) (N := some 55) (v := ?_) (a' := ?_) #[true, true, false, false, false, false, false, false, false, false] rfl rfl (zu HT_.out (by kernel_rfl)) (fun _ _ _ h => h) (Or.inl ⟨by rfl, ?_⟩) ?_ ?_
      rotate_left
      ·intro w'
       go_simp
       with_reducible rfl
      rotate_left
      ·simp only [Act.put, List.setIfInBounds_toArray, List.set_cons_zero, List.set_cons_succ, zv, zw]
       rfl
      refine zaa (i := 2) (N := some 56) (v := ?_) (a' := ?_) #[true, true, true, false, false, false, false, false, false, false] rfl rfl (zu HT_.out (by kernel_rfl)) (fun _ _ _ h => h) (Or.inl ⟨by rfl, ?_⟩) ?_ ?_
      rotate_left
      ·intro w'
       go_simp
       with_reducible rfl
      rotate_left
      ·simp only [Act.put, List.setIfInBounds_toArray, List.set_cons_zero, List.set_cons_succ, zv, zw]
       rfl
      refine zaa (i := 4) (N := some 58) (v := ?_) (a' := ?_) #[true, true, true, false, true, false, false, false, false, false] rfl rfl (zu HT_.out (by kernel_rfl)) (fun _ _ _ h => h) (Or.inl ⟨by rfl, ?_⟩) ?_ ?_
      rotate_left
      ·intro w'
       go_simp
       with_reducible rfl
      rotate_left
      ·simp only [Act.put, List.setIfInBounds_toArray, List.set_cons_zero, List.set_cons_succ, zv, zw]
       rfl
      refine zaa (i := 5) (N := some 59) (v := ?_) (a' := ?_) #[true, true, true, false, true, true, false, false, false, false] rfl rfl (zu HT_.out (by kernel_rfl)) (fun _ _ _ h => h) (Or.inl ⟨by rfl, ?_⟩) ?_ ?_
      rotate_left
      ·intro w'
       go_simp
       with_reducible rfl
      rotate_left
      ·simp only [Act.put, List.setIfInBounds_toArray, List.set_cons_zero, List.set_cons_succ, zv, zw]
       rfl
      refine take_ (i := 3) (N := some 57) (v := ?_) (a' := ?_) #[true, true, true, true, true, true, false, false, false, false] rfl rfl (zea HT_.out HW_.out (by kernel_rfl)) (fun _ _ _ h => h) (Or.inl ⟨by rfl, ?_⟩) hHeld ?_ ?_
      rotate_left
      ·rintro w' ⟨s0, s1, s2, s3, s4, s5, s6, s7⟩
       go_simp
       with_reducible rfl
      rotate_left
      ·simp only [Act.put, List.setIfInBounds_toArray, List.set_cons_zero, List.set_cons_succ, zv, zw]
       rfl
      refine take_ (i := 6) (N := some 60) (v := ?_) (a' := ?_) #[true, true, true, true, true, true, true, false, false, false] rfl rfl (zea HT_.out HW_.out (by kernel_rfl)) (fun _ _ _ h => h) (Or.inl ⟨by rfl, ?_⟩) hHeld ?_ ?_
      rotate_left
      ·rintro w' ⟨s0, s1, s2, s3, s4, s5, s6, s7⟩
       go_simp
       with_reducible rfl
      rotate_left
      ·simp only [Act.put, List.setIfInBounds_toArray, List.set_cons_zero, List.set_cons_succ, zv, zw]
       rfl
      refine zaa (i := 7) (N := some 61) (v := ?_) (a' := ?_) #[true, true, true, true, true, true, true, true, false, false] rfl rfl (zu HT_.out (by kernel_rfl)) (fun _ _ _ h => h) (Or.inl ⟨by rfl, ?_⟩) ?_ ?_
      rotate_left
      ·intro w'
       go_simp
       with_reducible rfl
      rotate_left
      ·simp only [Act.put, List.setIfInBounds_toArray, List.set_cons_zero, List.set_cons_succ, zv, zw]
       rfl
      refine zaa (i := 8) (N := some 62) (v := ?_) (a' := ?_) #[true, true, true, true, true, true, true, true, true, false] rfl rfl (zu HT_.out (by kernel_rfl)) (fun _ _ _ h => h) (Or.inl ⟨by rfl, ?_⟩) ?_ ?_
      rotate_left
      ·intro w'
       go_simp
       with_reducible rfl
      rotate_left
      ·simp only [Act.put, List.setIfInBounds_toArray, List.set_cons_zero, List.set_cons_succ, zv, zw]
       rfl
      refine zpb (i := 9) (N := none) #[true, true, true, true, true, true, true, true, true, true] rfl rfl (zna HT_.out (by kernel_rfl)) (by decide) (fun K hK => ?_)
      have hs70 : w69.cell? ⟨gb120, 3, none⟩ = some (.int .i64 x121003_1) := (zh BK120.out 3).trans rfl
      have hfs70 := zj BK120.out 3
      have hns70_0 := NB115_120.out
      have hns70_1 := NB116_120.out
      have hns70_2 := NB117_120.out
      have hns70_3 := NB118_120.out
      have hns70_4 := NB119_120.out
      have hms70_0 := NB120_115.out
      have hms70_1 := NB120_116.out
      have hms70_2 := NB120_117.out
      have hms70_3 := NB120_118.out
      have hms70_4 := NB120_119.out
      refine zza (w1 := ?_) (by rfl) rfl ?_ ?_
      rotate_left
      ·go_simp
       rfl
      refine hK.out _ _ ?_
      clear hK K
      refine zeb (zla HT_.out (by kernel_rfl)) ?_
      try go_wp2
      go_roundg k1
      case measure => have := HK1.out; omega
      case rel => exact ⟨(2 + 1), (x120000_1), (x120001_1), (wrap64 (x120002_1 + a2_2)), (wrap64 (x120003_1 + (wrap64 (a1_2 - a2_2)))), (x121000_1), (x121001_1), (wrap64 (x121002_1 + (wrap64 (a1_2 - a2_2)))), (wrap64 (x121003_1 + a2_2)), (by first | rfl | (simp; done) | (simp [*]; done)), H', ⟨by have := HK1.out; omega⟩, ⟨by (with_reducible repeat (first | refine ze ?_ _ | refine zf ?_ | refine za ?_ _)); refine zk ?_ NB115_120.out _; (with_reducible repeat (first | refine ze ?_ _ | refine zf ?_ | refine za ?_ _)); exact BK115.out⟩, ⟨by (with_reducible repeat (first | refine ze ?_ _ | refine zf ?_ | refine za ?_ _)); refine zk ?_ NB116_120.out _; (with_reducible repeat (first | refine ze ?_ _ | refine zf ?_ | refine za ?_ _)); exact BK116.out⟩, ⟨by (with_reducible repeat (first | refine ze ?_ _ | refine zf ?_ | refine za ?_ _)); refine zk ?_ NB117_120.out _; (with_reducible repeat (first | refine ze ?_ _ | refine zf ?_ | refine za ?_ _)); exact BK117.out⟩, ⟨by (with_reducible repeat (first | refine ze ?_ _ | refine zf ?_ | refine za ?_ _)); refine zk ?_ NB118_120.out _; (with_reducible repeat (first | refine ze ?_ _ | refine zf ?_ | refine za ?_ _)); exact BK118.out⟩, ⟨by (with_reducible repeat (first | refine ze ?_ _ | refine zf ?_ | refine za ?_ _)); refine zk ?_ NB119_120.out _; (with_reducible repeat (first | refine ze ?_ _ | refine zf ?_ | refine za ?_ _)); exact BK119.out⟩, ⟨by (with_reducible repeat (first | refine ze ?_ _ | refine zf ?_ | refine za ?_ _)); refine zy (cs := #[.int .i64 x121000_1, .int .i64 x121001_1, .int .i64 (wrap64 (x121002_1 + (wrap64 (a1_2 - a2_2)))), .int .i64 x121003_1]) ?_ 3 _ rfl; (with_reducible repeat (first | refine ze ?_ _ | refine zf ?_ | refine za ?_ _)); exact BK120.out⟩, ⟨sB⟩⟩
     rw [if_neg c59] at H
     have c59b0 : decide (2 < a0) = false := decide_eq_false c59
     clear c59
     have H' := zg.mk H
     clear H
     try go_wp2
     have n0_ := zg.mk (zf BK115.out)
     have n1_ := zg.mk (zf BK116.out)
     have n2_ := zg.mk (zf BK117.out)
     have n3_ := zg.mk (zf BK118.out)
     have n4_ := zg.mk (zf BK119.out)
     have n5_ := zg.mk (zf BK120.out)
     have n6_ := zg.mk (zo HB.out)
     clear BK115
     clear BK116
     clear BK117
     clear BK118
     clear BK119
     clear BK120
     clear HB
     have BK115 := n0_
     have BK116 := n1_
     have BK117 := n2_
     have BK118 := n3_
     have BK119 := n4_
     have BK120 := n5_
     have HB := n6_
     clear n0_ n1_ n2_ n3_ n4_ n5_ n6_
     refine zra (n := 9) (S := fun w' => w'.cell? ⟨gb119, 0, none⟩ = some (.int .i64 x120000_1) ∧ w'.cell? ⟨gb119, 1, none⟩ = some (.int .i64 x120001_1) ∧ w'.cell? ⟨gb119, 2, none⟩ = some (.int .i64 x120002_1) ∧ w'.cell? ⟨gb119, 3, none⟩ = some (.int .i64 x120003_1) ∧ w'.cell? ⟨gb116, 0, none⟩ = some (.int .i64 a2_0) ∧ w'.cell? ⟨gb116, 1, none⟩ = some (.int .i64 a2_1) ∧ w'.cell? ⟨gb116, 2, none⟩ = some (.int .i64 a2_2) ∧ w'.cell? ⟨gb116, 3, none⟩ = some (.int .i64 a2_3)) (ds := [8]) #[false, false, false, false, false, false, false, false, false] (by kernel_rfl) rfl rfl ⟨(zh BK119.out 0).trans rfl, (zh BK119.out 1).trans rfl, (zh BK119.out 2).trans rfl, (zh BK119.out 3).trans rfl, (zh BK116.out 0).trans rfl, (zh BK116.out 1).trans rfl, (zh BK116.out 2).trans rfl, (zh BK116.out 3).trans rfl⟩ (fun hHeld => ?_); refine zka spec_l06Split.tab6 spec_l06Split.bits6 (fun HT_ HW_ => ?_)
     generalize wr.drew = w71 at BK115 BK116 BK117 BK118 BK119 BK120 HB hHeld ⊢
     refine zaa (i := 0) (N := some 18) (v := ?_) (a' := ?_) #[true, false, false, false, false, false, false, false, false] rfl rfl (zu HT_.out (by kernel_rfl)) (fun _ _ _ h => h) (Or.inl ⟨by rfl, ?_⟩) ?_ ?_
     rotate_left
     ·intro w'
      go_simp
      with_reducible rfl
     rotate_left
     ·simp only [Act.put, List.setIfInBounds_toArray, List.set_cons_zero, List.set_cons_succ, zv, zw]
      rfl
     refine zaa (i := 1) (N := some 19) (v := ?_) (a' := ?_) #[true, true, false, false, false, false, false, false, false] rfl rfl (zu HT_.out (by kernel_rfl)) (fun _ _ _ h => h) (Or.inl ⟨by rfl, ?_⟩) ?_ ?_
     rotate_left
     ·intro w'
      go_simp
      with_reducible rfl
     rotate_left
     ·simp only [Act.put, List.setIfInBounds_toArray, List.set_cons_zero, List.set_cons_succ, zv, zw]
      rfl
     refine zaa (i := 3) (N := some 21) (v := ?_) (a' := ?_) #[true, true, false, true, false, false, false, false, false] rfl rfl (zu HT_.out (by kernel_rfl)) (fun _ _ _ h => h) (Or.inl ⟨by rfl, ?_⟩) ?_ ?_
     rotate_left
     ·intro w'
      go_simp
      with_reducible rfl
     rotate_left
     ·simp only [Act.put, List.setIfInBounds_toArray, List.set_cons_zero, List.set_cons_succ, zv, zw]
      rfl
     refine zaa (i := 4) (N := some 22) (v := ?_) (a' := ?_) #[true, true, false, true, true, false, false, false, false] rfl rfl (zu HT_.out (by kernel_rfl)) (fun _ _ _ h => h) (Or.inl ⟨by rfl, ?_⟩) ?_ ?_
     rotate_left
     ·intro w'
      go_simp
      with_reducible rfl
     rotate_left
     ·simp only [Act.put, List.setIfInBounds_toArray, List.set_cons_zero, List.set_cons_succ, zv, zw]
      rfl
     refine take_ (i := 2) (N := some 20) (v := ?_) (a' := ?_) #[true, true, true, true, true, false, false, false, false] rfl rfl (zea HT_.out HW_.out (by kernel_rfl)) (fun _ _ _ h => h) (Or.inl ⟨by rfl, ?_⟩) hHeld ?_ ?_
     rotate_left
     ·rintro w' ⟨s0, s1, s2, s3, s4, s5, s6, s7⟩
      go_simp
      with_reducible rfl
     rotate_left
     ·simp only [Act.put, List.setIfInBounds_toArray, List.set_cons_zero, List.set_cons_succ, zv, zw]
      rfl
     refine take_ (i := 5) (N := some 23) (v := ?_) (a' := ?_) #[true, true, true, true, true, true, false, false, false] rfl rfl (zea HT_.out HW_.out (by kernel_rfl)) (fun _ _ _ h => h) (Or.inl ⟨by rfl, ?_⟩) hHeld ?_ ?_
     rotate_left
     ·rintro w' ⟨s0, s1, s2, s3, s4, s5, s6, s7⟩
      go_simp
      with_reducible rfl
     rotate_left
     ·simp only [Act.put, List.setIfInBounds_toArray, List.set_cons_zero, List.set_cons_succ, zv, zw]
      rfl
     refine zaa (i := 6) (N := some 24) (v := ?_) (a' := ?_) #[true, true, true, true, true, true, true, false, false] rfl rfl (zu HT_.out (by kernel_rfl)) (fun _ _ _ h => h) (Or.inl ⟨by rfl, ?_⟩) ?_ ?_
     rotate_left
     ·intro w'
      go_simp
      with_reducible rfl
     rotate_left
     ·simp only [Act.put, List.setIfInBounds_toArray, List.set_cons_zero, List.set_cons_succ, zv, zw]
      rfl
     refine zaa (i := 7) (N := some 25) (v := ?_) (a' := ?_) #[true, true, true, true, true, true, true, true, false] rfl rfl (zu HT_.out (by kernel_rfl)) (fun _ _ _ h => h) (Or.inl ⟨by rfl, ?_⟩) ?_ ?_
     rotate_left
     ·intro w'
      go_simp
      with_reducible rfl
     rotate_left
     ·simp only [Act.put, List.setIfInBounds_toArray, List.set_cons_zero, List.set_cons_succ, zv, zw]
      rfl
     refine zpb (i := 8) (N := none) #[true, true, true, true, true, true, true, true, true] rfl rfl (zna HT_.out (by kernel_rfl)) (by decide) (fun K hK => ?_)
     have hs72 : w71.cell? ⟨gb119, 2, none⟩ = some (.int .i64 x120002_1) := (zh BK119.out 2).trans rfl
     have hfs72 := zj BK119.out 2
     have hns72_0 := NB115_119.out
     have hns72_1 := NB116_119.out
     have hns72_2 := NB117_119.out
     have hns72_3 := NB118_119.out
     have hns72_5 := NB120_119.out
     have hms72_0 := NB119_115.out
     have hms72_1 := NB119_116.out
     have hms72_2 := NB119_117.out
     have hms72_3 := NB119_118.out
     have hms72_5 := NB119_120.out
     refine zza (w1 := ?_) (by rfl) rfl ?_ ?_
     rotate_left
     ·go_simp
      rfl
     refine hK.out _ _ ?_
     clear hK K
     refine zeb (zla HT_.out (by kernel_rfl)) ?_
     try go_wp2
     have n0_ : zg ((w71.setCell ⟨gb119, 2, none⟩ (.int .i64 (wrap64 (x120002_1 + a2_2)))).heap[gb115]? = some (.cells #[.int .i64 a1_0, .int .i64 a1_1, .int .i64 a1_2, .int .i64 a1_3] 25 (0, 0))) := ⟨by (with_reducible repeat (first | refine ze ?_ _ | refine zf ?_ | refine za ?_ _)); refine zk ?_ NB115_119.out _; (with_reducible repeat (first | refine ze ?_ _ | refine zf ?_ | refine za ?_ _)); exact BK115.out⟩
     have n1_ : zg ((w71.setCell ⟨gb119, 2, none⟩ (.int .i64 (wrap64 (x120002_1 + a2_2)))).heap[gb116]? = some (.cells #[.int .i64 a2_0, .int .i64 a2_1, .int .i64 a2_2, .int .i64 a2_3] 25 (0, 0))) := ⟨by (with_reducible repeat (first | refine ze ?_ _ | refine zf ?_ | refine za ?_ _)); refine zk ?_ NB116_119.out _; (with_reducible repeat (first | refine ze ?_ _ | refine zf ?_ | refine za ?_ _)); exact BK116.out⟩
     have n2_ : zg ((w71.setCell ⟨gb119, 2, none⟩ (.int .i64 (wrap64 (x120002_1 + a2_2)))).heap[gb117]? = some (.cells #[.int .i64 0, .int .i64 0, .int .i64 0, .int .i64 0] 25 (0, 0))) := ⟨by (with_reducible repeat (first | refine ze ?_ _ | refine zf ?_ | refine za ?_ _)); refine zk ?_ NB117_119.out _; (with_reducible repeat (first | refine ze ?_ _ | refine zf ?_ | refine za ?_ _)); exact BK117.out⟩
     have n3_ : zg ((w71.setCell ⟨gb119, 2, none⟩ (.int .i64 (wrap64 (x120002_1 + a2_2)))).heap[gb118]? = some (.cells #[.int .i64 0, .int .i64 0, .int .i64 0, .int .i64 0] 25 (0, 0))) := ⟨by (with_reducible repeat (first | refine ze ?_ _ | refine zf ?_ | refine za ?_ _)); refine zk ?_ NB118_119.out _; (with_reducible repeat (first | refine ze ?_ _ | refine zf ?_ | refine za ?_ _)); exact BK118.out⟩
     have n4_ : zg ((w71.setCell ⟨gb119, 2, none⟩ (.int .i64 (wrap64 (x120002_1 + a2_2)))).heap[gb119]? = some (.cells #[.int .i64 x120000_1, .int .i64 x120001_1, .int .i64 (wrap64 (x120002_1 + a2_2)), .int .i64 x120003_1] 25 (0, 0))) := ⟨by (with_reducible repeat (first | refine ze ?_ _ | refine zf ?_ | refine za ?_ _)); refine zy (cs := #[.int .i64 x120000_1, .int .i64 x120001_1, .int .i64 x120002_1, .int .i64 x120003_1]) ?_ 2 _ rfl; (with_reducible repeat (first | refine ze ?_ _ | refine zf ?_ | refine za ?_ _)); exact BK119.out⟩
     have n5_ : zg ((w71.setCell ⟨gb119, 2, none⟩ (.int .i64 (wrap64 (x120002_1 + a2_2)))).heap[gb120]? = some (.cells #[.int .i64 x121000_1, .int .i64 x121001_1, .int .i64 x121002_1, .int .i64 x121003_1] 25 (0, 0))) := ⟨by (with_reducible repeat (first | refine ze ?_ _ | refine zf ?_ | refine za ?_ _)); refine zk ?_ NB120_119.out _; (with_reducible repeat (first | refine ze ?_ _ | refine zf ?_ | refine za ?_ _)); exact BK120.out⟩
     have n6_ : zg (Below w.heap.size w (w71.setCell ⟨gb119, 2, none⟩ (.int .i64 (wrap64 (x120002_1 + a2_2))))) := ⟨sB⟩
     (try clear BK115)
     (try clear BK116)
     (try clear BK117)
     (try clear BK118)
     (try clear BK119)
     (try clear BK120)
     (try clear HB)
     generalize (w71.setCell ⟨gb119, 2, none⟩ (.int .i64 (wrap64 (x120002_1 + a2_2)))) = w73 at n0_ n1_ n2_ n3_ n4_ n5_ n6_ ⊢
     have BK115 := n0_
     have BK116 := n1_
     have BK117 := n2_
     have BK118 := n3_
     have BK119 := n4_
     have BK120 := n5_
     have HB := n6_
     clear n0_ n1_ n2_ n3_ n4_ n5_ n6_
     have n0_ := zg.mk (zf BK115.out)
     have n1_ := zg.mk (zf BK116.out)
     have n2_ := zg.mk (zf BK117.out)
     have n3_ := zg.mk (zf BK118.out)
     have n4_ := zg.mk (zf BK119.out)
     have n5_ := zg.mk (zf BK120.out)
     have n6_ := zg.mk (zo HB.out)
     clear BK115
     clear BK116
     clear BK117
     clear BK118
     clear BK119
     clear BK120
     clear HB
     have BK115 := n0_
     have BK116 := n1_
     have BK117 := n2_
     have BK118 := n3_
     have BK119 := n4_
     have BK120 := n5_
     have HB := n6_
     clear n0_ n1_ n2_ n3_ n4_ n5_ n6_
     refine zra (n := 13) (S := fun w' => w'.cell? ⟨gb120, 0, none⟩ = some (.int .i64 x121000_1) ∧ w'.cell? ⟨gb120, 1, none⟩ = some (.int .i64 x121001_1) ∧ w'.cell? ⟨gb120, 2, none⟩ = some (.int .i64 x121002_1) ∧ w'.cell? ⟨gb120, 3, none⟩ = some (.int .i64 x121003_1) ∧ w'.cell? ⟨gb115, 0, none⟩ = some (.int .i64 a1_0) ∧ w'.cell? ⟨gb115, 1, none⟩ = some (.int .i64 a1_1) ∧ w'.cell? ⟨gb115, 2, none⟩ = some (.int .i64 a1_2) ∧ w'.cell? ⟨gb115, 3, none⟩ = some (.int .i64 a1_3) ∧ w'.cell? ⟨gb116, 0, none⟩ = some (.int .i64 a2_0) ∧ w'.cell? ⟨gb116, 1, none⟩ = some (.int .i64 a2_1) ∧ w'.cell? ⟨gb116, 2, none⟩ = some (.int .i64 a2_2) ∧ w'.cell? ⟨gb116, 3, none⟩ = some (.int .i64 a2_3)) (ds := [12]) #[false, false, false, false, false, false, false, false, false, false, false, false, false] (by kernel_rfl) rfl rfl ⟨(zh BK120.out 0).trans rfl, (zh BK120.out 1).trans rfl, (zh BK120.out 2).trans rfl, (zh BK120.out 3).trans rfl, (zh BK115.out 0).trans rfl, (zh BK115.out 1).trans rfl, (zh BK115.out 2).trans rfl, (zh BK115.out 3).trans rfl, (zh BK116.out 0).trans rfl, (zh BK116.out 1).trans rfl, (zh BK116.out 2).trans rfl, (zh BK116.out 3).trans rfl⟩ (fun hHeld => ?_); refine zka spec_l06Split.tab7 spec_l06Split.bits7 (fun HT_ HW_ => ?_)
     generalize w73.drew = w74 at BK115 BK116 BK117 BK118 BK119 BK120 HB hHeld ⊢
     refine zaa (i := 0) (N := some 26) (v := ?_) (a' := ?_) #[true, false, false, false, false, false, false, false, false, false, false, false, false] rfl rfl (zu HT_.out (by kernel_rfl)) (fun _ _ _ h => h) (Or.inl ⟨by rfl, ?_⟩) ?_ ?_
     rotate_left
     ·intro w'
      go_simp
      with_reducible rfl
     rotate_left
     ·simp only [Act.put, List.setIfInBounds_toArray, List.set_cons_zero, List.set_cons_succ, zv, zw]
      rfl
     refine zaa (i := 1) (N := some 27) (v := ?_) (a' := ?_) #[true, true, false, false, false, false, false, false, false, false, false, false, false] rfl rfl (zu HT_.out (by kernel_rfl)) (fun _ _ _ h => h) (Or.inl ⟨by rfl, ?_⟩) ?_ ?_
     rotate_left
     ·intro w'
      go_simp
      with_reducible rfl
     rotate_left
     ·simp only [Act.put, List.setIfInBounds_toArray, List.set_cons_zero, List.set_cons_succ, zv, zw]
      rfl
     refine zaa (i := 3) (N := some 29) (v := ?_) (a' := ?_) #[true, true, false, true, false, false, false, false, false, false, false, false, false] rfl rfl (zu HT_.out (by kernel_rfl)) (fun _ _ _ h => h) (Or.inl ⟨by rfl, ?_⟩) ?_ ?_
     rotate_left
     ·intro w'
      go_simp
      with_reducible rfl
     rotate_left
     ·simp only [Act.put, List.setIfInBounds_toArray, List.set_cons_zero, List.set_cons_succ, zv, zw]
      rfl
     refine zaa (i := 4) (N := some 30) (v := ?_) (a' := ?_) #[true, true, false, true, true, false, false, false, false, false, false, false, false] rfl rfl (zu HT_.out (by kernel_rfl)) (fun _ _ _ h => h) (Or.inl ⟨by rfl, ?_⟩) ?_ ?_
     rotate_left
     ·intro w'
      go_simp
      with_reducible rfl
     rotate_left
     ·simp only [Act.put, List.setIfInBounds_toArray, List.set_cons_zero, List.set_cons_succ, zv, zw]
      rfl
     refine zaa (i := 6) (N := some 32) (v := ?_) (a' := ?_) #[true, true, false, true, true, false, true, false, false, false, false, false, false] rfl rfl (zu HT_.out (by kernel_rfl)) (fun _ _ _ h => h) (Or.inl ⟨by rfl, ?_⟩) ?_ ?_
     rotate_left
     ·intro w'
      go_simp
      with_reducible rfl
     rotate_left
     ·simp only [Act.put, List.setIfInBounds_toArray, List.set_cons_zero, List.set_cons_succ, zv, zw]
      rfl
     refine zaa (i := 7) (N := some 33) (v := ?_) (a' := ?_) #[true, true, false, true, true, false, true, true, false, false, false, false, false] rfl rfl (zu HT_.out (by kernel_rfl)) (fun _ _ _ h => h) (Or.inl ⟨by rfl, ?_⟩) ?_ ?_
     rotate_left
     ·intro w'
      go_simp
      with_reducible rfl
     rotate_left
     ·simp only [Act.put, List.setIfInBounds_toArray, List.set_cons_zero, List.set_cons_succ, zv, zw]
      rfl
     refine take_ (i := 2) (N := some 28) (v := ?_) (a' := ?_) #[true, true, true, true, true, false, true, true, false, false, false, false, false] rfl rfl (zea HT_.out HW_.out (by kernel_rfl)) (fun _ _ _ h => h) (Or.inl ⟨by rfl, ?_⟩) hHeld ?_ ?_
     rotate_left
     ·rintro w' ⟨s0, s1, s2, s3, s4, s5, s6, s7, s8, s9, s10, s11⟩
      go_simp
      with_reducible rfl
     rotate_left
     ·simp only [Act.put, List.setIfInBounds_toArray, List.set_cons_zero, List.set_cons_succ, zv, zw]
      rfl
     refine take_ (i := 5) (N := some 31) (v := ?_) (a' := ?_) #[true, true, true, true, true, true, true, true, false, false, false, false, false] rfl rfl (zea HT_.out HW_.out (by kernel_rfl)) (fun _ _ _ h => h) (Or.inl ⟨by rfl, ?_⟩) hHeld ?_ ?_
     rotate_left
     ·rintro w' ⟨s0, s1, s2, s3, s4, s5, s6, s7, s8, s9, s10, s11⟩
      go_simp
      with_reducible rfl
     rotate_left
     ·simp only [Act.put, List.setIfInBounds_toArray, List.set_cons_zero, List.set_cons_succ, zv, zw]
      rfl
     refine take_ (i := 8) (N := some 34) (v := ?_) (a' := ?_) #[true, true, true, true, true, true, true, true, true, false, false, false, false] rfl rfl (zea HT_.out HW_.out (by kernel_rfl)) (fun _ _ _ h => h) (Or.inl ⟨by rfl, ?_⟩) hHeld ?_ ?_
     rotate_left
     ·rintro w' ⟨s0, s1, s2, s3, s4, s5, s6, s7, s8, s9, s10, s11⟩
      go_simp
      with_reducible rfl
     rotate_left
     ·simp only [Act.put, List.setIfInBounds_toArray, List.set_cons_zero, List.set_cons_succ, zv, zw]
      rfl
     refine zaa (i := 9) (N := some 35) (v := ?_) (a' := ?_) #[true, true, true, true, true, true, true, true, true, true, false, false, false] rfl rfl (zu HT_.out (by kernel_rfl)) (fun _ _ _ h => h) (Or.inl ⟨by rfl, ?_⟩) ?_ ?_
     rotate_left
     ·intro w'
      go_simp
      with_reducible rfl
     rotate_left
     ·simp only [Act.put, List.setIfInBounds_toArray, List.set_cons_zero, List.set_cons_succ, zv, zw]
      rfl
     refine zaa (i := 10) (N := some 36) (v := ?_) (a' := ?_) #[true, true, true, true, true, true, true, true, true, true, true, false, false] rfl rfl (zu HT_.out (by kernel_rfl)) (fun _ _ _ h => h) (Or.inl ⟨by rfl, ?_⟩) ?_ ?_
     rotate_left
     ·intro w'
      go_simp
      with_reducible rfl
     rotate_left
     ·simp only [Act.put, List.setIfInBounds_toArray, List.set_cons_zero, List.set_cons_succ, zv, zw]
      rfl
     refine zaa (i := 11) (N := some 37) (v := ?_) (a' := ?_) #[true, true, true, true, true, true, true, true, true, true, true, true, false] rfl rfl (zu HT_.out (by kernel_rfl)) (fun _ _ _ h => h) (Or.inl ⟨by rfl, ?_⟩) ?_ ?_
     rotate_left
     ·intro w'
      go_simp
      with_reducible rfl
     rotate_left
     ·simp only [Act.put, List.setIfInBounds_toArray, List.set_cons_zero, List.set_cons_succ, zv, zw]
      rfl
     refine zpb (i := 12) (N := none) #[true, true, true, true, true, true, true, true, true, true, true, true, true] rfl rfl (zna HT_.out (by kernel_rfl)) (by decide) (fun K hK => ?_)
     have hs75 : w74.cell? ⟨gb120, 2, none⟩ = some (.int .i64 x121002_1) := (zh BK120.out 2).trans rfl
     have hfs75 := zj BK120.out 2
     have hns75_0 := NB115_120.out
     have hns75_1 := NB116_120.out
     have hns75_2 := NB117_120.out
     have hns75_3 := NB118_120.out
     have hns75_4 := NB119_120.out
     have hms75_0 := NB120_115.out
     have hms75_1 := NB120_116.out
     have hms75_2 := NB120_117.out
     have hms75_3 := NB120_118.out
     have hms75_4 := NB120_119.out
     refine zza (w1 := ?_) (by rfl) rfl ?_ ?_
     rotate_left
     ·go_simp
      rfl
     refine hK.out _ _ ?_
     clear hK K
     refine zeb (zla HT_.out (by kernel_rfl)) ?_
     try go_wp2
     go_roundg k1
     case measure => have := HK1.out; omega
     case rel => exact ⟨(2 + 1), (x120000_1), (x120001_1), (wrap64 (x120002_1 + a2_2)), (x120003_1), (x121000_1), (x121001_1), (wrap64 (x121002_1 + (wrap64 (a1_2 - a2_2)))), (x121003_1), (by first | rfl | (simp; done) | (simp [*]; done)), H', ⟨by have := HK1.out; omega⟩, ⟨by (with_reducible repeat (first | refine ze ?_ _ | refine zf ?_ | refine za ?_ _)); refine zk ?_ NB115_120.out _; (with_reducible repeat (first | refine ze ?_ _ | refine zf ?_ | refine za ?_ _)); exact BK115.out⟩, ⟨by (with_reducible repeat (first | refine ze ?_ _ | refine zf ?_ | refine za ?_ _)); refine zk ?_ NB116_120.out _; (with_reducible repeat (first | refine ze ?_ _ | refine zf ?_ | refine za ?_ _)); exact BK116.out⟩, ⟨by (with_reducible repeat (first | refine ze ?_ _ | refine zf ?_ | refine za ?_ _)); refine zk ?_ NB117_120.out _; (with_reducible repeat (first | refine ze ?_ _ | refine zf ?_ | refine za ?_ _)); exact BK117.out⟩, ⟨by (with_reducible repeat (first | refine ze ?_ _ | refine zf ?_ | refine za ?_ _)); refine zk ?_ NB118_120.out _; (with_reducible repeat (first | refine ze ?_ _ | refine zf ?_ | refine za ?_ _)); exact BK118.out⟩, ⟨by (with_reducible repeat (first | refine ze ?_ _ | refine zf ?_ | refine za ?_ _)); refine zk ?_ NB119_120.out _; (with_reducible repeat (first | refine ze ?_ _ | refine zf ?_ | refine za ?_ _)); exact BK119.out⟩, ⟨by (with_reducible repeat (first | refine ze ?_ _ | refine zf ?_ | refine za ?_ _)); refine zy (cs := #[.int .i64 x121000_1, .int .i64 x121001_1, .int .i64 x121002_1, .int .i64 x121003_1]) ?_ 2 _ rfl; (with_reducible repeat (first | refine ze ?_ _ | refine zf ?_ | refine za ?_ _)); exact BK120.out⟩, ⟨sB⟩⟩
    rw [if_neg c58] at H
    clear c58
    by_cases c76 : x10_1 = 3
    ·rw [if_pos c76] at H
     subst c76
     by_cases c77 : 3 < a0
     ·rw [if_pos c77] at H
      have c77b0 : decide (3 < a0) = true := decide_eq_true c77
      clear c77
      exact absurd H (by simp)
     rw [if_neg c77] at H
     have c77b0 : decide (3 < a0) = false := decide_eq_false c77
     clear c77
     have H' := zg.mk H
     clear H
     try go_wp2
     have n0_ := zg.mk (zf BK115.out)
     have n1_ := zg.mk (zf BK116.out)
     have n2_ := zg.mk (zf BK117.out)
     have n3_ := zg.mk (zf BK118.out)
     have n4_ := zg.mk (zf BK119.out)
     have n5_ := zg.mk (zf BK120.out)
     have n6_ := zg.mk (zo HB.out)
     clear BK115
     clear BK116
     clear BK117
     clear BK118
     clear BK119
     clear BK120
     clear HB
     have BK115 := n0_
     have BK116 := n1_
     have BK117 := n2_
     have BK118 := n3_
     have BK119 := n4_
     have BK120 := n5_
     have HB := n6_
     clear n0_ n1_ n2_ n3_ n4_ n5_ n6_
     refine zra (n := 9) (S := fun w' => w'.cell? ⟨gb119, 0, none⟩ = some (.int .i64 x120000_1) ∧ w'.cell? ⟨gb119, 1, none⟩ = some (.int .i64 x120001_1) ∧ w'.cell? ⟨gb119, 2, none⟩ = some (.int .i64 x120002_1) ∧ w'.cell? ⟨gb119, 3, none⟩ = some (.int .i64 x120003_1) ∧ w'.cell? ⟨gb116, 0, none⟩ = some (.int .i64 a2_0) ∧ w'.cell? ⟨gb116, 1, none⟩ = some (.int .i64 a2_1) ∧ w'.cell? ⟨gb116, 2, none⟩ = some (.int .i64 a2_2) ∧ w'.cell? ⟨gb116, 3, none⟩ = some (.int .i64 a2_3)) (ds := [8]) #[false, false, false, false, false, false, false, false, false] (by kernel_rfl) rfl rfl ⟨(zh BK119.out 0).trans rfl, (zh BK119.out 1).trans rfl, (zh BK119.out 2).trans rfl, (zh BK119.out 3).trans rfl, (zh BK116.out 0).trans rfl, (zh BK116.out 1).trans rfl, (zh BK116.out 2).trans rfl, (zh BK116.out 3).trans rfl⟩ (fun hHeld => ?_); refine zka spec_l06Split.tab6 spec_l06Split.bits6 (fun HT_ HW_ => ?_)
     generalize wr.drew = w78 at BK115 BK116 BK117 BK118 BK119 BK120 HB hHeld ⊢
     refine zaa (i := 0) (N := some 18) (v := ?_) (a' := ?_) #[true, false, false, false, false, false, false, false, false] rfl rfl (zu HT_.out (by kernel_rfl)) (fun _ _ _ h => h) (Or.inl ⟨by rfl, ?_⟩) ?_ ?_
     rotate_left
     ·intro w'
      go_simp
      with_reducible rfl
     rotate_left
     ·simp only [Act.put, List.setIfInBounds_toArray, List.set_cons_zero, List.set_cons_succ, zv, zw]
      rfl
     refine zaa (i := 1) (N := some 19) (v := ?_) (a' := ?_) #[true, true, false, false, false, false, false, false, false] rfl rfl (zu HT_.out (by kernel_rfl)) (fun _ _ _ h => h) (Or.inl ⟨by rfl, ?_⟩) ?_ ?_
     rotate_left
     ·intro w'
      go_simp
      with_reducible rfl
     rotate_left
     ·simp only [Act.put, List.setIfInBounds_toArray, List.set_cons_zero, List.set_cons_succ, zv, zw]
      rfl
     refine zaa (i := 3) (N := some 21) (v := ?_) (a' := ?_) #[true, true, false, true, false, false, false, false, false] rfl rfl (zu HT_.out (by kernel_rfl)) (fun _ _ _ h => h) (Or.inl ⟨by rfl, ?_⟩) ?_ ?_
     rotate_left
     ·intro w'
      go_simp
      with_reducible rfl
     rotate_left
     ·simp only [Act.put, List.setIfInBounds_toArray, List.set_cons_zero, List.set_cons_succ, zv, zw]
      rfl
     refine zaa (i := 4) (N := some 22) (v := ?_) (a' := ?_) #[true, true, false, true, true, false, false, false, false] rfl rfl (zu HT_.out (by kernel_rfl)) (fun _ _ _ h => h) (Or.inl ⟨by rfl, ?_⟩) ?_ ?_
     rotate_left
     ·intro w'
      go_simp
      with_reducible rfl
     rotate_left
     ·simp only [Act.put, List.setIfInBounds_toArray, List.set_cons_zero, List.set_cons_succ, zv, zw]
      rfl
     refine take_ (i := 2) (N := some 20) (v := ?_) (a' := ?_) #[true, true, true, true, true, false, false, false, false] rfl rfl (zea HT_.out HW_.out (by kernel_rfl)) (fun _ _ _ h => h) (Or.inl ⟨by rfl, ?_⟩) hHeld ?_ ?_
     rotate_left
     ·rintro w' ⟨s0, s1, s2, s3, s4, s5, s6, s7⟩
      go_simp
      with_reducible rfl
     rotate_left
     ·simp only [Act.put, List.setIfInBounds_toArray, List.set_cons_zero, List.set_cons_succ, zv, zw]
      rfl
     refine take_ (i := 5) (N := some 23) (v := ?_) (a' := ?_) #[true, true, true, true, true, true, false, false, false] rfl rfl (zea HT_.out HW_.out (by kernel_rfl)) (fun _ _ _ h => h) (Or.inl ⟨by rfl, ?_⟩) hHeld ?_ ?_
     rotate_left
     ·rintro w' ⟨s0, s1, s2, s3, s4, s5, s6, s7⟩
      go_simp
      with_reducible rfl
     rotate_left
     ·simp only [Act.put, List.setIfInBounds_toArray, List.set_cons_zero, List.set_cons_succ, zv, zw]
      rfl
     refine zaa (i := 6) (N := some 24) (v := ?_) (a' := ?_) #[true, true, true, true, true, true, true, false, false] rfl rfl (zu HT_.out (by kernel_rfl)) (fun _ _ _ h => h) (Or.inl ⟨by rfl, ?_⟩) ?_ ?_
     rotate_left
     ·intro w'
      go_simp
      with_reducible rfl
     rotate_left
     ·simp only [Act.put, List.setIfInBounds_toArray, List.set_cons_zero, List.set_cons_succ, zv, zw]
      rfl
     refine zaa (i := 7) (N := some 25) (v := ?_) (a' := ?_) #[true, true, true, true, true, true, true, true, false] rfl rfl (zu HT_.out (by kernel_rfl)) (fun _ _ _ h => h) (Or.inl ⟨by rfl, ?_⟩) ?_ ?_
     rotate_left
     ·intro w'
      go_simp
      with_reducible rfl
     rotate_left
     ·simp only [Act.put, List.setIfInBounds_toArray, List.set_cons_zero, List.set_cons_succ, zv, zw]
      rfl
     refine zpb (i := 8) (N := none) #[true, true, true, true, true, true, true, true, true] rfl rfl (zna HT_.out (by kernel_rfl)) (by decide) (fun K hK => ?_)
     have hs79 : w78.cell? ⟨gb119, 3, none⟩ = some (.int .i64 x120003_1) := (zh BK119.out 3).trans rfl
     have hfs79 := zj BK119.out 3
     have hns79_0 := NB115_119.out
     have hns79_1 := NB116_119.out
     have hns79_2 := NB117_119.out
     have hns79_3 := NB118_119.out
     have hns79_5 := NB120_119.out
     have hms79_0 := NB119_115.out
     have hms79_1 := NB119_116.out
     have hms79_2 := NB119_117.out
     have hms79_3 := NB119_118.out
     have hms79_5 := NB119_120.out
     refine zza (w1 := ?_) (by rfl) rfl ?_ ?_
     rotate_left
     ·go_simp
      rfl
     refine hK.out _ _ ?_
     clear hK K
     refine zeb (zla HT_.out (by kernel_rfl)) ?_
     try go_wp2
     have n0_ : zg ((w78.setCell ⟨gb119, 3, none⟩ (.int .i64 (wrap64 (x120003_1 + a2_3)))).heap[gb115]? = some (.cells #[.int .i64 a1_0, .int .i64 a1_1, .int .i64 a1_2, .int .i64 a1_3] 25 (0, 0))) := ⟨by (with_reducible repeat (first | refine ze ?_ _ | refine zf ?_ | refine za ?_ _)); refine zk ?_ NB115_119.out _; (with_reducible repeat (first | refine ze ?_ _ | refine zf ?_ | refine za ?_ _)); exact BK115.out⟩
     have n1_ : zg ((w78.setCell ⟨gb119, 3, none⟩ (.int .i64 (wrap64 (x120003_1 + a2_3)))).heap[gb116]? = some (.cells #[.int .i64 a2_0, .int .i64 a2_1, .int .i64 a2_2, .int .i64 a2_3] 25 (0, 0))) := ⟨by (with_reducible repeat (first | refine ze ?_ _ | refine zf ?_ | refine za ?_ _)); refine zk ?_ NB116_119.out _; (with_reducible repeat (first | refine ze ?_ _ | refine zf ?_ | refine za ?_ _)); exact BK116.out⟩
     have n2_ : zg ((w78.setCell ⟨gb119, 3, none⟩ (.int .i64 (wrap64 (x120003_1 + a2_3)))).heap[gb117]? = some (.cells #[.int .i64 0, .int .i64 0, .int .i64 0, .int .i64 0] 25 (0, 0))) := ⟨by (with_reducible repeat (first | refine ze ?_ _ | refine zf ?_ | refine za ?_ _)); refine zk ?_ NB117_119.out _; (with_reducible repeat (first | refine ze ?_ _ | refine zf ?_ | refine za ?_ _)); exact BK117.out⟩
     have n3_ : zg ((w78.setCell ⟨gb119, 3, none⟩ (.int .i64 (wrap64 (x120003_1 + a2_3)))).heap[gb118]? = some (.cells #[.int .i64 0, .int .i64 0, .int .i64 0, .int .i64 0] 25 (0, 0))) := ⟨by (with_reducible repeat (first | refine ze ?_ _ | refine zf ?_ | refine za ?_ _)); refine zk ?_ NB118_119.out _; (with_reducible repeat (first | refine ze ?_ _ | refine zf ?_ | refine za ?_ _)); exact BK118.out⟩
     have n4_ : zg ((w78.setCell ⟨gb119, 3, none⟩ (.int .i64 (wrap64 (x120003_1 + a2_3)))).heap[gb119]? = some (.cells #[.int .i64 x120000_1, .int .i64 x120001_1, .int .i64 x120002_1, .int .i64 (wrap64 (x120003_1 + a2_3))] 25 (0, 0))) := ⟨by (with_reducible repeat (first | refine ze ?_ _ | refine zf ?_ | refine za ?_ _)); refine zy (cs := #[.int .i64 x120000_1, .int .i64 x120001_1, .int .i64 x120002_1, .int .i64 x120003_1]) ?_ 3 _ rfl; (with_reducible repeat (first | refine ze ?_ _ | refine zf ?_ | refine za ?_ _)); exact BK119.out⟩
     have n5_ : zg ((w78.setCell ⟨gb119, 3, none⟩ (.int .i64 (wrap64 (x120003_1 + a2_3)))).heap[gb120]? = some (.cells #[.int .i64 x121000_1, .int .i64 x121001_1, .int .i64 x121002_1, .int .i64 x121003_1] 25 (0, 0))) := ⟨by (with_reducible repeat (first | refine ze ?_ _ | refine zf ?_ | refine za ?_ _)); refine zk ?_ NB120_119.out _; (with_reducible repeat (first | refine ze ?_ _ | refine zf ?_ | refine za ?_ _)); exact BK120.out⟩
     have n6_ : zg (Below w.heap.size w (w78.setCell ⟨gb119, 3, none⟩ (.int .i64 (wrap64 (x120003_1 + a2_3))))) := ⟨sB⟩
     (try clear BK115)
     (try clear BK116)
     (try clear BK117)
     (try clear BK118)
     (try clear BK119)
     (try clear BK120)
     (try clear HB)
     generalize (w78.setCell ⟨gb119, 3, none⟩ (.int .i64 (wrap64 (x120003_1 + a2_3)))) = w80 at n0_ n1_ n2_ n3_ n4_ n5_ n6_ ⊢
     have BK115 := n0_
     have BK116 := n1_
     have BK117 := n2_
     have BK118 := n3_
     have BK119 := n4_
     have BK120 := n5_
     have HB := n6_
     clear n0_ n1_ n2_ n3_ n4_ n5_ n6_
     have n0_ := zg.mk (zf BK115.out)
     have n1_ := zg.mk (zf BK116.out)
     have n2_ := zg.mk (zf BK117.out)
     have n3_ := zg.mk (zf BK118.out)
     have n4_ := zg.mk (zf BK119.out)
     have n5_ := zg.mk (zf BK120.out)
     have n6_ := zg.mk (zo HB.out)
     clear BK115
     clear BK116
     clear BK117
     clear BK118
     clear BK119
     clear BK120
     clear HB
     have BK115 := n0_
     have BK116 := n1_
     have BK117 := n2_
     have BK118 := n3_
     have BK119 := n4_
     have BK120 := n5_
     have HB := n6_
     clear n0_ n1_ n2_ n3_ n4_ n5_ n6_
     refine zra (n := 13) (S := fun w' => w'.cell? ⟨gb120, 0, none⟩ = some (.int .i64 x121000_1) ∧ w'.cell? ⟨gb120, 1, none⟩ = some (.int .i64 x121001_1) ∧ w'.cell? ⟨gb120, 2, none⟩ = some (.int .i64 x121002_1) ∧ w'.cell? ⟨gb120, 3, none⟩ = some (.int .i64 x121003_1) ∧ w'.cell? ⟨gb115, 0, none⟩ = some (.int .i64 a1_0) ∧ w'.cell? ⟨gb115, 1, none⟩ = some (.int .i64 a1_1) ∧ w'.cell? ⟨gb115, 2, none⟩ = some (.int .i64 a1_2) ∧ w'.cell? ⟨gb115, 3, none⟩ = some (.int .i64 a1_3) ∧ w'.cell? ⟨gb116, 0, none⟩ = some (.int .i64 a2_0) ∧ w'.cell? ⟨gb116, 1, none⟩ = some (.int .i64 a2_1) ∧ w'.cell? ⟨gb116, 2, none⟩ = some (.int .i64 a2_2) ∧ w'.cell? ⟨gb116, 3, none⟩ = some (.int .i64 a2_3)) (ds := [12]) #[false, false, false, false, false, false, false, false, false, false, false, false, false] (by kernel_rfl) rfl rfl ⟨(zh BK120.out 0).trans rfl, (zh BK120.out 1).trans rfl, (zh BK120.out 2).trans rfl, (zh BK120.out 3).trans rfl, (zh BK115.out 0).trans rfl, (zh BK115.out 1).trans rfl, (zh BK115.out 2).trans rfl, (zh BK115.out 3).trans rfl, (zh BK116.out 0).trans rfl, (zh BK116.out 1).trans rfl, (zh BK116.out 2).trans rfl, (zh BK116.out 3).trans rfl⟩ (fun hHeld => ?_); refine zka spec_l06Split.tab7 spec_l06Split.bits7 (fun HT_ HW_ => ?_)
     generalize w80.drew = w81 at BK115 BK116 BK117 BK118 BK119 BK120 HB hHeld ⊢
     refine zaa (i := 0) (N := some 26) (v := ?_) (a' := ?_) #[true, false, false, false, false, false, false, false, false, false, false, false, false] rfl rfl (zu HT_.out (by kernel_rfl)) (fun _ _ _ h => h) (Or.inl ⟨by rfl, ?_⟩) ?_ ?_
     rotate_left
     ·intro w'
      go_simp
      with_reducible rfl
     rotate_left
     ·simp only [Act.put, List.setIfInBounds_toArray, List.set_cons_zero, List.set_cons_succ, zv, zw]
      rfl
     refine zaa (i := 1) (N := some 27) (v := ?_) (a' := ?_) #[true, true, false, false, false, false, false, false, false, false, false, false, false] rfl rfl (zu HT_.out (by kernel_rfl)) (fun _ _ _ h => h) (Or.inl ⟨by rfl, ?_⟩) ?_ ?_
     rotate_left
     ·intro w'
      go_simp
      with_reducible rfl
     rotate_left
     ·simp only [Act.put, List.setIfInBounds_toArray, List.set_cons_zero, List.set_cons_succ, zv, zw]
      rfl
     refine zaa (i := 3) (N := some 29) (v := ?_) (a' := ?_) #[true, true, false, true, false, false, false, false, false, false, false, false, false] rfl rfl (zu HT_.out (by kernel_rfl)) (fun _ _ _ h => h) (Or.inl ⟨by rfl, ?_⟩) ?_ ?_
     rotate_left
     ·intro w'
      go_simp
      with_reducible rfl
     rotate_left
     ·simp only [Act.put, List.setIfInBounds_toArray, List.set_cons_zero, List.set_cons_succ, zv, zw]
      rfl
     refine zaa (i := 4) (N := some 30) (v := ?_) (a' := ?_) #[true, true, false, true, true, false, false, false, false, false, false, false, false] rfl rfl (zu HT_.out (by kernel_rfl)) (fun _ _ _ h => h) (Or.inl ⟨by rfl, ?_⟩) ?_ ?_
     rotate_left
     ·intro w'
      go_simp
      with_reducible rfl
     rotate_left
     ·simp only [Act.put, List.setIfInBounds_toArray, List.set_cons_zero, List.set_cons_succ, zv, zw]
      rfl
     refine zaa (i := 6) (N := some 32) (v := ?_) (a' := ?_) #[true, true, false, true, true, false, true, false, false, false, false, false, false] rfl rfl (zu HT_.out (by kernel_rfl)) (fun _ _ _ h => h) (Or.inl ⟨by rfl, ?_⟩) ?_ ?_
     rotate_left
     ·intro w'
      go_simp
      with_reducible rfl
     rotate_left
     ·simp only [Act.put, List.setIfInBounds_toArray, List.set_cons_zero, List.set_cons_succ, zv, zw]
      rfl
     refine zaa (i := 7) (N := some 33) (v := ?_) (a' := ?_) #[true, true, false, true, true, false, true, true, false, false, false, false, false] rfl rfl (zu HT_.out (by kernel_rfl)) (fun _ _ _ h => h) (Or.inl ⟨by rfl, ?_⟩) ?_ ?_
     rotate_left
     ·intro w'
      go_simp
      with_reducible rfl
     rotate_left
     ·simp only [Act.put, List.setIfInBounds_toArray, List.set_cons_zero, List.set_cons_succ, zv, zw]
      rfl
     refine take_ (i := 2) (N := some 28) (v := ?_) (a' := ?_) #[true, true, true, true, true, false, true, true, false, false, false, false, false] rfl rfl (zea HT_.out HW_.out (by kernel_rfl)) (fun _ _ _ h => h) (Or.inl ⟨by rfl, ?_⟩) hHeld ?_ ?_
     rotate_left
     ·rintro w' ⟨s0, s1, s2, s3, s4, s5, s6, s7, s8, s9, s10, s11⟩
      go_simp
      with_reducible rfl
     rotate_left
     ·simp only [Act.put, List.setIfInBounds_toArray, List.set_cons_zero, List.set_cons_succ, zv, zw]
      rfl
     refine take_ (i := 5) (N := some 31) (v := ?_) (a' := ?_) #[true, true, true, true, true, true, true, true, false, false, false, false, false] rfl rfl (zea HT_.out HW_.out (by kernel_rfl)) (fun _ _ _ h => h) (Or.inl ⟨by rfl, ?_⟩) hHeld ?_ ?_
     rotate_left
     ·rintro w' ⟨s0, s1, s2, s3, s4, s5, s6, s7, s8, s9, s10, s11⟩
      go_simp
      with_reducible rfl
     rotate_left
     ·simp only [Act.put, List.setIfInBounds_toArray, List.set_cons_zero, List.set_cons_succ, zv, zw]
      rfl
     refine take_ (i := 8) (N := some 34) (v := ?_) (a' := ?_) #[true, true, true, true, true, true, true, true, true, false, false, false, false] rfl rfl (zea HT_.out HW_.out (by kernel_rfl)) (fun _ _ _ h => h) (Or.inl ⟨by rfl, ?_⟩) hHeld ?_ ?_
     rotate_left
     ·rintro w' ⟨s0, s1, s2, s3, s4, s5, s6, s7, s8, s9, s10, s11⟩
      go_simp
      with_reducible rfl
     rotate_left
     ·simp only [Act.put, List.setIfInBounds_toArray, List.set_cons_zero, List.set_cons_succ, zv, zw]
      rfl
     refine zaa (i := 9) (N := some 35) (v := ?_) (a' := ?_) #[true, true, true, true, true, true, true, true, true, true, false, false, false] rfl rfl (zu HT_.out (by kernel_rfl)) (fun _ _ _ h => h) (Or.inl ⟨by rfl, ?_⟩) ?_ ?_
     rotate_left
     ·intro w'
      go_simp
      with_reducible rfl
     rotate_left
     ·simp only [Act.put, List.setIfInBounds_toArray, List.set_cons_zero, List.set_cons_succ, zv, zw]
      rfl
     refine zaa (i := 10) (N := some 36) (v := ?_) (a' := ?_) #[true, true, true, true, true, true, true, true, true, true, true, false, false] rfl rfl (zu HT_.out (by kernel_rfl)) (fun _ _ _ h => h) (Or.inl ⟨by rfl, ?_⟩) ?_ ?_
     rotate_left
     ·intro w'
      go_simp
      with_reducible rfl
     rotate_left
     ·simp only [Act.put, List.setIfInBounds_toArray, List.set_cons_zero, List.set_cons_succ, zv, zw]
      rfl
     refine zaa (i := 11) (N := some 37) (v := ?_) (a' := ?_) #[true, true, true, true, true, true, true, true, true, true, true, true, false] rfl rfl (zu HT_.out (by kernel_rfl)) (fun _ _ _ h => h) (Or.inl ⟨by rfl, ?_⟩) ?_ ?_
     rotate_left
     ·intro w'
      go_simp
      with_reducible rfl
     rotate_left
     ·simp only [Act.put, List.setIfInBounds_toArray, List.set_cons_zero, List.set_cons_succ, zv, zw]
      rfl
     refine zpb (i := 12) (N := none) #[true, true, true, true, true, true, true, true, true, true, true, true, true] rfl rfl (zna HT_.out (by kernel_rfl)) (by decide) (fun K hK => ?_)
     have hs82 : w81.cell? ⟨gb120, 3, none⟩ = some (.int .i64 x121003_1) := (zh BK120.out 3).trans rfl
     have hfs82 := zj BK120.out 3
     have hns82_0 := NB115_120.out
     have hns82_1 := NB116_120.out
     have hns82_2 := NB117_120.out
     have hns82_3 := NB118_120.out
     have hns82_4 := NB119_120.out
     have hms82_0 := NB120_115.out
     have hms82_1 := NB120_116.out
     have hms82_2 := NB120_117.out
     have hms82_3 := NB120_118.out
     have hms82_4 := NB120_119.out
     refine zza (w1 := ?_) (by rfl) rfl ?_ ?_
     rotate_left
     ·go_simp
      rfl
     refine hK.out _ _ ?_
     clear hK K
     refine zeb (zla HT_.out (by kernel_rfl)) ?_
     try go_wp2
     go_roundg k1
     case measure => have := HK1.out; omega
     case rel => exact ⟨(3 + 1), (x120000_1), (x120001_1), (x120002_1), (wrap64 (x120003_1 + a2_3)), (x121000_1), (x121001_1), (x121002_1), (wrap64 (x121003_1 + (wrap64 (a1_3 - a2_3)))), (by first | rfl | (simp; done) | (simp [*]; done)), H', ⟨by have := HK1.out; omega⟩, ⟨by (with_reducible repeat (first | refine ze ?_ _ | refine zf ?_ | refine za ?_ _)); refine zk ?_ NB115_120.out _; (with_reducible repeat (first | refine ze ?_ _ | refine zf ?_ | refine za ?_ _)); exact BK115.out⟩, ⟨by (with_reducible repeat (first | refine ze ?_ _ | refine zf ?_ | refine za ?_ _)); refine zk ?_ NB116_120.out _; (with_reducible repeat (first | refine ze ?_ _ | refine zf ?_ | refine za ?_ _)); exact BK116.out⟩, ⟨by (with_reducible repeat (first | refine ze ?_ _ | refine zf ?_ | refine za ?_ _)); refine zk ?_ NB117_120.out _; (with_reducible repeat (first | refine ze ?_ _ | refine zf ?_ | refine za ?_ _)); exact BK117.out⟩, ⟨by (with_reducible repeat (first | refine ze ?_ _ | refine zf ?_ | refine za ?_ _)); refine zk ?_ NB118_120.out _; (with_reducible repeat (first | refine ze ?_ _ | refine zf ?_ | refine za ?_ _)); exact BK118.out⟩, ⟨by (with_reducible repeat (first | refine ze ?_ _ | refine zf ?_ | refine za ?_ _)); refine zk ?_ NB119_120.out _; (with_reducible repeat (first | refine ze ?_ _ | refine zf ?_ | refine za ?_ _)); exact BK119.out⟩, ⟨by (with_reducible repeat (first | refine ze ?_ _ | refine zf ?_ | refine za ?_ _)); refine zy (cs := #[.int .i64 x121000_1, .int .i64 x121001_1, .int .i64 x121002_1, .int .i64 x121003_1]) ?_ 3 _ rfl; (with_reducible repeat (first | refine ze ?_ _ | refine zf ?_ | refine za ?_ _)); exact BK120.out⟩, ⟨sB⟩⟩
    rw [if_neg c76] at H
    clear c76
    exact absurd H (by simp)
   rw [if_neg c21] at H
   have c21b0 : decide (x10_1 ≤ a0) = false := decide_eq_false c21
   clear c21
   simp only [Option.some.injEq, Prod.mk.injEq] at H
   obtain ⟨rfl, rfl, rfl, rfl, rfl, rfl, rfl, rfl⟩ := H
   try go_wp2
   have n0_ := zg.mk (zf BK115.out)
   have n1_ := zg.mk (zf BK116.out)
   have n2_ := zg.mk (zf BK117.out)
   have n3_ := zg.mk (zf BK118.out)
   have n4_ := zg.mk (zf BK119.out)
   have n5_ := zg.mk (zf BK120.out)
   have n6_ := zg.mk (zo HB.out)
   clear BK115
   clear BK116
   clear BK117
   clear BK118
   clear BK119
   clear BK120
   clear HB
   have BK115 := n0_
   have BK116 := n1_
   have BK117 := n2_
   have BK118 := n3_
   have BK119 := n4_
   have BK120 := n5_
   have HB := n6_
   clear n0_ n1_ n2_ n3_ n4_ n5_ n6_
   refine zra (n := 4) (S := fun w' => w'.cell? ⟨gb119, 0, none⟩ = some (.int .i64 x120000_1) ∧ w'.cell? ⟨gb119, 1, none⟩ = some (.int .i64 x120001_1) ∧ w'.cell? ⟨gb119, 2, none⟩ = some (.int .i64 x120002_1) ∧ w'.cell? ⟨gb119, 3, none⟩ = some (.int .i64 x120003_1) ∧ w'.cell? ⟨gb120, 0, none⟩ = some (.int .i64 x121000_1) ∧ w'.cell? ⟨gb120, 1, none⟩ = some (.int .i64 x121001_1) ∧ w'.cell? ⟨gb120, 2, none⟩ = some (.int .i64 x121002_1) ∧ w'.cell? ⟨gb120, 3, none⟩ = some (.int .i64 x121003_1)) (ds := []) #[false, false, false, false] (by kernel_rfl) rfl rfl ⟨(zh BK119.out 0).trans rfl, (zh BK119.out 1).trans rfl, (zh BK119.out 2).trans rfl, (zh BK119.out 3).trans rfl, (zh BK120.out 0).trans rfl, (zh BK120.out 1).trans rfl, (zh BK120.out 2).trans rfl, (zh BK120.out 3).trans rfl⟩ (fun hHeld => ?_)
   generalize wr.drew = w83 at BK115 BK116 BK117 BK118 BK119 BK120 HB hHeld ⊢
   refine take_ (i := 0) (N := some 63) (v := ?_) (a' := ?_) #[true, false, false, false] rfl rfl (by kernel_rfl) (fun _ _ _ h => h) (Or.inl ⟨by rfl, ?_⟩) hHeld ?_ ?_
   rotate_left
   ·rintro w' ⟨s0, s1, s2, s3, s4, s5, s6, s7⟩
    go_simp
    with_reducible rfl
   rotate_left
   ·simp only [Act.put, List.setIfInBounds_toArray, List.set_cons_zero, List.set_cons_succ, zv, zw]
    rfl
   refine take_ (i := 1) (N := some 64) (v := ?_) (a' := ?_) #[true, true, false, false] rfl rfl (by kernel_rfl) (fun _ _ _ h => h) (Or.inl ⟨by rfl, ?_⟩) hHeld ?_ ?_
   rotate_left
   ·rintro w' ⟨s0, s1, s2, s3, s4, s5, s6, s7⟩
    go_simp
    with_reducible rfl
   rotate_left
   ·simp only [Act.put, List.setIfInBounds_toArray, List.set_cons_zero, List.set_cons_succ, zv, zw]
    rfl
   refine one_ (i := 2) (N := none) #[true, true, true, false] rfl rfl (by kernel_rfl) (by decide) (fun K hK => ?_)
   have hs84 : w83.cell? ⟨gb117, 0, none⟩ = some (.int .i64 0) := (zh BK117.out 0).trans rfl
   have hfs84 := zj BK117.out 0
   have hns84_0 := NB115_117.out
   have hns84_1 := NB116_117.out
   have hns84_3 := NB118_117.out
   have hns84_4 := NB119_117.out
   have hns84_5 := NB120_117.out
   have hms84_0 := NB117_115.out
   have hms84_1 := NB117_116.out
   have hms84_3 := NB117_118.out
   have hms84_4 := NB117_119.out
   have hms84_5 := NB117_120.out
   have hs85 : w83.cell? ⟨gb117, 1, none⟩ = some (.int .i64 0) := (zh BK117.out 1).trans rfl
   have hfs85 := zj BK117.out 1
   have hns85_0 := NB115_117.out
   have hns85_1 := NB116_117.out
   have hns85_3 := NB118_117.out
   have hns85_4 := NB119_117.out
   have hns85_5 := NB120_117.out
   have hms85_0 := NB117_115.out
   have hms85_1 := NB117_116.out
   have hms85_3 := NB117_118.out
   have hms85_4 := NB117_119.out
   have hms85_5 := NB117_120.out
   have hs86 : w83.cell? ⟨gb117, 2, none⟩ = some (.int .i64 0) := (zh BK117.out 2).trans rfl
   have hfs86 := zj BK117.out 2
   have hns86_0 := NB115_117.out
   have hns86_1 := NB116_117.out
   have hns86_3 := NB118_117.out
   have hns86_4 := NB119_117.out
   have hns86_5 := NB120_117.out
   have hms86_0 := NB117_115.out
   have hms86_1 := NB117_116.out
   have hms86_3 := NB117_118.out
   have hms86_4 := NB117_119.out
   have hms86_5 := NB117_120.out
   have hs87 : w83.cell? ⟨gb117, 3, none⟩ = some (.int .i64 0) := (zh BK117.out 3).trans rfl
   have hfs87 := zj BK117.out 3
   have hns87_0 := NB115_117.out
   have hns87_1 := NB116_117.out
   have hns87_3 := NB118_117.out
   have hns87_4 := NB119_117.out
   have hns87_5 := NB120_117.out
   have hms87_0 := NB117_115.out
   have hms87_1 := NB117_116.out
   have hms87_3 := NB117_118.out
   have hms87_4 := NB117_119.out
   have hms87_5 := NB117_120.out
   refine zza (w1 := ?_) (by rfl) rfl ?_ ?_
   rotate_left
   ·go_simp
    rfl
   refine hK.out _ _ ⟨((zp (p := ⟨gb117, _, none⟩) NB119_117.out _).trans (((zp (p := ⟨gb117, _, none⟩) NB119_117.out _).trans (((zp (p := ⟨gb117, _, none⟩) NB119_117.out _).trans (((zp (p := ⟨gb117, _, none⟩) NB119_117.out _).trans (hHeld.1)))))))), ((zp (p := ⟨gb117, _, none⟩) NB119_117.out _).trans (((zp (p := ⟨gb117, _, none⟩) NB119_117.out _).trans (((zp (p := ⟨gb117, _, none⟩) NB119_117.out _).trans (((zp (p := ⟨gb117, _, none⟩) NB119_117.out _).trans (hHeld.2.1)))))))), ((zp (p := ⟨gb117, _, none⟩) NB119_117.out _).trans (((zp (p := ⟨gb117, _, none⟩) NB119_117.out _).trans (((zp (p := ⟨gb117, _, none⟩) NB119_117.out _).trans (((zp (p := ⟨gb117, _, none⟩) NB119_117.out _).trans (hHeld.2.2.1)))))))), ((zp (p := ⟨gb117, _, none⟩) NB119_117.out _).trans (((zp (p := ⟨gb117, _, none⟩) NB119_117.out _).trans (((zp (p := ⟨gb117, _, none⟩) NB119_117.out _).trans (((zp (p := ⟨gb117, _, none⟩) NB119_117.out _).trans (hHeld.2.2.2.1)))))))), ((zp (p := ⟨gb117, _, none⟩) NB120_117.out _).trans (((zp (p := ⟨gb117, _, none⟩) NB120_117.out _).trans (((zp (p := ⟨gb117, _, none⟩) NB120_117.out _).trans (((zp (p := ⟨gb117, _, none⟩) NB120_117.out _).trans (hHeld.2.2.2.2.1)))))))), ((zp (p := ⟨gb117, _, none⟩) NB120_117.out _).trans (((zp (p := ⟨gb117, _, none⟩) NB120_117.out _).trans (((zp (p := ⟨gb117, _, none⟩) NB120_117.out _).trans (((zp (p := ⟨gb117, _, none⟩) NB120_117.out _).trans (hHeld.2.2.2.2.2.1)))))))), ((zp (p := ⟨gb117, _, none⟩) NB120_117.out _).trans (((zp (p := ⟨gb117, _, none⟩) NB120_117.out _).trans (((zp (p := ⟨gb117, _, none⟩) NB120_117.out _).trans (((zp (p := ⟨gb117, _, none⟩) NB120_117.out _).trans (hHeld.2.2.2.2.2.2.1)))))))), ((zp (p := ⟨gb117, _, none⟩) NB120_117.out _).trans (((zp (p := ⟨gb117, _, none⟩) NB120_117.out _).trans (((zp (p := ⟨gb117, _, none⟩) NB120_117.out _).trans (((zp (p := ⟨gb117, _, none⟩) NB120_117.out _).trans (hHeld.2.2.2.2.2.2.2))))))))⟩ (fun hHeld => ?_)
   clear hK K
   refine one_ (i := 3) (N := none) #[true, true, true, true] rfl rfl (by kernel_rfl) (by decide) (fun K hK => ?_)
   have hs88 : w83.cell? ⟨gb118, 0, none⟩ = some (.int .i64 0) := (zh BK118.out 0).trans rfl
   have hfs88 := zj BK118.out 0
   have hns88_0 := NB115_118.out
   have hns88_1 := NB116_118.out
   have hns88_2 := NB117_118.out
   have hns88_4 := NB119_118.out
   have hns88_5 := NB120_118.out
   have hms88_0 := NB118_115.out
   have hms88_1 := NB118_116.out
   have hms88_2 := NB118_117.out
   have hms88_4 := NB118_119.out
   have hms88_5 := NB118_120.out
   have hs89 : w83.cell? ⟨gb118, 1, none⟩ = some (.int .i64 0) := (zh BK118.out 1).trans rfl
   have hfs89 := zj BK118.out 1
   have hns89_0 := NB115_118.out
   have hns89_1 := NB116_118.out
   have hns89_2 := NB117_118.out
   have hns89_4 := NB119_118.out
   have hns89_5 := NB120_118.out
   have hms89_0 := NB118_115.out
   have hms89_1 := NB118_116.out
   have hms89_2 := NB118_117.out
   have hms89_4 := NB118_119.out
   have hms89_5 := NB118_120.out
   have hs90 : w83.cell? ⟨gb118, 2, none⟩ = some (.int .i64 0) := (zh BK118.out 2).trans rfl
   have hfs90 := zj BK118.out 2
   have hns90_0 := NB115_118.out
   have hns90_1 := NB116_118.out
   have hns90_2 := NB117_118.out
   have hns90_4 := NB119_118.out
   have hns90_5 := NB120_118.out
   have hms90_0 := NB118_115.out
   have hms90_1 := NB118_116.out
   have hms90_2 := NB118_117.out
   have hms90_4 := NB118_119.out
   have hms90_5 := NB118_120.out
   have hs91 : w83.cell? ⟨gb118, 3, none⟩ = some (.int .i64 0) := (zh BK118.out 3).trans rfl
   have hfs91 := zj BK118.out 3
   have hns91_0 := NB115_118.out
   have hns91_1 := NB116_118.out
   have hns91_2 := NB117_118.out
   have hns91_4 := NB119_118.out
   have hns91_5 := NB120_118.out
   have hms91_0 := NB118_115.out
   have hms91_1 := NB118_116.out
   have hms91_2 := NB118_117.out
   have hms91_4 := NB118_119.out
   have hms91_5 := NB118_120.out
   refine zza (w1 := ?_) (by rfl) rfl ?_ ?_
   rotate_left
   ·go_simp
    rfl
   refine hK.out _ _ ⟨((zp (p := ⟨gb118, _, none⟩) NB119_118.out _).trans (((zp (p := ⟨gb118, _, none⟩) NB119_118.out _).trans (((zp (p := ⟨gb118, _, none⟩) NB119_118.out _).trans (((zp (p := ⟨gb118, _, none⟩) NB119_118.out _).trans (hHeld.1)))))))), ((zp (p := ⟨gb118, _, none⟩) NB119_118.out _).trans (((zp (p := ⟨gb118, _, none⟩) NB119_118.out _).trans (((zp (p := ⟨gb118, _, none⟩) NB119_118.out _).trans (((zp (p := ⟨gb118, _, none⟩) NB119_118.out _).trans (hHeld.2.1)))))))), ((zp (p := ⟨gb118, _, none⟩) NB119_118.out _).trans (((zp (p := ⟨gb118, _, none⟩) NB119_118.out _).trans (((zp (p := ⟨gb118, _, none⟩) NB119_118.out _).trans (((zp (p := ⟨gb118, _, none⟩) NB119_118.out _).trans (hHeld.2.2.1)))))))), ((zp (p := ⟨gb118, _, none⟩) NB119_118.out _).trans (((zp (p := ⟨gb118, _, none⟩) NB119_118.out _).trans (((zp (p := ⟨gb118, _, none⟩) NB119_118.out _).trans (((zp (p := ⟨gb118, _, none⟩) NB119_118.out _).trans (hHeld.2.2.2.1)))))))), ((zp (p := ⟨gb118, _, none⟩) NB120_118.out _).trans (((zp (p := ⟨gb118, _, none⟩) NB120_118.out _).trans (((zp (p := ⟨gb118, _, none⟩) NB120_118.out _).trans (((zp (p := ⟨gb118, _, none⟩) NB120_118.out _).trans (hHeld.2.2.2.2.1)))))))), ((zp (p := ⟨gb118, _, none⟩) NB120_118.out _).trans (((zp (p := ⟨gb118, _, none⟩) NB120_118.out _).trans (((zp (p := ⟨gb118, _, none⟩) NB120_118.out _).trans (((zp (p := ⟨gb118, _, none⟩) NB120_118.out _).trans (hHeld.2.2.2.2.2.1)))))))), ((zp (p := ⟨gb118, _, none⟩) NB120_118.out _).trans (((zp (p := ⟨gb118, _, none⟩) NB120_118.out _).trans (((zp (p := ⟨gb118, _, none⟩) NB120_118.out _).trans (((zp (p := ⟨gb118, _, none⟩) NB120_118.out _).trans (hHeld.2.2.2.2.2.2.1)))))))), ((zp (p := ⟨gb118, _, none⟩) NB120_118.out _).trans (((zp (p := ⟨gb118, _, none⟩) NB120_118.out _).trans (((zp (p := ⟨gb118, _, none⟩) NB120_118.out _).trans (((zp (p := ⟨gb118, _, none⟩) NB120_118.out _).trans (hHeld.2.2.2.2.2.2.2))))))))⟩ (fun hHeld => ?_)
   clear hK K
   refine zeb (by kernel_rfl) ?_
   try go_wp2
   refine bodyPost_ret (zbd rfl _ _ gb117 gb118 25 25 #[.int .i64 x120000_1, .int .i64 x120001_1, .int .i64 x120002_1, .int .i64 x120003_1] #[.int .i64 x121000_1, .int .i64 x121001_1, .int .i64 x121002_1, .int .i64 x121003_1] (0, 0) (0, 0) _ _ rfl (by (with_reducible repeat (first | refine ze ?_ _ | refine zf ?_ | refine za ?_ _)); refine zk ?_ NB117_118.out _; (with_reducible repeat (first | refine ze ?_ _ | refine zf ?_ | refine za ?_ _)); refine zk ?_ NB117_118.out _; (with_reducible repeat (first | refine ze ?_ _ | refine zf ?_ | refine za ?_ _)); refine zk ?_ NB117_118.out _; (with_reducible repeat (first | refine ze ?_ _ | refine zf ?_ | refine za ?_ _)); refine zk ?_ NB117_118.out _; (with_reducible repeat (first | refine ze ?_ _ | refine zf ?_ | refine za ?_ _)); refine zy (cs := #[.int .i64 x120000_1, .int .i64 x120001_1, .int .i64 x120002_1, .int .i64 0]) ?_ 3 _ rfl; (with_reducible repeat (first | refine ze ?_ _ | refine zf ?_ | refine za ?_ _)); refine zy (cs := #[.int .i64 x120000_1, .int .i64 x120001_1, .int .i64 0, .int .i64 0]) ?_ 2 _ rfl; (with_reducible repeat (first | refine ze ?_ _ | refine zf ?_ | refine za ?_ _)); refine zy (cs := #[.int .i64 x120000_1, .int .i64 0, .int .i64 0, .int .i64 0]) ?_ 1 _ rfl; (with_reducible repeat (first | refine ze ?_ _ | refine zf ?_ | refine za ?_ _)); refine zy (cs := #[.int .i64 0, .int .i64 0, .int .i64 0, .int .i64 0]) ?_ 0 _ rfl; (with_reducible repeat (first | refine ze ?_ _ | refine zf ?_ | refine za ?_ _)); exact BK117.out) Try.underlying25 rfl (by kernel_rfl) rfl (by (with_reducible repeat (first | refine ze ?_ _ | refine zf ?_ | refine za ?_ _)); refine zy (cs := #[.int .i64 x121000_1, .int .i64 x121001_1, .int .i64 x121002_1, .int .i64 0]) ?_ 3 _ rfl; (with_reducible repeat (first | refine ze ?_ _ | refine zf ?_ | refine za ?_ _)); refine zy (cs := #[.int .i64 x121000_1, .int .i64 x121001_1, .int .i64 0, .int .i64 0]) ?_ 2 _ rfl; (with_reducible repeat (first | refine ze ?_ _ | refine zf ?_ | refine za ?_ _)); refine zy (cs := #[.int .i64 x121000_1, .int .i64 0, .int .i64 0, .int .i64 0]) ?_ 1 _ rfl; (with_reducible repeat (first | refine ze ?_ _ | refine zf ?_ | refine za ?_ _)); refine zy (cs := #[.int .i64 0, .int .i64 0, .int .i64 0, .int .i64 0]) ?_ 0 _ rfl; (with_reducible repeat (first | refine ze ?_ _ | refine zf ?_ | refine za ?_ _)); refine zk ?_ NB118_117.out _; (with_reducible repeat (first | refine ze ?_ _ | refine zf ?_ | refine za ?_ _)); refine zk ?_ NB118_117.out _; (with_reducible repeat (first | refine ze ?_ _ | refine zf ?_ | refine za ?_ _)); refine zk ?_ NB118_117.out _; (with_reducible repeat (first | refine ze ?_ _ | refine zf ?_ | refine za ?_ _)); refine zk ?_ NB118_117.out _; (with_reducible repeat (first | refine ze ?_ _ | refine zf ?_ | refine za ?_ _)); exact BK118.out) Try.underlying25 rfl (by kernel_rfl)) rfl ?_
   exact ⟨by first | rfl | (simp [zca, zda] <;> rfl) | (simp [*, zca, zda] <;> rfl), sB⟩

end Go.Proofs.Ytgcbhknpfpgffaa.C
