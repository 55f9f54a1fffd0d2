-- Written by wip/tools/myprint.py, a program of this session, by way of the kit's print.
import Derived.Test.YtgcbhknpfpgffaaCx0
import Derived.Test.YtgcbhknpfpgffaaLPrC
namespace Go.Proofs.Ytgcbhknpfpgffaa.C
open Go.RowKit Go.Proofs.YtgcbhknpfpgffaaW.PrintWords Go.Proofs.YtgcbhknpfpgffaaW.PrintLast Go.Proofs.YtgcbhknpfpgffaaW.PrintMore
attribute [local go_sem] wl_0 wl_1 wl_2 wl_3 wl_4 zdb zcb zkb zjb zva zwa zbb zab   -- for this text's walks alone
set_option linter.unusedVariables false
set_option linter.unusedSimpArgs false

/-! ### impl_State_split: function 24 -/
def impl_State_split.l0 : Nat → Int → Int → Int → Int → Int → Int → Int → Int → Int → Int → Int → Int → Int → Int → Int → Int → Int → Int → Option (Int × Int × Int × Int × Int × Int × Int × Int)
 | 0, _, _, _, _, _, _, _, _, _, _, _, _, _, _, _, _, _, _ => none
 | k + 1, x14, x15, x145000, x145001, x145002, x145003, x146000, x146001, x146002, x146003, x149000, x149001, x149002, x149003, x150000, x150001, x150002, x150003 => if x15 < x14 then (if x15 = 0 then (impl_State_split.l0 k x14 (0 + 1) x145000 x145001 x145002 x145003 x146000 x146001 x146002 x146003 x146000 x149001 x149002 x149003 (wrap64 (x145000 - x146000)) x150001 x150002 x150003) else (if x15 = 1 then (impl_State_split.l0 k x14 (1 + 1) x145000 x145001 x145002 x145003 x146000 x146001 x146002 x146003 x149000 (wrap64 (x146001 + (wrap64 (x145000 - x146000)))) x149002 x149003 x150000 (wrap64 ((wrap64 (x145001 - x146001)) + x146000)) x150002 x150003) else (if x15 = 2 then (impl_State_split.l0 k x14 (2 + 1) x145000 x145001 x145002 x145003 x146000 x146001 x146002 x146003 x149000 x149001 (wrap64 (x146002 + (wrap64 (x145001 - x146001)))) x149003 x150000 x150001 (wrap64 ((wrap64 (x145002 - x146002)) + x146001)) x150003) else (if x15 = 3 then (impl_State_split.l0 k x14 (3 + 1) x145000 x145001 x145002 x145003 x146000 x146001 x146002 x146003 x149000 x149001 x149002 (wrap64 (x146003 + (wrap64 (x145002 - x146002)))) x150000 x150001 x150002 (wrap64 ((wrap64 (x145003 - x146003)) + x146002))) else (none))))) else (some (x149000, x149001, x149002, x149003, x150000, x150001, x150002, x150003))
def impl_State_split.f (k : Nat) (a0_0 : Int) (a0_1 : Int) (a0_2 : Int) (a0_3 : Int) (a1 : Int) (a2_0 : Int) (a2_1 : Int) (a2_2 : Int) (a2_3 : Int) : Option (Int × Int × Int × Int × Int × Int × Int × Int) := impl_State_split.l0 k (wrap64 (a1 + 1)) 0 a0_0 a0_1 a0_2 a0_3 a2_0 a2_1 a2_2 a2_3 0 0 0 0 0 0 0 0
def impl_State_split.T5 : Bool × List (List Nat × List Nat) := (true, [([], []), ([], []), ([], []), ([2], [2]), ([3], [3]), ([], []), ([5], [5]), ([6], [6]), ([], []), ([8], [8]), ([9], [9]), ([7, 10], [7, 10]), ([0, 0, 2, 3, 4], [0]), ([12, 4, 0, 2, 3, 4], [4, 12]), ([1, 0, 1, 2, 3, 4, 5, 6, 7, 8, 9, 10, 11, 12, 13], [1]), ([14, 11, 13, 0, 1, 2, 3, 4, 5, 6, 7, 8, 9, 10, 11, 12, 13], [11, 14])])
def impl_State_split.B5 : List Nat := [0, 0, 0, 4, 12, 0, 32, 96, 0, 256, 768, 2016, 29, 4125, 16383, 32767]
theorem impl_State_split.tab5 : rtab .any (zzc Try.f24 5) = impl_State_split.T5 := by kernel_rfl
theorem impl_State_split.bits5 : znb impl_State_split.T5.2 impl_State_split.B5 = true := by kernel_rfl
def impl_State_split.T7 : Bool × List (List Nat × List Nat) := (true, [([], []), ([0], [0]), ([1], [1]), ([], []), ([3], [3]), ([4], [4]), ([5], [5]), ([], []), ([7], [7]), ([8], [8]), ([9], [9]), ([6, 10], [6, 10]), ([2, 11], [2, 11]), ([0, 0, 1, 2, 3, 4, 5, 6, 7, 8, 9, 10, 11, 12], [0]), ([13, 12, 0, 1, 2, 3, 4, 5, 6, 7, 8, 9, 10, 11, 12], [12, 13])])
def impl_State_split.B7 : List Nat := [0, 1, 3, 0, 8, 24, 56, 0, 128, 384, 896, 2040, 4095, 8191, 16383]
theorem impl_State_split.tab7 : rtab .any (zzc Try.f24 7) = impl_State_split.T7 := by kernel_rfl
theorem impl_State_split.bits7 : znb impl_State_split.T7.2 impl_State_split.B7 = true := by kernel_rfl
def impl_State_split.T8 : Bool × List (List Nat × List Nat) := (true, [([], []), ([0], [0]), ([1], [1]), ([], []), ([3], [3]), ([4], [4]), ([5], [5]), ([2, 6], [2, 6]), ([0, 0, 1, 2, 3, 4, 5, 6, 7], [0]), ([8, 7, 0, 1, 2, 3, 4, 5, 6, 7], [7, 8])])
def impl_State_split.B8 : List Nat := [0, 1, 3, 0, 8, 24, 56, 127, 255, 511]
theorem impl_State_split.tab8 : rtab .any (zzc Try.f24 8) = impl_State_split.T8 := by kernel_rfl
theorem impl_State_split.bits8 : znb impl_State_split.T8.2 impl_State_split.B8 = true := by kernel_rfl
set_option maxHeartbeats 8000000 in
set_option maxRecDepth 100000 in
theorem impl_State_split.calls (k : Nat) (a0_0 : Int) (a0_1 : Int) (a0_2 : Int) (a0_3 : Int) (a1 : Int) (a2_0 : Int) (a2_1 : Int) (a2_2 : Int) (a2_3 : Int) (r1 : Int) (r2 : Int) (r3 : Int) (r4 : Int) (r5 : Int) (r6 : Int) (r7 : Int) (r8 : Int) (w : World) (h : impl_State_split.f k a0_0 a0_1 a0_2 a0_3 a1 a2_0 a2_1 a2_2 a2_3 = some (r1, r2, r3, r4, r5, r6, r7, r8)) :
  Calls Try.prog 24 #[.agg #[.int .i64 a0_0, .int .i64 a0_1, .int .i64 a0_2, .int .i64 a0_3], .int .i64 a1, .agg #[.int .i64 a2_0, .int .i64 a2_1, .int .i64 a2_2, .int .i64 a2_3]] w fun e w' => e = .returned (.tuple #[.agg #[.int .i64 r1, .int .i64 r2, .int .i64 r3, .int .i64 r4], .agg #[.int .i64 r5, .int .i64 r6, .int .i64 r7, .int .i64 r8]]) ∧ Below w.heap.size w w' := by
 have hu25 := Try.underlying25
 have HB := zg.mk (Below.refl w.heap.size w)
 have H : (impl_State_split.l0 k (wrap64 (a1 + 1)) 0 a0_0 a0_1 a0_2 a0_3 a2_0 a2_1 a2_2 a2_3 0 0 0 0 0 0 0 0) = some (r1, r2, r3, r4, r5, r6, r7, r8) := h
 clear h
 have H' := zg.mk H
 clear H
 go_enter Try.func24, Try.ntmps24
 go_wp2_with (first | ((with_reducible refine zga (N := 3) rfl ?_); refine bx (N := 3) #[.int .i64 a0_0, .int .i64 a0_1, .int .i64 a0_2, .int .i64 a0_3] 25 rfl ?_; intro gb144 hg w4 hbox hb; have BK144 := zg.mk hbox; have GW144 := gB hg; have GE144 := GW144; replace HB := zg.mk (zx sB hb); clear hb hbox hg) | ((with_reducible refine zga (N := 5) rfl ?_); refine bx (N := 5) #[.int .i64 a2_0, .int .i64 a2_1, .int .i64 a2_2, .int .i64 a2_3] 25 rfl ?_; intro gb145 hg w5 hbox hb; have BK145 := zg.mk hbox; have GW145 := gB hg; have GE145 := GW145; have NB144_145 := nK hg BK144; have NB145_144 := zg.mk NB144_145.out.symm; replace BK144 := dK BK144 hb; replace HB := zg.mk (zx sB hb); clear hb hbox hg) | ((with_reducible refine zga (N := 6) rfl ?_); refine bx (N := 6) #[.int .i64 0, .int .i64 0, .int .i64 0, .int .i64 0] 25 rfl ?_; intro gb146 hg w6 hbox hb; have BK146 := zg.mk hbox; have GW146 := gB hg; have GE146 := GW146; have NB144_146 := nK hg BK144; have NB146_144 := zg.mk NB144_146.out.symm; have NB145_146 := nK hg BK145; have NB146_145 := zg.mk NB145_146.out.symm; replace BK144 := dK BK144 hb; replace BK145 := dK BK145 hb; replace HB := zg.mk (zx sB hb); clear hb hbox hg) | ((with_reducible refine zga (N := 7) rfl ?_); refine bx (N := 7) #[.int .i64 0, .int .i64 0, .int .i64 0, .int .i64 0] 25 rfl ?_; intro gb147 hg w7 hbox hb; have BK147 := zg.mk hbox; have GW147 := gB hg; have GE147 := GW147; have NB144_147 := nK hg BK144; have NB147_144 := zg.mk NB144_147.out.symm; have NB145_147 := nK hg BK145; have NB147_145 := zg.mk NB145_147.out.symm; have NB146_147 := nK hg BK146; have NB147_146 := zg.mk NB146_147.out.symm; replace BK144 := dK BK144 hb; replace BK145 := dK BK145 hb; replace BK146 := dK BK146 hb; replace HB := zg.mk (zx sB hb); clear hb hbox hg) | ((with_reducible refine zga (N := 8) rfl ?_); refine bx (N := 8) #[.int .i64 0, .int .i64 0, .int .i64 0, .int .i64 0] 25 rfl ?_; intro gb148 hg w8 hbox hb; have BK148 := zg.mk hbox; have GW148 := gB hg; have GE148 := GW148; have NB144_148 := nK hg BK144; have NB148_144 := zg.mk NB144_148.out.symm; have NB145_148 := nK hg BK145; have NB148_145 := zg.mk NB145_148.out.symm; have NB146_148 := nK hg BK146; have NB148_146 := zg.mk NB146_148.out.symm; have NB147_148 := nK hg BK147; have NB148_147 := zg.mk NB147_148.out.symm; replace BK144 := dK BK144 hb; replace BK145 := dK BK145 hb; replace BK146 := dK BK146 hb; replace BK147 := dK BK147 hb; replace HB := zg.mk (zx sB hb); clear hb hbox hg) | ((with_reducible refine zga (N := 9) rfl ?_); refine bx (N := 9) #[.int .i64 0, .int .i64 0, .int .i64 0, .int .i64 0] 25 rfl ?_; intro gb149 hg w9 hbox hb; have BK149 := zg.mk hbox; have GW149 := gB hg; have GE149 := GW149; have NB144_149 := nK hg BK144; have NB149_144 := zg.mk NB144_149.out.symm; have NB145_149 := nK hg BK145; have NB149_145 := zg.mk NB145_149.out.symm; have NB146_149 := nK hg BK146; have NB149_146 := zg.mk NB146_149.out.symm; have NB147_149 := nK hg BK147; have NB149_147 := zg.mk NB147_149.out.symm; have NB148_149 := nK hg BK148; have NB149_148 := zg.mk NB148_149.out.symm; replace BK144 := dK BK144 hb; replace BK145 := dK BK145 hb; replace BK146 := dK BK146 hb; replace BK147 := dK BK147 hb; replace BK148 := dK BK148 hb; replace HB := zg.mk (zx sB hb); clear hb hbox hg; have hnb10 := NB148_144.out; have hnc10 := NB144_148.out; have hnb11 := NB148_145.out; have hnc11 := NB145_148.out; have hnb12 := NB148_146.out; have hnc12 := NB146_148.out; have hnb13 := NB148_147.out; have hnc13 := NB147_148.out; have hnb14 := NB148_149.out; have hnc14 := NB149_148.out; obtain ⟨hcz15_0, hcz15_1, hcz15_2, hcz15_3⟩ := xc4 BK148; obtain ⟨hfz15_0, hfz15_1, hfz15_2, hfz15_3⟩ := xf4 BK148; have hnb16 := NB149_144.out; have hnc16 := NB144_149.out; have hnb17 := NB149_145.out; have hnc17 := NB145_149.out; have hnb18 := NB149_146.out; have hnc18 := NB146_149.out; have hnb19 := NB149_147.out; have hnc19 := NB147_149.out; obtain ⟨hcz20_0, hcz20_1, hcz20_2, hcz20_3⟩ := xc4 BK149; obtain ⟨hfz20_0, hfz20_1, hfz20_2, hfz20_3⟩ := xf4 BK149))
 go_loopg [15] k (fun kq v15 w' => ∃ (x15_1 : Int) (x149000_1 : Int) (x149001_1 : Int) (x149002_1 : Int) (x149003_1 : Int) (x150000_1 : Int) (x150001_1 : Int) (x150002_1 : Int) (x150003_1 : Int), v15 = .int .i64 x15_1 ∧ zg (impl_State_split.l0 kq (wrap64 (a1 + 1)) x15_1 a0_0 a0_1 a0_2 a0_3 a2_0 a2_1 a2_2 a2_3 x149000_1 x149001_1 x149002_1 x149003_1 x150000_1 x150001_1 x150002_1 x150003_1 = some (r1, r2, r3, r4, r5, r6, r7, r8)) ∧ zg (kq ≤ k) ∧ zg (w'.heap[gb144]? = some (.cells #[.int .i64 a0_0, .int .i64 a0_1, .int .i64 a0_2, .int .i64 a0_3] 25 (0, 0))) ∧ zg (w'.heap[gb145]? = some (.cells #[.int .i64 a2_0, .int .i64 a2_1, .int .i64 a2_2, .int .i64 a2_3] 25 (0, 0))) ∧ zg (w'.heap[gb146]? = some (.cells #[.int .i64 0, .int .i64 0, .int .i64 0, .int .i64 0] 25 (0, 0))) ∧ zg (w'.heap[gb147]? = some (.cells #[.int .i64 0, .int .i64 0, .int .i64 0, .int .i64 0] 25 (0, 0))) ∧ zg (w'.heap[gb148]? = some (.cells #[.int .i64 x149000_1, .int .i64 x149001_1, .int .i64 x149002_1, .int .i64 x149003_1] 25 (0, 0))) ∧ zg (w'.heap[gb149]? = some (.cells #[.int .i64 x150000_1, .int .i64 x150001_1, .int .i64 x150002_1, .int .i64 x150003_1] 25 (0, 0))) ∧ zg (Below w.heap.size w w'))
 case atStart => exact ⟨(0), (0), (0), (0), (0), (0), (0), (0), (0), (by first | rfl | (simp; done) | (simp [*]; done)), H', ⟨Nat.le_refl _⟩, ⟨by (with_reducible repeat (first | refine ze ?_ _ | refine zf ?_ | refine za ?_ _)); refine zk ?_ NB144_149.out _; (with_reducible repeat (first | refine ze ?_ _ | refine zf ?_ | refine za ?_ _)); refine zk ?_ NB144_149.out _; (with_reducible repeat (first | refine ze ?_ _ | refine zf ?_ | refine za ?_ _)); refine zk ?_ NB144_149.out _; (with_reducible repeat (first | refine ze ?_ _ | refine zf ?_ | refine za ?_ _)); refine zk ?_ NB144_149.out _; (with_reducible repeat (first | refine ze ?_ _ | refine zf ?_ | refine za ?_ _)); refine zk ?_ NB144_148.out _; (with_reducible repeat (first | refine ze ?_ _ | refine zf ?_ | refine za ?_ _)); refine zk ?_ NB144_148.out _; (with_reducible repeat (first | refine ze ?_ _ | refine zf ?_ | refine za ?_ _)); refine zk ?_ NB144_148.out _; (with_reducible repeat (first | refine ze ?_ _ | refine zf ?_ | refine za ?_ _)); refine zk ?_ NB144_148.out _; (with_reducible repeat (first | refine ze ?_ _ | refine zf ?_ | refine za ?_ _)); exact BK144.out⟩, ⟨by (with_reducible repeat (first | refine ze ?_ _ | refine zf ?_ | refine za ?_ _)); refine zk ?_ NB145_149.out _; (with_reducible repeat (first | refine ze ?_ _ | refine zf ?_ | refine za ?_ _)); refine zk ?_ NB145_149.out _; (with_reducible repeat (first | refine ze ?_ _ | refine zf ?_ | refine za ?_ _)); refine zk ?_ NB145_149.out _; (with_reducible repeat (first | refine ze ?_ _ | refine zf ?_ | refine za ?_ _)); refine zk ?_ NB145_149.out _; (with_reducible repeat (first | refine ze ?_ _ | refine zf ?_ | refine za ?_ _)); refine zk ?_ NB145_148.out _; (with_reducible repeat (first | refine ze ?_ _ | refine zf ?_ | refine za ?_ _)); refine zk ?_ NB145_148.out _; (with_reducible repeat (first | refine ze ?_ _ | refine zf ?_ | refine za ?_ _)); refine zk ?_ NB145_148.out _; (with_reducible repeat (first | refine ze ?_ _ | refine zf ?_ | refine za ?_ _)); refine zk ?_ NB145_148.out _; (with_reducible repeat (first | refine ze ?_ _ | refine zf ?_ | refine za ?_ _)); exact BK145.out⟩, ⟨by (with_reducible repeat (first | refine ze ?_ _ | refine zf ?_ | refine za ?_ _)); refine zk ?_ NB146_149.out _; (with_reducible repeat (first | refine ze ?_ _ | refine zf ?_ | refine za ?_ _)); refine zk ?_ NB146_149.out _; (with_reducible repeat (first | refine ze ?_ _ | refine zf ?_ | refine za ?_ _)); refine zk ?_ NB146_149.out _; (with_reducible repeat (first | refine ze ?_ _ | refine zf ?_ | refine za ?_ _)); refine zk ?_ NB146_149.out _; (with_reducible repeat (first | refine ze ?_ _ | refine zf ?_ | refine za ?_ _)); refine zk ?_ NB146_148.out _; (with_reducible repeat (first | refine ze ?_ _ | refine zf ?_ | refine za ?_ _)); refine zk ?_ NB146_148.out _; (with_reducible repeat (first | refine ze ?_ _ | refine zf ?_ | refine za ?_ _)); refine zk ?_ NB146_148.out _; (with_reducible repeat (first | refine ze ?_ _ | refine zf ?_ | refine za ?_ _)); refine zk ?_ NB146_148.out _; (with_reducible repeat (first | refine ze ?_ _ | refine zf ?_ | refine za ?_ _)); exact BK146.out⟩, ⟨by (with_reducible repeat (first | refine ze ?_ _ | refine zf ?_ | refine za ?_ _)); refine zk ?_ NB147_149.out _; (with_reducible repeat (first | refine ze ?_ _ | refine zf ?_ | refine za ?_ _)); refine zk ?_ NB147_149.out _; (with_reducible repeat (first | refine ze ?_ _ | refine zf ?_ | refine za ?_ _)); refine zk ?_ NB147_149.out _; (with_reducible repeat (first | refine ze ?_ _ | refine zf ?_ | refine za ?_ _)); refine zk ?_ NB147_149.out _; (with_reducible repeat (first | refine ze ?_ _ | refine zf ?_ | refine za ?_ _)); refine zk ?_ NB147_148.out _; (with_reducible repeat (first | refine ze ?_ _ | refine zf ?_ | refine za ?_ _)); refine zk ?_ NB147_148.out _; (with_reducible repeat (first | refine ze ?_ _ | refine zf ?_ | refine za ?_ _)); refine zk ?_ NB147_148.out _; (with_reducible repeat (first | refine ze ?_ _ | refine zf ?_ | refine za ?_ _)); refine zk ?_ NB147_148.out _; (with_reducible repeat (first | refine ze ?_ _ | refine zf ?_ | refine za ?_ _)); exact BK147.out⟩, ⟨by (with_reducible repeat (first | refine ze ?_ _ | refine zf ?_ | refine za ?_ _)); refine zk ?_ NB148_149.out _; (with_reducible repeat (first | refine ze ?_ _ | refine zf ?_ | refine za ?_ _)); refine zk ?_ NB148_149.out _; (with_reducible repeat (first | refine ze ?_ _ | refine zf ?_ | refine za ?_ _)); refine zk ?_ NB148_149.out _; (with_reducible repeat (first | refine ze ?_ _ | refine zf ?_ | refine za ?_ _)); refine zk ?_ NB148_149.out _; (with_reducible repeat (first | refine ze ?_ _ | refine zf ?_ | refine za ?_ _)); refine zy (cs := #[.int .i64 0, .int .i64 0, .int .i64 0, .int .i64 0]) ?_ 3 _ rfl; (with_reducible repeat (first | refine ze ?_ _ | refine zf ?_ | refine za ?_ _)); refine zy (cs := #[.int .i64 0, .int .i64 0, .int .i64 0, .int .i64 0]) ?_ 2 _ rfl; (with_reducible repeat (first | refine ze ?_ _ | refine zf ?_ | refine za ?_ _)); refine zy (cs := #[.int .i64 0, .int .i64 0, .int .i64 0, .int .i64 0]) ?_ 1 _ rfl; (with_reducible repeat (first | refine ze ?_ _ | refine zf ?_ | refine za ?_ _)); refine zy (cs := #[.int .i64 0, .int .i64 0, .int .i64 0, .int .i64 0]) ?_ 0 _ rfl; (with_reducible repeat (first | refine ze ?_ _ | refine zf ?_ | refine za ?_ _)); exact BK148.out⟩, ⟨by (with_reducible repeat (first | refine ze ?_ _ | refine zf ?_ | refine za ?_ _)); refine zy (cs := #[.int .i64 0, .int .i64 0, .int .i64 0, .int .i64 0]) ?_ 3 _ rfl; (with_reducible repeat (first | refine ze ?_ _ | refine zf ?_ | refine za ?_ _)); refine zy (cs := #[.int .i64 0, .int .i64 0, .int .i64 0, .int .i64 0]) ?_ 2 _ rfl; (with_reducible repeat (first | refine ze ?_ _ | refine zf ?_ | refine za ?_ _)); refine zy (cs := #[.int .i64 0, .int .i64 0, .int .i64 0, .int .i64 0]) ?_ 1 _ rfl; (with_reducible repeat (first | refine ze ?_ _ | refine zf ?_ | refine za ?_ _)); refine zy (cs := #[.int .i64 0, .int .i64 0, .int .i64 0, .int .i64 0]) ?_ 0 _ rfl; (with_reducible repeat (first | refine ze ?_ _ | refine zf ?_ | refine za ?_ _)); refine zk ?_ NB149_148.out _; (with_reducible repeat (first | refine ze ?_ _ | refine zf ?_ | refine za ?_ _)); refine zk ?_ NB149_148.out _; (with_reducible repeat (first | refine ze ?_ _ | refine zf ?_ | refine za ?_ _)); refine zk ?_ NB149_148.out _; (with_reducible repeat (first | refine ze ?_ _ | refine zf ?_ | refine za ?_ _)); refine zk ?_ NB149_148.out _; (with_reducible repeat (first | refine ze ?_ _ | refine zf ?_ | refine za ?_ _)); exact BK149.out⟩, ⟨sB⟩⟩
 case round =>
  clear H'
  try clear c1
  try clear c2
  try clear p2
  try clear p6
  try clear c10
  try clear c11
  try clear c12
  try clear c13
  try clear c14
  try clear c16
  try clear c17
  try clear c18
  try clear c19
  try clear hcz15_0 hcz15_1 hcz15_2 hcz15_3
  try clear hcz20_0 hcz20_1 hcz20_2 hcz20_3
  try clear hfz15_0 hfz15_1 hfz15_2 hfz15_3
  try clear hfz20_0 hfz20_1 hfz20_2 hfz20_3
  obtain ⟨x15_1, x149000_1, x149001_1, x149002_1, x149003_1, x150000_1, x150001_1, x150002_1, x150003_1, rfl, HA, HK1, BK144, BK145, BK146, BK147, BK148, BK149, HB⟩ := hrel
  cases gk with
  | zero => exact absurd HA.out (by simp [impl_State_split.l0])
  | succ k1 =>
   have H := HA.out
   clear HA
   simp only [impl_State_split.l0] at H
   by_cases c21 : x15_1 < (wrap64 (a1 + 1))
   ·rw [if_pos c21] at H
    have c21b0 : decide (x15_1 < (wrap64 (a1 + 1))) = true := decide_eq_true c21
    (try (have c21b1 : decide (x15_1 < (IntKind.i64.wrap (a1 + 1))) = true := by have h_ : decide (x15_1 < (wrap64 (a1 + 1))) = true := decide_eq_true c21; simpa only [zv, zw] using h_))
    clear c21
    by_cases c22 : x15_1 = 0
    ·rw [if_pos c22] at H
     subst c22
     have H' := zg.mk H
     clear H
     try go_wp2
     have n0_ := zg.mk (zf BK144.out)
     have n1_ := zg.mk (zf BK145.out)
     have n2_ := zg.mk (zf BK146.out)
     have n3_ := zg.mk (zf BK147.out)
     have n4_ := zg.mk (zf BK148.out)
     have n5_ := zg.mk (zf BK149.out)
     have n6_ := zg.mk (zo HB.out)
     clear BK144
     clear BK145
     clear BK146
     clear BK147
     clear BK148
     clear BK149
     clear HB
     have BK144 := n0_
     have BK145 := n1_
     have BK146 := n2_
     have BK147 := n3_
     have BK148 := n4_
     have BK149 := n5_
     have HB := n6_
     clear n0_ n1_ n2_ n3_ n4_ n5_ n6_
     refine zra (n := 16) (S := fun w' => w'.cell? ⟨gb145, 0, none⟩ = some (.int .i64 a2_0) ∧ w'.cell? ⟨gb145, 1, none⟩ = some (.int .i64 a2_1) ∧ w'.cell? ⟨gb145, 2, none⟩ = some (.int .i64 a2_2) ∧ w'.cell? ⟨gb145, 3, none⟩ = some (.int .i64 a2_3) ∧ w'.cell? ⟨gb144, 0, none⟩ = some (.int .i64 a0_0) ∧ w'.cell? ⟨gb144, 1, none⟩ = some (.int .i64 a0_1) ∧ w'.cell? ⟨gb144, 2, none⟩ = some (.int .i64 a0_2) ∧ w'.cell? ⟨gb144, 3, none⟩ = some (.int .i64 a0_3)) (ds := []) #[false, false, false, false, false, false, false, false, false, false, false, false, false, false, false, false] (by kernel_rfl) rfl rfl ⟨(zh BK145.out 0).trans rfl, (zh BK145.out 1).trans rfl, (zh BK145.out 2).trans rfl, (zh BK145.out 3).trans rfl, (zh BK144.out 0).trans rfl, (zh BK144.out 1).trans rfl, (zh BK144.out 2).trans rfl, (zh BK144.out 3).trans rfl⟩ (fun hHeld => ?_); refine zka impl_State_split.tab5 impl_State_split.bits5 (fun HT_ HW_ => ?_)
     generalize wr.drew = w23 at BK144 BK145 BK146 BK147 BK148 BK149 HB hHeld ⊢
     refine zaa (i := 0) (N := some 18) (v := ?_) (a' := ?_) #[true, false, false, false, false, false, false, false, false, false, false, false, false, false, false, false] rfl rfl (zu HT_.out (by kernel_rfl)) (fun _ _ _ h => h) (Or.inl ⟨by rfl, ?_⟩) ?_ ?_
     rotate_left
     ·intro w'
      go_simp
      with_reducible rfl
     rotate_left
     ·simp only [Act.put, List.setIfInBounds_toArray, List.set_cons_zero, List.set_cons_succ, zv, zw]
      rfl
     refine zaa (i := 1) (N := some 19) (v := ?_) (a' := ?_) #[true, true, false, false, false, false, false, false, false, false, false, false, false, false, false, false] rfl rfl (zu HT_.out (by kernel_rfl)) (fun _ _ _ h => h) (Or.inl ⟨by rfl, ?_⟩) ?_ ?_
     rotate_left
     ·intro w'
      go_simp
      with_reducible rfl
     rotate_left
     ·simp only [Act.put, List.setIfInBounds_toArray, List.set_cons_zero, List.set_cons_succ, zv, zw]
      rfl
     refine zaa (i := 2) (N := some 20) (v := ?_) (a' := ?_) #[true, true, true, false, false, false, false, false, false, false, false, false, false, false, false, false] rfl rfl (zu HT_.out (by kernel_rfl)) (fun _ _ _ h => h) (Or.inl ⟨by rfl, ?_⟩) ?_ ?_
     rotate_left
     ·intro w'
      go_simp
      with_reducible rfl
     rotate_left
     ·simp only [Act.put, List.setIfInBounds_toArray, List.set_cons_zero, List.set_cons_succ, zv, zw]
      rfl
     refine zaa (i := 3) (N := some 21) (v := ?_) (a' := ?_) #[true, true, true, true, false, false, false, false, false, false, false, false, false, false, false, false] rfl rfl (zu HT_.out (by kernel_rfl)) (fun _ _ _ h => h) (Or.inl ⟨by rfl, ?_⟩) ?_ ?_
     rotate_left
     ·intro w'
      go_simp
      with_reducible rfl
     rotate_left
     ·simp only [Act.put, List.setIfInBounds_toArray, List.set_cons_zero, List.set_cons_succ, zv, zw]
      rfl
     refine zaa (i := 5) (N := some 23) (v := ?_) (a' := ?_) #[true, true, true, true, false, true, false, false, false, false, false, false, false, false, false, false] rfl rfl (zu HT_.out (by kernel_rfl)) (fun _ _ _ h => h) (Or.inl ⟨by rfl, ?_⟩) ?_ ?_
     rotate_left
     ·intro w'
      go_simp
      with_reducible rfl
     rotate_left
     ·simp only [Act.put, List.setIfInBounds_toArray, List.set_cons_zero, List.set_cons_succ, zv, zw]
      rfl
     refine zaa (i := 6) (N := some 24) (v := ?_) (a' := ?_) #[true, true, true, true, false, true, true, false, false, false, false, false, false, false, false, false] rfl rfl (zu HT_.out (by kernel_rfl)) (fun _ _ _ h => h) (Or.inl ⟨by rfl, ?_⟩) ?_ ?_
     rotate_left
     ·intro w'
      go_simp
      with_reducible rfl
     rotate_left
     ·simp only [Act.put, List.setIfInBounds_toArray, List.set_cons_zero, List.set_cons_succ, zv, zw]
      rfl
     refine zaa (i := 8) (N := some 26) (v := ?_) (a' := ?_) #[true, true, true, true, false, true, true, false, true, false, false, false, false, false, false, false] rfl rfl (zu HT_.out (by kernel_rfl)) (fun _ _ _ h => h) (Or.inl ⟨by rfl, ?_⟩) ?_ ?_
     rotate_left
     ·intro w'
      go_simp
      with_reducible rfl
     rotate_left
     ·simp only [Act.put, List.setIfInBounds_toArray, List.set_cons_zero, List.set_cons_succ, zv, zw]
      rfl
     refine zaa (i := 9) (N := some 27) (v := ?_) (a' := ?_) #[true, true, true, true, false, true, true, false, true, true, false, false, false, false, false, false] rfl rfl (zu HT_.out (by kernel_rfl)) (fun _ _ _ h => h) (Or.inl ⟨by rfl, ?_⟩) ?_ ?_
     rotate_left
     ·intro w'
      go_simp
      with_reducible rfl
     rotate_left
     ·simp only [Act.put, List.setIfInBounds_toArray, List.set_cons_zero, List.set_cons_succ, zv, zw]
      rfl
     refine take_ (i := 4) (N := some 22) (v := ?_) (a' := ?_) #[true, true, true, true, true, true, true, false, true, true, false, false, false, false, false, false] rfl rfl (zea HT_.out HW_.out (by kernel_rfl)) (fun _ _ _ h => h) (Or.inl ⟨by rfl, ?_⟩) hHeld ?_ ?_
     rotate_left
     ·rintro w' ⟨s0, s1, s2, s3, s4, s5, s6, s7⟩
      go_simp
      with_reducible rfl
     rotate_left
     ·simp only [Act.put, List.setIfInBounds_toArray, List.set_cons_zero, List.set_cons_succ, zv, zw]
      rfl
     refine zaa (i := 12) (N := some 30) (v := ?_) (a' := ?_) #[true, true, true, true, true, true, true, false, true, true, false, false, true, false, false, false] rfl rfl (zu HT_.out (by kernel_rfl)) (fun _ _ _ h => h) (Or.inl ⟨by rfl, ?_⟩) ?_ ?_
     rotate_left
     ·intro w'
      go_simp
      with_reducible rfl
     rotate_left
     ·simp only [Act.put, List.setIfInBounds_toArray, List.set_cons_zero, List.set_cons_succ, zv, zw]
      rfl
     refine take_ (i := 7) (N := some 25) (v := ?_) (a' := ?_) #[true, true, true, true, true, true, true, true, true, true, false, false, true, false, false, false] rfl rfl (zea HT_.out HW_.out (by kernel_rfl)) (fun _ _ _ h => h) (Or.inl ⟨by rfl, ?_⟩) hHeld ?_ ?_
     rotate_left
     ·rintro w' ⟨s0, s1, s2, s3, s4, s5, s6, s7⟩
      go_simp
      with_reducible rfl
     rotate_left
     ·simp only [Act.put, List.setIfInBounds_toArray, List.set_cons_zero, List.set_cons_succ, zv, zw]
      rfl
     refine take_ (i := 10) (N := some 28) (v := ?_) (a' := ?_) #[true, true, true, true, true, true, true, true, true, true, true, false, true, false, false, false] rfl rfl (zea HT_.out HW_.out (by kernel_rfl)) (fun _ _ _ h => h) (Or.inl ⟨by rfl, ?_⟩) hHeld ?_ ?_
     rotate_left
     ·rintro w' ⟨s0, s1, s2, s3, s4, s5, s6, s7⟩
      go_simp
      with_reducible rfl
     rotate_left
     ·simp only [Act.put, List.setIfInBounds_toArray, List.set_cons_zero, List.set_cons_succ, zv, zw]
      rfl
     refine zaa (i := 11) (N := some 29) (v := ?_) (a' := ?_) #[true, true, true, true, true, true, true, true, true, true, true, true, true, false, false, false] rfl rfl (zu HT_.out (by kernel_rfl)) (fun _ _ _ h => h) (Or.inl ⟨by rfl, ?_⟩) ?_ ?_
     rotate_left
     ·intro w'
      go_simp
      with_reducible rfl
     rotate_left
     ·simp only [Act.put, List.setIfInBounds_toArray, List.set_cons_zero, List.set_cons_succ, zv, zw]
      rfl
     refine one_ (i := 13) (N := none) #[true, true, true, true, true, true, true, true, true, true, true, true, true, true, false, false] rfl rfl (zna HT_.out (by kernel_rfl)) (by decide) (fun K hK => ?_)
     have hs24 : w23.cell? ⟨gb148, 0, none⟩ = some (.int .i64 x149000_1) := (zh BK148.out 0).trans rfl
     have hfs24 := zj BK148.out 0
     have hns24_0 := NB144_148.out
     have hns24_1 := NB145_148.out
     have hns24_2 := NB146_148.out
     have hns24_3 := NB147_148.out
     have hns24_5 := NB149_148.out
     have hms24_0 := NB148_144.out
     have hms24_1 := NB148_145.out
     have hms24_2 := NB148_146.out
     have hms24_3 := NB148_147.out
     have hms24_5 := NB148_149.out
     refine zza (w1 := ?_) (by rfl) rfl ?_ ?_
     rotate_left
     ·go_simp
      rfl
     refine hK.out _ _ ⟨((zp (p := ⟨gb148, _, none⟩) NB145_148.out _).trans (hHeld.1)), ((zp (p := ⟨gb148, _, none⟩) NB145_148.out _).trans (hHeld.2.1)), ((zp (p := ⟨gb148, _, none⟩) NB145_148.out _).trans (hHeld.2.2.1)), ((zp (p := ⟨gb148, _, none⟩) NB145_148.out _).trans (hHeld.2.2.2.1)), ((zp (p := ⟨gb148, _, none⟩) NB144_148.out _).trans (hHeld.2.2.2.2.1)), ((zp (p := ⟨gb148, _, none⟩) NB144_148.out _).trans (hHeld.2.2.2.2.2.1)), ((zp (p := ⟨gb148, _, none⟩) NB144_148.out _).trans (hHeld.2.2.2.2.2.2.1)), ((zp (p := ⟨gb148, _, none⟩) NB144_148.out _).trans (hHeld.2.2.2.2.2.2.2))⟩ (fun hHeld => ?_)
     clear hK K
     refine zaa (i := 14) (N := some 31) (v := ?_) (a' := ?_) #[true, true, true, true, true, true, true, true, true, true, true, true, true, true, true, false] rfl rfl (zu HT_.out (by kernel_rfl)) (fun _ _ _ h => h) (Or.inl ⟨by rfl, ?_⟩) ?_ ?_
     rotate_left
     ·intro w'
      go_simp
      with_reducible rfl
     rotate_left
     ·simp only [Act.put, List.setIfInBounds_toArray, List.set_cons_zero, List.set_cons_succ, zv, zw]
      rfl
     refine one_ (i := 15) (N := none) #[true, true, true, true, true, true, true, true, true, true, true, true, true, true, true, true] rfl rfl (zna HT_.out (by kernel_rfl)) (by decide) (fun K hK => ?_)
     have hs25 : w23.cell? ⟨gb149, 0, none⟩ = some (.int .i64 x150000_1) := (zh BK149.out 0).trans rfl
     have hfs25 := zj BK149.out 0
     have hns25_0 := NB144_149.out
     have hns25_1 := NB145_149.out
     have hns25_2 := NB146_149.out
     have hns25_3 := NB147_149.out
     have hns25_4 := NB148_149.out
     have hms25_0 := NB149_144.out
     have hms25_1 := NB149_145.out
     have hms25_2 := NB149_146.out
     have hms25_3 := NB149_147.out
     have hms25_4 := NB149_148.out
     refine zza (w1 := ?_) (by rfl) rfl ?_ ?_
     rotate_left
     ·go_simp
      rfl
     refine hK.out _ _ ⟨((zp (p := ⟨gb149, _, none⟩) NB145_149.out _).trans (hHeld.1)), ((zp (p := ⟨gb149, _, none⟩) NB145_149.out _).trans (hHeld.2.1)), ((zp (p := ⟨gb149, _, none⟩) NB145_149.out _).trans (hHeld.2.2.1)), ((zp (p := ⟨gb149, _, none⟩) NB145_149.out _).trans (hHeld.2.2.2.1)), ((zp (p := ⟨gb149, _, none⟩) NB144_149.out _).trans (hHeld.2.2.2.2.1)), ((zp (p := ⟨gb149, _, none⟩) NB144_149.out _).trans (hHeld.2.2.2.2.2.1)), ((zp (p := ⟨gb149, _, none⟩) NB144_149.out _).trans (hHeld.2.2.2.2.2.2.1)), ((zp (p := ⟨gb149, _, none⟩) NB144_149.out _).trans (hHeld.2.2.2.2.2.2.2))⟩ (fun hHeld => ?_)
     clear hK K
     refine zeb (zla HT_.out (by kernel_rfl)) ?_
     try go_wp2
     go_roundg k1
     case measure => have := HK1.out; omega
     case rel => exact ⟨(0 + 1), (a2_0), (x149001_1), (x149002_1), (x149003_1), (wrap64 (a0_0 - a2_0)), (x150001_1), (x150002_1), (x150003_1), (by first | rfl | (simp; done) | (simp [*]; done)), H', ⟨by have := HK1.out; omega⟩, ⟨by (with_reducible repeat (first | refine ze ?_ _ | refine zf ?_ | refine za ?_ _)); refine zk ?_ NB144_149.out _; (with_reducible repeat (first | refine ze ?_ _ | refine zf ?_ | refine za ?_ _)); refine zk ?_ NB144_148.out _; (with_reducible repeat (first | refine ze ?_ _ | refine zf ?_ | refine za ?_ _)); exact BK144.out⟩, ⟨by (with_reducible repeat (first | refine ze ?_ _ | refine zf ?_ | refine za ?_ _)); refine zk ?_ NB145_149.out _; (with_reducible repeat (first | refine ze ?_ _ | refine zf ?_ | refine za ?_ _)); refine zk ?_ NB145_148.out _; (with_reducible repeat (first | refine ze ?_ _ | refine zf ?_ | refine za ?_ _)); exact BK145.out⟩, ⟨by (with_reducible repeat (first | refine ze ?_ _ | refine zf ?_ | refine za ?_ _)); refine zk ?_ NB146_149.out _; (with_reducible repeat (first | refine ze ?_ _ | refine zf ?_ | refine za ?_ _)); refine zk ?_ NB146_148.out _; (with_reducible repeat (first | refine ze ?_ _ | refine zf ?_ | refine za ?_ _)); exact BK146.out⟩, ⟨by (with_reducible repeat (first | refine ze ?_ _ | refine zf ?_ | refine za ?_ _)); refine zk ?_ NB147_149.out _; (with_reducible repeat (first | refine ze ?_ _ | refine zf ?_ | refine za ?_ _)); refine zk ?_ NB147_148.out _; (with_reducible repeat (first | refine ze ?_ _ | refine zf ?_ | refine za ?_ _)); exact BK147.out⟩, ⟨by (with_reducible repeat (first | refine ze ?_ _ | refine zf ?_ | refine za ?_ _)); refine zk ?_ NB148_149.out _; (with_reducible repeat (first | refine ze ?_ _ | refine zf ?_ | refine za ?_ _)); refine zy (cs := #[.int .i64 x149000_1, .int .i64 x149001_1, .int .i64 x149002_1, .int .i64 x149003_1]) ?_ 0 _ rfl; (with_reducible repeat (first | refine ze ?_ _ | refine zf ?_ | refine za ?_ _)); exact BK148.out⟩, ⟨by (with_reducible repeat (first | refine ze ?_ _ | refine zf ?_ | refine za ?_ _)); refine zy (cs := #[.int .i64 x150000_1, .int .i64 x150001_1, .int .i64 x150002_1, .int .i64 x150003_1]) ?_ 0 _ rfl; (with_reducible repeat (first | refine ze ?_ _ | refine zf ?_ | refine za ?_ _)); refine zk ?_ NB149_148.out _; (with_reducible repeat (first | refine ze ?_ _ | refine zf ?_ | refine za ?_ _)); exact BK149.out⟩, ⟨sB⟩⟩
    rw [if_neg c22] at H
    clear c22
    by_cases c26 : x15_1 = 1
    ·rw [if_pos c26] at H
     subst c26
     have H' := zg.mk H
     clear H
     try go_wp2
     have n0_ := zg.mk (zf BK144.out)
     have n1_ := zg.mk (zf BK145.out)
     have n2_ := zg.mk (zf BK146.out)
     have n3_ := zg.mk (zf BK147.out)
     have n4_ := zg.mk (zf BK148.out)
     have n5_ := zg.mk (zf BK149.out)
     have n6_ := zg.mk (zo HB.out)
     clear BK144
     clear BK145
     clear BK146
     clear BK147
     clear BK148
     clear BK149
     clear HB
     have BK144 := n0_
     have BK145 := n1_
     have BK146 := n2_
     have BK147 := n3_
     have BK148 := n4_
     have BK149 := n5_
     have HB := n6_
     clear n0_ n1_ n2_ n3_ n4_ n5_ n6_
     refine zra (n := 16) (S := fun w' => w'.cell? ⟨gb145, 0, none⟩ = some (.int .i64 a2_0) ∧ w'.cell? ⟨gb145, 1, none⟩ = some (.int .i64 a2_1) ∧ w'.cell? ⟨gb145, 2, none⟩ = some (.int .i64 a2_2) ∧ w'.cell? ⟨gb145, 3, none⟩ = some (.int .i64 a2_3) ∧ w'.cell? ⟨gb144, 0, none⟩ = some (.int .i64 a0_0) ∧ w'.cell? ⟨gb144, 1, none⟩ = some (.int .i64 a0_1) ∧ w'.cell? ⟨gb144, 2, none⟩ = some (.int .i64 a0_2) ∧ w'.cell? ⟨gb144, 3, none⟩ = some (.int .i64 a0_3)) (ds := []) #[false, false, false, false, false, false, false, false, false, false, false, false, false, false, false, false] (by kernel_rfl) rfl rfl ⟨(zh BK145.out 0).trans rfl, (zh BK145.out 1).trans rfl, (zh BK145.out 2).trans rfl, (zh BK145.out 3).trans rfl, (zh BK144.out 0).trans rfl, (zh BK144.out 1).trans rfl, (zh BK144.out 2).trans rfl, (zh BK144.out 3).trans rfl⟩ (fun hHeld => ?_); refine zka impl_State_split.tab5 impl_State_split.bits5 (fun HT_ HW_ => ?_)
     generalize wr.drew = w27 at BK144 BK145 BK146 BK147 BK148 BK149 HB hHeld ⊢
     refine zaa (i := 0) (N := some 18) (v := ?_) (a' := ?_) #[true, false, false, false, false, false, false, false, false, false, false, false, false, false, false, false] rfl rfl (zu HT_.out (by kernel_rfl)) (fun _ _ _ h => h) (Or.inl ⟨by rfl, ?_⟩) ?_ ?_
     rotate_left
     ·intro w'
      go_simp
      with_reducible rfl
     rotate_left
     ·simp only [Act.put, List.setIfInBounds_toArray, List.set_cons_zero, List.set_cons_succ, zv, zw]
      rfl
     refine zaa (i := 1) (N := some 19) (v := ?_) (a' := ?_) #[true, true, false, false, false, false, false, false, false, false, false, false, false, false, false, false] rfl rfl (zu HT_.out (by kernel_rfl)) (fun _ _ _ h => h) (Or.inl ⟨by rfl, ?_⟩) ?_ ?_
     rotate_left
     ·intro w'
      go_simp
      with_reducible rfl
     rotate_left
     ·simp only [Act.put, List.setIfInBounds_toArray, List.set_cons_zero, List.set_cons_succ, zv, zw]
      rfl
     refine zaa (i := 2) (N := some 20) (v := ?_) (a' := ?_) #[true, true, true, false, false, false, false, false, false, false, false, false, false, false, false, false] rfl rfl (zu HT_.out (by kernel_rfl)) (fun _ _ _ h => h) (Or.inl ⟨by rfl, ?_⟩) ?_ ?_
     rotate_left
     ·intro w'
      go_simp
      with_reducible rfl
     rotate_left
     ·simp only [Act.put, List.setIfInBounds_toArray, List.set_cons_zero, List.set_cons_succ, zv, zw]
      rfl
     refine zaa (i := 3) (N := some 21) (v := ?_) (a' := ?_) #[true, true, true, true, false, false, false, false, false, false, false, false, false, false, false, false] rfl rfl (zu HT_.out (by kernel_rfl)) (fun _ _ _ h => h) (Or.inl ⟨by rfl, ?_⟩) ?_ ?_
     rotate_left
     ·intro w'
      go_simp
      with_reducible rfl
     rotate_left
     ·simp only [Act.put, List.setIfInBounds_toArray, List.set_cons_zero, List.set_cons_succ, zv, zw]
      rfl
     refine zaa (i := 5) (N := some 23) (v := ?_) (a' := ?_) #[true, true, true, true, false, true, false, false, false, false, false, false, false, false, false, false] rfl rfl (zu HT_.out (by kernel_rfl)) (fun _ _ _ h => h) (Or.inl ⟨by rfl, ?_⟩) ?_ ?_
     rotate_left
     ·intro w'
      go_simp
      with_reducible rfl
     rotate_left
     ·simp only [Act.put, List.setIfInBounds_toArray, List.set_cons_zero, List.set_cons_succ, zv, zw]
      rfl
     refine zaa (i := 6) (N := some 24) (v := ?_) (a' := ?_) #[true, true, true, true, false, true, true, false, false, false, false, false, false, false, false, false] rfl rfl (zu HT_.out (by kernel_rfl)) (fun _ _ _ h => h) (Or.inl ⟨by rfl, ?_⟩) ?_ ?_
     rotate_left
     ·intro w'
      go_simp
      with_reducible rfl
     rotate_left
     ·simp only [Act.put, List.setIfInBounds_toArray, List.set_cons_zero, List.set_cons_succ, zv, zw]
      rfl
     refine zaa (i := 8) (N := some 26) (v := ?_) (a' := ?_) #[true, true, true, true, false, true, true, false, true, false, false, false, false, false, false, false] rfl rfl (zu HT_.out (by kernel_rfl)) (fun _ _ _ h => h) (Or.inl ⟨by rfl, ?_⟩) ?_ ?_
     rotate_left
     ·intro w'
      go_simp
      with_reducible rfl
     rotate_left
     ·simp only [Act.put, List.setIfInBounds_toArray, List.set_cons_zero, List.set_cons_succ, zv, zw]
      rfl
     refine zaa (i := 9) (N := some 27) (v := ?_) (a' := ?_) #[true, true, true, true, false, true, true, false, true, true, false, false, false, false, false, false] rfl rfl (zu HT_.out (by kernel_rfl)) (fun _ _ _ h => h) (Or.inl ⟨by rfl, ?_⟩) ?_ ?_
     rotate_left
     ·intro w'
      go_simp
      with_reducible rfl
     rotate_left
     ·simp only [Act.put, List.setIfInBounds_toArray, List.set_cons_zero, List.set_cons_succ, zv, zw]
      rfl
     refine take_ (i := 4) (N := some 22) (v := ?_) (a' := ?_) #[true, true, true, true, true, true, true, false, true, true, false, false, false, false, false, false] rfl rfl (zea HT_.out HW_.out (by kernel_rfl)) (fun _ _ _ h => h) (Or.inl ⟨by rfl, ?_⟩) hHeld ?_ ?_
     rotate_left
     ·rintro w' ⟨s0, s1, s2, s3, s4, s5, s6, s7⟩
      go_simp
      with_reducible rfl
     rotate_left
     ·simp only [Act.put, List.setIfInBounds_toArray, List.set_cons_zero, List.set_cons_succ, zv, zw]
      rfl
     refine zaa (i := 12) (N := some 30) (v := ?_) (a' := ?_) #[true, true, true, true, true, true, true, false, true, true, false, false, true, false, false, false] rfl rfl (zu HT_.out (by kernel_rfl)) (fun _ _ _ h => h) (Or.inl ⟨by rfl, ?_⟩) ?_ ?_
     rotate_left
     ·intro w'
      go_simp
      with_reducible rfl
     rotate_left
     ·simp only [Act.put, List.setIfInBounds_toArray, List.set_cons_zero, List.set_cons_succ, zv, zw]
      rfl
     refine take_ (i := 7) (N := some 25) (v := ?_) (a' := ?_) #[true, true, true, true, true, true, true, true, true, true, false, false, true, false, false, false] rfl rfl (zea HT_.out HW_.out (by kernel_rfl)) (fun _ _ _ h => h) (Or.inl ⟨by rfl, ?_⟩) hHeld ?_ ?_
     rotate_left
     ·rintro w' ⟨s0, s1, s2, s3, s4, s5, s6, s7⟩
      go_simp
      with_reducible rfl
     rotate_left
     ·simp only [Act.put, List.setIfInBounds_toArray, List.set_cons_zero, List.set_cons_succ, zv, zw]
      rfl
     refine take_ (i := 10) (N := some 28) (v := ?_) (a' := ?_) #[true, true, true, true, true, true, true, true, true, true, true, false, true, false, false, false] rfl rfl (zea HT_.out HW_.out (by kernel_rfl)) (fun _ _ _ h => h) (Or.inl ⟨by rfl, ?_⟩) hHeld ?_ ?_
     rotate_left
     ·rintro w' ⟨s0, s1, s2, s3, s4, s5, s6, s7⟩
      go_simp
      with_reducible rfl
     rotate_left
     ·simp only [Act.put, List.setIfInBounds_toArray, List.set_cons_zero, List.set_cons_succ, zv, zw]
      rfl
     refine zaa (i := 11) (N := some 29) (v := ?_) (a' := ?_) #[true, true, true, true, true, true, true, true, true, true, true, true, true, false, false, false] rfl rfl (zu HT_.out (by kernel_rfl)) (fun _ _ _ h => h) (Or.inl ⟨by rfl, ?_⟩) ?_ ?_
     rotate_left
     ·intro w'
      go_simp
      with_reducible rfl
     rotate_left
     ·simp only [Act.put, List.setIfInBounds_toArray, List.set_cons_zero, List.set_cons_succ, zv, zw]
      rfl
     refine one_ (i := 13) (N := none) #[true, true, true, true, true, true, true, true, true, true, true, true, true, true, false, false] rfl rfl (zna HT_.out (by kernel_rfl)) (by decide) (fun K hK => ?_)
     have hs28 : w27.cell? ⟨gb148, 1, none⟩ = some (.int .i64 x149001_1) := (zh BK148.out 1).trans rfl
     have hfs28 := zj BK148.out 1
     have hns28_0 := NB144_148.out
     have hns28_1 := NB145_148.out
     have hns28_2 := NB146_148.out
     have hns28_3 := NB147_148.out
     have hns28_5 := NB149_148.out
     have hms28_0 := NB148_144.out
     have hms28_1 := NB148_145.out
     have hms28_2 := NB148_146.out
     have hms28_3 := NB148_147.out
     have hms28_5 := NB148_149.out
     refine zza (w1 := ?_) (by rfl) rfl ?_ ?_
     rotate_left
     ·go_simp
      rfl
     refine hK.out _ _ ⟨((zp (p := ⟨gb148, _, none⟩) NB145_148.out _).trans (hHeld.1)), ((zp (p := ⟨gb148, _, none⟩) NB145_148.out _).trans (hHeld.2.1)), ((zp (p := ⟨gb148, _, none⟩) NB145_148.out _).trans (hHeld.2.2.1)), ((zp (p := ⟨gb148, _, none⟩) NB145_148.out _).trans (hHeld.2.2.2.1)), ((zp (p := ⟨gb148, _, none⟩) NB144_148.out _).trans (hHeld.2.2.2.2.1)), ((zp (p := ⟨gb148, _, none⟩) NB144_148.out _).trans (hHeld.2.2.2.2.2.1)), ((zp (p := ⟨gb148, _, none⟩) NB144_148.out _).trans (hHeld.2.2.2.2.2.2.1)), ((zp (p := ⟨gb148, _, none⟩) NB144_148.out _).trans (hHeld.2.2.2.2.2.2.2))⟩ (fun hHeld => ?_)
     clear hK K
     refine zaa (i := 14) (N := some 31) (v := ?_) (a' := ?_) #[true, true, true, true, true, true, true, true, true, true, true, true, true, true, true, false] rfl rfl (zu HT_.out (by kernel_rfl)) (fun _ _ _ h => h) (Or.inl ⟨by rfl, ?_⟩) ?_ ?_
     rotate_left
     ·intro w'
      go_simp
      with_reducible rfl
     rotate_left
     ·simp only [Act.put, List.setIfInBounds_toArray, List.set_cons_zero, List.set_cons_succ, zv, zw]
      rfl
     refine one_ (i := 15) (N := none) #[true, true, true, true, true, true, true, true, true, true, true, true, true, true, true, true] rfl rfl (zna HT_.out (by kernel_rfl)) (by decide) (fun K hK => ?_)
     have hs29 : w27.cell? ⟨gb149, 1, none⟩ = some (.int .i64 x150001_1) := (zh BK149.out 1).trans rfl
     have hfs29 := zj BK149.out 1
     have hns29_0 := NB144_149.out
     have hns29_1 := NB145_149.out
     have hns29_2 := NB146_149.out
     have hns29_3 := NB147_149.out
     have hns29_4 := NB148_149.out
     have hms29_0 := NB149_144.out
     have hms29_1 := NB149_145.out
     have hms29_2 := NB149_146.out
     have hms29_3 := NB149_147.out
     have hms29_4 := NB149_148.out
     refine zza (w1 := ?_) (by rfl) rfl ?_ ?_
     rotate_left
     ·go_simp
      rfl
     refine hK.out _ _ ⟨((zp (p := ⟨gb149, _, none⟩) NB145_149.out _).trans (hHeld.1)), ((zp (p := ⟨gb149, _, none⟩) NB145_149.out _).trans (hHeld.2.1)), ((zp (p := ⟨gb149, _, none⟩) NB145_149.out _).trans (hHeld.2.2.1)), ((zp (p := ⟨gb149, _, none⟩) NB145_149.out _).trans (hHeld.2.2.2.1)), ((zp (p := ⟨gb149, _, none⟩) NB144_149.out _).trans (hHeld.2.2.2.2.1)), ((zp (p := ⟨gb149, _, none⟩) NB144_149.out _).trans (hHeld.2.2.2.2.2.1)), ((zp (p := ⟨gb149, _, none⟩) NB144_149.out _).trans (hHeld.2.2.2.2.2.2.1)), ((zp (p := ⟨gb149, _, none⟩) NB144_149.out _).trans (hHeld.2.2.2.2.2.2.2))⟩ (fun hHeld => ?_)
     clear hK K
     refine zeb (zla HT_.out (by kernel_rfl)) ?_
     try go_wp2
     have n0_ : zg (((w27.setCell ⟨gb148, 1, none⟩ (.int .i64 a2_1)).setCell ⟨gb149, 1, none⟩ (.int .i64 (wrap64 (a0_1 - a2_1)))).heap[gb144]? = some (.cells #[.int .i64 a0_0, .int .i64 a0_1, .int .i64 a0_2, .int .i64 a0_3] 25 (0, 0))) := ⟨by (with_reducible repeat (first | refine ze ?_ _ | refine zf ?_ | refine za ?_ _)); refine zk ?_ NB144_149.out _; (with_reducible repeat (first | refine ze ?_ _ | refine zf ?_ | refine za ?_ _)); refine zk ?_ NB144_148.out _; (with_reducible repeat (first | refine ze ?_ _ | refine zf ?_ | refine za ?_ _)); exact BK144.out⟩
     have n1_ : zg (((w27.setCell ⟨gb148, 1, none⟩ (.int .i64 a2_1)).setCell ⟨gb149, 1, none⟩ (.int .i64 (wrap64 (a0_1 - a2_1)))).heap[gb145]? = some (.cells #[.int .i64 a2_0, .int .i64 a2_1, .int .i64 a2_2, .int .i64 a2_3] 25 (0, 0))) := ⟨by (with_reducible repeat (first | refine ze ?_ _ | refine zf ?_ | refine za ?_ _)); refine zk ?_ NB145_149.out _; (with_reducible repeat (first | refine ze ?_ _ | refine zf ?_ | refine za ?_ _)); refine zk ?_ NB145_148.out _; (with_reducible repeat (first | refine ze ?_ _ | refine zf ?_ | refine za ?_ _)); exact BK145.out⟩
     have n2_ : zg (((w27.setCell ⟨gb148, 1, none⟩ (.int .i64 a2_1)).setCell ⟨gb149, 1, none⟩ (.int .i64 (wrap64 (a0_1 - a2_1)))).heap[gb146]? = some (.cells #[.int .i64 0, .int .i64 0, .int .i64 0, .int .i64 0] 25 (0, 0))) := ⟨by (with_reducible repeat (first | refine ze ?_ _ | refine zf ?_ | refine za ?_ _)); refine zk ?_ NB146_149.out _; (with_reducible repeat (first | refine ze ?_ _ | refine zf ?_ | refine za ?_ _)); refine zk ?_ NB146_148.out _; (with_reducible repeat (first | refine ze ?_ _ | refine zf ?_ | refine za ?_ _)); exact BK146.out⟩
     have n3_ : zg (((w27.setCell ⟨gb148, 1, none⟩ (.int .i64 a2_1)).setCell ⟨gb149, 1, none⟩ (.int .i64 (wrap64 (a0_1 - a2_1)))).heap[gb147]? = some (.cells #[.int .i64 0, .int .i64 0, .int .i64 0, .int .i64 0] 25 (0, 0))) := ⟨by (with_reducible repeat (first | refine ze ?_ _ | refine zf ?_ | refine za ?_ _)); refine zk ?_ NB147_149.out _; (with_reducible repeat (first | refine ze ?_ _ | refine zf ?_ | refine za ?_ _)); refine zk ?_ NB147_148.out _; (with_reducible repeat (first | refine ze ?_ _ | refine zf ?_ | refine za ?_ _)); exact BK147.out⟩
     have n4_ : zg (((w27.setCell ⟨gb148, 1, none⟩ (.int .i64 a2_1)).setCell ⟨gb149, 1, none⟩ (.int .i64 (wrap64 (a0_1 - a2_1)))).heap[gb148]? = some (.cells #[.int .i64 x149000_1, .int .i64 a2_1, .int .i64 x149002_1, .int .i64 x149003_1] 25 (0, 0))) := ⟨by (with_reducible repeat (first | refine ze ?_ _ | refine zf ?_ | refine za ?_ _)); refine zk ?_ NB148_149.out _; (with_reducible repeat (first | refine ze ?_ _ | refine zf ?_ | refine za ?_ _)); refine zy (cs := #[.int .i64 x149000_1, .int .i64 x149001_1, .int .i64 x149002_1, .int .i64 x149003_1]) ?_ 1 _ rfl; (with_reducible repeat (first | refine ze ?_ _ | refine zf ?_ | refine za ?_ _)); exact BK148.out⟩
     have n5_ : zg (((w27.setCell ⟨gb148, 1, none⟩ (.int .i64 a2_1)).setCell ⟨gb149, 1, none⟩ (.int .i64 (wrap64 (a0_1 - a2_1)))).heap[gb149]? = some (.cells #[.int .i64 x150000_1, .int .i64 (wrap64 (a0_1 - a2_1)), .int .i64 x150002_1, .int .i64 x150003_1] 25 (0, 0))) := ⟨by (with_reducible repeat (first | refine ze ?_ _ | refine zf ?_ | refine za ?_ _)); refine zy (cs := #[.int .i64 x150000_1, .int .i64 x150001_1, .int .i64 x150002_1, .int .i64 x150003_1]) ?_ 1 _ rfl; (with_reducible repeat (first | refine ze ?_ _ | refine zf ?_ | refine za ?_ _)); refine zk ?_ NB149_148.out _; (with_reducible repeat (first | refine ze ?_ _ | refine zf ?_ | refine za ?_ _)); exact BK149.out⟩
     have n6_ : zg (Below w.heap.size w ((w27.setCell ⟨gb148, 1, none⟩ (.int .i64 a2_1)).setCell ⟨gb149, 1, none⟩ (.int .i64 (wrap64 (a0_1 - a2_1))))) := ⟨sB⟩
     (try clear BK144)
     (try clear BK145)
     (try clear BK146)
     (try clear BK147)
     (try clear BK148)
     (try clear BK149)
     (try clear HB)
     generalize ((w27.setCell ⟨gb148, 1, none⟩ (.int .i64 a2_1)).setCell ⟨gb149, 1, none⟩ (.int .i64 (wrap64 (a0_1 - a2_1)))) = w30 at n0_ n1_ n2_ n3_ n4_ n5_ n6_ ⊢
     have BK144 := n0_
     have BK145 := n1_
     have BK146 := n2_
     have BK147 := n3_
     have BK148 := n4_
     have BK149 := n5_
     have HB := n6_
     clear n0_ n1_ n2_ n3_ n4_ n5_ n6_
     have n0_ := zg.mk (zf BK144.out)
     have n1_ := zg.mk (zf BK145.out)
     have n2_ := zg.mk (zf BK146.out)
     have n3_ := zg.mk (zf BK147.out)
     have n4_ := zg.mk (zf BK148.out)
     have n5_ := zg.mk (zf BK149.out)
     have n6_ := zg.mk (zo HB.out)
     clear BK144
     clear BK145
     clear BK146
     clear BK147
     clear BK148
     clear BK149
     clear HB
     have BK144 := n0_
     have BK145 := n1_
     have BK146 := n2_
     have BK147 := n3_
     have BK148 := n4_
     have BK149 := n5_
     have HB := n6_
     clear n0_ n1_ n2_ n3_ n4_ n5_ n6_
     refine zra (n := 15) (S := fun w' => w'.cell? ⟨gb148, 0, none⟩ = some (.int .i64 x149000_1) ∧ w'.cell? ⟨gb148, 1, none⟩ = some (.int .i64 a2_1) ∧ w'.cell? ⟨gb148, 2, none⟩ = some (.int .i64 x149002_1) ∧ w'.cell? ⟨gb148, 3, none⟩ = some (.int .i64 x149003_1) ∧ w'.cell? ⟨gb144, 0, none⟩ = some (.int .i64 a0_0) ∧ w'.cell? ⟨gb144, 1, none⟩ = some (.int .i64 a0_1) ∧ w'.cell? ⟨gb144, 2, none⟩ = some (.int .i64 a0_2) ∧ w'.cell? ⟨gb144, 3, none⟩ = some (.int .i64 a0_3) ∧ w'.cell? ⟨gb145, 0, none⟩ = some (.int .i64 a2_0) ∧ w'.cell? ⟨gb145, 1, none⟩ = some (.int .i64 a2_1) ∧ w'.cell? ⟨gb145, 2, none⟩ = some (.int .i64 a2_2) ∧ w'.cell? ⟨gb145, 3, none⟩ = some (.int .i64 a2_3)) (ds := [14]) #[false, false, false, false, false, false, false, false, false, false, false, false, false, false, false] (by kernel_rfl) rfl rfl ⟨(zh BK148.out 0).trans rfl, (zh BK148.out 1).trans rfl, (zh BK148.out 2).trans rfl, (zh BK148.out 3).trans rfl, (zh BK144.out 0).trans rfl, (zh BK144.out 1).trans rfl, (zh BK144.out 2).trans rfl, (zh BK144.out 3).trans rfl, (zh BK145.out 0).trans rfl, (zh BK145.out 1).trans rfl, (zh BK145.out 2).trans rfl, (zh BK145.out 3).trans rfl⟩ (fun hHeld => ?_); refine zka impl_State_split.tab7 impl_State_split.bits7 (fun HT_ HW_ => ?_)
     generalize w30.drew = w31 at BK144 BK145 BK146 BK147 BK148 BK149 HB hHeld ⊢
     refine zaa (i := 0) (N := some 34) (v := ?_) (a' := ?_) #[true, false, false, false, false, false, false, false, false, false, false, false, false, false, false] rfl rfl (zu HT_.out (by kernel_rfl)) (fun _ _ _ h => h) (Or.inl ⟨by rfl, ?_⟩) ?_ ?_
     rotate_left
     ·intro w'
      go_simp
      with_reducible rfl
     rotate_left
     ·simp only [Act.put, List.setIfInBounds_toArray, List.set_cons_zero, List.set_cons_succ, zv, zw]
      rfl
     refine zaa (i := 1) (N := some 35) (v := ?_) (a' := ?_) #[true, true, false, false, false, false, false, false, false, false, false, false, false, false, false] rfl rfl (zu HT_.out (by kernel_rfl)) (fun _ _ _ h => h) (Or.inl ⟨by rfl, ?_⟩) ?_ ?_
     rotate_left
     ·intro w'
      go_simp
      with_reducible rfl
     rotate_left
     ·simp only [Act.put, List.setIfInBounds_toArray, List.set_cons_zero, List.set_cons_succ, zv, zw]
      rfl
     refine zaa (i := 3) (N := some 37) (v := ?_) (a' := ?_) #[true, true, false, true, false, false, false, false, false, false, false, false, false, false, false] rfl rfl (zu HT_.out (by kernel_rfl)) (fun _ _ _ h => h) (Or.inl ⟨by rfl, ?_⟩) ?_ ?_
     rotate_left
     ·intro w'
      go_simp
      with_reducible rfl
     rotate_left
     ·simp only [Act.put, List.setIfInBounds_toArray, List.set_cons_zero, List.set_cons_succ, zv, zw]
      rfl
     refine zaa (i := 4) (N := some 38) (v := ?_) (a' := ?_) #[true, true, false, true, true, false, false, false, false, false, false, false, false, false, false] rfl rfl (zu HT_.out (by kernel_rfl)) (fun _ _ _ h => h) (Or.inl ⟨by rfl, ?_⟩) ?_ ?_
     rotate_left
     ·intro w'
      go_simp
      with_reducible rfl
     rotate_left
     ·simp only [Act.put, List.setIfInBounds_toArray, List.set_cons_zero, List.set_cons_succ, zv, zw]
      rfl
     refine zaa (i := 5) (N := some 39) (v := ?_) (a' := ?_) #[true, true, false, true, true, true, false, false, false, false, false, false, false, false, false] rfl rfl (zu HT_.out (by kernel_rfl)) (fun _ _ _ h => h) (Or.inl ⟨by rfl, ?_⟩) ?_ ?_
     rotate_left
     ·intro w'
      go_simp
      with_reducible rfl
     rotate_left
     ·simp only [Act.put, List.setIfInBounds_toArray, List.set_cons_zero, List.set_cons_succ, zv, zw]
      rfl
     refine zaa (i := 7) (N := some 41) (v := ?_) (a' := ?_) #[true, true, false, true, true, true, false, true, false, false, false, false, false, false, false] rfl rfl (zu HT_.out (by kernel_rfl)) (fun _ _ _ h => h) (Or.inl ⟨by rfl, ?_⟩) ?_ ?_
     rotate_left
     ·intro w'
      go_simp
      with_reducible rfl
     rotate_left
     ·simp only [Act.put, List.setIfInBounds_toArray, List.set_cons_zero, List.set_cons_succ, zv, zw]
      rfl
     refine zaa (i := 8) (N := some 42) (v := ?_) (a' := ?_) #[true, true, false, true, true, true, false, true, true, false, false, false, false, false, false] rfl rfl (zu HT_.out (by kernel_rfl)) (fun _ _ _ h => h) (Or.inl ⟨by rfl, ?_⟩) ?_ ?_
     rotate_left
     ·intro w'
      go_simp
      with_reducible rfl
     rotate_left
     ·simp only [Act.put, List.setIfInBounds_toArray, List.set_cons_zero, List.set_cons_succ, zv, zw]
      rfl
     refine zaa (i := 9) (N := some 43) (v := ?_) (a' := ?_) #[true, true, false, true, true, true, false, true, true, true, false, false, false, false, false] rfl rfl (zu HT_.out (by kernel_rfl)) (fun _ _ _ h => h) (Or.inl ⟨by rfl, ?_⟩) ?_ ?_
     rotate_left
     ·intro w'
      go_simp
      with_reducible rfl
     rotate_left
     ·simp only [Act.put, List.setIfInBounds_toArray, List.set_cons_zero, List.set_cons_succ, zv, zw]
      rfl
     refine take_ (i := 2) (N := some 36) (v := ?_) (a' := ?_) #[true, true, true, true, true, true, false, true, true, true, false, false, false, false, false] rfl rfl (zea HT_.out HW_.out (by kernel_rfl)) (fun _ _ _ h => h) (Or.inl ⟨by rfl, ?_⟩) hHeld ?_ ?_
     rotate_left
     ·rintro w' ⟨s0, s1, s2, s3, s4, s5, s6, s7, s8, s9, s10, s11⟩
      go_simp
      with_reducible rfl
     rotate_left
     ·simp only [Act.put, List.setIfInBounds_toArray, List.set_cons_zero, List.set_cons_succ, zv, zw]
      rfl
     refine take_ (i := 6) (N := some 40) (v := ?_) (a' := ?_) #[true, true, true, true, true, true, true, true, true, true, false, false, false, false, false] rfl rfl (zea HT_.out HW_.out (by kernel_rfl)) (fun _ _ _ h => h) (Or.inl ⟨by rfl, ?_⟩) hHeld ?_ ?_
     rotate_left
     ·rintro w' ⟨s0, s1, s2, s3, s4, s5, s6, s7, s8, s9, s10, s11⟩
      go_simp
      with_reducible rfl
     rotate_left
     ·simp only [Act.put, List.setIfInBounds_toArray, List.set_cons_zero, List.set_cons_succ, zv, zw]
      rfl
     refine take_ (i := 10) (N := some 44) (v := ?_) (a' := ?_) #[true, true, true, true, true, true, true, true, true, true, true, false, false, false, false] rfl rfl (zea HT_.out HW_.out (by kernel_rfl)) (fun _ _ _ h => h) (Or.inl ⟨by rfl, ?_⟩) hHeld ?_ ?_
     rotate_left
     ·rintro w' ⟨s0, s1, s2, s3, s4, s5, s6, s7, s8, s9, s10, s11⟩
      go_simp
      with_reducible rfl
     rotate_left
     ·simp only [Act.put, List.setIfInBounds_toArray, List.set_cons_zero, List.set_cons_succ, zv, zw]
      rfl
     refine zaa (i := 11) (N := some 45) (v := ?_) (a' := ?_) #[true, true, true, true, true, true, true, true, true, true, true, true, false, false, false] rfl rfl (zu HT_.out (by kernel_rfl)) (fun _ _ _ h => h) (Or.inl ⟨by rfl, ?_⟩) ?_ ?_
     rotate_left
     ·intro w'
      go_simp
      with_reducible rfl
     rotate_left
     ·simp only [Act.put, List.setIfInBounds_toArray, List.set_cons_zero, List.set_cons_succ, zv, zw]
      rfl
     refine zaa (i := 12) (N := some 46) (v := ?_) (a' := ?_) #[true, true, true, true, true, true, true, true, true, true, true, true, true, false, false] rfl rfl (zu HT_.out (by kernel_rfl)) (fun _ _ _ h => h) (Or.inl ⟨by rfl, ?_⟩) ?_ ?_
     rotate_left
     ·intro w'
      go_simp
      with_reducible rfl
     rotate_left
     ·simp only [Act.put, List.setIfInBounds_toArray, List.set_cons_zero, List.set_cons_succ, zv, zw]
      rfl
     refine zaa (i := 13) (N := some 47) (v := ?_) (a' := ?_) #[true, true, true, true, true, true, true, true, true, true, true, true, true, true, false] rfl rfl (zu HT_.out (by kernel_rfl)) (fun _ _ _ h => h) (Or.inl ⟨by rfl, ?_⟩) ?_ ?_
     rotate_left
     ·intro w'
      go_simp
      with_reducible rfl
     rotate_left
     ·simp only [Act.put, List.setIfInBounds_toArray, List.set_cons_zero, List.set_cons_succ, zv, zw]
      rfl
     refine zpb (i := 14) (N := none) #[true, true, true, true, true, true, true, true, true, true, true, true, true, true, true] rfl rfl (zna HT_.out (by kernel_rfl)) (by decide) (fun K hK => ?_)
     have hs32 : w31.cell? ⟨gb148, 1, none⟩ = some (.int .i64 a2_1) := (zh BK148.out 1).trans rfl
     have hfs32 := zj BK148.out 1
     have hns32_0 := NB144_148.out
     have hns32_1 := NB145_148.out
     have hns32_2 := NB146_148.out
     have hns32_3 := NB147_148.out
     have hns32_5 := NB149_148.out
     have hms32_0 := NB148_144.out
     have hms32_1 := NB148_145.out
     have hms32_2 := NB148_146.out
     have hms32_3 := NB148_147.out
     have hms32_5 := NB148_149.out
     refine zza (w1 := ?_) (by rfl) rfl ?_ ?_
     rotate_left
     ·go_simp
      rfl
     refine hK.out _ _ ?_
     clear hK K
     refine zeb (zla HT_.out (by kernel_rfl)) ?_
     try go_wp2
     have n0_ : zg ((w31.setCell ⟨gb148, 1, none⟩ (.int .i64 (wrap64 (a2_1 + (wrap64 (a0_0 - a2_0)))))).heap[gb144]? = some (.cells #[.int .i64 a0_0, .int .i64 a0_1, .int .i64 a0_2, .int .i64 a0_3] 25 (0, 0))) := ⟨by (with_reducible repeat (first | refine ze ?_ _ | refine zf ?_ | refine za ?_ _)); refine zk ?_ NB144_148.out _; (with_reducible repeat (first | refine ze ?_ _ | refine zf ?_ | refine za ?_ _)); exact BK144.out⟩
     have n1_ : zg ((w31.setCell ⟨gb148, 1, none⟩ (.int .i64 (wrap64 (a2_1 + (wrap64 (a0_0 - a2_0)))))).heap[gb145]? = some (.cells #[.int .i64 a2_0, .int .i64 a2_1, .int .i64 a2_2, .int .i64 a2_3] 25 (0, 0))) := ⟨by (with_reducible repeat (first | refine ze ?_ _ | refine zf ?_ | refine za ?_ _)); refine zk ?_ NB145_148.out _; (with_reducible repeat (first | refine ze ?_ _ | refine zf ?_ | refine za ?_ _)); exact BK145.out⟩
     have n2_ : zg ((w31.setCell ⟨gb148, 1, none⟩ (.int .i64 (wrap64 (a2_1 + (wrap64 (a0_0 - a2_0)))))).heap[gb146]? = some (.cells #[.int .i64 0, .int .i64 0, .int .i64 0, .int .i64 0] 25 (0, 0))) := ⟨by (with_reducible repeat (first | refine ze ?_ _ | refine zf ?_ | refine za ?_ _)); refine zk ?_ NB146_148.out _; (with_reducible repeat (first | refine ze ?_ _ | refine zf ?_ | refine za ?_ _)); exact BK146.out⟩
     have n3_ : zg ((w31.setCell ⟨gb148, 1, none⟩ (.int .i64 (wrap64 (a2_1 + (wrap64 (a0_0 - a2_0)))))).heap[gb147]? = some (.cells #[.int .i64 0, .int .i64 0, .int .i64 0, .int .i64 0] 25 (0, 0))) := ⟨by (with_reducible repeat (first | refine ze ?_ _ | refine zf ?_ | refine za ?_ _)); refine zk ?_ NB147_148.out _; (with_reducible repeat (first | refine ze ?_ _ | refine zf ?_ | refine za ?_ _)); exact BK147.out⟩
     have n4_ : zg ((w31.setCell ⟨gb148, 1, none⟩ (.int .i64 (wrap64 (a2_1 + (wrap64 (a0_0 - a2_0)))))).heap[gb148]? = some (.cells #[.int .i64 x149000_1, .int .i64 (wrap64 (a2_1 + (wrap64 (a0_0 - a2_0)))), .int .i64 x149002_1, .int .i64 x149003_1] 25 (0, 0))) := ⟨by (with_reducible repeat (first | refine ze ?_ _ | refine zf ?_ | refine za ?_ _)); refine zy (cs := #[.int .i64 x149000_1, .int .i64 a2_1, .int .i64 x149002_1, .int .i64 x149003_1]) ?_ 1 _ rfl; (with_reducible repeat (first | refine ze ?_ _ | refine zf ?_ | refine za ?_ _)); exact BK148.out⟩
     have n5_ : zg ((w31.setCell ⟨gb148, 1, none⟩ (.int .i64 (wrap64 (a2_1 + (wrap64 (a0_0 - a2_0)))))).heap[gb149]? = some (.cells #[.int .i64 x150000_1, .int .i64 (wrap64 (a0_1 - a2_1)), .int .i64 x150002_1, .int .i64 x150003_1] 25 (0, 0))) := ⟨by (with_reducible repeat (first | refine ze ?_ _ | refine zf ?_ | refine za ?_ _)); refine zk ?_ NB149_148.out _; (with_reducible repeat (first | refine ze ?_ _ | refine zf ?_ | refine za ?_ _)); exact BK149.out⟩
     have n6_ : zg (Below w.heap.size w (w31.setCell ⟨gb148, 1, none⟩ (.int .i64 (wrap64 (a2_1 + (wrap64 (a0_0 - a2_0))))))) := ⟨sB⟩
     (try clear BK144)
     (try clear BK145)
     (try clear BK146)
     (try clear BK147)
     (try clear BK148)
     (try clear BK149)
     (try clear HB)
     generalize (w31.setCell ⟨gb148, 1, none⟩ (.int .i64 (wrap64 (a2_1 + (wrap64 (a0_0 - a2_0)))))) = w33 at n0_ n1_ n2_ n3_ n4_ n5_ n6_ ⊢
     have BK144 := n0_
     have BK145 := n1_
     have BK146 := n2_
     have BK147 := n3_
     have BK148 := n4_
     have BK149 := n5_
     have HB := n6_
     clear n0_ n1_ n2_ n3_ n4_ n5_ n6_
     have n0_ := zg.mk (zf BK144.out)
     have n1_ := zg.mk (zf BK145.out)
     have n2_ := zg.mk (zf BK146.out)
     have n3_ := zg.mk (zf BK147.out)
     have n4_ := zg.mk (zf BK148.out)
     have n5_ := zg.mk (zf BK149.out)
     have n6_ := zg.mk (zo HB.out)
     clear BK144
     clear BK145
     clear BK146
     clear BK147
     clear BK148
     clear BK149
     clear HB
     have BK144 := n0_
     have BK145 := n1_
     have BK146 := n2_
     have BK147 := n3_
     have BK148 := n4_
     have BK149 := n5_
     have HB := n6_
     clear n0_ n1_ n2_ n3_ n4_ n5_ n6_
     refine zra (n := 10) (S := fun w' => w'.cell? ⟨gb149, 0, none⟩ = some (.int .i64 x150000_1) ∧ w'.cell? ⟨gb149, 1, none⟩ = some (.int .i64 (wrap64 (a0_1 - a2_1))) ∧ w'.cell? ⟨gb149, 2, none⟩ = some (.int .i64 x150002_1) ∧ w'.cell? ⟨gb149, 3, none⟩ = some (.int .i64 x150003_1) ∧ w'.cell? ⟨gb145, 0, none⟩ = some (.int .i64 a2_0) ∧ w'.cell? ⟨gb145, 1, none⟩ = some (.int .i64 a2_1) ∧ w'.cell? ⟨gb145, 2, none⟩ = some (.int .i64 a2_2) ∧ w'.cell? ⟨gb145, 3, none⟩ = some (.int .i64 a2_3)) (ds := [9]) #[false, false, false, false, false, false, false, false, false, false] (by kernel_rfl) rfl rfl ⟨(zh BK149.out 0).trans rfl, (zh BK149.out 1).trans rfl, (zh BK149.out 2).trans rfl, (zh BK149.out 3).trans rfl, (zh BK145.out 0).trans rfl, (zh BK145.out 1).trans rfl, (zh BK145.out 2).trans rfl, (zh BK145.out 3).trans rfl⟩ (fun hHeld => ?_); refine zka impl_State_split.tab8 impl_State_split.bits8 (fun HT_ HW_ => ?_)
     generalize w33.drew = w34 at BK144 BK145 BK146 BK147 BK148 BK149 HB hHeld ⊢
     refine zaa (i := 0) (N := some 48) (v := ?_) (a' := ?_) #[true, false, false, false, false, false, false, false, false, false] rfl rfl (zu HT_.out (by kernel_rfl)) (fun _ _ _ h => h) (Or.inl ⟨by rfl, ?_⟩) ?_ ?_
     rotate_left
     ·intro w'
      go_simp
      with_reducible rfl
     rotate_left
     ·simp only [Act.put, List.setIfInBounds_toArray, List.set_cons_zero, List.set_cons_succ, zv, zw]
      rfl
     refine zaa (i := 1) (N := some 49) (v := ?_) (a' := ?_) #[true, true, false, false, false, false, false, false, false, false] rfl rfl (zu HT_.out (by kernel_rfl)) (fun _ _ _ h => h) (Or.inl ⟨by rfl, ?_⟩) ?_ ?_
     rotate_left
     ·intro w'
      go_simp
      with_reducible rfl
     rotate_left
     ·simp only [Act.put, List.setIfInBounds_toArray, List.set_cons_zero, List.set_cons_succ, zv, zw]
      rfl
     refine zaa (i := 3) (N := some 51) (v := ?_) (a' := ?_) #[true, true, false, true, false, false, false, false, false, false] rfl rfl (zu HT_.out (by kernel_rfl)) (fun _ _ _ h => h) (Or.inl ⟨by rfl, ?_⟩) ?_ ?_
     rotate_left
     ·intro w'
      go_simp
      with_reducible rfl
     rotate_left
     ·simp only [Act.put, List.setIfInBounds_toArray, List.set_cons_zero, List.set_cons_succ, zv, zw]
      rfl
     refine zaa (i := 4) (N := some 52) (v := ?_) (a' := ?_) #[true, true, false, true, true, false, false, false, false, false] rfl rfl (zu HT_.out (by kernel_rfl)) (fun _ _ _ h => h) (Or.inl ⟨by rfl, ?_⟩) ?_ ?_
     rotate_left
     ·intro w'
      go_simp
      with_reducible rfl
     rotate_left
     ·simp only [Act.put, List.setIfInBounds_toArray, List.set_cons_zero, List.set_cons_succ, zv, zw]
      rfl
     refine zaa (i := 5) (N := some 53) (v := ?_) (a' := ?_) #[true, true, false, true, true, true, false, false, false, false] rfl rfl (zu HT_.out (by kernel_rfl)) (fun _ _ _ h => h) (Or.inl ⟨by rfl, ?_⟩) ?_ ?_
     rotate_left
     ·intro w'
      go_simp
      with_reducible rfl
     rotate_left
     ·simp only [Act.put, List.setIfInBounds_toArray, List.set_cons_zero, List.set_cons_succ, zv, zw]
      rfl
     refine take_ (i := 2) (N := some 50) (v := ?_) (a' := ?_) #[true, true, true, true, true, true, false, false, false, false] rfl rfl (zea HT_.out HW_.out (by kernel_rfl)) (fun _ _ _ h => h) (Or.inl ⟨by rfl, ?_⟩) hHeld ?_ ?_
     rotate_left
     ·rintro w' ⟨s0, s1, s2, s3, s4, s5, s6, s7⟩
      go_simp
      with_reducible rfl
     rotate_left
     ·simp only [Act.put, List.setIfInBounds_toArray, List.set_cons_zero, List.set_cons_succ, zv, zw]
      rfl
     refine take_ (i := 6) (N := some 54) (v := ?_) (a' := ?_) #[true, true, true, true, true, true, true, false, false, false] rfl rfl (zea HT_.out HW_.out (by kernel_rfl)) (fun _ _ _ h => h) (Or.inl ⟨by rfl, ?_⟩) hHeld ?_ ?_
     rotate_left
     ·rintro w' ⟨s0, s1, s2, s3, s4, s5, s6, s7⟩
      go_simp
      with_reducible rfl
     rotate_left
     ·simp only [Act.put, List.setIfInBounds_toArray, List.set_cons_zero, List.set_cons_succ, zv, zw]
      rfl
     refine zaa (i := 7) (N := some 55) (v := ?_) (a' := ?_) #[true, true, true, true, true, true, true, true, false, false] rfl rfl (zu HT_.out (by kernel_rfl)) (fun _ _ _ h => h) (Or.inl ⟨by rfl, ?_⟩) ?_ ?_
     rotate_left
     ·intro w'
      go_simp
      with_reducible rfl
     rotate_left
     ·simp only [Act.put, List.setIfInBounds_toArray, List.set_cons_zero, List.set_cons_succ, zv, zw]
      rfl
     refine zaa (i := 8) (N := some 56) (v := ?_) (a' := ?_) #[true, true, true, true, true, true, true, true, true, false] rfl rfl (zu HT_.out (by kernel_rfl)) (fun _ _ _ h => h) (Or.inl ⟨by rfl, ?_⟩) ?_ ?_
     rotate_left
     ·intro w'
      go_simp
      with_reducible rfl
     rotate_left
     ·simp only [Act.put, List.setIfInBounds_toArray, List.set_cons_zero, List.set_cons_succ, zv, zw]
      rfl
     refine zpb (i := 9) (N := none) #[true, true, true, true, true, true, true, true, true, true] rfl rfl (zna HT_.out (by kernel_rfl)) (by decide) (fun K hK => ?_)
     have hs35 : w34.cell? ⟨gb149, 1, none⟩ = some (.int .i64 (wrap64 (a0_1 - a2_1))) := (zh BK149.out 1).trans rfl
     have hfs35 := zj BK149.out 1
     have hns35_0 := NB144_149.out
     have hns35_1 := NB145_149.out
     have hns35_2 := NB146_149.out
     have hns35_3 := NB147_149.out
     have hns35_4 := NB148_149.out
     have hms35_0 := NB149_144.out
     have hms35_1 := NB149_145.out
     have hms35_2 := NB149_146.out
     have hms35_3 := NB149_147.out
     have hms35_4 := NB149_148.out
     refine zza (w1 := ?_) (by rfl) rfl ?_ ?_
     rotate_left
     ·go_simp
      rfl
     refine hK.out _ _ ?_
     clear hK K
     refine zeb (zla HT_.out (by kernel_rfl)) ?_
     try go_wp2
     go_roundg k1
     case measure => have := HK1.out; omega
     case rel => exact ⟨(1 + 1), (x149000_1), (wrap64 (a2_1 + (wrap64 (a0_0 - a2_0)))), (x149002_1), (x149003_1), (x150000_1), (wrap64 ((wrap64 (a0_1 - a2_1)) + a2_0)), (x150002_1), (x150003_1), (by first | rfl | (simp; done) | (simp [*]; done)), H', ⟨by have := HK1.out; omega⟩, ⟨by (with_reducible repeat (first | refine ze ?_ _ | refine zf ?_ | refine za ?_ _)); refine zk ?_ NB144_149.out _; (with_reducible repeat (first | refine ze ?_ _ | refine zf ?_ | refine za ?_ _)); exact BK144.out⟩, ⟨by (with_reducible repeat (first | refine ze ?_ _ | refine zf ?_ | refine za ?_ _)); refine zk ?_ NB145_149.out _; (with_reducible repeat (first | refine ze ?_ _ | refine zf ?_ | refine za ?_ _)); exact BK145.out⟩, ⟨by (with_reducible repeat (first | refine ze ?_ _ | refine zf ?_ | refine za ?_ _)); refine zk ?_ NB146_149.out _; (with_reducible repeat (first | refine ze ?_ _ | refine zf ?_ | refine za ?_ _)); exact BK146.out⟩, ⟨by (with_reducible repeat (first | refine ze ?_ _ | refine zf ?_ | refine za ?_ _)); refine zk ?_ NB147_149.out _; (with_reducible repeat (first | refine ze ?_ _ | refine zf ?_ | refine za ?_ _)); exact BK147.out⟩, ⟨by (with_reducible repeat (first | refine ze ?_ _ | refine zf ?_ | refine za ?_ _)); refine zk ?_ NB148_149.out _; (with_reducible repeat (first | refine ze ?_ _ | refine zf ?_ | refine za ?_ _)); exact BK148.out⟩, ⟨by (with_reducible repeat (first | refine ze ?_ _ | refine zf ?_ | refine za ?_ _)); refine zy (cs := #[.int .i64 x150000_1, .int .i64 (wrap64 (a0_1 - a2_1)), .int .i64 x150002_1, .int .i64 x150003_1]) ?_ 1 _ rfl; (with_reducible repeat (first | refine ze ?_ _ | refine zf ?_ | refine za ?_ _)); exact BK149.out⟩, ⟨sB⟩⟩
    rw [if_neg c26] at H
    clear c26
    by_cases c36 : x15_1 = 2
    ·rw [if_pos c36] at H
     subst c36
     have H' := zg.mk H
     clear H
     try go_wp2
     have n0_ := zg.mk (zf BK144.out)
     have n1_ := zg.mk (zf BK145.out)
     have n2_ := zg.mk (zf BK146.out)
     have n3_ := zg.mk (zf BK147.out)
     have n4_ := zg.mk (zf BK148.out)
     have n5_ := zg.mk (zf BK149.out)
     have n6_ := zg.mk (zo HB.out)
     clear BK144
     clear BK145
     clear BK146
     clear BK147
     clear BK148
     clear BK149
     clear HB
     have BK144 := n0_
     have BK145 := n1_
     have BK146 := n2_
     have BK147 := n3_
     have BK148 := n4_
     have BK149 := n5_
     have HB := n6_
     clear n0_ n1_ n2_ n3_ n4_ n5_ n6_
     refine zra (n := 16) (S := fun w' => w'.cell? ⟨gb145, 0, none⟩ = some (.int .i64 a2_0) ∧ w'.cell? ⟨gb145, 1, none⟩ = some (.int .i64 a2_1) ∧ w'.cell? ⟨gb145, 2, none⟩ = some (.int .i64 a2_2) ∧ w'.cell? ⟨gb145, 3, none⟩ = some (.int .i64 a2_3) ∧ w'.cell? ⟨gb144, 0, none⟩ = some (.int .i64 a0_0) ∧ w'.cell? ⟨gb144, 1, none⟩ = some (.int .i64 a0_1) ∧ w'.cell? ⟨gb144, 2, none⟩ = some (.int .i64 a0_2) ∧ w'.cell? ⟨gb144, 3, none⟩ = some (.int .i64 a0_3)) (ds := []) #[false, false, false, false, false, false, false, false, false, false, false, false, false, false, false, false] (by kernel_rfl) rfl rfl ⟨(zh BK145.out 0).trans rfl, (zh BK145.out 1).trans rfl, (zh BK145.out 2).trans rfl, (zh BK145.out 3).trans rfl, (zh BK144.out 0).trans rfl, (zh BK144.out 1).trans rfl, (zh BK144.out 2).trans rfl, (zh BK144.out 3).trans rfl⟩ (fun hHeld => ?_); refine zka impl_State_split.tab5 impl_State_split.bits5 (fun HT_ HW_ => ?_)
     generalize wr.drew = w37 at BK144 BK145 BK146 BK147 BK148 BK149 HB hHeld ⊢
     refine zaa (i := 0) (N := some 18) (v := ?_) (a' := ?_) #[true, false, false, false, false, false, false, false, false, false, false, false, false, false, false, false] rfl rfl (zu HT_.out (by kernel_rfl)) (fun _ _ _ h => h) (Or.inl ⟨by rfl, ?_⟩) ?_ ?_
     rotate_left
     ·intro w'
      go_simp
      with_reducible rfl
     rotate_left
     ·simp only [Act.put, List.setIfInBounds_toArray, List.set_cons_zero, List.set_cons_succ, zv, zw]
      rfl
     refine zaa (i := 1) (N := some 19) (v := ?_) (a' := ?_) #[true, true, false, false, false, false, false, false, false, false, false, false, false, false, false, false] rfl rfl (zu HT_.out (by kernel_rfl)) (fun _ _ _ h => h) (Or.inl ⟨by rfl, ?_⟩) ?_ ?_
     rotate_left
     ·intro w'
      go_simp
      with_reducible rfl
     rotate_left
     ·simp only [Act.put, List.setIfInBounds_toArray, List.set_cons_zero, List.set_cons_succ, zv, zw]
      rfl
     refine zaa (i := 2) (N := some 20) (v := ?_) (a' := ?_) #[true, true, true, false, false, false, false, false, false, false, false, false, false, false, false, false] rfl rfl (zu HT_.out (by kernel_rfl)) (fun _ _ _ h => h) (Or.inl ⟨by rfl, ?_⟩) ?_ ?_
     rotate_left
     ·intro w'
      go_simp
      with_reducible rfl
     rotate_left
     ·simp only [Act.put, List.setIfInBounds_toArray, List.set_cons_zero, List.set_cons_succ, zv, zw]
      rfl
     refine zaa (i := 3) (N := some 21) (v := ?_) (a' := ?_) #[true, true, true, true, false, false, false, false, false, false, false, false, false, false, false, false] rfl rfl (zu HT_.out (by kernel_rfl)) (fun _ _ _ h => h) (Or.inl ⟨by rfl, ?_⟩) ?_ ?_
     rotate_left
     ·intro w'
      go_simp
      with_reducible rfl
     rotate_left
     ·simp only [Act.put, List.setIfInBounds_toArray, List.set_cons_zero, List.set_cons_succ, zv, zw]
      rfl
     refine zaa (i := 5) (N := some 23) (v := ?_) (a' := ?_) #[true, true, true, true, false, true, false, false, false, false, false, false, false, false, false, false] rfl rfl (zu HT_.out (by kernel_rfl)) (fun _ _ _ h => h) (Or.inl ⟨by rfl, ?_⟩) ?_ ?_
     rotate_left
     ·intro w'
      go_simp
      with_reducible rfl
     rotate_left
     ·simp only [Act.put, List.setIfInBounds_toArray, List.set_cons_zero, List.set_cons_succ, zv, zw]
      rfl
     refine zaa (i := 6) (N := some 24) (v := ?_) (a' := ?_) #[true, true, true, true, false, true, true, false, false, false, false, false, false, false, false, false] rfl rfl (zu HT_.out (by kernel_rfl)) (fun _ _ _ h => h) (Or.inl ⟨by rfl, ?_⟩) ?_ ?_
     rotate_left
     ·intro w'
      go_simp
      with_reducible rfl
     rotate_left
     ·simp only [Act.put, List.setIfInBounds_toArray, List.set_cons_zero, List.set_cons_succ, zv, zw]
      rfl
     refine zaa (i := 8) (N := some 26) (v := ?_) (a' := ?_) #[true, true, true, true, false, true, true, false, true, false, false, false, false, false, false, false] rfl rfl (zu HT_.out (by kernel_rfl)) (fun _ _ _ h => h) (Or.inl ⟨by rfl, ?_⟩) ?_ ?_
     rotate_left
     ·intro w'
      go_simp
      with_reducible rfl
     rotate_left
     ·simp only [Act.put, List.setIfInBounds_toArray, List.set_cons_zero, List.set_cons_succ, zv, zw]
      rfl
     refine zaa (i := 9) (N := some 27) (v := ?_) (a' := ?_) #[true, true, true, true, false, true, true, false, true, true, false, false, false, false, false, false] rfl rfl (zu HT_.out (by kernel_rfl)) (fun _ _ _ h => h) (Or.inl ⟨by rfl, ?_⟩) ?_ ?_
     rotate_left
     ·intro w'
      go_simp
      with_reducible rfl
     rotate_left
     ·simp only [Act.put, List.setIfInBounds_toArray, List.set_cons_zero, List.set_cons_succ, zv, zw]
      rfl
     refine take_ (i := 4) (N := some 22) (v := ?_) (a' := ?_) #[true, true, true, true, true, true, true, false, true, true, false, false, false, false, false, false] rfl rfl (zea HT_.out HW_.out (by kernel_rfl)) (fun _ _ _ h => h) (Or.inl ⟨by rfl, ?_⟩) hHeld ?_ ?_
     rotate_left
     ·rintro w' ⟨s0, s1, s2, s3, s4, s5, s6, s7⟩
      go_simp
      with_reducible rfl
     rotate_left
     ·simp only [Act.put, List.setIfInBounds_toArray, List.set_cons_zero, List.set_cons_succ, zv, zw]
      rfl
     refine zaa (i := 12) (N := some 30) (v := ?_) (a' := ?_) #[true, true, true, true, true, true, true, false, true, true, false, false, true, false, false, false] rfl rfl (zu HT_.out (by kernel_rfl)) (fun _ _ _ h => h) (Or.inl ⟨by rfl, ?_⟩) ?_ ?_
     rotate_left
     ·intro w'
      go_simp
      with_reducible rfl
     rotate_left
     ·simp only [Act.put, List.setIfInBounds_toArray, List.set_cons_zero, List.set_cons_succ, zv, zw]
      rfl
     refine take_ (i := 7) (N := some 25) (v := ?_) (a' := ?_) #[true, true, true, true, true, true, true, true, true, true, false, false, true, false, false, false] rfl rfl (zea HT_.out HW_.out (by kernel_rfl)) (fun _ _ _ h => h) (Or.inl ⟨by rfl, ?_⟩) hHeld ?_ ?_
     rotate_left
     ·rintro w' ⟨s0, s1, s2, s3, s4, s5, s6, s7⟩
      go_simp
      with_reducible rfl
     rotate_left
     ·simp only [Act.put, List.setIfInBounds_toArray, List.set_cons_zero, List.set_cons_succ, zv, zw]
      rfl
     refine take_ (i := 10) (N := some 28) (v := ?_) (a' := ?_) #[true, true, true, true, true, true, true, true, true, true, true, false, true, false, false, false] rfl rfl (zea HT_.out HW_.out (by kernel_rfl)) (fun _ _ _ h => h) (Or.inl ⟨by rfl, ?_⟩) hHeld ?_ ?_
     rotate_left
     ·rintro w' ⟨s0, s1, s2, s3, s4, s5, s6, s7⟩
      go_simp
      with_reducible rfl
     rotate_left
     ·simp only [Act.put, List.setIfInBounds_toArray, List.set_cons_zero, List.set_cons_succ, zv, zw]
      rfl
     refine zaa (i := 11) (N := some 29) (v := ?_) (a' := ?_) #[true, true, true, true, true, true, true, true, true, true, true, true, true, false, false, false] rfl rfl (zu HT_.out (by kernel_rfl)) (fun _ _ _ h => h) (Or.inl ⟨by rfl, ?_⟩) ?_ ?_
     rotate_left
     ·intro w'
      go_simp
      with_reducible rfl
     rotate_left
     ·simp only [Act.put, List.setIfInBounds_toArray, List.set_cons_zero, List.set_cons_succ, zv, zw]
      rfl
     refine one_ (i := 13) (N := none) #[true, true, true, true, true, true, true, true, true, true, true, true, true, true, false, false] rfl rfl (zna HT_.out (by kernel_rfl)) (by decide) (fun K hK => ?_)
     have hs38 : w37.cell? ⟨gb148, 2, none⟩ = some (.int .i64 x149002_1) := (zh BK148.out 2).trans rfl
     have hfs38 := zj BK148.out 2
     have hns38_0 := NB144_148.out
     have hns38_1 := NB145_148.out
     have hns38_2 := NB146_148.out
     have hns38_3 := NB147_148.out
     have hns38_5 := NB149_148.out
     have hms38_0 := NB148_144.out
     have hms38_1 := NB148_145.out
     have hms38_2 := NB148_146.out
     have hms38_3 := NB148_147.out
     have hms38_5 := NB148_149.out
     refine zza (w1 := ?_) (by rfl) rfl ?_ ?_
     rotate_left
     ·go_simp
      rfl
     refine hK.out _ _ ⟨((zp (p := ⟨gb148, _, none⟩) NB145_148.out _).trans (hHeld.1)), ((zp (p := ⟨gb148, _, none⟩) NB145_148.out _).trans (hHeld.2.1)), ((zp (p := ⟨gb148, _, none⟩) NB145_148.out _).trans (hHeld.2.2.1)), ((zp (p := ⟨gb148, _, none⟩) NB145_148.out _).trans (hHeld.2.2.2.1)), ((zp (p := ⟨gb148, _, none⟩) NB144_148.out _).trans (hHeld.2.2.2.2.1)), ((zp (p := ⟨gb148, _, none⟩) NB144_148.out _).trans (hHeld.2.2.2.2.2.1)), ((zp (p := ⟨gb148, _, none⟩) NB144_148.out _).trans (hHeld.2.2.2.2.2.2.1)), ((zp (p := ⟨gb148, _, none⟩) NB144_148.out _).trans (hHeld.2.2.2.2.2.2.2))⟩ (fun hHeld => ?_)
     clear hK K
     refine zaa (i := 14) (N := some 31) (v := ?_) (a' := ?_) #[true, true, true, true, true, true, true, true, true, true, true, true, true, true, true, false] rfl rfl (zu HT_.out (by kernel_rfl)) (fun _ _ _ h => h) (Or.inl ⟨by rfl, ?_⟩) ?_ ?_
     rotate_left
     ·intro w'
      go_simp
      with_reducible rfl
     rotate_left
     ·simp only [Act.put, List.setIfInBounds_toArray, List.set_cons_zero, List.set_cons_succ, zv, zw]
      rfl
     refine one_ (i := 15) (N := none) #[true, true, true, true, true, true, true, true, true, true, true, true, true, true, true, true] rfl rfl (zna HT_.out (by kernel_rfl)) (by decide) (fun K hK => ?_)
     have hs39 : w37.cell? ⟨gb149, 2, none⟩ = some (.int .i64 x150002_1) := (zh BK149.out 2).trans rfl
     have hfs39 := zj BK149.out 2
     have hns39_0 := NB144_149.out
     have hns39_1 := NB145_149.out
     have hns39_2 := NB146_149.out
     have hns39_3 := NB147_149.out
     have hns39_4 := NB148_149.out
     have hms39_0 := NB149_144.out
     have hms39_1 := NB149_145.out
     have hms39_2 := NB149_146.out
     have hms39_3 := NB149_147.out
     have hms39_4 := NB149_148.out
     refine zza (w1 := ?_) (by rfl) rfl ?_ ?_
     rotate_left
     ·go_simp
      rfl
     refine hK.out _ _ ⟨((zp (p := ⟨gb149, _, none⟩) NB145_149.out _).trans (hHeld.1)), ((zp (p := ⟨gb149, _, none⟩) NB145_149.out _).trans (hHeld.2.1)), ((zp (p := ⟨gb149, _, none⟩) NB145_149.out _).trans (hHeld.2.2.1)), ((zp (p := ⟨gb149, _, none⟩) NB145_149.out _).trans (hHeld.2.2.2.1)), ((zp (p := ⟨gb149, _, none⟩) NB144_149.out _).trans (hHeld.2.2.2.2.1)), ((zp (p := ⟨gb149, _, none⟩) NB144_149.out _).trans (hHeld.2.2.2.2.2.1)), ((zp (p := ⟨gb149, _, none⟩) NB144_149.out _).trans (hHeld.2.2.2.2.2.2.1)), ((zp (p := ⟨gb149, _, none⟩) NB144_149.out _).trans (hHeld.2.2.2.2.2.2.2))⟩ (fun hHeld => ?_)
     clear hK K
     refine zeb (zla HT_.out (by kernel_rfl)) ?_
     try go_wp2
     have n0_ : zg (((w37.setCell ⟨gb148, 2, none⟩ (.int .i64 a2_2)).setCell ⟨gb149, 2, none⟩ (.int .i64 (wrap64 (a0_2 - a2_2)))).heap[gb144]? = some (.cells #[.int .i64 a0_0, .int .i64 a0_1, .int .i64 a0_2, .int .i64 a0_3] 25 (0, 0))) := ⟨by (with_reducible repeat (first | refine ze ?_ _ | refine zf ?_ | refine za ?_ _)); refine zk ?_ NB144_149.out _; (with_reducible repeat (first | refine ze ?_ _ | refine zf ?_ | refine za ?_ _)); refine zk ?_ NB144_148.out _; (with_reducible repeat (first | refine ze ?_ _ | refine zf ?_ | refine za ?_ _)); exact BK144.out⟩
     have n1_ : zg (((w37.setCell ⟨gb148, 2, none⟩ (.int .i64 a2_2)).setCell ⟨gb149, 2, none⟩ (.int .i64 (wrap64 (a0_2 - a2_2)))).heap[gb145]? = some (.cells #[.int .i64 a2_0, .int .i64 a2_1, .int .i64 a2_2, .int .i64 a2_3] 25 (0, 0))) := ⟨by (with_reducible repeat (first | refine ze ?_ _ | refine zf ?_ | refine za ?_ _)); refine zk ?_ NB145_149.out _; (with_reducible repeat (first | refine ze ?_ _ | refine zf ?_ | refine za ?_ _)); refine zk ?_ NB145_148.out _; (with_reducible repeat (first | refine ze ?_ _ | refine zf ?_ | refine za ?_ _)); exact BK145.out⟩
     have n2_ : zg (((w37.setCell ⟨gb148, 2, none⟩ (.int .i64 a2_2)).setCell ⟨gb149, 2, none⟩ (.int .i64 (wrap64 (a0_2 - a2_2)))).heap[gb146]? = some (.cells #[.int .i64 0, .int .i64 0, .int .i64 0, .int .i64 0] 25 (0, 0))) := ⟨by (with_reducible repeat (first | refine ze ?_ _ | refine zf ?_ | refine za ?_ _)); refine zk ?_ NB146_149.out _; (with_reducible repeat (first | refine ze ?_ _ | refine zf ?_ | refine za ?_ _)); refine zk ?_ NB146_148.out _; (with_reducible repeat (first | refine ze ?_ _ | refine zf ?_ | refine za ?_ _)); exact BK146.out⟩
     have n3_ : zg (((w37.setCell ⟨gb148, 2, none⟩ (.int .i64 a2_2)).setCell ⟨gb149, 2, none⟩ (.int .i64 (wrap64 (a0_2 - a2_2)))).heap[gb147]? = some (.cells #[.int .i64 0, .int .i64 0, .int .i64 0, .int .i64 0] 25 (0, 0))) := ⟨by (with_reducible repeat (first | refine ze ?_ _ | refine zf ?_ | refine za ?_ _)); refine zk ?_ NB147_149.out _; (with_reducible repeat (first | refine ze ?_ _ | refine zf ?_ | refine za ?_ _)); refine zk ?_ NB147_148.out _; (with_reducible repeat (first | refine ze ?_ _ | refine zf ?_ | refine za ?_ _)); exact BK147.out⟩
     have n4_ : zg (((w37.setCell ⟨gb148, 2, none⟩ (.int .i64 a2_2)).setCell ⟨gb149, 2, none⟩ (.int .i64 (wrap64 (a0_2 - a2_2)))).heap[gb148]? = some (.cells #[.int .i64 x149000_1, .int .i64 x149001_1, .int .i64 a2_2, .int .i64 x149003_1] 25 (0, 0))) := ⟨by (with_reducible repeat (first | refine ze ?_ _ | refine zf ?_ | refine za ?_ _)); refine zk ?_ NB148_149.out _; (with_reducible repeat (first | refine ze ?_ _ | refine zf ?_ | refine za ?_ _)); refine zy (cs := #[.int .i64 x149000_1, .int .i64 x149001_1, .int .i64 x149002_1, .int .i64 x149003_1]) ?_ 2 _ rfl; (with_reducible repeat (first | refine ze ?_ _ | refine zf ?_ | refine za ?_ _)); exact BK148.out⟩
     have n5_ : zg (((w37.setCell ⟨gb148, 2, none⟩ (.int .i64 a2_2)).setCell ⟨gb149, 2, none⟩ (.int .i64 (wrap64 (a0_2 - a2_2)))).heap[gb149]? = some (.cells #[.int .i64 x150000_1, .int .i64 x150001_1, .int .i64 (wrap64 (a0_2 - a2_2)), .int .i64 x150003_1] 25 (0, 0))) := ⟨by (with_reducible repeat (first | refine ze ?_ _ | refine zf ?_ | refine za ?_ _)); refine zy (cs := #[.int .i64 x150000_1, .int .i64 x150001_1, .int .i64 x150002_1, .int .i64 x150003_1]) ?_ 2 _ rfl; (with_reducible repeat (first | refine ze ?_ _ | refine zf ?_ | refine za ?_ _)); refine zk ?_ NB149_148.out _; (with_reducible repeat (first | refine ze ?_ _ | refine zf ?_ | refine za ?_ _)); exact BK149.out⟩
     have n6_ : zg (Below w.heap.size w ((w37.setCell ⟨gb148, 2, none⟩ (.int .i64 a2_2)).setCell ⟨gb149, 2, none⟩ (.int .i64 (wrap64 (a0_2 - a2_2))))) := ⟨sB⟩
     (try clear BK144)
     (try clear BK145)
     (try clear BK146)
     (try clear BK147)
     (try clear BK148)
     (try clear BK149)
     (try clear HB)
     generalize ((w37.setCell ⟨gb148, 2, none⟩ (.int .i64 a2_2)).setCell ⟨gb149, 2, none⟩ (.int .i64 (wrap64 (a0_2 - a2_2)))) = w40 at n0_ n1_ n2_ n3_ n4_ n5_ n6_ ⊢
     have BK144 := n0_
     have BK145 := n1_
     have BK146 := n2_
     have BK147 := n3_
     have BK148 := n4_
     have BK149 := n5_
     have HB := n6_
     clear n0_ n1_ n2_ n3_ n4_ n5_ n6_
     have n0_ := zg.mk (zf BK144.out)
     have n1_ := zg.mk (zf BK145.out)
     have n2_ := zg.mk (zf BK146.out)
     have n3_ := zg.mk (zf BK147.out)
     have n4_ := zg.mk (zf BK148.out)
     have n5_ := zg.mk (zf BK149.out)
     have n6_ := zg.mk (zo HB.out)
     clear BK144
     clear BK145
     clear BK146
     clear BK147
     clear BK148
     clear BK149
     clear HB
     have BK144 := n0_
     have BK145 := n1_
     have BK146 := n2_
     have BK147 := n3_
     have BK148 := n4_
     have BK149 := n5_
     have HB := n6_
     clear n0_ n1_ n2_ n3_ n4_ n5_ n6_
     refine zra (n := 15) (S := fun w' => w'.cell? ⟨gb148, 0, none⟩ = some (.int .i64 x149000_1) ∧ w'.cell? ⟨gb148, 1, none⟩ = some (.int .i64 x149001_1) ∧ w'.cell? ⟨gb148, 2, none⟩ = some (.int .i64 a2_2) ∧ w'.cell? ⟨gb148, 3, none⟩ = some (.int .i64 x149003_1) ∧ w'.cell? ⟨gb144, 0, none⟩ = some (.int .i64 a0_0) ∧ w'.cell? ⟨gb144, 1, none⟩ = some (.int .i64 a0_1) ∧ w'.cell? ⟨gb144, 2, none⟩ = some (.int .i64 a0_2) ∧ w'.cell? ⟨gb144, 3, none⟩ = some (.int .i64 a0_3) ∧ w'.cell? ⟨gb145, 0, none⟩ = some (.int .i64 a2_0) ∧ w'.cell? ⟨gb145, 1, none⟩ = some (.int .i64 a2_1) ∧ w'.cell? ⟨gb145, 2, none⟩ = some (.int .i64 a2_2) ∧ w'.cell? ⟨gb145, 3, none⟩ = some (.int .i64 a2_3)) (ds := [14]) #[false, false, false, false, false, false, false, false, false, false, false, false, false, false, false] (by kernel_rfl) rfl rfl ⟨(zh BK148.out 0).trans rfl, (zh BK148.out 1).trans rfl, (zh BK148.out 2).trans rfl, (zh BK148.out 3).trans rfl, (zh BK144.out 0).trans rfl, (zh BK144.out 1).trans rfl, (zh BK144.out 2).trans rfl, (zh BK144.out 3).trans rfl, (zh BK145.out 0).trans rfl, (zh BK145.out 1).trans rfl, (zh BK145.out 2).trans rfl, (zh BK145.out 3).trans rfl⟩ (fun hHeld => ?_); refine zka impl_State_split.tab7 impl_State_split.bits7 (fun HT_ HW_ => ?_)
     generalize w40.drew = w41 at BK144 BK145 BK146 BK147 BK148 BK149 HB hHeld ⊢
     refine zaa (i := 0) (N := some 34) (v := ?_) (a' := ?_) #[true, false, false, false, false, false, false, false, false, false, false, false, false, false, false] rfl rfl (zu HT_.out (by kernel_rfl)) (fun _ _ _ h => h) (Or.inl ⟨by rfl, ?_⟩) ?_ ?_
     rotate_left
     ·intro w'
      go_simp
      with_reducible rfl
     rotate_left
     ·simp only [Act.put, List.setIfInBounds_toArray, List.set_cons_zero, List.set_cons_succ, zv, zw]
      rfl
     refine zaa (i := 1) (N := some 35) (v := ?_) (a' := ?_) #[true, true, false, false, false, false, false, false, false, false, false, false, false, false, false] rfl rfl (zu HT_.out (by kernel_rfl)) (fun _ _ _ h => h) (Or.inl ⟨by rfl, ?_⟩) ?_ ?_
     rotate_left
     ·intro w'
      go_simp
      with_reducible rfl
     rotate_left
     ·simp only [Act.put, List.setIfInBounds_toArray, List.set_cons_zero, List.set_cons_succ, zv, zw]
      rfl
     refine zaa (i := 3) (N := some 37) (v := ?_) (a' := ?_) #[true, true, false, true, false, false, false, false, false, false, false, false, false, false, false] rfl rfl (zu HT_.out (by kernel_rfl)) (fun _ _ _ h => h) (Or.inl ⟨by rfl, ?_⟩) ?_ ?_
     rotate_left
     ·intro w'
      go_simp
      with_reducible rfl
     rotate_left
     ·simp only [Act.put, List.setIfInBounds_toArray, List.set_cons_zero, List.set_cons_succ, zv, zw]
      rfl
     refine zaa (i := 4) (N := some 38) (v := ?_) (a' := ?_) #[true, true, false, true, true, false, false, false, false, false, false, false, false, false, false] rfl rfl (zu HT_.out (by kernel_rfl)) (fun _ _ _ h => h) (Or.inl ⟨by rfl, ?_⟩) ?_ ?_
     rotate_left
     ·intro w'
      go_simp
      with_reducible rfl
     rotate_left
     ·simp only [Act.put, List.setIfInBounds_toArray, List.set_cons_zero, List.set_cons_succ, zv, zw]
      rfl
     refine zaa (i := 5) (N := some 39) (v := ?_) (a' := ?_) #[true, true, false, true, true, true, false, false, false, false, false, false, false, false, false] rfl rfl (zu HT_.out (by kernel_rfl)) (fun _ _ _ h => h) (Or.inl ⟨by rfl, ?_⟩) ?_ ?_
     rotate_left
     ·intro w'
      go_simp
      with_reducible rfl
     rotate_left
     ·simp only [Act.put, List.setIfInBounds_toArray, List.set_cons_zero, List.set_cons_succ, zv, zw]
      rfl
     refine zaa (i := 7) (N := some 41) (v := ?_) (a' := ?_) #[true, true, false, true, true, true, false, true, false, false, false, false, false, false, false] rfl rfl (zu HT_.out (by kernel_rfl)) (fun _ _ _ h => h) (Or.inl ⟨by rfl, ?_⟩) ?_ ?_
     rotate_left
     ·intro w'
      go_simp
      with_reducible rfl
     rotate_left
     ·simp only [Act.put, List.setIfInBounds_toArray, List.set_cons_zero, List.set_cons_succ, zv, zw]
      rfl
     refine zaa (i := 8) (N := some 42) (v := ?_) (a' := ?_) #[true, true, false, true, true, true, false, true, true, false, false, false, false, false, false] rfl rfl (zu HT_.out (by kernel_rfl)) (fun _ _ _ h => h) (Or.inl ⟨by rfl, ?_⟩) ?_ ?_
     rotate_left
     ·intro w'
      go_simp
      with_reducible rfl
     rotate_left
     ·simp only [Act.put, List.setIfInBounds_toArray, List.set_cons_zero, List.set_cons_succ, zv, zw]
      rfl
     refine zaa (i := 9) (N := some 43) (v := ?_) (a' := ?_) #[true, true, false, true, true, true, false, true, true, true, false, false, false, false, false] rfl rfl (zu HT_.out (by kernel_rfl)) (fun _ _ _ h => h) (Or.inl ⟨by rfl, ?_⟩) ?_ ?_
     rotate_left
     ·intro w'
      go_simp
      with_reducible rfl
     rotate_left
     ·simp only [Act.put, List.setIfInBounds_toArray, List.set_cons_zero, List.set_cons_succ, zv, zw]
      rfl
     refine take_ (i := 2) (N := some 36) (v := ?_) (a' := ?_) #[true, true, true, true, true, true, false, true, true, true, false, false, false, false, false] rfl rfl (zea HT_.out HW_.out (by kernel_rfl)) (fun _ _ _ h => h) (Or.inl ⟨by rfl, ?_⟩) hHeld ?_ ?_
     rotate_left
     ·rintro w' ⟨s0, s1, s2, s3, s4, s5, s6, s7, s8, s9, s10, s11⟩
      go_simp
      with_reducible rfl
     rotate_left
     ·simp only [Act.put, List.setIfInBounds_toArray, List.set_cons_zero, List.set_cons_succ, zv, zw]
      rfl
     refine take_ (i := 6) (N := some 40) (v := ?_) (a' := ?_) #[true, true, true, true, true, true, true, true, true, true, false, false, false, false, false] rfl rfl (zea HT_.out HW_.out (by kernel_rfl)) (fun _ _ _ h => h) (Or.inl ⟨by rfl, ?_⟩) hHeld ?_ ?_
     rotate_left
     ·rintro w' ⟨s0, s1, s2, s3, s4, s5, s6, s7, s8, s9, s10, s11⟩
      go_simp
      with_reducible rfl
     rotate_left
     ·simp only [Act.put, List.setIfInBounds_toArray, List.set_cons_zero, List.set_cons_succ, zv, zw]
      rfl
     refine take_ (i := 10) (N := some 44) (v := ?_) (a' := ?_) #[true, true, true, true, true, true, true, true, true, true, true, false, false, false, false] rfl rfl (zea HT_.out HW_.out (by kernel_rfl)) (fun _ _ _ h => h) (Or.inl ⟨by rfl, ?_⟩) hHeld ?_ ?_
     rotate_left
     ·rintro w' ⟨s0, s1, s2, s3, s4, s5, s6, s7, s8, s9, s10, s11⟩
      go_simp
      with_reducible rfl
     rotate_left
     ·simp only [Act.put, List.setIfInBounds_toArray, List.set_cons_zero, List.set_cons_succ, zv, zw]
      rfl
     refine zaa (i := 11) (N := some 45) (v := ?_) (a' := ?_) #[true, true, true, true, true, true, true, true, true, true, true, true, false, false, false] rfl rfl (zu HT_.out (by kernel_rfl)) (fun _ _ _ h => h) (Or.inl ⟨by rfl, ?_⟩) ?_ ?_
     rotate_left
     ·intro w'
      go_simp
      with_reducible rfl
     rotate_left
     ·simp only [Act.put, List.setIfInBounds_toArray, List.set_cons_zero, List.set_cons_succ, zv, zw]
      rfl
     refine zaa (i := 12) (N := some 46) (v := ?_) (a' := ?_) #[true, true, true, true, true, true, true, true, true, true, true, true, true, false, false] rfl rfl (zu HT_.out (by kernel_rfl)) (fun _ _ _ h => h) (Or.inl ⟨by rfl, ?_⟩) ?_ ?_
     rotate_left
     ·intro w'
      go_simp
      with_reducible rfl
     rotate_left
     ·simp only [Act.put, List.setIfInBounds_toArray, List.set_cons_zero, List.set_cons_succ, zv, zw]
      rfl
     refine zaa (i := 13) (N := some 47) (v := ?_) (a' := ?_) #[true, true, true, true, true, true, true, true, true, true, true, true, true, true, false] rfl rfl (zu HT_.out (by kernel_rfl)) (fun _ _ _ h => h) (Or.inl ⟨by rfl, ?_⟩) ?_ ?_
     rotate_left
     ·intro w'
      go_simp
      with_reducible rfl
     rotate_left
     ·simp only [Act.put, List.setIfInBounds_toArray, List.set_cons_zero, List.set_cons_succ, zv, zw]
      rfl
     refine zpb (i := 14) (N := none) #[true, true, true, true, true, true, true, true, true, true, true, true, true, true, true] rfl rfl (zna HT_.out (by kernel_rfl)) (by decide) (fun K hK => ?_)
     have hs42 : w41.cell? ⟨gb148, 2, none⟩ = some (.int .i64 a2_2) := (zh BK148.out 2).trans rfl
     have hfs42 := zj BK148.out 2
     have hns42_0 := NB144_148.out
     have hns42_1 := NB145_148.out
     have hns42_2 := NB146_148.out
     have hns42_3 := NB147_148.out
     have hns42_5 := NB149_148.out
     have hms42_0 := NB148_144.out
     have hms42_1 := NB148_145.out
     have hms42_2 := NB148_146.out
     have hms42_3 := NB148_147.out
     have hms42_5 := NB148_149.out
     refine zza (w1 := ?_) (by rfl) rfl ?_ ?_
     rotate_left
     ·go_simp
      rfl
     refine hK.out _ _ ?_
     clear hK K
     refine zeb (zla HT_.out (by kernel_rfl)) ?_
     try go_wp2
     have n0_ : zg ((w41.setCell ⟨gb148, 2, none⟩ (.int .i64 (wrap64 (a2_2 + (wrap64 (a0_1 - a2_1)))))).heap[gb144]? = some (.cells #[.int .i64 a0_0, .int .i64 a0_1, .int .i64 a0_2, .int .i64 a0_3] 25 (0, 0))) := ⟨by (with_reducible repeat (first | refine ze ?_ _ | refine zf ?_ | refine za ?_ _)); refine zk ?_ NB144_148.out _; (with_reducible repeat (first | refine ze ?_ _ | refine zf ?_ | refine za ?_ _)); exact BK144.out⟩
     have n1_ : zg ((w41.setCell ⟨gb148, 2, none⟩ (.int .i64 (wrap64 (a2_2 + (wrap64 (a0_1 - a2_1)))))).heap[gb145]? = some (.cells #[.int .i64 a2_0, .int .i64 a2_1, .int .i64 a2_2, .int .i64 a2_3] 25 (0, 0))) := ⟨by (with_reducible repeat (first | refine ze ?_ _ | refine zf ?_ | refine za ?_ _)); refine zk ?_ NB145_148.out _; (with_reducible repeat (first | refine ze ?_ _ | refine zf ?_ | refine za ?_ _)); exact BK145.out⟩
     have n2_ : zg ((w41.setCell ⟨gb148, 2, none⟩ (.int .i64 (wrap64 (a2_2 + (wrap64 (a0_1 - a2_1)))))).heap[gb146]? = some (.cells #[.int .i64 0, .int .i64 0, .int .i64 0, .int .i64 0] 25 (0, 0))) := ⟨by (with_reducible repeat (first | refine ze ?_ _ | refine zf ?_ | refine za ?_ _)); refine zk ?_ NB146_148.out _; (with_reducible repeat (first | refine ze ?_ _ | refine zf ?_ | refine za ?_ _)); exact BK146.out⟩
     have n3_ : zg ((w41.setCell ⟨gb148, 2, none⟩ (.int .i64 (wrap64 (a2_2 + (wrap64 (a0_1 - a2_1)))))).heap[gb147]? = some (.cells #[.int .i64 0, .int .i64 0, .int .i64 0, .int .i64 0] 25 (0, 0))) := ⟨by (with_reducible repeat (first | refine ze ?_ _ | refine zf ?_ | refine za ?_ _)); refine zk ?_ NB147_148.out _; (with_reducible repeat (first | refine ze ?_ _ | refine zf ?_ | refine za ?_ _)); exact BK147.out⟩
     have n4_ : zg ((w41.setCell ⟨gb148, 2, none⟩ (.int .i64 (wrap64 (a2_2 + (wrap64 (a0_1 - a2_1)))))).heap[gb148]? = some (.cells #[.int .i64 x149000_1, .int .i64 x149001_1, .int .i64 (wrap64 (a2_2 + (wrap64 (a0_1 - a2_1)))), .int .i64 x149003_1] 25 (0, 0))) := ⟨by (with_reducible repeat (first | refine ze ?_ _ | refine zf ?_ | refine za ?_ _)); refine zy (cs := #[.int .i64 x149000_1, .int .i64 x149001_1, .int .i64 a2_2, .int .i64 x149003_1]) ?_ 2 _ rfl; (with_reducible repeat (first | refine ze ?_ _ | refine zf ?_ | refine za ?_ _)); exact BK148.out⟩
     have n5_ : zg ((w41.setCell ⟨gb148, 2, none⟩ (.int .i64 (wrap64 (a2_2 + (wrap64 (a0_1 - a2_1)))))).heap[gb149]? = some (.cells #[.int .i64 x150000_1, .int .i64 x150001_1, .int .i64 (wrap64 (a0_2 - a2_2)), .int .i64 x150003_1] 25 (0, 0))) := ⟨by (with_reducible repeat (first | refine ze ?_ _ | refine zf ?_ | refine za ?_ _)); refine zk ?_ NB149_148.out _; (with_reducible repeat (first | refine ze ?_ _ | refine zf ?_ | refine za ?_ _)); exact BK149.out⟩
     have n6_ : zg (Below w.heap.size w (w41.setCell ⟨gb148, 2, none⟩ (.int .i64 (wrap64 (a2_2 + (wrap64 (a0_1 - a2_1))))))) := ⟨sB⟩
     (try clear BK144)
     (try clear BK145)
     (try clear BK146)
     (try clear BK147)
     (try clear BK148)
     (try clear BK149)
     (try clear HB)
     generalize (w41.setCell ⟨gb148, 2, none⟩ (.int .i64 (wrap64 (a2_2 + (wrap64 (a0_1 - a2_1)))))) = w43 at n0_ n1_ n2_ n3_ n4_ n5_ n6_ ⊢
     have BK144 := n0_
     have BK145 := n1_
     have BK146 := n2_
     have BK147 := n3_
     have BK148 := n4_
     have BK149 := n5_
     have HB := n6_
     clear n0_ n1_ n2_ n3_ n4_ n5_ n6_
     have n0_ := zg.mk (zf BK144.out)
     have n1_ := zg.mk (zf BK145.out)
     have n2_ := zg.mk (zf BK146.out)
     have n3_ := zg.mk (zf BK147.out)
     have n4_ := zg.mk (zf BK148.out)
     have n5_ := zg.mk (zf BK149.out)
     have n6_ := zg.mk (zo HB.out)
     clear BK144
     clear BK145
     clear BK146
     clear BK147
     clear BK148
     clear BK149
     clear HB
     have BK144 := n0_
     have BK145 := n1_
     have BK146 := n2_
     have BK147 := n3_
     have BK148 := n4_
     have BK149 := n5_
     have HB := n6_
     clear n0_ n1_ n2_ n3_ n4_ n5_ n6_
     refine zra (n := 10) (S := fun w' => w'.cell? ⟨gb149, 0, none⟩ = some (.int .i64 x150000_1) ∧ w'.cell? ⟨gb149, 1, none⟩ = some (.int .i64 x150001_1) ∧ w'.cell? ⟨gb149, 2, none⟩ = some (.int .i64 (wrap64 (a0_2 - a2_2))) ∧ w'.cell? ⟨gb149, 3, none⟩ = some (.int .i64 x150003_1) ∧ w'.cell? ⟨gb145, 0, none⟩ = some (.int .i64 a2_0) ∧ w'.cell? ⟨gb145, 1, none⟩ = some (.int .i64 a2_1) ∧ w'.cell? ⟨gb145, 2, none⟩ = some (.int .i64 a2_2) ∧ w'.cell? ⟨gb145, 3, none⟩ = some (.int .i64 a2_3)) (ds := [9]) #[false, false, false, false, false, false, false, false, false, false] (by kernel_rfl) rfl rfl ⟨(zh BK149.out 0).trans rfl, (zh BK149.out 1).trans rfl, (zh BK149.out 2).trans rfl, (zh BK149.out 3).trans rfl, (zh BK145.out 0).trans rfl, (zh BK145.out 1).trans rfl, (zh BK145.out 2).trans rfl, (zh BK145.out 3).trans rfl⟩ (fun hHeld => ?_); refine zka impl_State_split.tab8 impl_State_split.bits8 (fun HT_ HW_ => ?_)
     generalize w43.drew = w44 at BK144 BK145 BK146 BK147 BK148 BK149 HB hHeld ⊢
     refine zaa (i := 0) (N := some 48) (v := ?_) (a' := ?_) #[true, false, false, false, false, false, false, false, false, false] rfl rfl (zu HT_.out (by kernel_rfl)) (fun _ _ _ h => h) (Or.inl ⟨by rfl, ?_⟩) ?_ ?_
     rotate_left
     ·intro w'
      go_simp
      with_reducible rfl
     rotate_left
     ·simp only [Act.put, List.setIfInBounds_toArray, List.set_cons_zero, List.set_cons_succ, zv, zw]
      rfl
     refine zaa (i := 1) (N := some 49) (v := ?_) (a' := ?_) #[true, true, false, false, false, false, false, false, false, false] rfl rfl (zu HT_.out (by kernel_rfl)) (fun _ _ _ h => h) (Or.inl ⟨by rfl, ?_⟩) ?_ ?_
     rotate_left
     ·intro w'
      go_simp
      with_reducible rfl
     rotate_left
     ·simp only [Act.put, List.setIfInBounds_toArray, List.set_cons_zero, List.set_cons_succ, zv, zw]
      rfl
     refine zaa (i := 3) (N := some 51) (v := ?_) (a' := ?_) #[true, true, false, true, false, false, false, false, false, false] rfl rfl (zu HT_.out (by kernel_rfl)) (fun _ _ _ h => h) (Or.inl ⟨by rfl, ?_⟩) ?_ ?_
     rotate_left
     ·intro w'
      go_simp
      with_reducible rfl
     rotate_left
     ·simp only [Act.put, List.setIfInBounds_toArray, List.set_cons_zero, List.set_cons_succ, zv, zw]
      rfl
     refine zaa (i := 4) (N := some 52) (v := ?_) (a' := ?_) #[true, true, false, true, true, false, false, false, false, false] rfl rfl (zu HT_.out (by kernel_rfl)) (fun _ _ _ h => h) (Or.inl ⟨by rfl, ?_⟩) ?_ ?_
     rotate_left
     ·intro w'
      go_simp
      with_reducible rfl
     rotate_left
     ·simp only [Act.put, List.setIfInBounds_toArray, List.set_cons_zero, List.set_cons_succ, zv, zw]
      rfl
     refine zaa (i := 5) (N := some 53) (v := ?_) (a' := ?_) #[true, true, false, true, true, true, false, false, false, false] rfl rfl (zu HT_.out (by kernel_rfl)) (fun _ _ _ h => h) (Or.inl ⟨by rfl, ?_⟩) ?_ ?_
     rotate_left
     ·intro w'
      go_simp
      with_reducible rfl
     rotate_left
     ·simp only [Act.put, List.setIfInBounds_toArray, List.set_cons_zero, List.set_cons_succ, zv, zw]
      rfl
     refine take_ (i := 2) (N := some 50) (v := ?_) (a' := ?_) #[true, true, true, true, true, true, false, false, false, false] rfl rfl (zea HT_.out HW_.out (by kernel_rfl)) (fun _ _ _ h => h) (Or.inl ⟨by rfl, ?_⟩) hHeld ?_ ?_
     rotate_left
     ·rintro w' ⟨s0, s1, s2, s3, s4, s5, s6, s7⟩
      go_simp
      with_reducible rfl
     rotate_left
     ·simp only [Act.put, List.setIfInBounds_toArray, List.set_cons_zero, List.set_cons_succ, zv, zw]
      rfl
     refine take_ (i := 6) (N := some 54) (v := ?_) (a' := ?_) #[true, true, true, true, true, true, true, false, false, false] rfl rfl (zea HT_.out HW_.out (by kernel_rfl)) (fun _ _ _ h => h) (Or.inl ⟨by rfl, ?_⟩) hHeld ?_ ?_
     rotate_left
     ·rintro w' ⟨s0, s1, s2, s3, s4, s5, s6, s7⟩
      go_simp
      with_reducible rfl
     rotate_left
     ·simp only [Act.put, List.setIfInBounds_toArray, List.set_cons_zero, List.set_cons_succ, zv, zw]
      rfl
     refine zaa (i := 7) (N := some 55) (v := ?_) (a' := ?_) #[true, true, true, true, true, true, true, true, false, false] rfl rfl (zu HT_.out (by kernel_rfl)) (fun _ _ _ h => h) (Or.inl ⟨by rfl, ?_⟩) ?_ ?_
     rotate_left
     ·intro w'
      go_simp
      with_reducible rfl
     rotate_left
     ·simp only [Act.put, List.setIfInBounds_toArray, List.set_cons_zero, List.set_cons_succ, zv, zw]
      rfl
     refine zaa (i := 8) (N := some 56) (v := ?_) (a' := ?_) #[true, true, true, true, true, true, true, true, true, false] rfl rfl (zu HT_.out (by kernel_rfl)) (fun _ _ _ h => h) (Or.inl ⟨by rfl, ?_⟩) ?_ ?_
     rotate_left
     ·intro w'
      go_simp
      with_reducible rfl
     rotate_left
     ·simp only [Act.put, List.setIfInBounds_toArray, List.set_cons_zero, List.set_cons_succ, zv, zw]
      rfl
     refine zpb (i := 9) (N := none) #[true, true, true, true, true, true, true, true, true, true] rfl rfl (zna HT_.out (by kernel_rfl)) (by decide) (fun K hK => ?_)
     have hs45 : w44.cell? ⟨gb149, 2, none⟩ = some (.int .i64 (wrap64 (a0_2 - a2_2))) := (zh BK149.out 2).trans rfl
     have hfs45 := zj BK149.out 2
     have hns45_0 := NB144_149.out
     have hns45_1 := NB145_149.out
     have hns45_2 := NB146_149.out
     have hns45_3 := NB147_149.out
     have hns45_4 := NB148_149.out
     have hms45_0 := NB149_144.out
     have hms45_1 := NB149_145.out
     have hms45_2 := NB149_146.out
     have hms45_3 := NB149_147.out
     have hms45_4 := NB149_148.out
     refine zza (w1 := ?_) (by rfl) rfl ?_ ?_
     rotate_left
     ·go_simp
      rfl
     refine hK.out _ _ ?_
     clear hK K
     refine zeb (zla HT_.out (by kernel_rfl)) ?_
     try go_wp2
     go_roundg k1
     case measure => have := HK1.out; omega
     case rel => exact ⟨(2 + 1), (x149000_1), (x149001_1), (wrap64 (a2_2 + (wrap64 (a0_1 - a2_1)))), (x149003_1), (x150000_1), (x150001_1), (wrap64 ((wrap64 (a0_2 - a2_2)) + a2_1)), (x150003_1), (by first | rfl | (simp; done) | (simp [*]; done)), H', ⟨by have := HK1.out; omega⟩, ⟨by (with_reducible repeat (first | refine ze ?_ _ | refine zf ?_ | refine za ?_ _)); refine zk ?_ NB144_149.out _; (with_reducible repeat (first | refine ze ?_ _ | refine zf ?_ | refine za ?_ _)); exact BK144.out⟩, ⟨by (with_reducible repeat (first | refine ze ?_ _ | refine zf ?_ | refine za ?_ _)); refine zk ?_ NB145_149.out _; (with_reducible repeat (first | refine ze ?_ _ | refine zf ?_ | refine za ?_ _)); exact BK145.out⟩, ⟨by (with_reducible repeat (first | refine ze ?_ _ | refine zf ?_ | refine za ?_ _)); refine zk ?_ NB146_149.out _; (with_reducible repeat (first | refine ze ?_ _ | refine zf ?_ | refine za ?_ _)); exact BK146.out⟩, ⟨by (with_reducible repeat (first | refine ze ?_ _ | refine zf ?_ | refine za ?_ _)); refine zk ?_ NB147_149.out _; (with_reducible repeat (first | refine ze ?_ _ | refine zf ?_ | refine za ?_ _)); exact BK147.out⟩, ⟨by (with_reducible repeat (first | refine ze ?_ _ | refine zf ?_ | refine za ?_ _)); refine zk ?_ NB148_149.out _; (with_reducible repeat (first | refine ze ?_ _ | refine zf ?_ | refine za ?_ _)); exact BK148.out⟩, ⟨by (with_reducible repeat (first | refine ze ?_ _ | refine zf ?_ | refine za ?_ _)); refine zy (cs := #[.int .i64 x150000_1, .int .i64 x150001_1, .int .i64 (wrap64 (a0_2 - a2_2)), .int .i64 x150003_1]) ?_ 2 _ rfl; (with_reducible repeat (first | refine ze ?_ _ | refine zf ?_ | refine za ?_ _)); exact BK149.out⟩, ⟨sB⟩⟩
    rw [if_neg c36] at H
    clear c36
    by_cases c46 : x15_1 = 3
    ·rw [if_pos c46] at H
     subst c46
     have H' := zg.mk H
     clear H
     try go_wp2
     have n0_ := zg.mk (zf BK144.out)
     have n1_ := zg.mk (zf BK145.out)
     have n2_ := zg.mk (zf BK146.out)
     have n3_ := zg.mk (zf BK147.out)
     have n4_ := zg.mk (zf BK148.out)
     have n5_ := zg.mk (zf BK149.out)
     have n6_ := zg.mk (zo HB.out)
     clear BK144
     clear BK145
     clear BK146
     clear BK147
     clear BK148
     clear BK149
     clear HB
     have BK144 := n0_
     have BK145 := n1_
     have BK146 := n2_
     have BK147 := n3_
     have BK148 := n4_
     have BK149 := n5_
     have HB := n6_
     clear n0_ n1_ n2_ n3_ n4_ n5_ n6_
     refine zra (n := 16) (S := fun w' => w'.cell? ⟨gb145, 0, none⟩ = some (.int .i64 a2_0) ∧ w'.cell? ⟨gb145, 1, none⟩ = some (.int .i64 a2_1) ∧ w'.cell? ⟨gb145, 2, none⟩ = some (.int .i64 a2_2) ∧ w'.cell? ⟨gb145, 3, none⟩ = some (.int .i64 a2_3) ∧ w'.cell? ⟨gb144, 0, none⟩ = some (.int .i64 a0_0) ∧ w'.cell? ⟨gb144, 1, none⟩ = some (.int .i64 a0_1) ∧ w'.cell? ⟨gb144, 2, none⟩ = some (.int .i64 a0_2) ∧ w'.cell? ⟨gb144, 3, none⟩ = some (.int .i64 a0_3)) (ds := []) #[false, false, false, false, false, false, false, false, false, false, false, false, false, false, false, false] (by kernel_rfl) rfl rfl ⟨(zh BK145.out 0).trans rfl, (zh BK145.out 1).trans rfl, (zh BK145.out 2).trans rfl, (zh BK145.out 3).trans rfl, (zh BK144.out 0).trans rfl, (zh BK144.out 1).trans rfl, (zh BK144.out 2).trans rfl, (zh BK144.out 3).trans rfl⟩ (fun hHeld => ?_); refine zka impl_State_split.tab5 impl_State_split.bits5 (fun HT_ HW_ => ?_)
     generalize wr.drew = w47 at BK144 BK145 BK146 BK147 BK148 BK149 HB hHeld ⊢
     refine zaa (i := 0) (N := some 18) (v := ?_) (a' := ?_) #[true, false, false, false, false, false, false, false, false, false, false, false, false, false, false, false] rfl rfl (zu HT_.out (by kernel_rfl)) (fun _ _ _ h => h) (Or.inl ⟨by rfl, ?_⟩) ?_ ?_
     rotate_left
     ·intro w'
      go_simp
      with_reducible rfl
     rotate_left
     ·simp only [Act.put, List.setIfInBounds_toArray, List.set_cons_zero, List.set_cons_succ, zv, zw]
      rfl
     refine zaa (i := 1) (N := some 19) (v := ?_) (a' := ?_) #[true, true, false, false, false, false, false, false, false, false, false, false, false, false, false, false] rfl rfl (zu HT_.out (by kernel_rfl)) (fun _ _ _ h => h) (Or.inl ⟨by rfl, ?_⟩) ?_ ?_
     rotate_left
     ·intro w'
      go_simp
      with_reducible rfl
     rotate_left
     ·simp only [Act.put, List.setIfInBounds_toArray, List.set_cons_zero, List.set_cons_succ, zv, zw]
      rfl
     refine zaa (i := 2) (N := some 20) (v := ?_) (a' := ?_) #[true, true, true, false, false, false, false, false, false, false, false, false, false, false, false, false] rfl rfl (zu HT_.out (by kernel_rfl)) (fun _ _ _ h => h) (Or.inl ⟨by rfl, ?_⟩) ?_ ?_
     rotate_left
     ·intro w'
      go_simp
      with_reducible rfl
     rotate_left
     ·simp only [Act.put, List.setIfInBounds_toArray, List.set_cons_zero, List.set_cons_succ, zv, zw]
      rfl
     refine zaa (i := 3) (N := some 21) (v := ?_) (a' := ?_) #[true, true, true, true, false, false, false, false, false, false, false, false, false, false, false, false] rfl rfl (zu HT_.out (by kernel_rfl)) (fun _ _ _ h => h) (Or.inl ⟨by rfl, ?_⟩) ?_ ?_
     rotate_left
     ·intro w'
      go_simp
      with_reducible rfl
     rotate_left
     ·simp only [Act.put, List.setIfInBounds_toArray, List.set_cons_zero, List.set_cons_succ, zv, zw]
      rfl
     refine zaa (i := 5) (N := some 23) (v := ?_) (a' := ?_) #[true, true, true, true, false, true, false, false, false, false, false, false, false, false, false, false] rfl rfl (zu HT_.out (by kernel_rfl)) (fun _ _ _ h => h) (Or.inl ⟨by rfl, ?_⟩) ?_ ?_
     rotate_left
     ·intro w'
      go_simp
      with_reducible rfl
     rotate_left
     ·simp only [Act.put, List.setIfInBounds_toArray, List.set_cons_zero, List.set_cons_succ, zv, zw]
      rfl
     refine zaa (i := 6) (N := some 24) (v := ?_) (a' := ?_) #[true, true, true, true, false, true, true, false, false, false, false, false, false, false, false, false] rfl rfl (zu HT_.out (by kernel_rfl)) (fun _ _ _ h => h) (Or.inl ⟨by rfl, ?_⟩) ?_ ?_
     rotate_left
     ·intro w'
      go_simp
      with_reducible rfl
     rotate_left
     ·simp only [Act.put, List.setIfInBounds_toArray, List.set_cons_zero, List.set_cons_succ, zv, zw]
      rfl
     refine zaa (i := 8) (N := some 26) (v := ?_) (a' := ?_) #[true, true, true, true, false, true, true, false, true, false, false, false, false, false, false, false] rfl rfl (zu HT_.out (by kernel_rfl)) (fun _ _ _ h => h) (Or.inl ⟨by rfl, ?_⟩) ?_ ?_
     rotate_left
     ·intro w'
      go_simp
      with_reducible rfl
     rotate_left
     ·simp only [Act.put, List.setIfInBounds_toArray, List.set_cons_zero, List.set_cons_succ, zv, zw]
      rfl
     refine zaa (i := 9) (N := some 27) (v := ?_) (a' := ?_) #[true, true, true, true, false, true, true, false, true, true, false, false, false, false, false, false] rfl rfl (zu HT_.out (by kernel_rfl)) (fun _ _ _ h => h) (Or.inl ⟨by rfl, ?_⟩) ?_ ?_
     rotate_left
     ·intro w'
      go_simp
      with_reducible rfl
     rotate_left
     ·simp only [Act.put, List.setIfInBounds_toArray, List.set_cons_zero, List.set_cons_succ, zv, zw]
      rfl
     refine take_ (i := 4) (N := some 22) (v := ?_) (a' := ?_) #[true, true, true, true, true, true, true, false, true, true, false, false, false, false, false, false] rfl rfl (zea HT_.out HW_.out (by kernel_rfl)) (fun _ _ _ h => h) (Or.inl ⟨by rfl, ?_⟩) hHeld ?_ ?_
     rotate_left
     ·rintro w' ⟨s0, s1, s2, s3, s4, s5, s6, s7⟩
      go_simp
      with_reducible rfl
     rotate_left
     ·simp only [Act.put, List.setIfInBounds_toArray, List.set_cons_zero, List.set_cons_succ, zv, zw]
      rfl
     refine zaa (i := 12) (N := some 30) (v := ?_) (a' := ?_) #[true, true, true, true, true, true, true, false, true, true, false, false, true, false, false, false] rfl rfl (zu HT_.out (by kernel_rfl)) (fun _ _ _ h => h) (Or.inl ⟨by rfl, ?_⟩) ?_ ?_
     rotate_left
     ·intro w'
      go_simp
      with_reducible rfl
     rotate_left
     ·simp only [Act.put, List.setIfInBounds_toArray, List.set_cons_zero, List.set_cons_succ, zv, zw]
      rfl
     refine take_ (i := 7) (N := some 25) (v := ?_) (a' := ?_) #[true, true, true, true, true, true, true, true, true, true, false, false, true, false, false, false] rfl rfl (zea HT_.out HW_.out (by kernel_rfl)) (fun _ _ _ h => h) (Or.inl ⟨by rfl, ?_⟩) hHeld ?_ ?_
     rotate_left
     ·rintro w' ⟨s0, s1, s2, s3, s4, s5, s6, s7⟩
      go_simp
      with_reducible rfl
     rotate_left
     ·simp only [Act.put, List.setIfInBounds_toArray, List.set_cons_zero, List.set_cons_succ, zv, zw]
      rfl
     refine take_ (i := 10) (N := some 28) (v := ?_) (a' := ?_) #[true, true, true, true, true, true, true, true, true, true, true, false, true, false, false, false] rfl rfl (zea HT_.out HW_.out (by kernel_rfl)) (fun _ _ _ h => h) (Or.inl ⟨by rfl, ?_⟩) hHeld ?_ ?_
     rotate_left
     ·rintro w' ⟨s0, s1, s2, s3, s4, s5, s6, s7⟩
      go_simp
      with_reducible rfl
     rotate_left
     ·simp only [Act.put, List.setIfInBounds_toArray, List.set_cons_zero, List.set_cons_succ, zv, zw]
      rfl
     refine zaa (i := 11) (N := some 29) (v := ?_) (a' := ?_) #[true, true, true, true, true, true, true, true, true, true, true, true, true, false, false, false] rfl rfl (zu HT_.out (by kernel_rfl)) (fun _ _ _ h => h) (Or.inl ⟨by rfl, ?_⟩) ?_ ?_
     rotate_left
     ·intro w'
      go_simp
      with_reducible rfl
     rotate_left
     ·simp only [Act.put, List.setIfInBounds_toArray, List.set_cons_zero, List.set_cons_succ, zv, zw]
      rfl
     refine one_ (i := 13) (N := none) #[true, true, true, true, true, true, true, true, true, true, true, true, true, true, false, false] rfl rfl (zna HT_.out (by kernel_rfl)) (by decide) (fun K hK => ?_)
     have hs48 : w47.cell? ⟨gb148, 3, none⟩ = some (.int .i64 x149003_1) := (zh BK148.out 3).trans rfl
     have hfs48 := zj BK148.out 3
     have hns48_0 := NB144_148.out
     have hns48_1 := NB145_148.out
     have hns48_2 := NB146_148.out
     have hns48_3 := NB147_148.out
     have hns48_5 := NB149_148.out
     have hms48_0 := NB148_144.out
     have hms48_1 := NB148_145.out
     have hms48_2 := NB148_146.out
     have hms48_3 := NB148_147.out
     have hms48_5 := NB148_149.out
     refine zza (w1 := ?_) (by rfl) rfl ?_ ?_
     rotate_left
     ·go_simp
      rfl
     refine hK.out _ _ ⟨((zp (p := ⟨gb148, _, none⟩) NB145_148.out _).trans (hHeld.1)), ((zp (p := ⟨gb148, _, none⟩) NB145_148.out _).trans (hHeld.2.1)), ((zp (p := ⟨gb148, _, none⟩) NB145_148.out _).trans (hHeld.2.2.1)), ((zp (p := ⟨gb148, _, none⟩) NB145_148.out _).trans (hHeld.2.2.2.1)), ((zp (p := ⟨gb148, _, none⟩) NB144_148.out _).trans (hHeld.2.2.2.2.1)), ((zp (p := ⟨gb148, _, none⟩) NB144_148.out _).trans (hHeld.2.2.2.2.2.1)), ((zp (p := ⟨gb148, _, none⟩) NB144_148.out _).trans (hHeld.2.2.2.2.2.2.1)), ((zp (p := ⟨gb148, _, none⟩) NB144_148.out _).trans (hHeld.2.2.2.2.2.2.2))⟩ (fun hHeld => ?_)
     clear hK K
     refine zaa (i := 14) (N := some 31) (v := ?_) (a' := ?_) #[true, true, true, true, true, true, true, true, true, true, true, true, true, true, true, false] rfl rfl (zu HT_.out (by kernel_rfl)) (fun _ _ _ h => h) (Or.inl ⟨by rfl, ?_⟩) ?_ ?_
     rotate_left
     ·intro w'
      go_simp
      with_reducible rfl
     rotate_left
     ·simp only [Act.put, List.setIfInBounds_toArray, List.set_cons_zero, List.set_cons_succ, zv, zw]
      rfl
     refine one_ (i := 15) (N := none) #[true, true, true, true, true, true, true, true, true, true, true, true, true, true, true, true] rfl rfl (zna HT_.out (by kernel_rfl)) (by decide) (fun K hK => ?_)
     have hs49 : w47.cell? ⟨gb149, 3, none⟩ = some (.int .i64 x150003_1) := (zh BK149.out 3).trans rfl
     have hfs49 := zj BK149.out 3
     have hns49_0 := NB144_149.out
     have hns49_1 := NB145_149.out
     have hns49_2 := NB146_149.out
     have hns49_3 := NB147_149.out
     have hns49_4 := NB148_149.out
     have hms49_0 := NB149_144.out
     have hms49_1 := NB149_145.out
     have hms49_2 := NB149_146.out
     have hms49_3 := NB149_147.out
     have hms49_4 := NB149_148.out
     refine zza (w1 := ?_) (by rfl) rfl ?_ ?_
     rotate_left
     ·go_simp
      rfl
     refine hK.out _ _ ⟨((zp (p := ⟨gb149, _, none⟩) NB145_149.out _).trans (hHeld.1)), ((zp (p := ⟨gb149, _, none⟩) NB145_149.out _).trans (hHeld.2.1)), ((zp (p := ⟨gb149, _, none⟩) NB145_149.out _).trans (hHeld.2.2.1)), ((zp (p := ⟨gb149, _, none⟩) NB145_149.out _).trans (hHeld.2.2.2.1)), ((zp (p := ⟨gb149, _, none⟩) NB144_149.out _).trans (hHeld.2.2.2.2.1)), ((zp (p := ⟨gb149, _, none⟩) NB144_149.out _).trans (hHeld.2.2.2.2.2.1)), ((zp (p := ⟨gb149, _, none⟩) NB144_149.out _).trans (hHeld.2.2.2.2.2.2.1)), ((zp (p := ⟨gb149, _, none⟩) NB144_149.out _).trans (hHeld.2.2.2.2.2.2.2))⟩ (fun hHeld => ?_)
     clear hK K
     refine zeb (zla HT_.out (by kernel_rfl)) ?_
     try go_wp2
     have n0_ : zg (((w47.setCell ⟨gb148, 3, none⟩ (.int .i64 a2_3)).setCell ⟨gb149, 3, none⟩ (.int .i64 (wrap64 (a0_3 - a2_3)))).heap[gb144]? = some (.cells #[.int .i64 a0_0, .int .i64 a0_1, .int .i64 a0_2, .int .i64 a0_3] 25 (0, 0))) := ⟨by (with_reducible repeat (first | refine ze ?_ _ | refine zf ?_ | refine za ?_ _)); refine zk ?_ NB144_149.out _; (with_reducible repeat (first | refine ze ?_ _ | refine zf ?_ | refine za ?_ _)); refine zk ?_ NB144_148.out _; (with_reducible repeat (first | refine ze ?_ _ | refine zf ?_ | refine za ?_ _)); exact BK144.out⟩
     have n1_ : zg (((w47.setCell ⟨gb148, 3, none⟩ (.int .i64 a2_3)).setCell ⟨gb149, 3, none⟩ (.int .i64 (wrap64 (a0_3 - a2_3)))).heap[gb145]? = some (.cells #[.int .i64 a2_0, .int .i64 a2_1, .int .i64 a2_2, .int .i64 a2_3] 25 (0, 0))) := ⟨by (with_reducible repeat (first | refine ze ?_ _ | refine zf ?_ | refine za ?_ _)); refine zk ?_ NB145_149.out _; (with_reducible repeat (first | refine ze ?_ _ | refine zf ?_ | refine za ?_ _)); refine zk ?_ NB145_148.out _; (with_reducible repeat (first | refine ze ?_ _ | refine zf ?_ | refine za ?_ _)); exact BK145.out⟩
     have n2_ : zg (((w47.setCell ⟨gb148, 3, none⟩ (.int .i64 a2_3)).setCell ⟨gb149, 3, none⟩ (.int .i64 (wrap64 (a0_3 - a2_3)))).heap[gb146]? = some (.cells #[.int .i64 0, .int .i64 0, .int .i64 0, .int .i64 0] 25 (0, 0))) := ⟨by (with_reducible repeat (first | refine ze ?_ _ | refine zf ?_ | refine za ?_ _)); refine zk ?_ NB146_149.out _; (with_reducible repeat (first | refine ze ?_ _ | refine zf ?_ | refine za ?_ _)); refine zk ?_ NB146_148.out _; (with_reducible repeat (first | refine ze ?_ _ | refine zf ?_ | refine za ?_ _)); exact BK146.out⟩
     have n3_ : zg (((w47.setCell ⟨gb148, 3, none⟩ (.int .i64 a2_3)).setCell ⟨gb149, 3, none⟩ (.int .i64 (wrap64 (a0_3 - a2_3)))).heap[gb147]? = some (.cells #[.int .i64 0, .int .i64 0, .int .i64 0, .int .i64 0] 25 (0, 0))) := ⟨by (with_reducible repeat (first | refine ze ?_ _ | refine zf ?_ | refine za ?_ _)); refine zk ?_ NB147_149.out _; (with_reducible repeat (first | refine ze ?_ _ | refine zf ?_ | refine za ?_ _)); refine zk ?_ NB147_148.out _; (with_reducible repeat (first | refine ze ?_ _ | refine zf ?_ | refine za ?_ _)); exact BK147.out⟩
     have n4_ : zg (((w47.setCell ⟨gb148, 3, none⟩ (.int .i64 a2_3)).setCell ⟨gb149, 3, none⟩ (.int .i64 (wrap64 (a0_3 - a2_3)))).heap[gb148]? = some (.cells #[.int .i64 x149000_1, .int .i64 x149001_1, .int .i64 x149002_1, .int .i64 a2_3] 25 (0, 0))) := ⟨by (with_reducible repeat (first | refine ze ?_ _ | refine zf ?_ | refine za ?_ _)); refine zk ?_ NB148_149.out _; (with_reducible repeat (first | refine ze ?_ _ | refine zf ?_ | refine za ?_ _)); refine zy (cs := #[.int .i64 x149000_1, .int .i64 x149001_1, .int .i64 x149002_1, .int .i64 x149003_1]) ?_ 3 _ rfl; (with_reducible repeat (first | refine ze ?_ _ | refine zf ?_ | refine za ?_ _)); exact BK148.out⟩
     have n5_ : zg (((w47.setCell ⟨gb148, 3, none⟩ (.int .i64 a2_3)).setCell ⟨gb149, 3, none⟩ (.int .i64 (wrap64 (a0_3 - a2_3)))).heap[gb149]? = some (.cells #[.int .i64 x150000_1, .int .i64 x150001_1, .int .i64 x150002_1, .int .i64 (wrap64 (a0_3 - a2_3))] 25 (0, 0))) := ⟨by (with_reducible repeat (first | refine ze ?_ _ | refine zf ?_ | refine za ?_ _)); refine zy (cs := #[.int .i64 x150000_1, .int .i64 x150001_1, .int .i64 x150002_1, .int .i64 x150003_1]) ?_ 3 _ rfl; (with_reducible repeat (first | refine ze ?_ _ | refine zf ?_ | refine za ?_ _)); refine zk ?_ NB149_148.out _; (with_reducible repeat (first | refine ze ?_ _ | refine zf ?_ | refine za ?_ _)); exact BK149.out⟩
     have n6_ : zg (Below w.heap.size w ((w47.setCell ⟨gb148, 3, none⟩ (.int .i64 a2_3)).setCell ⟨gb149, 3, none⟩ (.int .i64 (wrap64 (a0_3 - a2_3))))) := ⟨sB⟩
     (try clear BK144)
     (try clear BK145)
     (try clear BK146)
     (try clear BK147)
     (try clear BK148)
     (try clear BK149)
     (try clear HB)
     generalize ((w47.setCell ⟨gb148, 3, none⟩ (.int .i64 a2_3)).setCell ⟨gb149, 3, none⟩ (.int .i64 (wrap64 (a0_3 - a2_3)))) = w50 at n0_ n1_ n2_ n3_ n4_ n5_ n6_ ⊢
     have BK144 := n0_
     have BK145 := n1_
     have BK146 := n2_
     have BK147 := n3_
     have BK148 := n4_
     have BK149 := n5_
     have HB := n6_
     clear n0_ n1_ n2_ n3_ n4_ n5_ n6_
     have n0_ := zg.mk (zf BK144.out)
     have n1_ := zg.mk (zf BK145.out)
     have n2_ := zg.mk (zf BK146.out)
     have n3_ := zg.mk (zf BK147.out)
     have n4_ := zg.mk (zf BK148.out)
     have n5_ := zg.mk (zf BK149.out)
     have n6_ := zg.mk (zo HB.out)
     clear BK144
     clear BK145
     clear BK146
     clear BK147
     clear BK148
     clear BK149
     clear HB
     have BK144 := n0_
     have BK145 := n1_
     have BK146 := n2_
     have BK147 := n3_
     have BK148 := n4_
     have BK149 := n5_
     have HB := n6_
     clear n0_ n1_ n2_ n3_ n4_ n5_ n6_
     refine zra (n := 15) (S := fun w' => w'.cell? ⟨gb148, 0, none⟩ = some (.int .i64 x149000_1) ∧ w'.cell? ⟨gb148, 1, none⟩ = some (.int .i64 x149001_1) ∧ w'.cell? ⟨gb148, 2, none⟩ = some (.int .i64 x149002_1) ∧ w'.cell? ⟨gb148, 3, none⟩ = some (.int .i64 a2_3) ∧ w'.cell? ⟨gb144, 0, none⟩ = some (.int .i64 a0_0) ∧ w'.cell? ⟨gb144, 1, none⟩ = some (.int .i64 a0_1) ∧ w'.cell? ⟨gb144, 2, none⟩ = some (.int .i64 a0_2) ∧ w'.cell? ⟨gb144, 3, none⟩ = some (.int .i64 a0_3) ∧ w'.cell? ⟨gb145, 0, none⟩ = some (.int .i64 a2_0) ∧ w'.cell? ⟨gb145, 1, none⟩ = some (.int .i64 a2_1) ∧ w'.cell? ⟨gb145, 2, none⟩ = some (.int .i64 a2_2) ∧ w'.cell? ⟨gb145, 3, none⟩ = some (.int .i64 a2_3)) (ds := [14]) #[false, false, false, false, false, false, false, false, false, false, false, false, false, false, false] (by kernel_rfl) rfl rfl ⟨(zh BK148.out 0).trans rfl, (zh BK148.out 1).trans rfl, (zh BK148.out 2).trans rfl, (zh BK148.out 3).trans rfl, (zh BK144.out 0).trans rfl, (zh BK144.out 1).trans rfl, (zh BK144.out 2).trans rfl, (zh BK144.out 3).trans rfl, (zh BK145.out 0).trans rfl, (zh BK145.out 1).trans rfl, (zh BK145.out 2).trans rfl, (zh BK145.out 3).trans rfl⟩ (fun hHeld => ?_); refine zka impl_State_split.tab7 impl_State_split.bits7 (fun HT_ HW_ => ?_)
     generalize w50.drew = w51 at BK144 BK145 BK146 BK147 BK148 BK149 HB hHeld ⊢
     refine zaa (i := 0) (N := some 34) (v := ?_) (a' := ?_) #[true, false, false, false, false, false, false, false, false, false, false, false, false, false, false] rfl rfl (zu HT_.out (by kernel_rfl)) (fun _ _ _ h => h) (Or.inl ⟨by rfl, ?_⟩) ?_ ?_
     rotate_left
     ·intro w'
      go_simp
      with_reducible rfl
     rotate_left
     ·simp only [Act.put, List.setIfInBounds_toArray, List.set_cons_zero, List.set_cons_succ, zv, zw]
      rfl
     refine zaa (i := 1) (N := some 35) (v := ?_) (a' := ?_) #[true, true, false, false, false, false, false, false, false, false, false, false, false, false, false] rfl rfl (zu HT_.out (by kernel_rfl)) (fun _ _ _ h => h) (Or.inl ⟨by rfl, ?_⟩) ?_ ?_
     rotate_left
     ·intro w'
      go_simp
      with_reducible rfl
     rotate_left
     ·simp only [Act.put, List.setIfInBounds_toArray, List.set_cons_zero, List.set_cons_succ, zv, zw]
      rfl
     refine zaa (i := 3) (N := some 37) (v := ?_) (a' := ?_) #[true, true, false, true, false, false, false, false, false, false, false, false, false, false, false] rfl rfl (zu HT_.out (by kernel_rfl)) (fun _ _ _ h => h) (Or.inl ⟨by rfl, ?_⟩) ?_ ?_
     rotate_left
     ·intro w'
      go_simp
      with_reducible rfl
     rotate_left
     ·simp only [Act.put, List.setIfInBounds_toArray, List.set_cons_zero, List.set_cons_succ, zv, zw]
      rfl
     refine zaa (i := 4) (N := some 38) (v := ?_) (a' := ?_) #[true, true, false, true, true, false, false, false, false, false, false, false, false, false, false] rfl rfl (zu HT_.out (by kernel_rfl)) (fun _ _ _ h => h) (Or.inl ⟨by rfl, ?_⟩) ?_ ?_
     rotate_left
     ·intro w'
      go_simp
      with_reducible rfl
     rotate_left
     ·simp only [Act.put, List.setIfInBounds_toArray, List.set_cons_zero, List.set_cons_succ, zv, zw]
      rfl
     refine zaa (i := 5) (N := some 39) (v := ?_) (a' := ?_) #[true, true, false, true, true, true, false, false, false, false, false, false, false, false, false] rfl rfl (zu HT_.out (by kernel_rfl)) (fun _ _ _ h => h) (Or.inl ⟨by rfl, ?_⟩) ?_ ?_
     rotate_left
     ·intro w'
      go_simp
      with_reducible rfl
     rotate_left
     ·simp only [Act.put, List.setIfInBounds_toArray, List.set_cons_zero, List.set_cons_succ, zv, zw]
      rfl
     refine zaa (i := 7) (N := some 41) (v := ?_) (a' := ?_) #[true, true, false, true, true, true, false, true, false, false, false, false, false, false, false] rfl rfl (zu HT_.out (by kernel_rfl)) (fun _ _ _ h => h) (Or.inl ⟨by rfl, ?_⟩) ?_ ?_
     rotate_left
     ·intro w'
      go_simp
      with_reducible rfl
     rotate_left
     ·simp only [Act.put, List.setIfInBounds_toArray, List.set_cons_zero, List.set_cons_succ, zv, zw]
      rfl
     refine zaa (i := 8) (N := some 42) (v := ?_) (a' := ?_) #[true, true, false, true, true, true, false, true, true, false, false, false, false, false, false] rfl rfl (zu HT_.out (by kernel_rfl)) (fun _ _ _ h => h) (Or.inl ⟨by rfl, ?_⟩) ?_ ?_
     rotate_left
     ·intro w'
      go_simp
      with_reducible rfl
     rotate_left
     ·simp only [Act.put, List.setIfInBounds_toArray, List.set_cons_zero, List.set_cons_succ, zv, zw]
      rfl
     refine zaa (i := 9) (N := some 43) (v := ?_) (a' := ?_) #[true, true, false, true, true, true, false, true, true, true, false, false, false, false, false] rfl rfl (zu HT_.out (by kernel_rfl)) (fun _ _ _ h => h) (Or.inl ⟨by rfl, ?_⟩) ?_ ?_
     rotate_left
     ·intro w'
      go_simp
      with_reducible rfl
     rotate_left
     ·simp only [Act.put, List.setIfInBounds_toArray, List.set_cons_zero, List.set_cons_succ, zv, zw]
      rfl
     refine take_ (i := 2) (N := some 36) (v := ?_) (a' := ?_) #[true, true, true, true, true, true, false, true, true, true, false, false, false, false, false] rfl rfl (zea HT_.out HW_.out (by kernel_rfl)) (fun _ _ _ h => h) (Or.inl ⟨by rfl, ?_⟩) hHeld ?_ ?_
     rotate_left
     ·rintro w' ⟨s0, s1, s2, s3, s4, s5, s6, s7, s8, s9, s10, s11⟩
      go_simp
      with_reducible rfl
     rotate_left
     ·simp only [Act.put, List.setIfInBounds_toArray, List.set_cons_zero, List.set_cons_succ, zv, zw]
      rfl
     refine take_ (i := 6) (N := some 40) (v := ?_) (a' := ?_) #[true, true, true, true, true, true, true, true, true, true, false, false, false, false, false] rfl rfl (zea HT_.out HW_.out (by kernel_rfl)) (fun _ _ _ h => h) (Or.inl ⟨by rfl, ?_⟩) hHeld ?_ ?_
     rotate_left
     ·rintro w' ⟨s0, s1, s2, s3, s4, s5, s6, s7, s8, s9, s10, s11⟩
      go_simp
      with_reducible rfl
     rotate_left
     ·simp only [Act.put, List.setIfInBounds_toArray, List.set_cons_zero, List.set_cons_succ, zv, zw]
      rfl
     refine take_ (i := 10) (N := some 44) (v := ?_) (a' := ?_) #[true, true, true, true, true, true, true, true, true, true, true, false, false, false, false] rfl rfl (zea HT_.out HW_.out (by kernel_rfl)) (fun _ _ _ h => h) (Or.inl ⟨by rfl, ?_⟩) hHeld ?_ ?_
     rotate_left
     ·rintro w' ⟨s0, s1, s2, s3, s4, s5, s6, s7, s8, s9, s10, s11⟩
      go_simp
      with_reducible rfl
     rotate_left
     ·simp only [Act.put, List.setIfInBounds_toArray, List.set_cons_zero, List.set_cons_succ, zv, zw]
      rfl
     refine zaa (i := 11) (N := some 45) (v := ?_) (a' := ?_) #[true, true, true, true, true, true, true, true, true, true, true, true, false, false, false] rfl rfl (zu HT_.out (by kernel_rfl)) (fun _ _ _ h => h) (Or.inl ⟨by rfl, ?_⟩) ?_ ?_
     rotate_left
     ·intro w'
      go_simp
      with_reducible rfl
     rotate_left
     ·simp only [Act.put, List.setIfInBounds_toArray, List.set_cons_zero, List.set_cons_succ, zv, zw]
      rfl
     refine zaa (i := 12) (N := some 46) (v := ?_) (a' := ?_) #[true, true, true, true, true, true, true, true, true, true, true, true, true, false, false] rfl rfl (zu HT_.out (by kernel_rfl)) (fun _ _ _ h => h) (Or.inl ⟨by rfl, ?_⟩) ?_ ?_
     rotate_left
     ·intro w'
      go_simp
      with_reducible rfl
     rotate_left
     ·simp only [Act.put, List.setIfInBounds_toArray, List.set_cons_zero, List.set_cons_succ, zv, zw]
      rfl
     refine zaa (i := 13) (N := some 47) (v := ?_) (a' := ?_) #[true, true, true, true, true, true, true, true, true, true, true, true, true, true, false] rfl rfl (zu HT_.out (by kernel_rfl)) (fun _ _ _ h => h) (Or.inl ⟨by rfl, ?_⟩) ?_ ?_
     rotate_left
     ·intro w'
      go_simp
      with_reducible rfl
     rotate_left
     ·simp only [Act.put, List.setIfInBounds_toArray, List.set_cons_zero, List.set_cons_succ, zv, zw]
      rfl
     refine zpb (i := 14) (N := none) #[true, true, true, true, true, true, true, true, true, true, true, true, true, true, true] rfl rfl (zna HT_.out (by kernel_rfl)) (by decide) (fun K hK => ?_)
     have hs52 : w51.cell? ⟨gb148, 3, none⟩ = some (.int .i64 a2_3) := (zh BK148.out 3).trans rfl
     have hfs52 := zj BK148.out 3
     have hns52_0 := NB144_148.out
     have hns52_1 := NB145_148.out
     have hns52_2 := NB146_148.out
     have hns52_3 := NB147_148.out
     have hns52_5 := NB149_148.out
     have hms52_0 := NB148_144.out
     have hms52_1 := NB148_145.out
     have hms52_2 := NB148_146.out
     have hms52_3 := NB148_147.out
     have hms52_5 := NB148_149.out
     refine zza (w1 := ?_) (by rfl) rfl ?_ ?_
     rotate_left
     ·go_simp
      rfl
     refine hK.out _ _ ?_
     clear hK K
     refine zeb (zla HT_.out (by kernel_rfl)) ?_
     try go_wp2
     have n0_ : zg ((w51.setCell ⟨gb148, 3, none⟩ (.int .i64 (wrap64 (a2_3 + (wrap64 (a0_2 - a2_2)))))).heap[gb144]? = some (.cells #[.int .i64 a0_0, .int .i64 a0_1, .int .i64 a0_2, .int .i64 a0_3] 25 (0, 0))) := ⟨by (with_reducible repeat (first | refine ze ?_ _ | refine zf ?_ | refine za ?_ _)); refine zk ?_ NB144_148.out _; (with_reducible repeat (first | refine ze ?_ _ | refine zf ?_ | refine za ?_ _)); exact BK144.out⟩
     have n1_ : zg ((w51.setCell ⟨gb148, 3, none⟩ (.int .i64 (wrap64 (a2_3 + (wrap64 (a0_2 - a2_2)))))).heap[gb145]? = some (.cells #[.int .i64 a2_0, .int .i64 a2_1, .int .i64 a2_2, .int .i64 a2_3] 25 (0, 0))) := ⟨by (with_reducible repeat (first | refine ze ?_ _ | refine zf ?_ | refine za ?_ _)); refine zk ?_ NB145_148.out _; (with_reducible repeat (first | refine ze ?_ _ | refine zf ?_ | refine za ?_ _)); exact BK145.out⟩
     have n2_ : zg ((w51.setCell ⟨gb148, 3, none⟩ (.int .i64 (wrap64 (a2_3 + (wrap64 (a0_2 - a2_2)))))).heap[gb146]? = some (.cells #[.int .i64 0, .int .i64 0, .int .i64 0, .int .i64 0] 25 (0, 0))) := ⟨by (with_reducible repeat (first | refine ze ?_ _ | refine zf ?_ | refine za ?_ _)); refine zk ?_ NB146_148.out _; (with_reducible repeat (first | refine ze ?_ _ | refine zf ?_ | refine za ?_ _)); exact BK146.out⟩
     have n3_ : zg ((w51.setCell ⟨gb148, 3, none⟩ (.int .i64 (wrap64 (a2_3 + (wrap64 (a0_2 - a2_2)))))).heap[gb147]? = some (.cells #[.int .i64 0, .int .i64 0, .int .i64 0, .int .i64 0] 25 (0, 0))) := ⟨by (with_reducible repeat (first | refine ze ?_ _ | refine zf ?_ | refine za ?_ _)); refine zk ?_ NB147_148.out _; (with_reducible repeat (first | refine ze ?_ _ | refine zf ?_ | refine za ?_ _)); exact BK147.out⟩
     have n4_ : zg ((w51.setCell ⟨gb148, 3, none⟩ (.int .i64 (wrap64 (a2_3 + (wrap64 (a0_2 - a2_2)))))).heap[gb148]? = some (.cells #[.int .i64 x149000_1, .int .i64 x149001_1, .int .i64 x149002_1, .int .i64 (wrap64 (a2_3 + (wrap64 (a0_2 - a2_2))))] 25 (0, 0))) := ⟨by (with_reducible repeat (first | refine ze ?_ _ | refine zf ?_ | refine za ?_ _)); refine zy (cs := #[.int .i64 x149000_1, .int .i64 x149001_1, .int .i64 x149002_1, .int .i64 a2_3]) ?_ 3 _ rfl; (with_reducible repeat (first | refine ze ?_ _ | refine zf ?_ | refine za ?_ _)); exact BK148.out⟩
     have n5_ : zg ((w51.setCell ⟨gb148, 3, none⟩ (.int .i64 (wrap64 (a2_3 + (wrap64 (a0_2 - a2_2)))))).heap[gb149]? = some (.cells #[.int .i64 x150000_1, .int .i64 x150001_1, .int .i64 x150002_1, .int .i64 (wrap64 (a0_3 - a2_3))] 25 (0, 0))) := ⟨by (with_reducible repeat (first | refine ze ?_ _ | refine zf ?_ | refine za ?_ _)); refine zk ?_ NB149_148.out _; (with_reducible repeat (first | refine ze ?_ _ | refine zf ?_ | refine za ?_ _)); exact BK149.out⟩
     have n6_ : zg (Below w.heap.size w (w51.setCell ⟨gb148, 3, none⟩ (.int .i64 (wrap64 (a2_3 + (wrap64 (a0_2 - a2_2))))))) := ⟨sB⟩
     (try clear BK144)
     (try clear BK145)
     (try clear BK146)
     (try clear BK147)
     (try clear BK148)
     (try clear BK149)
     (try clear HB)
     generalize (w51.setCell ⟨gb148, 3, none⟩ (.int .i64 (wrap64 (a2_3 + (wrap64 (a0_2 - a2_2)))))) = w53 at n0_ n1_ n2_ n3_ n4_ n5_ n6_ ⊢
     have BK144 := n0_
     have BK145 := n1_
     have BK146 := n2_
     have BK147 := n3_
     have BK148 := n4_
     have BK149 := n5_
     have HB := n6_
     clear n0_ n1_ n2_ n3_ n4_ n5_ n6_
     have n0_ := zg.mk (zf BK144.out)
     have n1_ := zg.mk (zf BK145.out)
     have n2_ := zg.mk (zf BK146.out)
     have n3_ := zg.mk (zf BK147.out)
     have n4_ := zg.mk (zf BK148.out)
     have n5_ := zg.mk (zf BK149.out)
     have n6_ := zg.mk (zo HB.out)
     clear BK144
     clear BK145
     clear BK146
     clear BK147
     clear BK148
     clear BK149
     clear HB
     have BK144 := n0_
     have BK145 := n1_
     have BK146 := n2_
     have BK147 := n3_
     have BK148 := n4_
     have BK149 := n5_
     have HB := n6_
     clear n0_ n1_ n2_ n3_ n4_ n5_ n6_
     refine zra (n := 10) (S := fun w' => w'.cell? ⟨gb149, 0, none⟩ = some (.int .i64 x150000_1) ∧ w'.cell? ⟨gb149, 1, none⟩ = some (.int .i64 x150001_1) ∧ w'.cell? ⟨gb149, 2, none⟩ = some (.int .i64 x150002_1) ∧ w'.cell? ⟨gb149, 3, none⟩ = some (.int .i64 (wrap64 (a0_3 - a2_3))) ∧ w'.cell? ⟨gb145, 0, none⟩ = some (.int .i64 a2_0) ∧ w'.cell? ⟨gb145, 1, none⟩ = some (.int .i64 a2_1) ∧ w'.cell? ⟨gb145, 2, none⟩ = some (.int .i64 a2_2) ∧ w'.cell? ⟨gb145, 3, none⟩ = some (.int .i64 a2_3)) (ds := [9]) #[false, false, false, false, false, false, false, false, false, false] (by kernel_rfl) rfl rfl ⟨(zh BK149.out 0).trans rfl, (zh BK149.out 1).trans rfl, (zh BK149.out 2).trans rfl, (zh BK149.out 3).trans rfl, (zh BK145.out 0).trans rfl, (zh BK145.out 1).trans rfl, (zh BK145.out 2).trans rfl, (zh BK145.out 3).trans rfl⟩ (fun hHeld => ?_); refine zka impl_State_split.tab8 impl_State_split.bits8 (fun HT_ HW_ => ?_)
     generalize w53.drew = w54 at BK144 BK145 BK146 BK147 BK148 BK149 HB hHeld ⊢
     refine zaa (i := 0) (N := some 48) (v := ?_) (a' := ?_) #[true, false, false, false, false, false, false, false, false, false] rfl rfl (zu HT_.out (by kernel_rfl)) (fun _ _ _ h => h) (Or.inl ⟨by rfl, ?_⟩) ?_ ?_
     rotate_left
     ·intro w'
      go_simp
      with_reducible rfl
     rotate_left
     ·simp only [Act.put, List.setIfInBounds_toArray, List.set_cons_zero, List.set_cons_succ, zv, zw]
      rfl
     refine zaa (i := 1) (N := some 49) (v := ?_) (a' := ?_) #[true, true, false, false, false, false, false, false, false, false] rfl rfl (zu HT_.out (by kernel_rfl)) (fun _ _ _ h => h) (Or.inl ⟨by rfl, ?_⟩) ?_ ?_
     rotate_left
     ·intro w'
      go_simp
      with_reducible rfl
     rotate_left
     ·simp only [Act.put, List.setIfInBounds_toArray, List.set_cons_zero, List.set_cons_succ, zv, zw]
      rfl
     refine zaa (i := 3) (N := some 51) (v := ?_) (a' := ?_) #[true, true, false, true, false, false, false, false, false, false] rfl rfl (zu HT_.out (by kernel_rfl)) (fun _ _ _ h => h) (Or.inl ⟨by rfl, ?_⟩) ?_ ?_
     rotate_left
     ·intro w'
      go_simp
      with_reducible rfl
     rotate_left
     ·simp only [Act.put, List.setIfInBounds_toArray, List.set_cons_zero, List.set_cons_succ, zv, zw]
      rfl
     refine zaa (i := 4) (N := some 52) (v := ?_) (a' := ?_) #[true, true, false, true, true, false, false, false, false, false] rfl rfl (zu HT_.out (by kernel_rfl)) (fun _ _ _ h => h) (Or.inl ⟨by rfl, ?_⟩) ?_ ?_
     rotate_left
     ·intro w'
      go_simp
      with_reducible rfl
     rotate_left
     ·simp only [Act.put, List.setIfInBounds_toArray, List.set_cons_zero, List.set_cons_succ, zv, zw]
      rfl
     refine zaa (i := 5) (N := some 53) (v := ?_) (a' := ?_) #[true, true, false, true, true, true, false, false, false, false] rfl rfl (zu HT_.out (by kernel_rfl)) (fun _ _ _ h => h) (Or.inl ⟨by rfl, ?_⟩) ?_ ?_
     rotate_left
     ·intro w'
      go_simp
      with_reducible rfl
     rotate_left
     ·simp only [Act.put, List.setIfInBounds_toArray, List.set_cons_zero, List.set_cons_succ, zv, zw]
      rfl
     refine take_ (i := 2) (N := some 50) (v := ?_) (a' := ?_) #[true, true, true, true, true, true, false, false, false, false] rfl rfl (zea HT_.out HW_.out (by kernel_rfl)) (fun _ _ _ h => h) (Or.inl ⟨by rfl, ?_⟩) hHeld ?_ ?_
     rotate_left
     ·rintro w' ⟨s0, s1, s2, s3, s4, s5, s6, s7⟩
      go_simp
      with_reducible rfl
     rotate_left
     ·simp only [Act.put, List.setIfInBounds_toArray, List.set_cons_zero, List.set_cons_succ, zv, zw]
      rfl
     refine take_ (i := 6) (N := some 54) (v := ?_) (a' := ?_) #[true, true, true, true, true, true, true, false, false, false] rfl rfl (zea HT_.out HW_.out (by kernel_rfl)) (fun _ _ _ h => h) (Or.inl ⟨by rfl, ?_⟩) hHeld ?_ ?_
     rotate_left
     ·rintro w' ⟨s0, s1, s2, s3, s4, s5, s6, s7⟩
      go_simp
      with_reducible rfl
     rotate_left
     ·simp only [Act.put, List.setIfInBounds_toArray, List.set_cons_zero, List.set_cons_succ, zv, zw]
      rfl
     refine zaa (i := 7) (N := some 55) (v := ?_) (a' := ?_) #[true, true, true, true, true, true, true, true, false, false] rfl rfl (zu HT_.out (by kernel_rfl)) (fun _ _ _ h => h) (Or.inl ⟨by rfl, ?_⟩) ?_ ?_
     rotate_left
     ·intro w'
      go_simp
      with_reducible rfl
     rotate_left
     ·simp only [Act.put, List.setIfInBounds_toArray, List.set_cons_zero, List.set_cons_succ, zv, zw]
      rfl
     refine zaa (i := 8) (N := some 56) (v := ?_) (a' := ?_) #[true, true, true, true, true, true, true, true, true, false] rfl rfl (zu HT_.out (by kernel_rfl)) (fun _ _ _ h => h) (Or.inl ⟨by rfl, ?_⟩) ?_ ?_
     rotate_left
     ·intro w'
      go_simp
      with_reducible rfl
     rotate_left
     ·simp only [Act.put, List.setIfInBounds_toArray, List.set_cons_zero, List.set_cons_succ, zv, zw]
      rfl
     refine zpb (i := 9) (N := none) #[true, true, true, true, true, true, true, true, true, true] rfl rfl (zna HT_.out (by kernel_rfl)) (by decide) (fun K hK => ?_)
     have hs55 : w54.cell? ⟨gb149, 3, none⟩ = some (.int .i64 (wrap64 (a0_3 - a2_3))) := (zh BK149.out 3).trans rfl
     have hfs55 := zj BK149.out 3
     have hns55_0 := NB144_149.out
     have hns55_1 := NB145_149.out
     have hns55_2 := NB146_149.out
     have hns55_3 := NB147_149.out
     have hns55_4 := NB148_149.out
     have hms55_0 := NB149_144.out
     have hms55_1 := NB149_145.out
     have hms55_2 := NB149_146.out
     have hms55_3 := NB149_147.out
     have hms55_4 := NB149_148.out
     refine zza (w1 := ?_) (by rfl) rfl ?_ ?_
     rotate_left
     ·go_simp
      rfl
     refine hK.out _ _ ?_
     clear hK K
     refine zeb (zla HT_.out (by kernel_rfl)) ?_
     try go_wp2
     go_roundg k1
     case measure => have := HK1.out; omega
     case rel => exact ⟨(3 + 1), (x149000_1), (x149001_1), (x149002_1), (wrap64 (a2_3 + (wrap64 (a0_2 - a2_2)))), (x150000_1), (x150001_1), (x150002_1), (wrap64 ((wrap64 (a0_3 - a2_3)) + a2_2)), (by first | rfl | (simp; done) | (simp [*]; done)), H', ⟨by have := HK1.out; omega⟩, ⟨by (with_reducible repeat (first | refine ze ?_ _ | refine zf ?_ | refine za ?_ _)); refine zk ?_ NB144_149.out _; (with_reducible repeat (first | refine ze ?_ _ | refine zf ?_ | refine za ?_ _)); exact BK144.out⟩, ⟨by (with_reducible repeat (first | refine ze ?_ _ | refine zf ?_ | refine za ?_ _)); refine zk ?_ NB145_149.out _; (with_reducible repeat (first | refine ze ?_ _ | refine zf ?_ | refine za ?_ _)); exact BK145.out⟩, ⟨by (with_reducible repeat (first | refine ze ?_ _ | refine zf ?_ | refine za ?_ _)); refine zk ?_ NB146_149.out _; (with_reducible repeat (first | refine ze ?_ _ | refine zf ?_ | refine za ?_ _)); exact BK146.out⟩, ⟨by (with_reducible repeat (first | refine ze ?_ _ | refine zf ?_ | refine za ?_ _)); refine zk ?_ NB147_149.out _; (with_reducible repeat (first | refine ze ?_ _ | refine zf ?_ | refine za ?_ _)); exact BK147.out⟩, ⟨by (with_reducible repeat (first | refine ze ?_ _ | refine zf ?_ | refine za ?_ _)); refine zk ?_ NB148_149.out _; (with_reducible repeat (first | refine ze ?_ _ | refine zf ?_ | refine za ?_ _)); exact BK148.out⟩, ⟨by (with_reducible repeat (first | refine ze ?_ _ | refine zf ?_ | refine za ?_ _)); refine zy (cs := #[.int .i64 x150000_1, .int .i64 x150001_1, .int .i64 x150002_1, .int .i64 (wrap64 (a0_3 - a2_3))]) ?_ 3 _ rfl; (with_reducible repeat (first | refine ze ?_ _ | refine zf ?_ | refine za ?_ _)); exact BK149.out⟩, ⟨sB⟩⟩
    rw [if_neg c46] at H
    clear c46
    exact absurd H (by simp)
   rw [if_neg c21] at H
   have c21b0 : decide (x15_1 < (wrap64 (a1 + 1))) = false := decide_eq_false c21
   (try (have c21b1 : decide (x15_1 < (IntKind.i64.wrap (a1 + 1))) = false := by have h_ : decide (x15_1 < (wrap64 (a1 + 1))) = false := decide_eq_false c21; simpa only [zv, zw] using h_))
   clear c21
   simp only [Option.some.injEq, Prod.mk.injEq] at H
   obtain ⟨rfl, rfl, rfl, rfl, rfl, rfl, rfl, rfl⟩ := H
   try go_wp2
   have n0_ := zg.mk (zf BK144.out)
   have n1_ := zg.mk (zf BK145.out)
   have n2_ := zg.mk (zf BK146.out)
   have n3_ := zg.mk (zf BK147.out)
   have n4_ := zg.mk (zf BK148.out)
   have n5_ := zg.mk (zf BK149.out)
   have n6_ := zg.mk (zo HB.out)
   clear BK144
   clear BK145
   clear BK146
   clear BK147
   clear BK148
   clear BK149
   clear HB
   have BK144 := n0_
   have BK145 := n1_
   have BK146 := n2_
   have BK147 := n3_
   have BK148 := n4_
   have BK149 := n5_
   have HB := n6_
   clear n0_ n1_ n2_ n3_ n4_ n5_ n6_
   refine zra (n := 4) (S := fun w' => w'.cell? ⟨gb148, 0, none⟩ = some (.int .i64 x149000_1) ∧ w'.cell? ⟨gb148, 1, none⟩ = some (.int .i64 x149001_1) ∧ w'.cell? ⟨gb148, 2, none⟩ = some (.int .i64 x149002_1) ∧ w'.cell? ⟨gb148, 3, none⟩ = some (.int .i64 x149003_1) ∧ w'.cell? ⟨gb149, 0, none⟩ = some (.int .i64 x150000_1) ∧ w'.cell? ⟨gb149, 1, none⟩ = some (.int .i64 x150001_1) ∧ w'.cell? ⟨gb149, 2, none⟩ = some (.int .i64 x150002_1) ∧ w'.cell? ⟨gb149, 3, none⟩ = some (.int .i64 x150003_1)) (ds := []) #[false, false, false, false] (by kernel_rfl) rfl rfl ⟨(zh BK148.out 0).trans rfl, (zh BK148.out 1).trans rfl, (zh BK148.out 2).trans rfl, (zh BK148.out 3).trans rfl, (zh BK149.out 0).trans rfl, (zh BK149.out 1).trans rfl, (zh BK149.out 2).trans rfl, (zh BK149.out 3).trans rfl⟩ (fun hHeld => ?_)
   generalize wr.drew = w56 at BK144 BK145 BK146 BK147 BK148 BK149 HB hHeld ⊢
   refine take_ (i := 0) (N := some 58) (v := ?_) (a' := ?_) #[true, false, false, false] rfl rfl (by kernel_rfl) (fun _ _ _ h => h) (Or.inl ⟨by rfl, ?_⟩) hHeld ?_ ?_
   rotate_left
   ·rintro w' ⟨s0, s1, s2, s3, s4, s5, s6, s7⟩
    go_simp
    with_reducible rfl
   rotate_left
   ·simp only [Act.put, List.setIfInBounds_toArray, List.set_cons_zero, List.set_cons_succ, zv, zw]
    rfl
   refine take_ (i := 1) (N := some 59) (v := ?_) (a' := ?_) #[true, true, false, false] rfl rfl (by kernel_rfl) (fun _ _ _ h => h) (Or.inl ⟨by rfl, ?_⟩) hHeld ?_ ?_
   rotate_left
   ·rintro w' ⟨s0, s1, s2, s3, s4, s5, s6, s7⟩
    go_simp
    with_reducible rfl
   rotate_left
   ·simp only [Act.put, List.setIfInBounds_toArray, List.set_cons_zero, List.set_cons_succ, zv, zw]
    rfl
   refine one_ (i := 2) (N := none) #[true, true, true, false] rfl rfl (by kernel_rfl) (by decide) (fun K hK => ?_)
   have hs57 : w56.cell? ⟨gb146, 0, none⟩ = some (.int .i64 0) := (zh BK146.out 0).trans rfl
   have hfs57 := zj BK146.out 0
   have hns57_0 := NB144_146.out
   have hns57_1 := NB145_146.out
   have hns57_3 := NB147_146.out
   have hns57_4 := NB148_146.out
   have hns57_5 := NB149_146.out
   have hms57_0 := NB146_144.out
   have hms57_1 := NB146_145.out
   have hms57_3 := NB146_147.out
   have hms57_4 := NB146_148.out
   have hms57_5 := NB146_149.out
   have hs58 : w56.cell? ⟨gb146, 1, none⟩ = some (.int .i64 0) := (zh BK146.out 1).trans rfl
   have hfs58 := zj BK146.out 1
   have hns58_0 := NB144_146.out
   have hns58_1 := NB145_146.out
   have hns58_3 := NB147_146.out
   have hns58_4 := NB148_146.out
   have hns58_5 := NB149_146.out
   have hms58_0 := NB146_144.out
   have hms58_1 := NB146_145.out
   have hms58_3 := NB146_147.out
   have hms58_4 := NB146_148.out
   have hms58_5 := NB146_149.out
   have hs59 : w56.cell? ⟨gb146, 2, none⟩ = some (.int .i64 0) := (zh BK146.out 2).trans rfl
   have hfs59 := zj BK146.out 2
   have hns59_0 := NB144_146.out
   have hns59_1 := NB145_146.out
   have hns59_3 := NB147_146.out
   have hns59_4 := NB148_146.out
   have hns59_5 := NB149_146.out
   have hms59_0 := NB146_144.out
   have hms59_1 := NB146_145.out
   have hms59_3 := NB146_147.out
   have hms59_4 := NB146_148.out
   have hms59_5 := NB146_149.out
   have hs60 : w56.cell? ⟨gb146, 3, none⟩ = some (.int .i64 0) := (zh BK146.out 3).trans rfl
   have hfs60 := zj BK146.out 3
   have hns60_0 := NB144_146.out
   have hns60_1 := NB145_146.out
   have hns60_3 := NB147_146.out
   have hns60_4 := NB148_146.out
   have hns60_5 := NB149_146.out
   have hms60_0 := NB146_144.out
   have hms60_1 := NB146_145.out
   have hms60_3 := NB146_147.out
   have hms60_4 := NB146_148.out
   have hms60_5 := NB146_149.out
   refine zza (w1 := ?_) (by rfl) rfl ?_ ?_
   rotate_left
   ·go_simp
    rfl
   refine hK.out _ _ ⟨((zp (p := ⟨gb146, _, none⟩) NB148_146.out _).trans (((zp (p := ⟨gb146, _, none⟩) NB148_146.out _).trans (((zp (p := ⟨gb146, _, none⟩) NB148_146.out _).trans (((zp (p := ⟨gb146, _, none⟩) NB148_146.out _).trans (hHeld.1)))))))), ((zp (p := ⟨gb146, _, none⟩) NB148_146.out _).trans (((zp (p := ⟨gb146, _, none⟩) NB148_146.out _).trans (((zp (p := ⟨gb146, _, none⟩) NB148_146.out _).trans (((zp (p := ⟨gb146, _, none⟩) NB148_146.out _).trans (hHeld.2.1)))))))), ((zp (p := ⟨gb146, _, none⟩) NB148_146.out _).trans (((zp (p := ⟨gb146, _, none⟩) NB148_146.out _).trans (((zp (p := ⟨gb146, _, none⟩) NB148_146.out _).trans (((zp (p := ⟨gb146, _, none⟩) NB148_146.out _).trans (hHeld.2.2.1)))))))), ((zp (p := ⟨gb146, _, none⟩) NB148_146.out _).trans (((zp (p := ⟨gb146, _, none⟩) NB148_146.out _).trans (((zp (p := ⟨gb146, _, none⟩) NB148_146.out _).trans (((zp (p := ⟨gb146, _, none⟩) NB148_146.out _).trans (hHeld.2.2.2.1)))))))), ((zp (p := ⟨gb146, _, none⟩) NB149_146.out _).trans (((zp (p := ⟨gb146, _, none⟩) NB149_146.out _).trans (((zp (p := ⟨gb146, _, none⟩) NB149_146.out _).trans (((zp (p := ⟨gb146, _, none⟩) NB149_146.out _).trans (hHeld.2.2.2.2.1)))))))), ((zp (p := ⟨gb146, _, none⟩) NB149_146.out _).trans (((zp (p := ⟨gb146, _, none⟩) NB149_146.out _).trans (((zp (p := ⟨gb146, _, none⟩) NB149_146.out _).trans (((zp (p := ⟨gb146, _, none⟩) NB149_146.out _).trans (hHeld.2.2.2.2.2.1)))))))), ((zp (p := ⟨gb146, _, none⟩) NB149_146.out _).trans (((zp (p := ⟨gb146, _, none⟩) NB149_146.out _).trans (((zp (p := ⟨gb146, _, none⟩) NB149_146.out _).trans (((zp (p := ⟨gb146, _, none⟩) NB149_146.out _).trans (hHeld.2.2.2.2.2.2.1)))))))), ((zp (p := ⟨gb146, _, none⟩) NB149_146.out _).trans (((zp (p := ⟨gb146, _, none⟩) NB149_146.out _).trans (((zp (p := ⟨gb146, _, none⟩) NB149_146.out _).trans (((zp (p := ⟨gb146, _, none⟩) NB149_146.out _).trans (hHeld.2.2.2.2.2.2.2))))))))⟩ (fun hHeld => ?_)
   clear hK K
   refine one_ (i := 3) (N := none) #[true, true, true, true] rfl rfl (by kernel_rfl) (by decide) (fun K hK => ?_)
   have hs61 : w56.cell? ⟨gb147, 0, none⟩ = some (.int .i64 0) := (zh BK147.out 0).trans rfl
   have hfs61 := zj BK147.out 0
   have hns61_0 := NB144_147.out
   have hns61_1 := NB145_147.out
   have hns61_2 := NB146_147.out
   have hns61_4 := NB148_147.out
   have hns61_5 := NB149_147.out
   have hms61_0 := NB147_144.out
   have hms61_1 := NB147_145.out
   have hms61_2 := NB147_146.out
   have hms61_4 := NB147_148.out
   have hms61_5 := NB147_149.out
   have hs62 : w56.cell? ⟨gb147, 1, none⟩ = some (.int .i64 0) := (zh BK147.out 1).trans rfl
   have hfs62 := zj BK147.out 1
   have hns62_0 := NB144_147.out
   have hns62_1 := NB145_147.out
   have hns62_2 := NB146_147.out
   have hns62_4 := NB148_147.out
   have hns62_5 := NB149_147.out
   have hms62_0 := NB147_144.out
   have hms62_1 := NB147_145.out
   have hms62_2 := NB147_146.out
   have hms62_4 := NB147_148.out
   have hms62_5 := NB147_149.out
   have hs63 : w56.cell? ⟨gb147, 2, none⟩ = some (.int .i64 0) := (zh BK147.out 2).trans rfl
   have hfs63 := zj BK147.out 2
   have hns63_0 := NB144_147.out
   have hns63_1 := NB145_147.out
   have hns63_2 := NB146_147.out
   have hns63_4 := NB148_147.out
   have hns63_5 := NB149_147.out
   have hms63_0 := NB147_144.out
   have hms63_1 := NB147_145.out
   have hms63_2 := NB147_146.out
   have hms63_4 := NB147_148.out
   have hms63_5 := NB147_149.out
   have hs64 : w56.cell? ⟨gb147, 3, none⟩ = some (.int .i64 0) := (zh BK147.out 3).trans rfl
   have hfs64 := zj BK147.out 3
   have hns64_0 := NB144_147.out
   have hns64_1 := NB145_147.out
   have hns64_2 := NB146_147.out
   have hns64_4 := NB148_147.out
   have hns64_5 := NB149_147.out
   have hms64_0 := NB147_144.out
   have hms64_1 := NB147_145.out
   have hms64_2 := NB147_146.out
   have hms64_4 := NB147_148.out
   have hms64_5 := NB147_149.out
   refine zza (w1 := ?_) (by rfl) rfl ?_ ?_
   rotate_left
   ·go_simp
    rfl
   refine hK.out _ _ ⟨((zp (p := ⟨gb147, _, none⟩) NB148_147.out _).trans (((zp (p := ⟨gb147, _, none⟩) NB148_147.out _).trans (((zp (p := ⟨gb147, _, none⟩) NB148_147.out _).trans (((zp (p := ⟨gb147, _, none⟩) NB148_147.out _).trans (hHeld.1)))))))), ((zp (p := ⟨gb147, _, none⟩) NB148_147.out _).trans (((zp (p := ⟨gb147, _, none⟩) NB148_147.out _).trans (((zp (p := ⟨gb147, _, none⟩) NB148_147.out _).trans (((zp (p := ⟨gb147, _, none⟩) NB148_147.out _).trans (hHeld.2.1)))))))), ((zp (p := ⟨gb147, _, none⟩) NB148_147.out _).trans (((zp (p := ⟨gb147, _, none⟩) NB148_147.out _).trans (((zp (p := ⟨gb147, _, none⟩) NB148_147.out _).trans (((zp (p := ⟨gb147, _, none⟩) NB148_147.out _).trans (hHeld.2.2.1)))))))), ((zp (p := ⟨gb147, _, none⟩) NB148_147.out _).trans (((zp (p := ⟨gb147, _, none⟩) NB148_147.out _).trans (((zp (p := ⟨gb147, _, none⟩) NB148_147.out _).trans (((zp (p := ⟨gb147, _, none⟩) NB148_147.out _).trans (hHeld.2.2.2.1)))))))), ((zp (p := ⟨gb147, _, none⟩) NB149_147.out _).trans (((zp (p := ⟨gb147, _, none⟩) NB149_147.out _).trans (((zp (p := ⟨gb147, _, none⟩) NB149_147.out _).trans (((zp (p := ⟨gb147, _, none⟩) NB149_147.out _).trans (hHeld.2.2.2.2.1)))))))), ((zp (p := ⟨gb147, _, none⟩) NB149_147.out _).trans (((zp (p := ⟨gb147, _, none⟩) NB149_147.out _).trans (((zp (p := ⟨gb147, _, none⟩) NB149_147.out _).trans (((zp (p := ⟨gb147, _, none⟩) NB149_147.out _).trans (hHeld.2.2.2.2.2.1)))))))), ((zp (p := ⟨gb147, _, none⟩) NB149_147.out _).trans (((zp (p := ⟨gb147, _, none⟩) NB149_147.out _).trans (((zp (p := ⟨gb147, _, none⟩) NB149_147.out _).trans (((zp (p := ⟨gb147, _, none⟩) NB149_147.out _).trans (hHeld.2.2.2.2.2.2.1)))))))), ((zp (p := ⟨gb147, _, none⟩) NB149_147.out _).trans (((zp (p := ⟨gb147, _, none⟩) NB149_147.out _).trans (((zp (p := ⟨gb147, _, none⟩) NB149_147.out _).trans (((zp (p := ⟨gb147, _, none⟩) NB149_147.out _).trans (hHeld.2.2.2.2.2.2.2))))))))⟩ (fun hHeld => ?_)
   clear hK K
   refine zeb (by kernel_rfl) ?_
   try go_wp2
   refine bodyPost_ret (zbd rfl _ _ gb146 gb147 25 25 #[.int .i64 x149000_1, .int .i64 x149001_1, .int .i64 x149002_1, .int .i64 x149003_1] #[.int .i64 x150000_1, .int .i64 x150001_1, .int .i64 x150002_1, .int .i64 x150003_1] (0, 0) (0, 0) _ _ rfl (by (with_reducible repeat (first | refine ze ?_ _ | refine zf ?_ | refine za ?_ _)); refine zk ?_ NB146_147.out _; (with_reducible repeat (first | refine ze ?_ _ | refine zf ?_ | refine za ?_ _)); refine zk ?_ NB146_147.out _; (with_reducible repeat (first | refine ze ?_ _ | refine zf ?_ | refine za ?_ _)); refine zk ?_ NB146_147.out _; (with_reducible repeat (first | refine ze ?_ _ | refine zf ?_ | refine za ?_ _)); refine zk ?_ NB146_147.out _; (with_reducible repeat (first | refine ze ?_ _ | refine zf ?_ | refine za ?_ _)); refine zy (cs := #[.int .i64 x149000_1, .int .i64 x149001_1, .int .i64 x149002_1, .int .i64 0]) ?_ 3 _ rfl; (with_reducible repeat (first | refine ze ?_ _ | refine zf ?_ | refine za ?_ _)); refine zy (cs := #[.int .i64 x149000_1, .int .i64 x149001_1, .int .i64 0, .int .i64 0]) ?_ 2 _ rfl; (with_reducible repeat (first | refine ze ?_ _ | refine zf ?_ | refine za ?_ _)); refine zy (cs := #[.int .i64 x149000_1, .int .i64 0, .int .i64 0, .int .i64 0]) ?_ 1 _ rfl; (with_reducible repeat (first | refine ze ?_ _ | refine zf ?_ | refine za ?_ _)); refine zy (cs := #[.int .i64 0, .int .i64 0, .int .i64 0, .int .i64 0]) ?_ 0 _ rfl; (with_reducible repeat (first | refine ze ?_ _ | refine zf ?_ | refine za ?_ _)); exact BK146.out) Try.underlying25 rfl (by kernel_rfl) rfl (by (with_reducible repeat (first | refine ze ?_ _ | refine zf ?_ | refine za ?_ _)); refine zy (cs := #[.int .i64 x150000_1, .int .i64 x150001_1, .int .i64 x150002_1, .int .i64 0]) ?_ 3 _ rfl; (with_reducible repeat (first | refine ze ?_ _ | refine zf ?_ | refine za ?_ _)); refine zy (cs := #[.int .i64 x150000_1, .int .i64 x150001_1, .int .i64 0, .int .i64 0]) ?_ 2 _ rfl; (with_reducible repeat (first | refine ze ?_ _ | refine zf ?_ | refine za ?_ _)); refine zy (cs := #[.int .i64 x150000_1, .int .i64 0, .int .i64 0, .int .i64 0]) ?_ 1 _ rfl; (with_reducible repeat (first | refine ze ?_ _ | refine zf ?_ | refine za ?_ _)); refine zy (cs := #[.int .i64 0, .int .i64 0, .int .i64 0, .int .i64 0]) ?_ 0 _ rfl; (with_reducible repeat (first | refine ze ?_ _ | refine zf ?_ | refine za ?_ _)); refine zk ?_ NB147_146.out _; (with_reducible repeat (first | refine ze ?_ _ | refine zf ?_ | refine za ?_ _)); refine zk ?_ NB147_146.out _; (with_reducible repeat (first | refine ze ?_ _ | refine zf ?_ | refine za ?_ _)); refine zk ?_ NB147_146.out _; (with_reducible repeat (first | refine ze ?_ _ | refine zf ?_ | refine za ?_ _)); refine zk ?_ NB147_146.out _; (with_reducible repeat (first | refine ze ?_ _ | refine zf ?_ | refine za ?_ _)); exact BK147.out) Try.underlying25 rfl (by kernel_rfl)) rfl ?_
   exact ⟨by first | rfl | (simp [zca, zda] <;> rfl) | (simp [*, zca, zda] <;> rfl), sB⟩

end Go.Proofs.Ytgcbhknpfpgffaa.C
