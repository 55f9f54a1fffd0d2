-- Written by wip/tools/myprint.py, a program of this session, by way of the kit's print.
import Derived.Test.YtgcbhknpfpgffaaCx0
namespace Go.Proofs.Ytgcbhknpfpgffaa.C
open Go.RowKit Go.Proofs.YtgcbhknpfpgffaaW.PrintWords Go.Proofs.YtgcbhknpfpgffaaW.PrintLast Go.Proofs.YtgcbhknpfpgffaaW.PrintMore
attribute [local go_sem] wl_0 wl_1 wl_2 wl_3 wl_4 zdb zcb zkb zjb zva zwa zbb zab   -- for this text's walks alone
set_option linter.unusedVariables false
set_option linter.unusedSimpArgs false

/-! ### laws_toState: function 5 -/
def laws_toState.l0 : Nat → Int → Int → Int → Int → Int → Int → Int → Int → Int → Option (Int × Int × Int × Int)
 | 0, _, _, _, _, _, _, _, _, _ => none
 | k + 1, x4, x125000, x125001, x125002, x125003, x127000, x127001, x127002, x127003 => if x4 < 4 then (if 0 ≤ x4 then (laws_toState.l0 k (wrap64 (x4 + 1)) x125000 x125001 x125002 x125003 (zqa x4 0 (rd [x125000, x125001, x125002, x125003] x4) x127000) (zqa x4 1 (rd [x125000, x125001, x125002, x125003] x4) x127001) (zqa x4 2 (rd [x125000, x125001, x125002, x125003] x4) x127002) (zqa x4 3 (rd [x125000, x125001, x125002, x125003] x4) x127003)) else (none)) else (some (x127000, x127001, x127002, x127003))
def laws_toState.f (k : Nat) (a0_0 : Int) (a0_1 : Int) (a0_2 : Int) (a0_3 : Int) : Option (Int × Int × Int × Int) := laws_toState.l0 k 0 a0_0 a0_1 a0_2 a0_3 0 0 0 0
set_option maxHeartbeats 8000000 in
set_option maxRecDepth 100000 in
theorem laws_toState.calls (k : Nat) (a0_0 : Int) (a0_1 : Int) (a0_2 : Int) (a0_3 : Int) (r1 : Int) (r2 : Int) (r3 : Int) (r4 : Int) (w : World) (h : laws_toState.f k a0_0 a0_1 a0_2 a0_3 = some (r1, r2, r3, r4)) :
  Calls Try.prog 5 #[.agg #[.int .i64 a0_0, .int .i64 a0_1, .int .i64 a0_2, .int .i64 a0_3]] w fun e w' => e = .returned (.agg #[.int .i64 r1, .int .i64 r2, .int .i64 r3, .int .i64 r4]) ∧ Below w.heap.size w w' := by
 have hu22 := Try.underlying22
 have hu25 := Try.underlying25
 have HB := zg.mk (Below.refl w.heap.size w)
 have H : (laws_toState.l0 k 0 a0_0 a0_1 a0_2 a0_3 0 0 0 0) = some (r1, r2, r3, r4) := h
 clear h
 have H' := zg.mk H
 clear H
 go_enter Try.func5, Try.ntmps5
 go_wp2_with (first | ((with_reducible refine zga (N := 1) rfl ?_); refine zia ?hg (N := 1) ?hd (cs := #[.int .i64 a0_0, .int .i64 a0_1, .int .i64 a0_2, .int .i64 a0_3]) (t := 22) ?hr ?_; (case hd => rfl); (case hg => rfl); (case hr => first | (go_simp; done) | (go_simp; rfl)); intro gb124 hg w2 hbox hb; have n0_ := zg.mk (zx (by repeat (first | (with_reducible first | exact HB.out | apply zq | apply zn | apply zo) | exact HB.out)) hb); have n1_ := zg.mk (hbox); have n2_ := zg.mk ((by rw [hg]; exact (zpa (by repeat (first | (with_reducible first | exact HB.out | apply zq | apply zn | apply zo) | exact HB.out))) : w.heap.size ≤ gb124)); have n3_ := zg.mk ((by rw [hg]; exact (zpa (by repeat (first | (with_reducible first | exact HB.out | apply zq | apply zn | apply zo) | exact HB.out))) : w.heap.size ≤ gb124)); clear HB; have HB := n0_; have BK124 := n1_; have GW124 := n2_; have GE124 := n3_; clear n0_ n1_ n2_ n3_; clear hb hbox hg) | ((with_reducible refine zga (N := 2) rfl ?_); refine zia ?hg (N := 2) ?hd (cs := #[.int .i64 0, .int .i64 0, .int .i64 0, .int .i64 0]) (t := 25) ?hr ?_; (case hd => rfl); (case hg => rfl); (case hr => first | (go_simp; done) | (go_simp; rfl)); intro gb125 hg w3 hbox hb; have n0_ := zg.mk (zz (g := gb124) (o := .cells #[.int .i64 a0_0, .int .i64 a0_1, .int .i64 a0_2, .int .i64 a0_3] 22 (0, 0)) (by (with_reducible repeat (first | refine ze ?_ _ | refine zf ?_ | refine za ?_ _)); exact BK124.out) hb); have n1_ := zg.mk (zx (by repeat (first | (with_reducible first | exact HB.out | apply zq | apply zn | apply zo | refine zi ?_ GE124.out) | exact HB.out)) hb); have n2_ := zg.mk (hbox); have n3_ := zg.mk ((by rw [hg]; exact (zpa (by repeat (first | (with_reducible first | exact HB.out | apply zq | apply zn | apply zo | refine zi ?_ GE124.out) | exact HB.out))) : w.heap.size ≤ gb125)); have n4_ := zg.mk ((by rw [hg]; exact (zpa (by repeat (first | (with_reducible first | exact HB.out | apply zq | apply zn | apply zo | refine zi ?_ GE124.out) | exact HB.out))) : w.heap.size ≤ gb125)); have n5_ := zg.mk ((by rw [hg]; exact Nat.ne_of_lt (zba (g := gb124) (o := .cells #[.int .i64 a0_0, .int .i64 a0_1, .int .i64 a0_2, .int .i64 a0_3] 22 (0, 0)) (by (with_reducible repeat (first | refine ze ?_ _ | refine zf ?_ | refine za ?_ _)); exact BK124.out)) : gb124 ≠ gb125)); have n6_ := zg.mk ((by rw [hg]; exact Nat.ne_of_gt (zba (g := gb124) (o := .cells #[.int .i64 a0_0, .int .i64 a0_1, .int .i64 a0_2, .int .i64 a0_3] 22 (0, 0)) (by (with_reducible repeat (first | refine ze ?_ _ | refine zf ?_ | refine za ?_ _)); exact BK124.out)) : gb125 ≠ gb124)); clear BK124; clear HB; have BK124 := n0_; have HB := n1_; have BK125 := n2_; have GW125 := n3_; have GE125 := n4_; have NB124_125 := n5_; have NB125_124 := n6_; clear n0_ n1_ n2_ n3_ n4_ n5_ n6_; clear hb hbox hg) | ((with_reducible refine zga (N := 3) rfl ?_); refine zia ?hg (N := 3) ?hd (cs := #[.int .i64 0, .int .i64 0, .int .i64 0, .int .i64 0]) (t := 25) ?hr ?_; (case hd => rfl); (case hg => rfl); (case hr => first | (go_simp; done) | (go_simp; rfl)); intro gb126 hg w4 hbox hb; have n0_ := zg.mk (zz (g := gb124) (o := .cells #[.int .i64 a0_0, .int .i64 a0_1, .int .i64 a0_2, .int .i64 a0_3] 22 (0, 0)) (by (with_reducible repeat (first | refine ze ?_ _ | refine zf ?_ | refine za ?_ _)); exact BK124.out) hb); have n1_ := zg.mk (zz (g := gb125) (o := .cells #[.int .i64 0, .int .i64 0, .int .i64 0, .int .i64 0] 25 (0, 0)) (by (with_reducible repeat (first | refine ze ?_ _ | refine zf ?_ | refine za ?_ _)); exact BK125.out) hb); have n2_ := zg.mk (zx (by repeat (first | (with_reducible first | exact HB.out | apply zq | apply zn | apply zo | refine zi ?_ GE124.out | refine zi ?_ GE125.out) | exact HB.out)) hb); have n3_ := zg.mk (hbox); have n4_ := zg.mk ((by rw [hg]; exact (zpa (by repeat (first | (with_reducible first | exact HB.out | apply zq | apply zn | apply zo | refine zi ?_ GE124.out | refine zi ?_ GE125.out) | exact HB.out))) : w.heap.size ≤ gb126)); have n5_ := zg.mk ((by rw [hg]; exact (zpa (by repeat (first | (with_reducible first | exact HB.out | apply zq | apply zn | apply zo | refine zi ?_ GE124.out | refine zi ?_ GE125.out) | exact HB.out))) : w.heap.size ≤ gb126)); have n6_ := zg.mk ((by rw [hg]; exact Nat.ne_of_lt (zba (g := gb124) (o := .cells #[.int .i64 a0_0, .int .i64 a0_1, .int .i64 a0_2, .int .i64 a0_3] 22 (0, 0)) (by (with_reducible repeat (first | refine ze ?_ _ | refine zf ?_ | refine za ?_ _)); exact BK124.out)) : gb124 ≠ gb126)); have n7_ := zg.mk ((by rw [hg]; exact Nat.ne_of_gt (zba (g := gb124) (o := .cells #[.int .i64 a0_0, .int .i64 a0_1, .int .i64 a0_2, .int .i64 a0_3] 22 (0, 0)) (by (with_reducible repeat (first | refine ze ?_ _ | refine zf ?_ | refine za ?_ _)); exact BK124.out)) : gb126 ≠ gb124)); have n8_ := zg.mk ((by rw [hg]; exact Nat.ne_of_lt (zba (g := gb125) (o := .cells #[.int .i64 0, .int .i64 0, .int .i64 0, .int .i64 0] 25 (0, 0)) (by (with_reducible repeat (first | refine ze ?_ _ | refine zf ?_ | refine za ?_ _)); exact BK125.out)) : gb125 ≠ gb126)); have n9_ := zg.mk ((by rw [hg]; exact Nat.ne_of_gt (zba (g := gb125) (o := .cells #[.int .i64 0, .int .i64 0, .int .i64 0, .int .i64 0] 25 (0, 0)) (by (with_reducible repeat (first | refine ze ?_ _ | refine zf ?_ | refine za ?_ _)); exact BK125.out)) : gb126 ≠ gb125)); clear BK124; clear BK125; clear HB; have BK124 := n0_; have BK125 := n1_; have HB := n2_; have BK126 := n3_; have GW126 := n4_; have GE126 := n5_; have NB124_126 := n6_; have NB126_124 := n7_; have NB125_126 := n8_; have NB126_125 := n9_; clear n0_ n1_ n2_ n3_ n4_ n5_ n6_ n7_ n8_ n9_; clear hb hbox hg))
 go_loopg [4] k (fun kq v4 w' => ∃ (x4_1 : Int) (x127000_1 : Int) (x127001_1 : Int) (x127002_1 : Int) (x127003_1 : Int), v4 = .int .i64 x4_1 ∧ zg (laws_toState.l0 kq x4_1 a0_0 a0_1 a0_2 a0_3 x127000_1 x127001_1 x127002_1 x127003_1 = some (r1, r2, r3, r4)) ∧ zg (kq ≤ k) ∧ zg (w'.heap[gb124]? = some (.cells #[.int .i64 a0_0, .int .i64 a0_1, .int .i64 a0_2, .int .i64 a0_3] 22 (0, 0))) ∧ zg (w'.heap[gb125]? = some (.cells #[.int .i64 0, .int .i64 0, .int .i64 0, .int .i64 0] 25 (0, 0))) ∧ zg (w'.heap[gb126]? = some (.cells #[.int .i64 x127000_1, .int .i64 x127001_1, .int .i64 x127002_1, .int .i64 x127003_1] 25 (0, 0))) ∧ zg (Below w.heap.size w w'))
 case atStart => exact ⟨(0), (0), (0), (0), (0), (by first | rfl | (simp; done) | (simp [*]; done)), H', ⟨Nat.le_refl _⟩, ⟨by (with_reducible repeat (first | refine ze ?_ _ | refine zf ?_ | refine za ?_ _)); exact BK124.out⟩, ⟨by (with_reducible repeat (first | refine ze ?_ _ | refine zf ?_ | refine za ?_ _)); exact BK125.out⟩, ⟨by (with_reducible repeat (first | refine ze ?_ _ | refine zf ?_ | refine za ?_ _)); exact BK126.out⟩, ⟨by repeat (first | (with_reducible first | exact HB.out | apply zq | apply zn | apply zo | refine zi ?_ GE124.out | refine zi ?_ GE125.out | refine zi ?_ GE126.out) | exact HB.out)⟩⟩
 case round =>
  clear H'
  try clear p2
  obtain ⟨x4_1, x127000_1, x127001_1, x127002_1, x127003_1, rfl, HA, HK1, BK124, BK125, BK126, HB⟩ := hrel
  cases gk with
  | zero => exact absurd HA.out (by simp [laws_toState.l0])
  | succ k1 =>
   have H := HA.out
   clear HA
   simp only [laws_toState.l0] at H
   by_cases c5 : x4_1 < 4
   ·rw [if_pos c5] at H
    have c5b0 : decide (x4_1 < 4) = true := decide_eq_true c5
    clear c5
    by_cases c6 : 0 ≤ x4_1
    ·rw [if_pos c6] at H
     have c6b0 : decide (0 ≤ x4_1) = true := decide_eq_true c6
     clear c6
     have H' := zg.mk H
     clear H
     have p7 : 0 ≤ (x4_1 : Int) := of_decide_eq_true (by first | (with_reducible assumption) | assumption)
     have q7 : x4_1 < (4 : Int) := of_decide_eq_true (by first | (with_reducible assumption) | assumption)
     replace p7 := eq_true p7
     replace q7 := eq_true q7
     have hnb8 := NB124_125.out
     have hnc8 := NB125_124.out
     have hnb9 := NB124_126.out
     have hnc9 := NB126_124.out
     have hcz10_0 : wr.cell? ⟨gb124, 0, none⟩ = some (.int .i64 a0_0) := (zh BK124.out 0).trans rfl
     have hcz10_1 : wr.cell? ⟨gb124, 1, none⟩ = some (.int .i64 a0_1) := (zh BK124.out 1).trans rfl
     have hcz10_2 : wr.cell? ⟨gb124, 2, none⟩ = some (.int .i64 a0_2) := (zh BK124.out 2).trans rfl
     have hcz10_3 : wr.cell? ⟨gb124, 3, none⟩ = some (.int .i64 a0_3) := (zh BK124.out 3).trans rfl
     have hfz10_0 := zj BK124.out 0
     have hfz10_1 := zj BK124.out 1
     have hfz10_2 := zj BK124.out 2
     have hfz10_3 := zj BK124.out 3
     have hx11_0 : wr.cell? ⟨gb124, (x4_1).toNat, none⟩ = some (.int .i64 (rd [a0_0, a0_1, a0_2, a0_3] x4_1)) := (zh BK124.out _).trans (by rcases (show (x4_1 : Int) = 0 ∨ (x4_1 : Int) = 1 ∨ (x4_1 : Int) = 2 ∨ (x4_1 : Int) = 3 by have hp_ : 0 ≤ (x4_1 : Int) := of_decide_eq_true (by first | (with_reducible assumption) | assumption); have hq_ : x4_1 < (4 : Int) := of_decide_eq_true (by first | (with_reducible assumption) | assumption); omega) with h_ | h_ | h_ | h_ <;> rw [h_] <;> rfl)
     have p12 : 0 ≤ (x4_1 : Int) := of_decide_eq_true (by first | (with_reducible assumption) | assumption)
     have q12 : x4_1 < (4 : Int) := of_decide_eq_true (by first | (with_reducible assumption) | assumption)
     replace p12 := eq_true p12
     replace q12 := eq_true q12
     have hnb13 := NB126_125.out
     have hnc13 := NB125_126.out
     have hcz14_0 : wr.cell? ⟨gb126, 0, none⟩ = some (.int .i64 x127000_1) := (zh BK126.out 0).trans rfl
     have hcz14_1 : wr.cell? ⟨gb126, 1, none⟩ = some (.int .i64 x127001_1) := (zh BK126.out 1).trans rfl
     have hcz14_2 : wr.cell? ⟨gb126, 2, none⟩ = some (.int .i64 x127002_1) := (zh BK126.out 2).trans rfl
     have hcz14_3 : wr.cell? ⟨gb126, 3, none⟩ = some (.int .i64 x127003_1) := (zh BK126.out 3).trans rfl
     have hfz14_0 := zj BK126.out 0
     have hfz14_1 := zj BK126.out 1
     have hfz14_2 := zj BK126.out 2
     have hfz14_3 := zj BK126.out 3
     go_wp2_with (first | ((with_reducible refine zua (t := 2) (p := 13) rfl ?_); have hx15_0 : wr.cell? ⟨gb126, (x4_1).toNat, none⟩ = some (.int .i64 (rd [x127000_1, x127001_1, x127002_1, x127003_1] x4_1)) := (zh BK126.out _).trans (by rcases (show (x4_1 : Int) = 0 ∨ (x4_1 : Int) = 1 ∨ (x4_1 : Int) = 2 ∨ (x4_1 : Int) = 3 by have hp_ : 0 ≤ (x4_1 : Int) := of_decide_eq_true (by first | (with_reducible assumption) | assumption); have hq_ : x4_1 < (4 : Int) := of_decide_eq_true (by first | (with_reducible assumption) | assumption); omega) with h_ | h_ | h_ | h_ <;> rw [h_] <;> rfl); have hfz15_0 := zj BK126.out ((x4_1).toNat); refine zoa (t := 2) (p := 13) (v := ?vo_w16) (w1 := (wr.setCell ⟨gb126, (x4_1).toNat, none⟩ (.int .i64 (rd [a0_0, a0_1, a0_2, a0_3] x4_1)))) ?hg ?ho ?hn ?hr ?_; (case ho => rfl); (case hg => rfl); (case hn => rfl); (case hr => first | (go_simp; done) | (go_simp; rfl)); intro w16 hw; have n0_ : zg (w16.heap[gb124]? = some (.cells #[.int .i64 a0_0, .int .i64 a0_1, .int .i64 a0_2, .int .i64 a0_3] 22 (0, 0))) := ⟨(by rw [hw]; exact (by (with_reducible repeat (first | refine ze ?_ _ | refine zf ?_ | refine za ?_ _)); refine zk ?_ NB124_126.out _; (with_reducible repeat (first | refine ze ?_ _ | refine zf ?_ | refine za ?_ _)); exact BK124.out))⟩; have n1_ : zg (w16.heap[gb125]? = some (.cells #[.int .i64 0, .int .i64 0, .int .i64 0, .int .i64 0] 25 (0, 0))) := ⟨(by rw [hw]; exact (by (with_reducible repeat (first | refine ze ?_ _ | refine zf ?_ | refine za ?_ _)); refine zk ?_ NB125_126.out _; (with_reducible repeat (first | refine ze ?_ _ | refine zf ?_ | refine za ?_ _)); exact BK125.out))⟩; have n2_ : zg (w16.heap[gb126]? = some (.cells #[.int .i64 (zqa x4_1 0 (rd [a0_0, a0_1, a0_2, a0_3] x4_1) x127000_1), .int .i64 (zqa x4_1 1 (rd [a0_0, a0_1, a0_2, a0_3] x4_1) x127001_1), .int .i64 (zqa x4_1 2 (rd [a0_0, a0_1, a0_2, a0_3] x4_1) x127002_1), .int .i64 (zqa x4_1 3 (rd [a0_0, a0_1, a0_2, a0_3] x4_1) x127003_1)] 25 (0, 0))) := ⟨(by rw [hw]; exact (by (with_reducible repeat (first | refine ze ?_ _ | refine zf ?_ | refine za ?_ _)); refine zy (cs := #[.int .i64 x127000_1, .int .i64 x127001_1, .int .i64 x127002_1, .int .i64 x127003_1]) ?_ ((x4_1).toNat) _ (by rcases (show (x4_1 : Int) = 0 ∨ (x4_1 : Int) = 1 ∨ (x4_1 : Int) = 2 ∨ (x4_1 : Int) = 3 by have hp_ : 0 ≤ (x4_1 : Int) := of_decide_eq_true (by first | (with_reducible assumption) | assumption); have hq_ : x4_1 < (4 : Int) := of_decide_eq_true (by first | (with_reducible assumption) | assumption); omega) with h_ | h_ | h_ | h_ <;> rw [h_] <;> rfl); (with_reducible repeat (first | refine ze ?_ _ | refine zf ?_ | refine za ?_ _)); exact BK126.out))⟩; have n3_ : zg (Below w.heap.size w w16) := ⟨(by rw [hw]; exact (by repeat (first | (with_reducible first | exact HB.out | apply zq | apply zn | apply zo | refine zi ?_ GE124.out | refine zi ?_ GE125.out | refine zi ?_ GE126.out) | exact HB.out)))⟩; clear hw; clear BK124; clear BK125; clear BK126; clear HB; have BK124 := n0_; have BK125 := n1_; have BK126 := n2_; have HB := n3_; clear n0_ n1_ n2_ n3_))
     go_roundg k1
     case measure => have := HK1.out; omega
     case rel => exact ⟨(wrap64 (x4_1 + 1)), ((zqa x4_1 0 (rd [a0_0, a0_1, a0_2, a0_3] x4_1) x127000_1)), ((zqa x4_1 1 (rd [a0_0, a0_1, a0_2, a0_3] x4_1) x127001_1)), ((zqa x4_1 2 (rd [a0_0, a0_1, a0_2, a0_3] x4_1) x127002_1)), ((zqa x4_1 3 (rd [a0_0, a0_1, a0_2, a0_3] x4_1) x127003_1)), (by first | rfl | (simp; done) | (simp [*]; done)), H', ⟨by have := HK1.out; omega⟩, ⟨by (with_reducible repeat (first | refine ze ?_ _ | refine zf ?_ | refine za ?_ _)); exact BK124.out⟩, ⟨by (with_reducible repeat (first | refine ze ?_ _ | refine zf ?_ | refine za ?_ _)); exact BK125.out⟩, ⟨by (with_reducible repeat (first | refine ze ?_ _ | refine zf ?_ | refine za ?_ _)); exact BK126.out⟩, ⟨by repeat (first | (with_reducible first | exact HB.out | apply zq | apply zn | apply zo | refine zi ?_ GE124.out | refine zi ?_ GE125.out | refine zi ?_ GE126.out) | exact HB.out)⟩⟩
    ·rw [if_neg c6] at H
     exact absurd H (by simp)
   ·rw [if_neg c5] at H
    have c5b0 : decide (x4_1 < 4) = false := decide_eq_false c5
    clear c5
    simp only [Option.some.injEq, Prod.mk.injEq] at H
    obtain ⟨rfl, rfl, rfl, rfl⟩ := H
    have hnb17 := NB126_124.out
    have hnc17 := NB124_126.out
    have hnb18 := NB126_125.out
    have hnc18 := NB125_126.out
    have hcz19_0 : wr.cell? ⟨gb126, 0, none⟩ = some (.int .i64 x127000_1) := (zh BK126.out 0).trans rfl
    have hcz19_1 : wr.cell? ⟨gb126, 1, none⟩ = some (.int .i64 x127001_1) := (zh BK126.out 1).trans rfl
    have hcz19_2 : wr.cell? ⟨gb126, 2, none⟩ = some (.int .i64 x127002_1) := (zh BK126.out 2).trans rfl
    have hcz19_3 : wr.cell? ⟨gb126, 3, none⟩ = some (.int .i64 x127003_1) := (zh BK126.out 3).trans rfl
    have hfz19_0 := zj BK126.out 0
    have hfz19_1 := zj BK126.out 1
    have hfz19_2 := zj BK126.out 2
    have hfz19_3 := zj BK126.out 3
    have hnb20 := NB125_124.out
    have hnc20 := NB124_125.out
    have hcz21_0 : wr.cell? ⟨gb125, 0, none⟩ = some (.int .i64 0) := (zh BK125.out 0).trans rfl
    have hcz21_1 : wr.cell? ⟨gb125, 1, none⟩ = some (.int .i64 0) := (zh BK125.out 1).trans rfl
    have hcz21_2 : wr.cell? ⟨gb125, 2, none⟩ = some (.int .i64 0) := (zh BK125.out 2).trans rfl
    have hcz21_3 : wr.cell? ⟨gb125, 3, none⟩ = some (.int .i64 0) := (zh BK125.out 3).trans rfl
    have hfz21_0 := zj BK125.out 0
    have hfz21_1 := zj BK125.out 1
    have hfz21_2 := zj BK125.out 2
    have hfz21_3 := zj BK125.out 3
    go_wp2
    refine bodyPost_ret (results_cell_row rfl _ _ gb125 25 #[.int .i64 x127000_1, .int .i64 x127001_1, .int .i64 x127002_1, .int .i64 x127003_1] (0, 0) _ rfl (by (with_reducible repeat (first | refine ze ?_ _ | refine zf ?_ | refine za ?_ _)); refine zy (cs := #[.int .i64 x127000_1, .int .i64 x127001_1, .int .i64 x127002_1, .int .i64 0]) ?_ 3 _ rfl; (with_reducible repeat (first | refine ze ?_ _ | refine zf ?_ | refine za ?_ _)); refine zy (cs := #[.int .i64 x127000_1, .int .i64 x127001_1, .int .i64 0, .int .i64 0]) ?_ 2 _ rfl; (with_reducible repeat (first | refine ze ?_ _ | refine zf ?_ | refine za ?_ _)); refine zy (cs := #[.int .i64 x127000_1, .int .i64 0, .int .i64 0, .int .i64 0]) ?_ 1 _ rfl; (with_reducible repeat (first | refine ze ?_ _ | refine zf ?_ | refine za ?_ _)); refine zy (cs := #[.int .i64 0, .int .i64 0, .int .i64 0, .int .i64 0]) ?_ 0 _ rfl; (with_reducible repeat (first | refine ze ?_ _ | refine zf ?_ | refine za ?_ _)); exact BK125.out) Try.underlying25 rfl (by kernel_rfl)) rfl ?_
    exact ⟨by first | rfl | (simp [zca, zda] <;> rfl) | (simp [*, zca, zda] <;> rfl), by repeat (first | (with_reducible first | exact HB.out | apply zq | apply zn | apply zo | refine zi ?_ GE124.out | refine zi ?_ GE125.out | refine zi ?_ GE126.out) | exact HB.out)⟩

/-! ### impl_within: function 17 -/
def impl_within.f (a0 : Int) (a1 : Int) (a2 : Int) : Option (Bool) := if a1 ≤ a0 then (some (decide (a0 ≤ a2))) else (some false)
set_option maxHeartbeats 8000000 in
set_option maxRecDepth 100000 in
theorem impl_within.calls (a0 : Int) (a1 : Int) (a2 : Int) (r : Bool) (w : World) (h : impl_within.f a0 a1 a2 = some r) :
  Calls Try.prog 17 #[.int .i64 a0, .int .i64 a1, .int .i64 a2] w fun e w' => e = .returned (.bool r) ∧ zta w w' := by
 have H : (if a1 ≤ a0 then (some (decide (a0 ≤ a2))) else (some false)) = some r := h
 clear h
 by_cases c4 : a1 ≤ a0
 ·rw [if_pos c4] at H
  have c4b0 : decide (a1 ≤ a0) = true := decide_eq_true c4
  clear c4
  obtain rfl := Option.some.inj H
  go_enter Try.func17, Try.ntmps17
  go_wp2
  go_ret
  exact ⟨by first | rfl | (simp; done) | (simp [*]; done), by repeat (first | exact zta.refl _ | apply zta.step)⟩
 ·rw [if_neg c4] at H
  have c4b0 : decide (a1 ≤ a0) = false := decide_eq_false c4
  clear c4
  obtain rfl := Option.some.inj H
  go_enter Try.func17, Try.ntmps17
  go_wp2
  go_ret
  exact ⟨by first | rfl | (simp; done) | (simp [*]; done), by repeat (first | exact zta.refl _ | apply zta.step)⟩

/-! ### impl_State_sum: function 19 -/
def impl_State_sum.f (a0_0 : Int) (a0_1 : Int) (a0_2 : Int) (a0_3 : Int) : Option (Int) := some (wrap64 ((wrap64 ((wrap64 (a0_0 + a0_1)) + a0_2)) + a0_3))
set_option maxHeartbeats 8000000 in
set_option maxRecDepth 100000 in
theorem impl_State_sum.calls (a0_0 : Int) (a0_1 : Int) (a0_2 : Int) (a0_3 : Int) (r : Int) (w : World) (h : impl_State_sum.f a0_0 a0_1 a0_2 a0_3 = some r) :
  Calls Try.prog 19 #[.agg #[.int .i64 a0_0, .int .i64 a0_1, .int .i64 a0_2, .int .i64 a0_3]] w fun e w' => e = .returned (.int .i64 r) ∧ Below w.heap.size w w' := by
 have hu25 := Try.underlying25
 have HB := zg.mk (Below.refl w.heap.size w)
 have H : (some (wrap64 ((wrap64 ((wrap64 (a0_0 + a0_1)) + a0_2)) + a0_3))) = some r := h
 clear h
 obtain rfl := Option.some.inj H
 go_enter Try.func19, Try.ntmps19
 go_wp2_with (first | ((with_reducible refine zga (N := 1) rfl ?_); refine zia ?hg (N := 1) ?hd (cs := #[.int .i64 a0_0, .int .i64 a0_1, .int .i64 a0_2, .int .i64 a0_3]) (t := 25) ?hr ?_; (case hd => rfl); (case hg => rfl); (case hr => first | (go_simp; done) | (go_simp; rfl)); intro gb131 hg w2 hbox hb; have n0_ := zg.mk (zx (by repeat (first | (with_reducible first | exact HB.out | apply zq | apply zn | apply zo) | exact HB.out)) hb); have n1_ := zg.mk (hbox); have n2_ := zg.mk ((by rw [hg]; exact (zpa (by repeat (first | (with_reducible first | exact HB.out | apply zq | apply zn | apply zo) | exact HB.out))) : w.heap.size ≤ gb131)); have n3_ := zg.mk ((by rw [hg]; exact (zpa (by repeat (first | (with_reducible first | exact HB.out | apply zq | apply zn | apply zo) | exact HB.out))) : w.heap.size ≤ gb131)); clear HB; have HB := n0_; have BK131 := n1_; have GW131 := n2_; have GE131 := n3_; clear n0_ n1_ n2_ n3_; clear hb hbox hg; have hcz3_0 : w2.cell? ⟨gb131, 0, none⟩ = some (.int .i64 a0_0) := (zh BK131.out 0).trans rfl; have hcz3_1 : w2.cell? ⟨gb131, 1, none⟩ = some (.int .i64 a0_1) := (zh BK131.out 1).trans rfl; have hcz3_2 : w2.cell? ⟨gb131, 2, none⟩ = some (.int .i64 a0_2) := (zh BK131.out 2).trans rfl; have hcz3_3 : w2.cell? ⟨gb131, 3, none⟩ = some (.int .i64 a0_3) := (zh BK131.out 3).trans rfl; have hfz3_0 := zj BK131.out 0; have hfz3_1 := zj BK131.out 1; have hfz3_2 := zj BK131.out 2; have hfz3_3 := zj BK131.out 3))
 go_ret
 exact ⟨by first | rfl | (simp [zca, zda] <;> rfl) | (simp [*, zca, zda] <;> rfl), by repeat (first | (with_reducible first | exact HB.out | apply zq | apply zn | apply zo | refine zi ?_ GE131.out) | exact HB.out)⟩

end Go.Proofs.Ytgcbhknpfpgffaa.C
