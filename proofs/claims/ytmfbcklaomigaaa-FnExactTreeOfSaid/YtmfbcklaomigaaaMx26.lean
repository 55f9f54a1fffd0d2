-- Written by wip/tools/myprint.py.
import Derived.Test.YtmfbcklaomigaaaMx0
import Derived.Test.YtmfbcklaomigaaaLLoad
import Derived.Test.YtmfbcklaomigaaaMx22
namespace Go.Proofs.Ytmfbcklaomigaaa.M
open Go.RowKit Go.Proofs.YtmfbcklaomigaaaW.PrintWords Go.Proofs.YtmfbcklaomigaaaW.PrintLast Go.Proofs.YtmfbcklaomigaaaW.PrintMore
attribute [local go_sem] zrb zqb zkc zhc zlb zkb ztb zub
set_option linter.unusedVariables false
set_option linter.unusedSimpArgs false
def laws_eqInt16A3.l0 : Nat → Int → Int → Int → Int → Int → Int → Int → Option (Bool)
 | 0, _, _, _, _, _, _, _ => none
 | k + 1, x5, x402000, x402001, x402002, x403000, x403001, x403002 => if x5 < 3 then (if 0 ≤ x5 then (if (rd [x402000, x402001, x402002] x5) = (rd [x403000, x403001, x403002] x5) then (laws_eqInt16A3.l0 k (wrap64 (x5 + 1)) x402000 x402001 x402002 x403000 x403001 x403002) else (some false)) else (none)) else (some true)
def laws_eqInt16A3.f (k : Nat) (a0_0 : Int) (a0_1 : Int) (a0_2 : Int) (a1_0 : Int) (a1_1 : Int) (a1_2 : Int) : Option (Bool) := laws_eqInt16A3.l0 k 0 a0_0 a0_1 a0_2 a1_0 a1_1 a1_2
set_option maxHeartbeats 8000000 in
set_option maxRecDepth 100000 in
theorem laws_eqInt16A3.calls (k : Nat) (a0_0 : Int) (a0_1 : Int) (a0_2 : Int) (a1_0 : Int) (a1_1 : Int) (a1_2 : Int) (r : Bool) (w : World) (h : laws_eqInt16A3.f k a0_0 a0_1 a0_2 a1_0 a1_1 a1_2 = some r) :
  Calls Try.prog 108 #[.agg #[.int .i16 a0_0, .int .i16 a0_1, .int .i16 a0_2], .agg #[.int .i16 a1_0, .int .i16 a1_1, .int .i16 a1_2]] w fun e w' => e = .returned (.bool r) ∧ Below w.heap.size w w' := by
 have hu100 := Try.underlying100
 have HB := ze.mk (Below.refl w.heap.size w)
 have H : (laws_eqInt16A3.l0 k 0 a0_0 a0_1 a0_2 a1_0 a1_1 a1_2) = some r := h
 clear h
 have H' := ze.mk H
 clear H
 go_enter Try.func108, Try.ntmps108
 go_wp2_with (first | ((with_reducible refine zu (N := 2) rfl ?_); refine zr ?hg (N := 2) ?hd (cs := #[.int .i16 a0_0, .int .i16 a0_1, .int .i16 a0_2]) (t := 100) ?hr ?_; (case hd => rfl); (case hg => rfl); (case hr => first | (go_simp; done) | (go_simp; rfl)); intro gb401 hg w3 hbox hb; obtain ⟨n0_, n2_⟩ := bx (by repeat (first | (with_reducible first | exact HB.out | apply zg | apply zc | apply zf) | exact HB.out)) hb hg; have n1_ := ze.mk (hbox); have n3_ := n2_; clear HB; have HB := n0_; have BK401 := n1_; have GW401 := n2_; have GE401 := n3_; clear n0_ n1_ n2_ n3_; clear hb hbox hg) | ((with_reducible refine zu (N := 3) rfl ?_); refine zr ?hg (N := 3) ?hd (cs := #[.int .i16 a1_0, .int .i16 a1_1, .int .i16 a1_2]) (t := 100) ?hr ?_; (case hd => rfl); (case hg => rfl); (case hr => first | (go_simp; done) | (go_simp; rfl)); intro gb402 hg w4 hbox hb; have n0_ := ze.mk (zk (by (with_reducible repeat (first | refine zb ?_ _ | refine zd ?_ | refine za ?_ _)); exact BK401.out) hb); obtain ⟨n1_, n3_⟩ := bx (by repeat (first | (with_reducible first | exact HB.out | apply zg | apply zc | apply zf | refine zi ?_ GE401.out) | exact HB.out)) hb hg; have n2_ := ze.mk (hbox); have n4_ := n3_; have n5_ := ze.mk ((by rw [hg]; exact Nat.ne_of_lt (zba (by (with_reducible repeat (first | refine zb ?_ _ | refine zd ?_ | refine za ?_ _)); exact BK401.out)) : gb401 ≠ gb402)); have n6_ := ze.mk n5_.out.symm; clear BK401; clear HB; have BK401 := n0_; have HB := n1_; have BK402 := n2_; have GW402 := n3_; have GE402 := n4_; have NB401_402 := n5_; have NB402_401 := n6_; clear n0_ n1_ n2_ n3_ n4_ n5_ n6_; clear hb hbox hg))
 repeat (go_quiet (first | ((with_reducible refine zu (N := 2) rfl ?_); refine zr ?hg (N := 2) ?hd (cs := #[.int .i16 a0_0, .int .i16 a0_1, .int .i16 a0_2]) (t := 100) ?hr ?_; (case hd => rfl); (case hg => rfl); (case hr => first | (go_simp; done) | (go_simp; rfl)); intro gb401 hg w3 hbox hb; obtain ⟨n0_, n2_⟩ := bx (by repeat (first | (with_reducible first | exact HB.out | apply zg | apply zc | apply zf) | exact HB.out)) hb hg; have n1_ := ze.mk (hbox); have n3_ := n2_; clear HB; have HB := n0_; have BK401 := n1_; have GW401 := n2_; have GE401 := n3_; clear n0_ n1_ n2_ n3_; clear hb hbox hg) | ((with_reducible refine zu (N := 3) rfl ?_); refine zr ?hg (N := 3) ?hd (cs := #[.int .i16 a1_0, .int .i16 a1_1, .int .i16 a1_2]) (t := 100) ?hr ?_; (case hd => rfl); (case hg => rfl); (case hr => first | (go_simp; done) | (go_simp; rfl)); intro gb402 hg w4 hbox hb; have n0_ := ze.mk (zk (by (with_reducible repeat (first | refine zb ?_ _ | refine zd ?_ | refine za ?_ _)); exact BK401.out) hb); obtain ⟨n1_, n3_⟩ := bx (by repeat (first | (with_reducible first | exact HB.out | apply zg | apply zc | apply zf | refine zi ?_ GE401.out) | exact HB.out)) hb hg; have n2_ := ze.mk (hbox); have n4_ := n3_; have n5_ := ze.mk ((by rw [hg]; exact Nat.ne_of_lt (zba (by (with_reducible repeat (first | refine zb ?_ _ | refine zd ?_ | refine za ?_ _)); exact BK401.out)) : gb401 ≠ gb402)); have n6_ := ze.mk n5_.out.symm; clear BK401; clear HB; have BK401 := n0_; have HB := n1_; have BK402 := n2_; have GW402 := n3_; have GE402 := n4_; have NB401_402 := n5_; have NB402_401 := n6_; clear n0_ n1_ n2_ n3_ n4_ n5_ n6_; clear hb hbox hg)); try go_wp2_with (first | ((with_reducible refine zu (N := 2) rfl ?_); refine zr ?hg (N := 2) ?hd (cs := #[.int .i16 a0_0, .int .i16 a0_1, .int .i16 a0_2]) (t := 100) ?hr ?_; (case hd => rfl); (case hg => rfl); (case hr => first | (go_simp; done) | (go_simp; rfl)); intro gb401 hg w3 hbox hb; obtain ⟨n0_, n2_⟩ := bx (by repeat (first | (with_reducible first | exact HB.out | apply zg | apply zc | apply zf) | exact HB.out)) hb hg; have n1_ := ze.mk (hbox); have n3_ := n2_; clear HB; have HB := n0_; have BK401 := n1_; have GW401 := n2_; have GE401 := n3_; clear n0_ n1_ n2_ n3_; clear hb hbox hg) | ((with_reducible refine zu (N := 3) rfl ?_); refine zr ?hg (N := 3) ?hd (cs := #[.int .i16 a1_0, .int .i16 a1_1, .int .i16 a1_2]) (t := 100) ?hr ?_; (case hd => rfl); (case hg => rfl); (case hr => first | (go_simp; done) | (go_simp; rfl)); intro gb402 hg w4 hbox hb; have n0_ := ze.mk (zk (by (with_reducible repeat (first | refine zb ?_ _ | refine zd ?_ | refine za ?_ _)); exact BK401.out) hb); obtain ⟨n1_, n3_⟩ := bx (by repeat (first | (with_reducible first | exact HB.out | apply zg | apply zc | apply zf | refine zi ?_ GE401.out) | exact HB.out)) hb hg; have n2_ := ze.mk (hbox); have n4_ := n3_; have n5_ := ze.mk ((by rw [hg]; exact Nat.ne_of_lt (zba (by (with_reducible repeat (first | refine zb ?_ _ | refine zd ?_ | refine za ?_ _)); exact BK401.out)) : gb401 ≠ gb402)); have n6_ := ze.mk n5_.out.symm; clear BK401; clear HB; have BK401 := n0_; have HB := n1_; have BK402 := n2_; have GW402 := n3_; have GE402 := n4_; have NB401_402 := n5_; have NB402_401 := n6_; clear n0_ n1_ n2_ n3_ n4_ n5_ n6_; clear hb hbox hg)))
 go_loopg [5] k (fun kq v5 w' => ∃ (x5_1 : Int), v5 = .int .i64 x5_1 ∧ ze (laws_eqInt16A3.l0 kq x5_1 a0_0 a0_1 a0_2 a1_0 a1_1 a1_2 = some r) ∧ ze (kq ≤ k) ∧ ze (w'.heap[gb401]? = some (.cells #[.int .i16 a0_0, .int .i16 a0_1, .int .i16 a0_2] 100 (0, 0))) ∧ ze (w'.heap[gb402]? = some (.cells #[.int .i16 a1_0, .int .i16 a1_1, .int .i16 a1_2] 100 (0, 0))) ∧ ze (Below w.heap.size w w'))
 case atStart => exact ⟨(0), (by first | rfl | (simp; done) | (simp [*]; done)), H', ⟨Nat.le_refl _⟩, ⟨by (with_reducible repeat (first | refine zb ?_ _ | refine zd ?_ | refine za ?_ _)); exact BK401.out⟩, ⟨by (with_reducible repeat (first | refine zb ?_ _ | refine zd ?_ | refine za ?_ _)); exact BK402.out⟩, ⟨by repeat (first | (with_reducible first | exact HB.out | apply zg | apply zc | apply zf | refine zi ?_ GE401.out | refine zi ?_ GE402.out) | exact HB.out)⟩⟩
 case round =>
  clear H'
  try clear c1
  try clear p2
  obtain ⟨x5_1, rfl, HA, HK1, BK401, BK402, HB⟩ := hrel
  cases gk with
  | zero => exact absurd HA.out (by simp [laws_eqInt16A3.l0])
  | succ k1 =>
   have H := HA.out
   clear HA
   simp only [laws_eqInt16A3.l0] at H
   by_cases c5 : x5_1 < 3
   ·rw [if_pos c5] at H
    have c5b0 : decide (x5_1 < 3) = true := decide_eq_true c5
    clear c5
    by_cases c6 : 0 ≤ x5_1
    ·rw [if_pos c6] at H
     have c6b0 : decide (0 ≤ x5_1) = true := decide_eq_true c6
     clear c6
     by_cases c7 : (rd [a0_0, a0_1, a0_2] x5_1) = (rd [a1_0, a1_1, a1_2] x5_1)
     ·rw [if_pos c7] at H
      have c7b0 : ((rd [a0_0, a0_1, a0_2] x5_1) == (rd [a1_0, a1_1, a1_2] x5_1)) = true := beq_iff_eq.mpr c7
      have c7b1 : ((rd [a0_0, a0_1, a0_2] x5_1) != (rd [a1_0, a1_1, a1_2] x5_1)) = false := bne_eq_false_iff_eq.mpr c7
      clear c7
      have H' := ze.mk H
      clear H
      have p8 : 0 ≤ (x5_1 : Int) := od (by first | (with_reducible assumption) | assumption)
      have q8 : x5_1 < (3 : Int) := od (by first | (with_reducible assumption) | assumption)
      replace p8 := eq_true p8
      replace q8 := eq_true q8
      have hnb9 := NB401_402.out
      have hnc9 := NB402_401.out
      obtain ⟨y1_0, y1_1, y1_2, z1_0, z1_1, z1_2⟩ := cf3 BK401.out
      have u1_0 : wr.cell? ⟨gb401, (x5_1).toNat, none⟩ = some (.int .i16 (rd [a0_0, a0_1, a0_2] x5_1)) := (zo BK401.out _).trans (by rcases (show (x5_1 : Int) = 0 ∨ (x5_1 : Int) = 1 ∨ (x5_1 : Int) = 2 by have hp_ : 0 ≤ (x5_1 : Int) := od (by first | (with_reducible assumption) | assumption); have hq_ : x5_1 < (3 : Int) := od (by first | (with_reducible assumption) | assumption); omega) with h_ | h_ | h_ <;> rw [h_] <;> rfl)
      have p12 : 0 ≤ (x5_1 : Int) := od (by first | (with_reducible assumption) | assumption)
      have q12 : x5_1 < (3 : Int) := od (by first | (with_reducible assumption) | assumption)
      replace p12 := eq_true p12
      replace q12 := eq_true q12
      obtain ⟨y2_0, y2_1, y2_2, z2_0, z2_1, z2_2⟩ := cf3 BK402.out
      have u2_0 : wr.cell? ⟨gb402, (x5_1).toNat, none⟩ = some (.int .i16 (rd [a1_0, a1_1, a1_2] x5_1)) := (zo BK402.out _).trans (by rcases (show (x5_1 : Int) = 0 ∨ (x5_1 : Int) = 1 ∨ (x5_1 : Int) = 2 by have hp_ : 0 ≤ (x5_1 : Int) := od (by first | (with_reducible assumption) | assumption); have hq_ : x5_1 < (3 : Int) := od (by first | (with_reducible assumption) | assumption); omega) with h_ | h_ | h_ <;> rw [h_] <;> rfl)
      go_wp2
      repeat (go_quiet (fail); try go_wp2)
      go_roundg k1
      case measure => have := HK1.out; omega
      case rel => exact ⟨(wrap64 (x5_1 + 1)), (by first | rfl | (simp; done) | (simp [*]; done)), H', ⟨by have := HK1.out; omega⟩, ⟨by (with_reducible repeat (first | refine zb ?_ _ | refine zd ?_ | refine za ?_ _)); exact BK401.out⟩, ⟨by (with_reducible repeat (first | refine zb ?_ _ | refine zd ?_ | refine za ?_ _)); exact BK402.out⟩, ⟨by repeat (first | (with_reducible first | exact HB.out | apply zg | apply zc | apply zf | refine zi ?_ GE401.out | refine zi ?_ GE402.out) | exact HB.out)⟩⟩
     rw [if_neg c7] at H
     have c7b0 : ((rd [a0_0, a0_1, a0_2] x5_1) == (rd [a1_0, a1_1, a1_2] x5_1)) = false := beq_eq_false_iff_ne.mpr c7
     have c7b1 : ((rd [a0_0, a0_1, a0_2] x5_1) != (rd [a1_0, a1_1, a1_2] x5_1)) = true := bne_iff_ne.mpr c7
     obtain rfl := Option.some.inj H
     have p15 : 0 ≤ (x5_1 : Int) := od (by first | (with_reducible assumption) | assumption)
     have q15 : x5_1 < (3 : Int) := od (by first | (with_reducible assumption) | assumption)
     replace p15 := eq_true p15
     replace q15 := eq_true q15
     have hnb16 := NB401_402.out
     have hnc16 := NB402_401.out
     obtain ⟨y3_0, y3_1, y3_2, z3_0, z3_1, z3_2⟩ := cf3 BK401.out
     have u3_0 : wr.cell? ⟨gb401, (x5_1).toNat, none⟩ = some (.int .i16 (rd [a0_0, a0_1, a0_2] x5_1)) := (zo BK401.out _).trans (by rcases (show (x5_1 : Int) = 0 ∨ (x5_1 : Int) = 1 ∨ (x5_1 : Int) = 2 by have hp_ : 0 ≤ (x5_1 : Int) := od (by first | (with_reducible assumption) | assumption); have hq_ : x5_1 < (3 : Int) := od (by first | (with_reducible assumption) | assumption); omega) with h_ | h_ | h_ <;> rw [h_] <;> rfl)
     have p19 : 0 ≤ (x5_1 : Int) := od (by first | (with_reducible assumption) | assumption)
     have q19 : x5_1 < (3 : Int) := od (by first | (with_reducible assumption) | assumption)
     replace p19 := eq_true p19
     replace q19 := eq_true q19
     obtain ⟨y4_0, y4_1, y4_2, z4_0, z4_1, z4_2⟩ := cf3 BK402.out
     have u4_0 : wr.cell? ⟨gb402, (x5_1).toNat, none⟩ = some (.int .i16 (rd [a1_0, a1_1, a1_2] x5_1)) := (zo BK402.out _).trans (by rcases (show (x5_1 : Int) = 0 ∨ (x5_1 : Int) = 1 ∨ (x5_1 : Int) = 2 by have hp_ : 0 ≤ (x5_1 : Int) := od (by first | (with_reducible assumption) | assumption); have hq_ : x5_1 < (3 : Int) := od (by first | (with_reducible assumption) | assumption); omega) with h_ | h_ | h_ <;> rw [h_] <;> rfl)
     go_wp2
     repeat (go_quiet (fail); try go_wp2)
     go_ret
     exact ⟨by first | rfl | (simp [zn, zm] <;> rfl) | (simp [*, zn, zm] <;> rfl), by repeat (first | (with_reducible first | exact HB.out | apply zg | apply zc | apply zf | refine zi ?_ GE401.out | refine zi ?_ GE402.out) | exact HB.out)⟩
    rw [if_neg c6] at H
    exact absurd H (by simp)
   rw [if_neg c5] at H
   have c5b0 : decide (x5_1 < 3) = false := decide_eq_false c5
   clear c5
   obtain rfl := Option.some.inj H
   go_wp2
   repeat (go_quiet (fail); try go_wp2)
   go_ret
   exact ⟨by first | rfl | (simp [zn, zm] <;> rfl) | (simp [*, zn, zm] <;> rfl), by repeat (first | (with_reducible first | exact HB.out | apply zg | apply zc | apply zf | refine zi ?_ GE401.out | refine zi ?_ GE402.out) | exact HB.out)⟩
def laws_eqCase.f (a0_0 : Int) (a0_1 : Bool) (a1_0 : Int) (a1_1 : Bool) : Option (Bool) := if a0_0 = a1_0 then (if (a0_1 != a1_1) = true then (some false) else (some true)) else (some false)
set_option maxHeartbeats 8000000 in
set_option maxRecDepth 100000 in
theorem laws_eqCase.calls (a0_0 : Int) (a0_1 : Bool) (a1_0 : Int) (a1_1 : Bool) (r : Bool) (w : World) (h : laws_eqCase.f a0_0 a0_1 a1_0 a1_1 = some r) :
  Calls Try.prog 109 #[.agg #[.int .i8 a0_0, .bool a0_1], .agg #[.int .i8 a1_0, .bool a1_1]] w fun e w' => e = .returned (.bool r) ∧ Below w.heap.size w w' := by
 have hu38 := Try.underlying38
 have HB := ze.mk (Below.refl w.heap.size w)
 have H : (if a0_0 = a1_0 then (if (a0_1 != a1_1) = true then (some false) else (some true)) else (some false)) = some r := h
 clear h
 by_cases c3 : a0_0 = a1_0
 ·rw [if_pos c3] at H
  have c3b0 : (a0_0 == a1_0) = true := beq_iff_eq.mpr c3
  have c3b1 : (a0_0 != a1_0) = false := bne_eq_false_iff_eq.mpr c3
  clear c3
  by_cases c4 : (a0_1 != a1_1) = true
  ·rw [if_pos c4] at H
   have c4b0 : (a0_1 != a1_1) = true := c4
   (try (have c4b1 : decide (a0_1 = a1_1) = false := by simpa using c4))
   (try (have c4b2 : (a0_1 == a1_1) = false := by simpa using c4))
   (try (have c4b3 : ¬ (a0_1 = a1_1) := by simpa using c4))
   clear c4
   obtain rfl := Option.some.inj H
   go_enter Try.func109, Try.ntmps109
   go_wp2_with (first | ((with_reducible refine zu (N := 2) rfl ?_); refine zr ?hg (N := 2) ?hd (cs := #[.int .i8 a0_0, .bool a0_1]) (t := 38) ?hr ?_; (case hd => rfl); (case hg => rfl); (case hr => first | (go_simp; done) | (go_simp; rfl)); intro gb407 hg w5 hbox hb; obtain ⟨n0_, n2_⟩ := bx (by repeat (first | (with_reducible first | exact HB.out | apply zg | apply zc | apply zf) | exact HB.out)) hb hg; have n1_ := ze.mk (hbox); have n3_ := n2_; clear HB; have HB := n0_; have BK407 := n1_; have GW407 := n2_; have GE407 := n3_; clear n0_ n1_ n2_ n3_; clear hb hbox hg) | ((with_reducible refine zu (N := 3) rfl ?_); refine zr ?hg (N := 3) ?hd (cs := #[.int .i8 a1_0, .bool a1_1]) (t := 38) ?hr ?_; (case hd => rfl); (case hg => rfl); (case hr => first | (go_simp; done) | (go_simp; rfl)); intro gb408 hg w6 hbox hb; have n0_ := ze.mk (zk (by (with_reducible repeat (first | refine zb ?_ _ | refine zd ?_ | refine za ?_ _)); exact BK407.out) hb); obtain ⟨n1_, n3_⟩ := bx (by repeat (first | (with_reducible first | exact HB.out | apply zg | apply zc | apply zf | refine zi ?_ GE407.out) | exact HB.out)) hb hg; have n2_ := ze.mk (hbox); have n4_ := n3_; have n5_ := ze.mk ((by rw [hg]; exact Nat.ne_of_lt (zba (by (with_reducible repeat (first | refine zb ?_ _ | refine zd ?_ | refine za ?_ _)); exact BK407.out)) : gb407 ≠ gb408)); have n6_ := ze.mk n5_.out.symm; clear BK407; clear HB; have BK407 := n0_; have HB := n1_; have BK408 := n2_; have GW408 := n3_; have GE408 := n4_; have NB407_408 := n5_; have NB408_407 := n6_; clear n0_ n1_ n2_ n3_ n4_ n5_ n6_; clear hb hbox hg; have hnb7 := NB407_408.out; have hnc7 := NB408_407.out; obtain ⟨y5_0, y5_1, z5_0, z5_1⟩ := cf2 BK407.out; obtain ⟨y6_0, y6_1, z6_0, z6_1⟩ := cf2 BK408.out))
   go_ret
   exact ⟨by first | rfl | (simp [zn, zm] <;> rfl) | (simp [*, zn, zm] <;> rfl), by repeat (first | (with_reducible first | exact HB.out | apply zg | apply zc | apply zf | refine zi ?_ GE407.out | refine zi ?_ GE408.out) | exact HB.out)⟩
  rw [if_neg c4] at H
  have c4b0 : (a0_1 != a1_1) = false := by simpa using c4
  (try (have c4b1 : decide (a0_1 = a1_1) = true := by simpa using c4))
  (try (have c4b2 : (a0_1 == a1_1) = true := by simpa using c4))
  clear c4
  obtain rfl := Option.some.inj H
  go_enter Try.func109, Try.ntmps109
  go_wp2_with (first | ((with_reducible refine zu (N := 2) rfl ?_); refine zr ?hg (N := 2) ?hd (cs := #[.int .i8 a0_0, .bool a0_1]) (t := 38) ?hr ?_; (case hd => rfl); (case hg => rfl); (case hr => first | (go_simp; done) | (go_simp; rfl)); intro gb407 hg w10 hbox hb; obtain ⟨n0_, n2_⟩ := bx (by repeat (first | (with_reducible first | exact HB.out | apply zg | apply zc | apply zf) | exact HB.out)) hb hg; have n1_ := ze.mk (hbox); have n3_ := n2_; clear HB; have HB := n0_; have BK407 := n1_; have GW407 := n2_; have GE407 := n3_; clear n0_ n1_ n2_ n3_; clear hb hbox hg) | ((with_reducible refine zu (N := 3) rfl ?_); refine zr ?hg (N := 3) ?hd (cs := #[.int .i8 a1_0, .bool a1_1]) (t := 38) ?hr ?_; (case hd => rfl); (case hg => rfl); (case hr => first | (go_simp; done) | (go_simp; rfl)); intro gb408 hg w11 hbox hb; have n0_ := ze.mk (zk (by (with_reducible repeat (first | refine zb ?_ _ | refine zd ?_ | refine za ?_ _)); exact BK407.out) hb); obtain ⟨n1_, n3_⟩ := bx (by repeat (first | (with_reducible first | exact HB.out | apply zg | apply zc | apply zf | refine zi ?_ GE407.out) | exact HB.out)) hb hg; have n2_ := ze.mk (hbox); have n4_ := n3_; have n5_ := ze.mk ((by rw [hg]; exact Nat.ne_of_lt (zba (by (with_reducible repeat (first | refine zb ?_ _ | refine zd ?_ | refine za ?_ _)); exact BK407.out)) : gb407 ≠ gb408)); have n6_ := ze.mk n5_.out.symm; clear BK407; clear HB; have BK407 := n0_; have HB := n1_; have BK408 := n2_; have GW408 := n3_; have GE408 := n4_; have NB407_408 := n5_; have NB408_407 := n6_; clear n0_ n1_ n2_ n3_ n4_ n5_ n6_; clear hb hbox hg; have hnb12 := NB407_408.out; have hnc12 := NB408_407.out; obtain ⟨y2_0, y2_1, z2_0, z2_1⟩ := cf2 BK407.out; obtain ⟨y7_0, y7_1, z7_0, z7_1⟩ := cf2 BK408.out))
  go_ret
  exact ⟨by first | rfl | (simp [zn, zm] <;> rfl) | (simp [*, zn, zm] <;> rfl), by repeat (first | (with_reducible first | exact HB.out | apply zg | apply zc | apply zf | refine zi ?_ GE407.out | refine zi ?_ GE408.out) | exact HB.out)⟩
 rw [if_neg c3] at H
 have c3b0 : (a0_0 == a1_0) = false := beq_eq_false_iff_ne.mpr c3
 have c3b1 : (a0_0 != a1_0) = true := bne_iff_ne.mpr c3
 obtain rfl := Option.some.inj H
 go_enter Try.func109, Try.ntmps109
 go_wp2_with (first | ((with_reducible refine zu (N := 2) rfl ?_); refine zr ?hg (N := 2) ?hd (cs := #[.int .i8 a0_0, .bool a0_1]) (t := 38) ?hr ?_; (case hd => rfl); (case hg => rfl); (case hr => first | (go_simp; done) | (go_simp; rfl)); intro gb407 hg w15 hbox hb; obtain ⟨n0_, n2_⟩ := bx (by repeat (first | (with_reducible first | exact HB.out | apply zg | apply zc | apply zf) | exact HB.out)) hb hg; have n1_ := ze.mk (hbox); have n3_ := n2_; clear HB; have HB := n0_; have BK407 := n1_; have GW407 := n2_; have GE407 := n3_; clear n0_ n1_ n2_ n3_; clear hb hbox hg) | ((with_reducible refine zu (N := 3) rfl ?_); refine zr ?hg (N := 3) ?hd (cs := #[.int .i8 a1_0, .bool a1_1]) (t := 38) ?hr ?_; (case hd => rfl); (case hg => rfl); (case hr => first | (go_simp; done) | (go_simp; rfl)); intro gb408 hg w16 hbox hb; have n0_ := ze.mk (zk (by (with_reducible repeat (first | refine zb ?_ _ | refine zd ?_ | refine za ?_ _)); exact BK407.out) hb); obtain ⟨n1_, n3_⟩ := bx (by repeat (first | (with_reducible first | exact HB.out | apply zg | apply zc | apply zf | refine zi ?_ GE407.out) | exact HB.out)) hb hg; have n2_ := ze.mk (hbox); have n4_ := n3_; have n5_ := ze.mk ((by rw [hg]; exact Nat.ne_of_lt (zba (by (with_reducible repeat (first | refine zb ?_ _ | refine zd ?_ | refine za ?_ _)); exact BK407.out)) : gb407 ≠ gb408)); have n6_ := ze.mk n5_.out.symm; clear BK407; clear HB; have BK407 := n0_; have HB := n1_; have BK408 := n2_; have GW408 := n3_; have GE408 := n4_; have NB407_408 := n5_; have NB408_407 := n6_; clear n0_ n1_ n2_ n3_ n4_ n5_ n6_; clear hb hbox hg; have hnb17 := NB407_408.out; have hnc17 := NB408_407.out; obtain ⟨y8_0, y8_1, z8_0, z8_1⟩ := cf2 BK407.out; obtain ⟨y9_0, y9_1, z9_0, z9_1⟩ := cf2 BK408.out))
 go_ret
 exact ⟨by first | rfl | (simp [zn, zm] <;> rfl) | (simp [*, zn, zm] <;> rfl), by repeat (first | (with_reducible first | exact HB.out | apply zg | apply zc | apply zf | refine zi ?_ GE407.out | refine zi ?_ GE408.out) | exact HB.out)⟩
def laws_eqNode.f (k : Nat) (a0_0 : Int) (a0_1 : Int) (a0_2 : Int) (a0_3 : Int) (a0_4 : Int) (a0_5 : Int) (a0_6 : Int) (a0_7 : Int) (a0_8 : Int) (a0_9 : Int) (a0_10 : Int) (a0_11 : Int) (a0_12 : Int) (a0_13 : Int) (a0_14 : Int) (a0_15 : Int) (a0_16 : Int) (a0_17 : Int) (a0_18 : Bool) (a0_19 : Bool) (a1_0 : Int) (a1_1 : Int) (a1_2 : Int) (a1_3 : Int) (a1_4 : Int) (a1_5 : Int) (a1_6 : Int) (a1_7 : Int) (a1_8 : Int) (a1_9 : Int) (a1_10 : Int) (a1_11 : Int) (a1_12 : Int) (a1_13 : Int) (a1_14 : Int) (a1_15 : Int) (a1_16 : Int) (a1_17 : Int) (a1_18 : Bool) (a1_19 : Bool) : Option (Bool) := (laws_eqWeighing.f k a0_0 a0_1 a0_2 a0_3 a0_4 a0_5 a0_6 a0_7 a0_8 a0_9 a0_10 a0_11 a0_12 a0_13 a1_0 a1_1 a1_2 a1_3 a1_4 a1_5 a1_6 a1_7 a1_8 a1_9 a1_10 a1_11 a1_12 a1_13).bind fun t411 => (if t411 = true then ((laws_eqInt16A3.f k a0_14 a0_15 a0_16 a1_14 a1_15 a1_16).bind fun t412 => (if t412 = true then ((laws_eqCase.f a0_17 a0_18 a1_17 a1_18).bind fun t413 => (if t413 = true then (if (a0_19 != a1_19) = true then (some false) else (some true)) else (some false))) else (some false))) else (some false))
set_option maxHeartbeats 8000000 in
set_option maxRecDepth 100000 in
theorem laws_eqNode.calls (k : Nat) (a0_0 : Int) (a0_1 : Int) (a0_2 : Int) (a0_3 : Int) (a0_4 : Int) (a0_5 : Int) (a0_6 : Int) (a0_7 : Int) (a0_8 : Int) (a0_9 : Int) (a0_10 : Int) (a0_11 : Int) (a0_12 : Int) (a0_13 : Int) (a0_14 : Int) (a0_15 : Int) (a0_16 : Int) (a0_17 : Int) (a0_18 : Bool) (a0_19 : Bool) (a1_0 : Int) (a1_1 : Int) (a1_2 : Int) (a1_3 : Int) (a1_4 : Int) (a1_5 : Int) (a1_6 : Int) (a1_7 : Int) (a1_8 : Int) (a1_9 : Int) (a1_10 : Int) (a1_11 : Int) (a1_12 : Int) (a1_13 : Int) (a1_14 : Int) (a1_15 : Int) (a1_16 : Int) (a1_17 : Int) (a1_18 : Bool) (a1_19 : Bool) (r : Bool) (w : World) (h : laws_eqNode.f k a0_0 a0_1 a0_2 a0_3 a0_4 a0_5 a0_6 a0_7 a0_8 a0_9 a0_10 a0_11 a0_12 a0_13 a0_14 a0_15 a0_16 a0_17 a0_18 a0_19 a1_0 a1_1 a1_2 a1_3 a1_4 a1_5 a1_6 a1_7 a1_8 a1_9 a1_10 a1_11 a1_12 a1_13 a1_14 a1_15 a1_16 a1_17 a1_18 a1_19 = some r) :
  Calls Try.prog 89 #[.agg #[.int .i8 a0_0, .int .i8 a0_1, .int .i8 a0_2, .int .i8 a0_3, .int .i8 a0_4, .int .i8 a0_5, .int .i8 a0_6, .int .i8 a0_7, .int .i8 a0_8, .int .i8 a0_9, .int .i8 a0_10, .int .i8 a0_11, .int .i8 a0_12, .int .i8 a0_13, .int .i16 a0_14, .int .i16 a0_15, .int .i16 a0_16, .int .i8 a0_17, .bool a0_18, .bool a0_19], .agg #[.int .i8 a1_0, .int .i8 a1_1, .int .i8 a1_2, .int .i8 a1_3, .int .i8 a1_4, .int .i8 a1_5, .int .i8 a1_6, .int .i8 a1_7, .int .i8 a1_8, .int .i8 a1_9, .int .i8 a1_10, .int .i8 a1_11, .int .i8 a1_12, .int .i8 a1_13, .int .i16 a1_14, .int .i16 a1_15, .int .i16 a1_16, .int .i8 a1_17, .bool a1_18, .bool a1_19]] w fun e w' => e = .returned (.bool r) ∧ Below w.heap.size w w' := by
 have hu102 := Try.underlying102
 have hu96 := Try.underlying96
 have hu100 := Try.underlying100
 have hu38 := Try.underlying38
 have HB := ze.mk (Below.refl w.heap.size w)
 have H : ((laws_eqWeighing.f k a0_0 a0_1 a0_2 a0_3 a0_4 a0_5 a0_6 a0_7 a0_8 a0_9 a0_10 a0_11 a0_12 a0_13 a1_0 a1_1 a1_2 a1_3 a1_4 a1_5 a1_6 a1_7 a1_8 a1_9 a1_10 a1_11 a1_12 a1_13).bind fun t411 => (if t411 = true then ((laws_eqInt16A3.f k a0_14 a0_15 a0_16 a1_14 a1_15 a1_16).bind fun t412 => (if t412 = true then ((laws_eqCase.f a0_17 a0_18 a1_17 a1_18).bind fun t413 => (if t413 = true then (if (a0_19 != a1_19) = true then (some false) else (some true)) else (some false))) else (some false))) else (some false))) = some r := h
 clear h
 replace H := Option.bind_eq_some_iff.mp H
 obtain ⟨t411, A30, H⟩ := H
 replace H : (if t411 = true then ((laws_eqInt16A3.f k a0_14 a0_15 a0_16 a1_14 a1_15 a1_16).bind fun t412 => (if t412 = true then ((laws_eqCase.f a0_17 a0_18 a1_17 a1_18).bind fun t413 => (if t413 = true then (if (a0_19 != a1_19) = true then (some false) else (some true)) else (some false))) else (some false))) else (some false)) = some r := H
 have A3 := ze.mk A30
 clear A30
 by_cases c4 : t411 = true
 ·subst c4
  have H1 : ((laws_eqInt16A3.f k a0_14 a0_15 a0_16 a1_14 a1_15 a1_16).bind fun t412 => (if t412 = true then ((laws_eqCase.f a0_17 a0_18 a1_17 a1_18).bind fun t413 => (if t413 = true then (if (a0_19 != a1_19) = true then (some false) else (some true)) else (some false))) else (some false))) = some r := by rw [if_pos rfl] at H; exact H
  clear H
  have H := H1
  clear H1
  replace H := Option.bind_eq_some_iff.mp H
  obtain ⟨t412, A50, H⟩ := H
  replace H : (if t412 = true then ((laws_eqCase.f a0_17 a0_18 a1_17 a1_18).bind fun t413 => (if t413 = true then (if (a0_19 != a1_19) = true then (some false) else (some true)) else (some false))) else (some false)) = some r := H
  have A5 := ze.mk A50
  clear A50
  by_cases c6 : t412 = true
  ·subst c6
   have H1 : ((laws_eqCase.f a0_17 a0_18 a1_17 a1_18).bind fun t413 => (if t413 = true then (if (a0_19 != a1_19) = true then (some false) else (some true)) else (some false))) = some r := by rw [if_pos rfl] at H; exact H
   clear H
   have H := H1
   clear H1
   replace H := Option.bind_eq_some_iff.mp H
   obtain ⟨t413, A70, H⟩ := H
   replace H : (if t413 = true then (if (a0_19 != a1_19) = true then (some false) else (some true)) else (some false)) = some r := H
   have A7 := ze.mk A70
   clear A70
   by_cases c8 : t413 = true
   ·subst c8
    have H1 : (if (a0_19 != a1_19) = true then (some false) else (some true)) = some r := by rw [if_pos rfl] at H; exact H
    clear H
    have H := H1
    clear H1
    by_cases c9 : (a0_19 != a1_19) = true
    ·rw [if_pos c9] at H
     have c9b0 : (a0_19 != a1_19) = true := c9
     (try (have c9b1 : decide (a0_19 = a1_19) = false := by simpa using c9))
     (try (have c9b2 : (a0_19 == a1_19) = false := by simpa using c9))
     (try (have c9b3 : ¬ (a0_19 = a1_19) := by simpa using c9))
     clear c9
     obtain rfl := Option.some.inj H
     go_enter Try.func89, Try.ntmps89
     go_wp2_with (first | ((with_reducible refine zu (N := 2) rfl ?_); refine zr ?hg (N := 2) ?hd (cs := #[.int .i8 a0_0, .int .i8 a0_1, .int .i8 a0_2, .int .i8 a0_3, .int .i8 a0_4, .int .i8 a0_5, .int .i8 a0_6, .int .i8 a0_7, .int .i8 a0_8, .int .i8 a0_9, .int .i8 a0_10, .int .i8 a0_11, .int .i8 a0_12, .int .i8 a0_13, .int .i16 a0_14, .int .i16 a0_15, .int .i16 a0_16, .int .i8 a0_17, .bool a0_18, .bool a0_19]) (t := 102) ?hr ?_; (case hd => rfl); (case hg => rfl); (case hr => first | (go_simp; done) | (go_simp; rfl)); intro gb409 hg w10 hbox hb; obtain ⟨n0_, n2_⟩ := bx (by repeat (first | (with_reducible first | exact HB.out | apply zg | apply zc | apply zf) | exact HB.out)) hb hg; have n1_ := ze.mk (hbox); have n3_ := n2_; clear HB; have HB := n0_; have BK409 := n1_; have GW409 := n2_; have GE409 := n3_; clear n0_ n1_ n2_ n3_; clear hb hbox hg) | ((with_reducible refine zu (N := 3) rfl ?_); refine zr ?hg (N := 3) ?hd (cs := #[.int .i8 a1_0, .int .i8 a1_1, .int .i8 a1_2, .int .i8 a1_3, .int .i8 a1_4, .int .i8 a1_5, .int .i8 a1_6, .int .i8 a1_7, .int .i8 a1_8, .int .i8 a1_9, .int .i8 a1_10, .int .i8 a1_11, .int .i8 a1_12, .int .i8 a1_13, .int .i16 a1_14, .int .i16 a1_15, .int .i16 a1_16, .int .i8 a1_17, .bool a1_18, .bool a1_19]) (t := 102) ?hr ?_; (case hd => rfl); (case hg => rfl); (case hr => first | (go_simp; done) | (go_simp; rfl)); intro gb410 hg w11 hbox hb; have n0_ := ze.mk (zk (by (with_reducible repeat (first | refine zb ?_ _ | refine zd ?_ | refine za ?_ _)); exact BK409.out) hb); obtain ⟨n1_, n3_⟩ := bx (by repeat (first | (with_reducible first | exact HB.out | apply zg | apply zc | apply zf | refine zi ?_ GE409.out) | exact HB.out)) hb hg; have n2_ := ze.mk (hbox); have n4_ := n3_; have n5_ := ze.mk ((by rw [hg]; exact Nat.ne_of_lt (zba (by (with_reducible repeat (first | refine zb ?_ _ | refine zd ?_ | refine za ?_ _)); exact BK409.out)) : gb409 ≠ gb410)); have n6_ := ze.mk n5_.out.symm; clear BK409; clear HB; have BK409 := n0_; have HB := n1_; have BK410 := n2_; have GW410 := n3_; have GE410 := n4_; have NB409_410 := n5_; have NB410_409 := n6_; clear n0_ n1_ n2_ n3_ n4_ n5_ n6_; clear hb hbox hg; have hnb12 := NB409_410.out; have hnc12 := NB410_409.out; obtain ⟨y2_0, y2_1, y2_2, y2_3, y2_4, y2_5, y2_6, y2_7, y2_8, y2_9, y2_10, y2_11, y2_12, y2_13, y2_14, y2_15, y2_16, y2_17, y2_18, y2_19, z2_0, z2_1, z2_2, z2_3, z2_4, z2_5, z2_6, z2_7, z2_8, z2_9, z2_10, z2_11, z2_12, z2_13, z2_14, z2_15, z2_16, z2_17, z2_18, z2_19⟩ := cf20 BK409.out; obtain ⟨y7_0, y7_1, y7_2, y7_3, y7_4, y7_5, y7_6, y7_7, y7_8, y7_9, y7_10, y7_11, y7_12, y7_13, y7_14, y7_15, y7_16, y7_17, y7_18, y7_19, z7_0, z7_1, z7_2, z7_3, z7_4, z7_5, z7_6, z7_7, z7_8, z7_9, z7_10, z7_11, z7_12, z7_13, z7_14, z7_15, z7_16, z7_17, z7_18, z7_19⟩ := cf20 BK410.out) | ((with_reducible refine zs (f := 107) rfl ?_); refine zda (some 9) rfl rfl Try.func107 (by kernel_rfl) rfl #[.agg #[.int .i8 a0_0, .int .i8 a0_1, .int .i8 a0_2, .int .i8 a0_3, .int .i8 a0_4, .int .i8 a0_5, .int .i8 a0_6, .int .i8 a0_7, .int .i8 a0_8, .int .i8 a0_9, .int .i8 a0_10, .int .i8 a0_11, .int .i8 a0_12, .int .i8 a0_13], .agg #[.int .i8 a1_0, .int .i8 a1_1, .int .i8 a1_2, .int .i8 a1_3, .int .i8 a1_4, .int .i8 a1_5, .int .i8 a1_6, .int .i8 a1_7, .int .i8 a1_8, .int .i8 a1_9, .int .i8 a1_10, .int .i8 a1_11, .int .i8 a1_12, .int .i8 a1_13]] rfl (by (try simp only [List.map_toArray, List.map_cons, List.map_nil]); first | done | rfl | (simp only [List.length_drop, List.length_take]; rfl)) ?_; (with_reducible refine (laws_eqWeighing.calls k a0_0 a0_1 a0_2 a0_3 a0_4 a0_5 a0_6 a0_7 a0_8 a0_9 a0_10 a0_11 a0_12 a0_13 a1_0 a1_1 a1_2 a1_3 a1_4 a1_5 a1_6 a1_7 a1_8 a1_9 a1_10 a1_11 a1_12 a1_13 true _ A3.out).mono ?_); rintro e w15 ⟨rfl, hb⟩; refine ⟨_, rfl, ?_⟩; have n0_ := ze.mk (zk (by (with_reducible repeat (first | refine zb ?_ _ | refine zd ?_ | refine za ?_ _)); exact BK409.out) hb); have n1_ := ze.mk (zk (by (with_reducible repeat (first | refine zb ?_ _ | refine zd ?_ | refine za ?_ _)); exact BK410.out) hb); have n2_ := ze.mk (zt (by repeat (first | (with_reducible first | exact HB.out | apply zg | apply zc | apply zf | refine zi ?_ GE409.out | refine zi ?_ GE410.out) | exact HB.out)) hb); clear BK409; clear BK410; clear HB; have BK409 := n0_; have BK410 := n1_; have HB := n2_; clear n0_ n1_ n2_; (try clear hb); (try clear hb2); (try clear hk); (try clear hi); obtain ⟨y10_0, y10_1, y10_2, y10_3, y10_4, y10_5, y10_6, y10_7, y10_8, y10_9, y10_10, y10_11, y10_12, y10_13, y10_14, y10_15, y10_16, y10_17, y10_18, y10_19, z10_0, z10_1, z10_2, z10_3, z10_4, z10_5, z10_6, z10_7, z10_8, z10_9, z10_10, z10_11, z10_12, z10_13, z10_14, z10_15, z10_16, z10_17, z10_18, z10_19⟩ := cf20 BK409.out; obtain ⟨y3_0, y3_1, y3_2, y3_3, y3_4, y3_5, y3_6, y3_7, y3_8, y3_9, y3_10, y3_11, y3_12, y3_13, y3_14, y3_15, y3_16, y3_17, y3_18, y3_19, z3_0, z3_1, z3_2, z3_3, z3_4, z3_5, z3_6, z3_7, z3_8, z3_9, z3_10, z3_11, z3_12, z3_13, z3_14, z3_15, z3_16, z3_17, z3_18, z3_19⟩ := cf20 BK410.out) | ((with_reducible refine zs (f := 108) rfl ?_); refine zda (some 15) rfl rfl Try.func108 (by kernel_rfl) rfl #[.agg #[.int .i16 a0_14, .int .i16 a0_15, .int .i16 a0_16], .agg #[.int .i16 a1_14, .int .i16 a1_15, .int .i16 a1_16]] rfl (by (try simp only [List.map_toArray, List.map_cons, List.map_nil]); first | done | rfl | (simp only [List.length_drop, List.length_take]; rfl)) ?_; (with_reducible refine (laws_eqInt16A3.calls k a0_14 a0_15 a0_16 a1_14 a1_15 a1_16 true _ A5.out).mono ?_); rintro e w18 ⟨rfl, hb⟩; refine ⟨_, rfl, ?_⟩; have n0_ := ze.mk (zk (by (with_reducible repeat (first | refine zb ?_ _ | refine zd ?_ | refine za ?_ _)); exact BK409.out) hb); have n1_ := ze.mk (zk (by (with_reducible repeat (first | refine zb ?_ _ | refine zd ?_ | refine za ?_ _)); exact BK410.out) hb); have n2_ := ze.mk (zt (by repeat (first | (with_reducible first | exact HB.out | apply zg | apply zc | apply zf | refine zi ?_ GE409.out | refine zi ?_ GE410.out) | exact HB.out)) hb); clear BK409; clear BK410; clear HB; have BK409 := n0_; have BK410 := n1_; have HB := n2_; clear n0_ n1_ n2_; (try clear hb); (try clear hb2); (try clear hk); (try clear hi); obtain ⟨y9_0, y9_1, y9_2, y9_3, y9_4, y9_5, y9_6, y9_7, y9_8, y9_9, y9_10, y9_11, y9_12, y9_13, y9_14, y9_15, y9_16, y9_17, y9_18, y9_19, z9_0, z9_1, z9_2, z9_3, z9_4, z9_5, z9_6, z9_7, z9_8, z9_9, z9_10, z9_11, z9_12, z9_13, z9_14, z9_15, z9_16, z9_17, z9_18, z9_19⟩ := cf20 BK409.out; obtain ⟨y4_0, y4_1, y4_2, y4_3, y4_4, y4_5, y4_6, y4_7, y4_8, y4_9, y4_10, y4_11, y4_12, y4_13, y4_14, y4_15, y4_16, y4_17, y4_18, y4_19, z4_0, z4_1, z4_2, z4_3, z4_4, z4_5, z4_6, z4_7, z4_8, z4_9, z4_10, z4_11, z4_12, z4_13, z4_14, z4_15, z4_16, z4_17, z4_18, z4_19⟩ := cf20 BK410.out) | ((with_reducible refine zs (f := 109) rfl ?_); refine zda (some 21) rfl rfl Try.func109 (by kernel_rfl) rfl #[.agg #[.int .i8 a0_17, .bool a0_18], .agg #[.int .i8 a1_17, .bool a1_18]] rfl (by (try simp only [List.map_toArray, List.map_cons, List.map_nil]); first | done | rfl | (simp only [List.length_drop, List.length_take]; rfl)) ?_; (with_reducible refine (laws_eqCase.calls a0_17 a0_18 a1_17 a1_18 true _ A7.out).mono ?_); rintro e w21 ⟨rfl, hb⟩; refine ⟨_, rfl, ?_⟩; have n0_ := ze.mk (zk (by (with_reducible repeat (first | refine zb ?_ _ | refine zd ?_ | refine za ?_ _)); exact BK409.out) hb); have n1_ := ze.mk (zk (by (with_reducible repeat (first | refine zb ?_ _ | refine zd ?_ | refine za ?_ _)); exact BK410.out) hb); have n2_ := ze.mk (zt (by repeat (first | (with_reducible first | exact HB.out | apply zg | apply zc | apply zf | refine zi ?_ GE409.out | refine zi ?_ GE410.out) | exact HB.out)) hb); clear BK409; clear BK410; clear HB; have BK409 := n0_; have BK410 := n1_; have HB := n2_; clear n0_ n1_ n2_; (try clear hb); (try clear hb2); (try clear hk); (try clear hi); obtain ⟨y11_0, y11_1, y11_2, y11_3, y11_4, y11_5, y11_6, y11_7, y11_8, y11_9, y11_10, y11_11, y11_12, y11_13, y11_14, y11_15, y11_16, y11_17, y11_18, y11_19, z11_0, z11_1, z11_2, z11_3, z11_4, z11_5, z11_6, z11_7, z11_8, z11_9, z11_10, z11_11, z11_12, z11_13, z11_14, z11_15, z11_16, z11_17, z11_18, z11_19⟩ := cf20 BK409.out; obtain ⟨y12_0, y12_1, y12_2, y12_3, y12_4, y12_5, y12_6, y12_7, y12_8, y12_9, y12_10, y12_11, y12_12, y12_13, y12_14, y12_15, y12_16, y12_17, y12_18, y12_19, z12_0, z12_1, z12_2, z12_3, z12_4, z12_5, z12_6, z12_7, z12_8, z12_9, z12_10, z12_11, z12_12, z12_13, z12_14, z12_15, z12_16, z12_17, z12_18, z12_19⟩ := cf20 BK410.out))
     go_ret
     exact ⟨by first | rfl | (simp [zn, zm] <;> rfl) | (simp [*, zn, zm] <;> rfl), by repeat (first | (with_reducible first | exact HB.out | apply zg | apply zc | apply zf | refine zi ?_ GE409.out | refine zi ?_ GE410.out) | exact HB.out)⟩
    rw [if_neg c9] at H
    have c9b0 : (a0_19 != a1_19) = false := by simpa using c9
    (try (have c9b1 : decide (a0_19 = a1_19) = true := by simpa using c9))
    (try (have c9b2 : (a0_19 == a1_19) = true := by simpa using c9))
    clear c9
    obtain rfl := Option.some.inj H
    go_enter Try.func89, Try.ntmps89
    go_wp2_with (first | ((with_reducible refine zu (N := 2) rfl ?_); refine zr ?hg (N := 2) ?hd (cs := #[.int .i8 a0_0, .int .i8 a0_1, .int .i8 a0_2, .int .i8 a0_3, .int .i8 a0_4, .int .i8 a0_5, .int .i8 a0_6, .int .i8 a0_7, .int .i8 a0_8, .int .i8 a0_9, .int .i8 a0_10, .int .i8 a0_11, .int .i8 a0_12, .int .i8 a0_13, .int .i16 a0_14, .int .i16 a0_15, .int .i16 a0_16, .int .i8 a0_17, .bool a0_18, .bool a0_19]) (t := 102) ?hr ?_; (case hd => rfl); (case hg => rfl); (case hr => first | (go_simp; done) | (go_simp; rfl)); intro gb409 hg w24 hbox hb; obtain ⟨n0_, n2_⟩ := bx (by repeat (first | (with_reducible first | exact HB.out | apply zg | apply zc | apply zf) | exact HB.out)) hb hg; have n1_ := ze.mk (hbox); have n3_ := n2_; clear HB; have HB := n0_; have BK409 := n1_; have GW409 := n2_; have GE409 := n3_; clear n0_ n1_ n2_ n3_; clear hb hbox hg) | ((with_reducible refine zu (N := 3) rfl ?_); refine zr ?hg (N := 3) ?hd (cs := #[.int .i8 a1_0, .int .i8 a1_1, .int .i8 a1_2, .int .i8 a1_3, .int .i8 a1_4, .int .i8 a1_5, .int .i8 a1_6, .int .i8 a1_7, .int .i8 a1_8, .int .i8 a1_9, .int .i8 a1_10, .int .i8 a1_11, .int .i8 a1_12, .int .i8 a1_13, .int .i16 a1_14, .int .i16 a1_15, .int .i16 a1_16, .int .i8 a1_17, .bool a1_18, .bool a1_19]) (t := 102) ?hr ?_; (case hd => rfl); (case hg => rfl); (case hr => first | (go_simp; done) | (go_simp; rfl)); intro gb410 hg w25 hbox hb; have n0_ := ze.mk (zk (by (with_reducible repeat (first | refine zb ?_ _ | refine zd ?_ | refine za ?_ _)); exact BK409.out) hb); obtain ⟨n1_, n3_⟩ := bx (by repeat (first | (with_reducible first | exact HB.out | apply zg | apply zc | apply zf | refine zi ?_ GE409.out) | exact HB.out)) hb hg; have n2_ := ze.mk (hbox); have n4_ := n3_; have n5_ := ze.mk ((by rw [hg]; exact Nat.ne_of_lt (zba (by (with_reducible repeat (first | refine zb ?_ _ | refine zd ?_ | refine za ?_ _)); exact BK409.out)) : gb409 ≠ gb410)); have n6_ := ze.mk n5_.out.symm; clear BK409; clear HB; have BK409 := n0_; have HB := n1_; have BK410 := n2_; have GW410 := n3_; have GE410 := n4_; have NB409_410 := n5_; have NB410_409 := n6_; clear n0_ n1_ n2_ n3_ n4_ n5_ n6_; clear hb hbox hg; have hnb26 := NB409_410.out; have hnc26 := NB410_409.out; obtain ⟨y13_0, y13_1, y13_2, y13_3, y13_4, y13_5, y13_6, y13_7, y13_8, y13_9, y13_10, y13_11, y13_12, y13_13, y13_14, y13_15, y13_16, y13_17, y13_18, y13_19, z13_0, z13_1, z13_2, z13_3, z13_4, z13_5, z13_6, z13_7, z13_8, z13_9, z13_10, z13_11, z13_12, z13_13, z13_14, z13_15, z13_16, z13_17, z13_18, z13_19⟩ := cf20 BK409.out; obtain ⟨y14_0, y14_1, y14_2, y14_3, y14_4, y14_5, y14_6, y14_7, y14_8, y14_9, y14_10, y14_11, y14_12, y14_13, y14_14, y14_15, y14_16, y14_17, y14_18, y14_19, z14_0, z14_1, z14_2, z14_3, z14_4, z14_5, z14_6, z14_7, z14_8, z14_9, z14_10, z14_11, z14_12, z14_13, z14_14, z14_15, z14_16, z14_17, z14_18, z14_19⟩ := cf20 BK410.out) | ((with_reducible refine zs (f := 107) rfl ?_); refine zda (some 9) rfl rfl Try.func107 (by kernel_rfl) rfl #[.agg #[.int .i8 a0_0, .int .i8 a0_1, .int .i8 a0_2, .int .i8 a0_3, .int .i8 a0_4, .int .i8 a0_5, .int .i8 a0_6, .int .i8 a0_7, .int .i8 a0_8, .int .i8 a0_9, .int .i8 a0_10, .int .i8 a0_11, .int .i8 a0_12, .int .i8 a0_13], .agg #[.int .i8 a1_0, .int .i8 a1_1, .int .i8 a1_2, .int .i8 a1_3, .int .i8 a1_4, .int .i8 a1_5, .int .i8 a1_6, .int .i8 a1_7, .int .i8 a1_8, .int .i8 a1_9, .int .i8 a1_10, .int .i8 a1_11, .int .i8 a1_12, .int .i8 a1_13]] rfl (by (try simp only [List.map_toArray, List.map_cons, List.map_nil]); first | done | rfl | (simp only [List.length_drop, List.length_take]; rfl)) ?_; (with_reducible refine (laws_eqWeighing.calls k a0_0 a0_1 a0_2 a0_3 a0_4 a0_5 a0_6 a0_7 a0_8 a0_9 a0_10 a0_11 a0_12 a0_13 a1_0 a1_1 a1_2 a1_3 a1_4 a1_5 a1_6 a1_7 a1_8 a1_9 a1_10 a1_11 a1_12 a1_13 true _ A3.out).mono ?_); rintro e w29 ⟨rfl, hb⟩; refine ⟨_, rfl, ?_⟩; have n0_ := ze.mk (zk (by (with_reducible repeat (first | refine zb ?_ _ | refine zd ?_ | refine za ?_ _)); exact BK409.out) hb); have n1_ := ze.mk (zk (by (with_reducible repeat (first | refine zb ?_ _ | refine zd ?_ | refine za ?_ _)); exact BK410.out) hb); have n2_ := ze.mk (zt (by repeat (first | (with_reducible first | exact HB.out | apply zg | apply zc | apply zf | refine zi ?_ GE409.out | refine zi ?_ GE410.out) | exact HB.out)) hb); clear BK409; clear BK410; clear HB; have BK409 := n0_; have BK410 := n1_; have HB := n2_; clear n0_ n1_ n2_; (try clear hb); (try clear hb2); (try clear hk); (try clear hi); obtain ⟨y15_0, y15_1, y15_2, y15_3, y15_4, y15_5, y15_6, y15_7, y15_8, y15_9, y15_10, y15_11, y15_12, y15_13, y15_14, y15_15, y15_16, y15_17, y15_18, y15_19, z15_0, z15_1, z15_2, z15_3, z15_4, z15_5, z15_6, z15_7, z15_8, z15_9, z15_10, z15_11, z15_12, z15_13, z15_14, z15_15, z15_16, z15_17, z15_18, z15_19⟩ := cf20 BK409.out; obtain ⟨y16_0, y16_1, y16_2, y16_3, y16_4, y16_5, y16_6, y16_7, y16_8, y16_9, y16_10, y16_11, y16_12, y16_13, y16_14, y16_15, y16_16, y16_17, y16_18, y16_19, z16_0, z16_1, z16_2, z16_3, z16_4, z16_5, z16_6, z16_7, z16_8, z16_9, z16_10, z16_11, z16_12, z16_13, z16_14, z16_15, z16_16, z16_17, z16_18, z16_19⟩ := cf20 BK410.out) | ((with_reducible refine zs (f := 108) rfl ?_); refine zda (some 15) rfl rfl Try.func108 (by kernel_rfl) rfl #[.agg #[.int .i16 a0_14, .int .i16 a0_15, .int .i16 a0_16], .agg #[.int .i16 a1_14, .int .i16 a1_15, .int .i16 a1_16]] rfl (by (try simp only [List.map_toArray, List.map_cons, List.map_nil]); first | done | rfl | (simp only [List.length_drop, List.length_take]; rfl)) ?_; (with_reducible refine (laws_eqInt16A3.calls k a0_14 a0_15 a0_16 a1_14 a1_15 a1_16 true _ A5.out).mono ?_); rintro e w32 ⟨rfl, hb⟩; refine ⟨_, rfl, ?_⟩; have n0_ := ze.mk (zk (by (with_reducible repeat (first | refine zb ?_ _ | refine zd ?_ | refine za ?_ _)); exact BK409.out) hb); have n1_ := ze.mk (zk (by (with_reducible repeat (first | refine zb ?_ _ | refine zd ?_ | refine za ?_ _)); exact BK410.out) hb); have n2_ := ze.mk (zt (by repeat (first | (with_reducible first | exact HB.out | apply zg | apply zc | apply zf | refine zi ?_ GE409.out | refine zi ?_ GE410.out) | exact HB.out)) hb); clear BK409; clear BK410; clear HB; have BK409 := n0_; have BK410 := n1_; have HB := n2_; clear n0_ n1_ n2_; (try clear hb); (try clear hb2); (try clear hk); (try clear hi); obtain ⟨y17_0, y17_1, y17_2, y17_3, y17_4, y17_5, y17_6, y17_7, y17_8, y17_9, y17_10, y17_11, y17_12, y17_13, y17_14, y17_15, y17_16, y17_17, y17_18, y17_19, z17_0, z17_1, z17_2, z17_3, z17_4, z17_5, z17_6, z17_7, z17_8, z17_9, z17_10, z17_11, z17_12, z17_13, z17_14, z17_15, z17_16, z17_17, z17_18, z17_19⟩ := cf20 BK409.out; obtain ⟨y18_0, y18_1, y18_2, y18_3, y18_4, y18_5, y18_6, y18_7, y18_8, y18_9, y18_10, y18_11, y18_12, y18_13, y18_14, y18_15, y18_16, y18_17, y18_18, y18_19, z18_0, z18_1, z18_2, z18_3, z18_4, z18_5, z18_6, z18_7, z18_8, z18_9, z18_10, z18_11, z18_12, z18_13, z18_14, z18_15, z18_16, z18_17, z18_18, z18_19⟩ := cf20 BK410.out) | ((with_reducible refine zs (f := 109) rfl ?_); refine zda (some 21) rfl rfl Try.func109 (by kernel_rfl) rfl #[.agg #[.int .i8 a0_17, .bool a0_18], .agg #[.int .i8 a1_17, .bool a1_18]] rfl (by (try simp only [List.map_toArray, List.map_cons, List.map_nil]); first | done | rfl | (simp only [List.length_drop, List.length_take]; rfl)) ?_; (with_reducible refine (laws_eqCase.calls a0_17 a0_18 a1_17 a1_18 true _ A7.out).mono ?_); rintro e w35 ⟨rfl, hb⟩; refine ⟨_, rfl, ?_⟩; have n0_ := ze.mk (zk (by (with_reducible repeat (first | refine zb ?_ _ | refine zd ?_ | refine za ?_ _)); exact BK409.out) hb); have n1_ := ze.mk (zk (by (with_reducible repeat (first | refine zb ?_ _ | refine zd ?_ | refine za ?_ _)); exact BK410.out) hb); have n2_ := ze.mk (zt (by repeat (first | (with_reducible first | exact HB.out | apply zg | apply zc | apply zf | refine zi ?_ GE409.out | refine zi ?_ GE410.out) | exact HB.out)) hb); clear BK409; clear BK410; clear HB; have BK409 := n0_; have BK410 := n1_; have HB := n2_; clear n0_ n1_ n2_; (try clear hb); (try clear hb2); (try clear hk); (try clear hi); obtain ⟨y19_0, y19_1, y19_2, y19_3, y19_4, y19_5, y19_6, y19_7, y19_8, y19_9, y19_10, y19_11, y19_12, y19_13, y19_14, y19_15, y19_16, y19_17, y19_18, y19_19, z19_0, z19_1, z19_2, z19_3, z19_4, z19_5, z19_6, z19_7, z19_8, z19_9, z19_10, z19_11, z19_12, z19_13, z19_14, z19_15, z19_16, z19_17, z19_18, z19_19⟩ := cf20 BK409.out; obtain ⟨y20_0, y20_1, y20_2, y20_3, y20_4, y20_5, y20_6, y20_7, y20_8, y20_9, y20_10, y20_11, y20_12, y20_13, y20_14, y20_15, y20_16, y20_17, y20_18, y20_19, z20_0, z20_1, z20_2, z20_3, z20_4, z20_5, z20_6, z20_7, z20_8, z20_9, z20_10, z20_11, z20_12, z20_13, z20_14, z20_15, z20_16, z20_17, z20_18, z20_19⟩ := cf20 BK410.out))
    go_ret
    exact ⟨by first | rfl | (simp [zn, zm] <;> rfl) | (simp [*, zn, zm] <;> rfl), by repeat (first | (with_reducible first | exact HB.out | apply zg | apply zc | apply zf | refine zi ?_ GE409.out | refine zi ?_ GE410.out) | exact HB.out)⟩
   replace c8 := Bool.eq_false_iff.mpr c8
   subst c8
   have H1 : (some false) = some r := by rw [if_neg (show ¬ (false = true) by decide)] at H; exact H
   clear H
   have H := H1
   clear H1
   obtain rfl := Option.some.inj H
   go_enter Try.func89, Try.ntmps89
   go_wp2_with (first | ((with_reducible refine zu (N := 2) rfl ?_); refine zr ?hg (N := 2) ?hd (cs := #[.int .i8 a0_0, .int .i8 a0_1, .int .i8 a0_2, .int .i8 a0_3, .int .i8 a0_4, .int .i8 a0_5, .int .i8 a0_6, .int .i8 a0_7, .int .i8 a0_8, .int .i8 a0_9, .int .i8 a0_10, .int .i8 a0_11, .int .i8 a0_12, .int .i8 a0_13, .int .i16 a0_14, .int .i16 a0_15, .int .i16 a0_16, .int .i8 a0_17, .bool a0_18, .bool a0_19]) (t := 102) ?hr ?_; (case hd => rfl); (case hg => rfl); (case hr => first | (go_simp; done) | (go_simp; rfl)); intro gb409 hg w38 hbox hb; obtain ⟨n0_, n2_⟩ := bx (by repeat (first | (with_reducible first | exact HB.out | apply zg | apply zc | apply zf) | exact HB.out)) hb hg; have n1_ := ze.mk (hbox); have n3_ := n2_; clear HB; have HB := n0_; have BK409 := n1_; have GW409 := n2_; have GE409 := n3_; clear n0_ n1_ n2_ n3_; clear hb hbox hg) | ((with_reducible refine zu (N := 3) rfl ?_); refine zr ?hg (N := 3) ?hd (cs := #[.int .i8 a1_0, .int .i8 a1_1, .int .i8 a1_2, .int .i8 a1_3, .int .i8 a1_4, .int .i8 a1_5, .int .i8 a1_6, .int .i8 a1_7, .int .i8 a1_8, .int .i8 a1_9, .int .i8 a1_10, .int .i8 a1_11, .int .i8 a1_12, .int .i8 a1_13, .int .i16 a1_14, .int .i16 a1_15, .int .i16 a1_16, .int .i8 a1_17, .bool a1_18, .bool a1_19]) (t := 102) ?hr ?_; (case hd => rfl); (case hg => rfl); (case hr => first | (go_simp; done) | (go_simp; rfl)); intro gb410 hg w39 hbox hb; have n0_ := ze.mk (zk (by (with_reducible repeat (first | refine zb ?_ _ | refine zd ?_ | refine za ?_ _)); exact BK409.out) hb); obtain ⟨n1_, n3_⟩ := bx (by repeat (first | (with_reducible first | exact HB.out | apply zg | apply zc | apply zf | refine zi ?_ GE409.out) | exact HB.out)) hb hg; have n2_ := ze.mk (hbox); have n4_ := n3_; have n5_ := ze.mk ((by rw [hg]; exact Nat.ne_of_lt (zba (by (with_reducible repeat (first | refine zb ?_ _ | refine zd ?_ | refine za ?_ _)); exact BK409.out)) : gb409 ≠ gb410)); have n6_ := ze.mk n5_.out.symm; clear BK409; clear HB; have BK409 := n0_; have HB := n1_; have BK410 := n2_; have GW410 := n3_; have GE410 := n4_; have NB409_410 := n5_; have NB410_409 := n6_; clear n0_ n1_ n2_ n3_ n4_ n5_ n6_; clear hb hbox hg; have hnb40 := NB409_410.out; have hnc40 := NB410_409.out; obtain ⟨y21_0, y21_1, y21_2, y21_3, y21_4, y21_5, y21_6, y21_7, y21_8, y21_9, y21_10, y21_11, y21_12, y21_13, y21_14, y21_15, y21_16, y21_17, y21_18, y21_19, z21_0, z21_1, z21_2, z21_3, z21_4, z21_5, z21_6, z21_7, z21_8, z21_9, z21_10, z21_11, z21_12, z21_13, z21_14, z21_15, z21_16, z21_17, z21_18, z21_19⟩ := cf20 BK409.out; obtain ⟨y22_0, y22_1, y22_2, y22_3, y22_4, y22_5, y22_6, y22_7, y22_8, y22_9, y22_10, y22_11, y22_12, y22_13, y22_14, y22_15, y22_16, y22_17, y22_18, y22_19, z22_0, z22_1, z22_2, z22_3, z22_4, z22_5, z22_6, z22_7, z22_8, z22_9, z22_10, z22_11, z22_12, z22_13, z22_14, z22_15, z22_16, z22_17, z22_18, z22_19⟩ := cf20 BK410.out) | ((with_reducible refine zs (f := 107) rfl ?_); refine zda (some 9) rfl rfl Try.func107 (by kernel_rfl) rfl #[.agg #[.int .i8 a0_0, .int .i8 a0_1, .int .i8 a0_2, .int .i8 a0_3, .int .i8 a0_4, .int .i8 a0_5, .int .i8 a0_6, .int .i8 a0_7, .int .i8 a0_8, .int .i8 a0_9, .int .i8 a0_10, .int .i8 a0_11, .int .i8 a0_12, .int .i8 a0_13], .agg #[.int .i8 a1_0, .int .i8 a1_1, .int .i8 a1_2, .int .i8 a1_3, .int .i8 a1_4, .int .i8 a1_5, .int .i8 a1_6, .int .i8 a1_7, .int .i8 a1_8, .int .i8 a1_9, .int .i8 a1_10, .int .i8 a1_11, .int .i8 a1_12, .int .i8 a1_13]] rfl (by (try simp only [List.map_toArray, List.map_cons, List.map_nil]); first | done | rfl | (simp only [List.length_drop, List.length_take]; rfl)) ?_; (with_reducible refine (laws_eqWeighing.calls k a0_0 a0_1 a0_2 a0_3 a0_4 a0_5 a0_6 a0_7 a0_8 a0_9 a0_10 a0_11 a0_12 a0_13 a1_0 a1_1 a1_2 a1_3 a1_4 a1_5 a1_6 a1_7 a1_8 a1_9 a1_10 a1_11 a1_12 a1_13 true _ A3.out).mono ?_); rintro e w43 ⟨rfl, hb⟩; refine ⟨_, rfl, ?_⟩; have n0_ := ze.mk (zk (by (with_reducible repeat (first | refine zb ?_ _ | refine zd ?_ | refine za ?_ _)); exact BK409.out) hb); have n1_ := ze.mk (zk (by (with_reducible repeat (first | refine zb ?_ _ | refine zd ?_ | refine za ?_ _)); exact BK410.out) hb); have n2_ := ze.mk (zt (by repeat (first | (with_reducible first | exact HB.out | apply zg | apply zc | apply zf | refine zi ?_ GE409.out | refine zi ?_ GE410.out) | exact HB.out)) hb); clear BK409; clear BK410; clear HB; have BK409 := n0_; have BK410 := n1_; have HB := n2_; clear n0_ n1_ n2_; (try clear hb); (try clear hb2); (try clear hk); (try clear hi); obtain ⟨y23_0, y23_1, y23_2, y23_3, y23_4, y23_5, y23_6, y23_7, y23_8, y23_9, y23_10, y23_11, y23_12, y23_13, y23_14, y23_15, y23_16, y23_17, y23_18, y23_19, z23_0, z23_1, z23_2, z23_3, z23_4, z23_5, z23_6, z23_7, z23_8, z23_9, z23_10, z23_11, z23_12, z23_13, z23_14, z23_15, z23_16, z23_17, z23_18, z23_19⟩ := cf20 BK409.out; obtain ⟨y24_0, y24_1, y24_2, y24_3, y24_4, y24_5, y24_6, y24_7, y24_8, y24_9, y24_10, y24_11, y24_12, y24_13, y24_14, y24_15, y24_16, y24_17, y24_18, y24_19, z24_0, z24_1, z24_2, z24_3, z24_4, z24_5, z24_6, z24_7, z24_8, z24_9, z24_10, z24_11, z24_12, z24_13, z24_14, z24_15, z24_16, z24_17, z24_18, z24_19⟩ := cf20 BK410.out) | ((with_reducible refine zs (f := 108) rfl ?_); refine zda (some 15) rfl rfl Try.func108 (by kernel_rfl) rfl #[.agg #[.int .i16 a0_14, .int .i16 a0_15, .int .i16 a0_16], .agg #[.int .i16 a1_14, .int .i16 a1_15, .int .i16 a1_16]] rfl (by (try simp only [List.map_toArray, List.map_cons, List.map_nil]); first | done | rfl | (simp only [List.length_drop, List.length_take]; rfl)) ?_; (with_reducible refine (laws_eqInt16A3.calls k a0_14 a0_15 a0_16 a1_14 a1_15 a1_16 true _ A5.out).mono ?_); rintro e w46 ⟨rfl, hb⟩; refine ⟨_, rfl, ?_⟩; have n0_ := ze.mk (zk (by (with_reducible repeat (first | refine zb ?_ _ | refine zd ?_ | refine za ?_ _)); exact BK409.out) hb); have n1_ := ze.mk (zk (by (with_reducible repeat (first | refine zb ?_ _ | refine zd ?_ | refine za ?_ _)); exact BK410.out) hb); have n2_ := ze.mk (zt (by repeat (first | (with_reducible first | exact HB.out | apply zg | apply zc | apply zf | refine zi ?_ GE409.out | refine zi ?_ GE410.out) | exact HB.out)) hb); clear BK409; clear BK410; clear HB; have BK409 := n0_; have BK410 := n1_; have HB := n2_; clear n0_ n1_ n2_; (try clear hb); (try clear hb2); (try clear hk); (try clear hi); obtain ⟨y25_0, y25_1, y25_2, y25_3, y25_4, y25_5, y25_6, y25_7, y25_8, y25_9, y25_10, y25_11, y25_12, y25_13, y25_14, y25_15, y25_16, y25_17, y25_18, y25_19, z25_0, z25_1, z25_2, z25_3, z25_4, z25_5, z25_6, z25_7, z25_8, z25_9, z25_10, z25_11, z25_12, z25_13, z25_14, z25_15, z25_16, z25_17, z25_18, z25_19⟩ := cf20 BK409.out; obtain ⟨y26_0, y26_1, y26_2, y26_3, y26_4, y26_5, y26_6, y26_7, y26_8, y26_9, y26_10, y26_11, y26_12, y26_13, y26_14, y26_15, y26_16, y26_17, y26_18, y26_19, z26_0, z26_1, z26_2, z26_3, z26_4, z26_5, z26_6, z26_7, z26_8, z26_9, z26_10, z26_11, z26_12, z26_13, z26_14, z26_15, z26_16, z26_17, z26_18, z26_19⟩ := cf20 BK410.out) | ((with_reducible refine zs (f := 109) rfl ?_); refine zda (some 21) rfl rfl Try.func109 (by kernel_rfl) rfl #[.agg #[.int .i8 a0_17, .bool a0_18], .agg #[.int .i8 a1_17, .bool a1_18]] rfl (by (try simp only [List.map_toArray, List.map_cons, List.map_nil]); first | done | rfl | (simp only [List.length_drop, List.length_take]; rfl)) ?_; (with_reducible refine (laws_eqCase.calls a0_17 a0_18 a1_17 a1_18 false _ A7.out).mono ?_); rintro e w49 ⟨rfl, hb⟩; refine ⟨_, rfl, ?_⟩; have n0_ := ze.mk (zk (by (with_reducible repeat (first | refine zb ?_ _ | refine zd ?_ | refine za ?_ _)); exact BK409.out) hb); have n1_ := ze.mk (zk (by (with_reducible repeat (first | refine zb ?_ _ | refine zd ?_ | refine za ?_ _)); exact BK410.out) hb); have n2_ := ze.mk (zt (by repeat (first | (with_reducible first | exact HB.out | apply zg | apply zc | apply zf | refine zi ?_ GE409.out | refine zi ?_ GE410.out) | exact HB.out)) hb); clear BK409; clear BK410; clear HB; have BK409 := n0_; have BK410 := n1_; have HB := n2_; clear n0_ n1_ n2_; (try clear hb); (try clear hb2); (try clear hk); (try clear hi)))
   go_ret
   exact ⟨by first | rfl | (simp [zn, zm] <;> rfl) | (simp [*, zn, zm] <;> rfl), by repeat (first | (with_reducible first | exact HB.out | apply zg | apply zc | apply zf | refine zi ?_ GE409.out | refine zi ?_ GE410.out) | exact HB.out)⟩
  replace c6 := Bool.eq_false_iff.mpr c6
  subst c6
  have H1 : (some false) = some r := by rw [if_neg (show ¬ (false = true) by decide)] at H; exact H
  clear H
  have H := H1
  clear H1
  obtain rfl := Option.some.inj H
  go_enter Try.func89, Try.ntmps89
  go_wp2_with (first | ((with_reducible refine zu (N := 2) rfl ?_); refine zr ?hg (N := 2) ?hd (cs := #[.int .i8 a0_0, .int .i8 a0_1, .int .i8 a0_2, .int .i8 a0_3, .int .i8 a0_4, .int .i8 a0_5, .int .i8 a0_6, .int .i8 a0_7, .int .i8 a0_8, .int .i8 a0_9, .int .i8 a0_10, .int .i8 a0_11, .int .i8 a0_12, .int .i8 a0_13, .int .i16 a0_14, .int .i16 a0_15, .int .i16 a0_16, .int .i8 a0_17, .bool a0_18, .bool a0_19]) (t := 102) ?hr ?_; (case hd => rfl); (case hg => rfl); (case hr => first | (go_simp; done) | (go_simp; rfl)); intro gb409 hg w50 hbox hb; obtain ⟨n0_, n2_⟩ := bx (by repeat (first | (with_reducible first | exact HB.out | apply zg | apply zc | apply zf) | exact HB.out)) hb hg; have n1_ := ze.mk (hbox); have n3_ := n2_; clear HB; have HB := n0_; have BK409 := n1_; have GW409 := n2_; have GE409 := n3_; clear n0_ n1_ n2_ n3_; clear hb hbox hg) | ((with_reducible refine zu (N := 3) rfl ?_); refine zr ?hg (N := 3) ?hd (cs := #[.int .i8 a1_0, .int .i8 a1_1, .int .i8 a1_2, .int .i8 a1_3, .int .i8 a1_4, .int .i8 a1_5, .int .i8 a1_6, .int .i8 a1_7, .int .i8 a1_8, .int .i8 a1_9, .int .i8 a1_10, .int .i8 a1_11, .int .i8 a1_12, .int .i8 a1_13, .int .i16 a1_14, .int .i16 a1_15, .int .i16 a1_16, .int .i8 a1_17, .bool a1_18, .bool a1_19]) (t := 102) ?hr ?_; (case hd => rfl); (case hg => rfl); (case hr => first | (go_simp; done) | (go_simp; rfl)); intro gb410 hg w51 hbox hb; have n0_ := ze.mk (zk (by (with_reducible repeat (first | refine zb ?_ _ | refine zd ?_ | refine za ?_ _)); exact BK409.out) hb); obtain ⟨n1_, n3_⟩ := bx (by repeat (first | (with_reducible first | exact HB.out | apply zg | apply zc | apply zf | refine zi ?_ GE409.out) | exact HB.out)) hb hg; have n2_ := ze.mk (hbox); have n4_ := n3_; have n5_ := ze.mk ((by rw [hg]; exact Nat.ne_of_lt (zba (by (with_reducible repeat (first | refine zb ?_ _ | refine zd ?_ | refine za ?_ _)); exact BK409.out)) : gb409 ≠ gb410)); have n6_ := ze.mk n5_.out.symm; clear BK409; clear HB; have BK409 := n0_; have HB := n1_; have BK410 := n2_; have GW410 := n3_; have GE410 := n4_; have NB409_410 := n5_; have NB410_409 := n6_; clear n0_ n1_ n2_ n3_ n4_ n5_ n6_; clear hb hbox hg; have hnb52 := NB409_410.out; have hnc52 := NB410_409.out; obtain ⟨y27_0, y27_1, y27_2, y27_3, y27_4, y27_5, y27_6, y27_7, y27_8, y27_9, y27_10, y27_11, y27_12, y27_13, y27_14, y27_15, y27_16, y27_17, y27_18, y27_19, z27_0, z27_1, z27_2, z27_3, z27_4, z27_5, z27_6, z27_7, z27_8, z27_9, z27_10, z27_11, z27_12, z27_13, z27_14, z27_15, z27_16, z27_17, z27_18, z27_19⟩ := cf20 BK409.out; obtain ⟨y28_0, y28_1, y28_2, y28_3, y28_4, y28_5, y28_6, y28_7, y28_8, y28_9, y28_10, y28_11, y28_12, y28_13, y28_14, y28_15, y28_16, y28_17, y28_18, y28_19, z28_0, z28_1, z28_2, z28_3, z28_4, z28_5, z28_6, z28_7, z28_8, z28_9, z28_10, z28_11, z28_12, z28_13, z28_14, z28_15, z28_16, z28_17, z28_18, z28_19⟩ := cf20 BK410.out) | ((with_reducible refine zs (f := 107) rfl ?_); refine zda (some 9) rfl rfl Try.func107 (by kernel_rfl) rfl #[.agg #[.int .i8 a0_0, .int .i8 a0_1, .int .i8 a0_2, .int .i8 a0_3, .int .i8 a0_4, .int .i8 a0_5, .int .i8 a0_6, .int .i8 a0_7, .int .i8 a0_8, .int .i8 a0_9, .int .i8 a0_10, .int .i8 a0_11, .int .i8 a0_12, .int .i8 a0_13], .agg #[.int .i8 a1_0, .int .i8 a1_1, .int .i8 a1_2, .int .i8 a1_3, .int .i8 a1_4, .int .i8 a1_5, .int .i8 a1_6, .int .i8 a1_7, .int .i8 a1_8, .int .i8 a1_9, .int .i8 a1_10, .int .i8 a1_11, .int .i8 a1_12, .int .i8 a1_13]] rfl (by (try simp only [List.map_toArray, List.map_cons, List.map_nil]); first | done | rfl | (simp only [List.length_drop, List.length_take]; rfl)) ?_; (with_reducible refine (laws_eqWeighing.calls k a0_0 a0_1 a0_2 a0_3 a0_4 a0_5 a0_6 a0_7 a0_8 a0_9 a0_10 a0_11 a0_12 a0_13 a1_0 a1_1 a1_2 a1_3 a1_4 a1_5 a1_6 a1_7 a1_8 a1_9 a1_10 a1_11 a1_12 a1_13 true _ A3.out).mono ?_); rintro e w55 ⟨rfl, hb⟩; refine ⟨_, rfl, ?_⟩; have n0_ := ze.mk (zk (by (with_reducible repeat (first | refine zb ?_ _ | refine zd ?_ | refine za ?_ _)); exact BK409.out) hb); have n1_ := ze.mk (zk (by (with_reducible repeat (first | refine zb ?_ _ | refine zd ?_ | refine za ?_ _)); exact BK410.out) hb); have n2_ := ze.mk (zt (by repeat (first | (with_reducible first | exact HB.out | apply zg | apply zc | apply zf | refine zi ?_ GE409.out | refine zi ?_ GE410.out) | exact HB.out)) hb); clear BK409; clear BK410; clear HB; have BK409 := n0_; have BK410 := n1_; have HB := n2_; clear n0_ n1_ n2_; (try clear hb); (try clear hb2); (try clear hk); (try clear hi); obtain ⟨y29_0, y29_1, y29_2, y29_3, y29_4, y29_5, y29_6, y29_7, y29_8, y29_9, y29_10, y29_11, y29_12, y29_13, y29_14, y29_15, y29_16, y29_17, y29_18, y29_19, z29_0, z29_1, z29_2, z29_3, z29_4, z29_5, z29_6, z29_7, z29_8, z29_9, z29_10, z29_11, z29_12, z29_13, z29_14, z29_15, z29_16, z29_17, z29_18, z29_19⟩ := cf20 BK409.out; obtain ⟨y30_0, y30_1, y30_2, y30_3, y30_4, y30_5, y30_6, y30_7, y30_8, y30_9, y30_10, y30_11, y30_12, y30_13, y30_14, y30_15, y30_16, y30_17, y30_18, y30_19, z30_0, z30_1, z30_2, z30_3, z30_4, z30_5, z30_6, z30_7, z30_8, z30_9, z30_10, z30_11, z30_12, z30_13, z30_14, z30_15, z30_16, z30_17, z30_18, z30_19⟩ := cf20 BK410.out) | ((with_reducible refine zs (f := 108) rfl ?_); refine zda (some 15) rfl rfl Try.func108 (by kernel_rfl) rfl #[.agg #[.int .i16 a0_14, .int .i16 a0_15, .int .i16 a0_16], .agg #[.int .i16 a1_14, .int .i16 a1_15, .int .i16 a1_16]] rfl (by (try simp only [List.map_toArray, List.map_cons, List.map_nil]); first | done | rfl | (simp only [List.length_drop, List.length_take]; rfl)) ?_; (with_reducible refine (laws_eqInt16A3.calls k a0_14 a0_15 a0_16 a1_14 a1_15 a1_16 false _ A5.out).mono ?_); rintro e w58 ⟨rfl, hb⟩; refine ⟨_, rfl, ?_⟩; have n0_ := ze.mk (zk (by (with_reducible repeat (first | refine zb ?_ _ | refine zd ?_ | refine za ?_ _)); exact BK409.out) hb); have n1_ := ze.mk (zk (by (with_reducible repeat (first | refine zb ?_ _ | refine zd ?_ | refine za ?_ _)); exact BK410.out) hb); have n2_ := ze.mk (zt (by repeat (first | (with_reducible first | exact HB.out | apply zg | apply zc | apply zf | refine zi ?_ GE409.out | refine zi ?_ GE410.out) | exact HB.out)) hb); clear BK409; clear BK410; clear HB; have BK409 := n0_; have BK410 := n1_; have HB := n2_; clear n0_ n1_ n2_; (try clear hb); (try clear hb2); (try clear hk); (try clear hi)))
  go_ret
  exact ⟨by first | rfl | (simp [zn, zm] <;> rfl) | (simp [*, zn, zm] <;> rfl), by repeat (first | (with_reducible first | exact HB.out | apply zg | apply zc | apply zf | refine zi ?_ GE409.out | refine zi ?_ GE410.out) | exact HB.out)⟩
 replace c4 := Bool.eq_false_iff.mpr c4
 subst c4
 have H1 : (some false) = some r := by rw [if_neg (show ¬ (false = true) by decide)] at H; exact H
 clear H
 have H := H1
 clear H1
 obtain rfl := Option.some.inj H
 go_enter Try.func89, Try.ntmps89
 go_wp2_with (first | ((with_reducible refine zu (N := 2) rfl ?_); refine zr ?hg (N := 2) ?hd (cs := #[.int .i8 a0_0, .int .i8 a0_1, .int .i8 a0_2, .int .i8 a0_3, .int .i8 a0_4, .int .i8 a0_5, .int .i8 a0_6, .int .i8 a0_7, .int .i8 a0_8, .int .i8 a0_9, .int .i8 a0_10, .int .i8 a0_11, .int .i8 a0_12, .int .i8 a0_13, .int .i16 a0_14, .int .i16 a0_15, .int .i16 a0_16, .int .i8 a0_17, .bool a0_18, .bool a0_19]) (t := 102) ?hr ?_; (case hd => rfl); (case hg => rfl); (case hr => first | (go_simp; done) | (go_simp; rfl)); intro gb409 hg w59 hbox hb; obtain ⟨n0_, n2_⟩ := bx (by repeat (first | (with_reducible first | exact HB.out | apply zg | apply zc | apply zf) | exact HB.out)) hb hg; have n1_ := ze.mk (hbox); have n3_ := n2_; clear HB; have HB := n0_; have BK409 := n1_; have GW409 := n2_; have GE409 := n3_; clear n0_ n1_ n2_ n3_; clear hb hbox hg) | ((with_reducible refine zu (N := 3) rfl ?_); refine zr ?hg (N := 3) ?hd (cs := #[.int .i8 a1_0, .int .i8 a1_1, .int .i8 a1_2, .int .i8 a1_3, .int .i8 a1_4, .int .i8 a1_5, .int .i8 a1_6, .int .i8 a1_7, .int .i8 a1_8, .int .i8 a1_9, .int .i8 a1_10, .int .i8 a1_11, .int .i8 a1_12, .int .i8 a1_13, .int .i16 a1_14, .int .i16 a1_15, .int .i16 a1_16, .int .i8 a1_17, .bool a1_18, .bool a1_19]) (t := 102) ?hr ?_; (case hd => rfl); (case hg => rfl); (case hr => first | (go_simp; done) | (go_simp; rfl)); intro gb410 hg w60 hbox hb; have n0_ := ze.mk (zk (by (with_reducible repeat (first | refine zb ?_ _ | refine zd ?_ | refine za ?_ _)); exact BK409.out) hb); obtain ⟨n1_, n3_⟩ := bx (by repeat (first | (with_reducible first | exact HB.out | apply zg | apply zc | apply zf | refine zi ?_ GE409.out) | exact HB.out)) hb hg; have n2_ := ze.mk (hbox); have n4_ := n3_; have n5_ := ze.mk ((by rw [hg]; exact Nat.ne_of_lt (zba (by (with_reducible repeat (first | refine zb ?_ _ | refine zd ?_ | refine za ?_ _)); exact BK409.out)) : gb409 ≠ gb410)); have n6_ := ze.mk n5_.out.symm; clear BK409; clear HB; have BK409 := n0_; have HB := n1_; have BK410 := n2_; have GW410 := n3_; have GE410 := n4_; have NB409_410 := n5_; have NB410_409 := n6_; clear n0_ n1_ n2_ n3_ n4_ n5_ n6_; clear hb hbox hg; have hnb61 := NB409_410.out; have hnc61 := NB410_409.out; obtain ⟨y31_0, y31_1, y31_2, y31_3, y31_4, y31_5, y31_6, y31_7, y31_8, y31_9, y31_10, y31_11, y31_12, y31_13, y31_14, y31_15, y31_16, y31_17, y31_18, y31_19, z31_0, z31_1, z31_2, z31_3, z31_4, z31_5, z31_6, z31_7, z31_8, z31_9, z31_10, z31_11, z31_12, z31_13, z31_14, z31_15, z31_16, z31_17, z31_18, z31_19⟩ := cf20 BK409.out; obtain ⟨y32_0, y32_1, y32_2, y32_3, y32_4, y32_5, y32_6, y32_7, y32_8, y32_9, y32_10, y32_11, y32_12, y32_13, y32_14, y32_15, y32_16, y32_17, y32_18, y32_19, z32_0, z32_1, z32_2, z32_3, z32_4, z32_5, z32_6, z32_7, z32_8, z32_9, z32_10, z32_11, z32_12, z32_13, z32_14, z32_15, z32_16, z32_17, z32_18, z32_19⟩ := cf20 BK410.out) | ((with_reducible refine zs (f := 107) rfl ?_); refine zda (some 9) rfl rfl Try.func107 (by kernel_rfl) rfl #[.agg #[.int .i8 a0_0, .int .i8 a0_1, .int .i8 a0_2, .int .i8 a0_3, .int .i8 a0_4, .int .i8 a0_5, .int .i8 a0_6, .int .i8 a0_7, .int .i8 a0_8, .int .i8 a0_9, .int .i8 a0_10, .int .i8 a0_11, .int .i8 a0_12, .int .i8 a0_13], .agg #[.int .i8 a1_0, .int .i8 a1_1, .int .i8 a1_2, .int .i8 a1_3, .int .i8 a1_4, .int .i8 a1_5, .int .i8 a1_6, .int .i8 a1_7, .int .i8 a1_8, .int .i8 a1_9, .int .i8 a1_10, .int .i8 a1_11, .int .i8 a1_12, .int .i8 a1_13]] rfl (by (try simp only [List.map_toArray, List.map_cons, List.map_nil]); first | done | rfl | (simp only [List.length_drop, List.length_take]; rfl)) ?_; (with_reducible refine (laws_eqWeighing.calls k a0_0 a0_1 a0_2 a0_3 a0_4 a0_5 a0_6 a0_7 a0_8 a0_9 a0_10 a0_11 a0_12 a0_13 a1_0 a1_1 a1_2 a1_3 a1_4 a1_5 a1_6 a1_7 a1_8 a1_9 a1_10 a1_11 a1_12 a1_13 false _ A3.out).mono ?_); rintro e w64 ⟨rfl, hb⟩; refine ⟨_, rfl, ?_⟩; have n0_ := ze.mk (zk (by (with_reducible repeat (first | refine zb ?_ _ | refine zd ?_ | refine za ?_ _)); exact BK409.out) hb); have n1_ := ze.mk (zk (by (with_reducible repeat (first | refine zb ?_ _ | refine zd ?_ | refine za ?_ _)); exact BK410.out) hb); have n2_ := ze.mk (zt (by repeat (first | (with_reducible first | exact HB.out | apply zg | apply zc | apply zf | refine zi ?_ GE409.out | refine zi ?_ GE410.out) | exact HB.out)) hb); clear BK409; clear BK410; clear HB; have BK409 := n0_; have BK410 := n1_; have HB := n2_; clear n0_ n1_ n2_; (try clear hb); (try clear hb2); (try clear hk); (try clear hi)))
 go_ret
 exact ⟨by first | rfl | (simp [zn, zm] <;> rfl) | (simp [*, zn, zm] <;> rfl), by repeat (first | (with_reducible first | exact HB.out | apply zg | apply zc | apply zf | refine zi ?_ GE409.out | refine zi ?_ GE410.out) | exact HB.out)⟩
def laws_eqNodeS.l0 : Nat → List (S102) → List (S102) → Int → Option (Bool)
 | 0, _, _, _ => none
 | k + 1, x0, x1, x5 => if x5 < (x0.length : Int) then (if 0 ≤ x5 then (if x5 < (x1.length : Int) then ((laws_eqNode.f k ((zh x0 x5).f0.f0) ((zh x0 x5).f0.f1) ((zh x0 x5).f0.f2) ((zh x0 x5).f0.f3) ((zh x0 x5).f0.f4) ((zh x0 x5).f0.f5) ((zh x0 x5).f0.f6) ((zh x0 x5).f0.f7) ((zh x0 x5).f0.f8) ((zh x0 x5).f0.f9) ((zh x0 x5).f0.f10) ((zh x0 x5).f0.f11) ((zh x0 x5).f0.f12) ((zh x0 x5).f0.f13) ((zh x0 x5).f1.f0) ((zh x0 x5).f1.f1) ((zh x0 x5).f1.f2) ((zh x0 x5).f2.f0) ((zh x0 x5).f2.f1) ((zh x0 x5).f3) ((zh x1 x5).f0.f0) ((zh x1 x5).f0.f1) ((zh x1 x5).f0.f2) ((zh x1 x5).f0.f3) ((zh x1 x5).f0.f4) ((zh x1 x5).f0.f5) ((zh x1 x5).f0.f6) ((zh x1 x5).f0.f7) ((zh x1 x5).f0.f8) ((zh x1 x5).f0.f9) ((zh x1 x5).f0.f10) ((zh x1 x5).f0.f11) ((zh x1 x5).f0.f12) ((zh x1 x5).f0.f13) ((zh x1 x5).f1.f0) ((zh x1 x5).f1.f1) ((zh x1 x5).f1.f2) ((zh x1 x5).f2.f0) ((zh x1 x5).f2.f1) ((zh x1 x5).f3)).bind fun t416 => (if t416 = true then (laws_eqNodeS.l0 k x0 x1 (wrap64 (x5 + 1))) else (some false))) else (none)) else (none)) else (some true)
def laws_eqNodeS.f (k : Nat) (l0 : List (S102)) (l1 : List (S102)) : Option (Bool) := if (l0.length : Int) = (l1.length : Int) then (laws_eqNodeS.l0 k l0 l1 0) else (some false)
def laws_eqNodeS.T6 : Bool × List (List Nat × List Nat) := (true, [([], []), ([], []), ([0, 1], [0, 1]), ([2], [2]), ([], []), ([], []), ([4, 5], [4, 5]), ([6], [6]), ([3, 7], [3, 7]), ([8], [8])])
def laws_eqNodeS.B6 : List Nat := [0, 0, 3, 7, 0, 0, 48, 112, 255, 511]
theorem laws_eqNodeS.tab6 : rtab .any (zqe Try.f34 6) = laws_eqNodeS.T6 := by kernel_rfl
theorem laws_eqNodeS.bits6 : zgb laws_eqNodeS.T6.2 laws_eqNodeS.B6 = true := by kernel_rfl
set_option maxHeartbeats 8000000 in
set_option maxRecDepth 100000 in
theorem laws_eqNodeS.calls (k : Nat) (A0 : Option Addr) (c0 : Nat) (l0 : List (S102)) (A1 : Option Addr) (c1 : Nat) (l1 : List (S102)) (r : Bool) (w : World) (hr0 : Kd.C k102 w A0 l0.length l0) (hc0 : l0.length ≤ c0) (hr1 : Kd.C k102 w A1 l1.length l1) (hc1 : l1.length ≤ c1) (h : laws_eqNodeS.f k l0 l1 = some r) :
  Calls Try.prog 34 #[.slice A0 l0.length c0, .slice A1 l1.length c1] w fun e w' => e = .returned (.bool r) ∧ Below w.heap.size w w' := by
 have hu102 := Try.underlying102
 have HR0 := ze.mk hr0
 have HC0 := ze.mk hc0
 clear hr0 hc0
 have HR1 := ze.mk hr1
 have HC1 := ze.mk hc1
 clear hr1 hc1
 have HB := ze.mk (Below.refl w.heap.size w)
 have H : (if (l0.length : Int) = (l1.length : Int) then (laws_eqNodeS.l0 k l0 l1 0) else (some false)) = some r := h
 clear h
 by_cases c3 : (l0.length : Int) = (l1.length : Int)
 ·rw [if_pos c3] at H
  have c3b0 : ((l0.length : Int) == (l1.length : Int)) = true := beq_iff_eq.mpr c3
  have c3b1 : ((l0.length : Int) != (l1.length : Int)) = false := bne_eq_false_iff_eq.mpr c3
  have c3b2 : (l0.length == l1.length) = true := by first | simpa using c3 | (simp at c3 ⊢; omega)
  clear c3
  have H' := ze.mk H
  clear H
  go_enter Try.func34, Try.ntmps34
  go_wp2
  go_loopg [5] k (fun kq v5 w' => ∃ (x5_1 : Int), v5 = .int .i64 x5_1 ∧ ze (laws_eqNodeS.l0 kq l0 l1 x5_1 = some r) ∧ ze (kq ≤ k) ∧ ze (Below w.heap.size w w'))
  case atStart => exact ⟨(0), (by first | rfl | (simp; done) | (simp [*]; done)), H', ⟨Nat.le_refl _⟩, ⟨by repeat (first | (with_reducible first | exact HB.out | apply zg | apply zc | apply zf) | exact HB.out)⟩⟩
  case round =>
   clear H'
   try clear c1
   try clear p2
   try clear c3
   try clear c3b0
   try clear c3b1
   try clear c3b2
   obtain ⟨x5_1, rfl, HA, HK1, HB⟩ := hrel
   cases gk with
   | zero => exact absurd HA.out (by simp [laws_eqNodeS.l0])
   | succ k1 =>
    have H := HA.out
    clear HA
    simp only [laws_eqNodeS.l0] at H
    by_cases c4 : x5_1 < (l0.length : Int)
    ·rw [if_pos c4] at H
     have c4b0 : decide (x5_1 < (l0.length : Int)) = true := decide_eq_true c4
     clear c4
     by_cases c5 : 0 ≤ x5_1
     ·rw [if_pos c5] at H
      have c5b0 : decide (0 ≤ x5_1) = true := decide_eq_true c5
      clear c5
      by_cases c6 : x5_1 < (l1.length : Int)
      ·rw [if_pos c6] at H
       have c6b0 : decide (x5_1 < (l1.length : Int)) = true := decide_eq_true c6
       clear c6
       replace H := Option.bind_eq_some_iff.mp H
       obtain ⟨t416, A70, H⟩ := H
       replace H : (if t416 = true then (laws_eqNodeS.l0 k1 l0 l1 (wrap64 (x5_1 + 1))) else (some false)) = some r := H
       have A7 := ze.mk A70
       clear A70
       by_cases c8 : t416 = true
       ·subst c8
        have H1 : (laws_eqNodeS.l0 k1 l0 l1 (wrap64 (x5_1 + 1))) = some r := by rw [if_pos rfl] at H; exact H
        clear H
        have H := H1
        clear H1
        have H' := ze.mk H
        clear H
        try go_wp2
        have n0_ := ze.mk (zf HB.out)
        clear HB
        have HB := n0_
        clear n0_
        have p414 : 0 ≤ (x5_1 : Int) := od (by first | (with_reducible assumption) | assumption)
        have q414 : x5_1 < (l0.length : Int) := od (by first | (with_reducible assumption) | assumption)
        obtain ⟨ad414, e414, u1_0, u1_1, u1_2, u1_3, u1_4, u1_5, u1_6, u1_7, u1_8, u1_9, u1_10, u1_11, u1_12, u1_13, u1_14, u1_15, u1_16, u1_17, u1_18, u1_19, v1_0, v1_1, v1_2, v1_3, v1_4, v1_5, v1_6, v1_7, v1_8, v1_9, v1_10, v1_11, v1_12, v1_13, v1_14, v1_15, v1_16, v1_17, v1_18, v1_19⟩ := zge HB.out HR0.out x5_1 p414 q414
        cases e414
        replace p414 := eq_true p414
        replace q414 := eq_true q414
        have p415 : 0 ≤ (x5_1 : Int) := od (by first | (with_reducible assumption) | assumption)
        have q415 : x5_1 < (l1.length : Int) := od (by first | (with_reducible assumption) | assumption)
        obtain ⟨ad415, e415, u2_0, u2_1, u2_2, u2_3, u2_4, u2_5, u2_6, u2_7, u2_8, u2_9, u2_10, u2_11, u2_12, u2_13, u2_14, u2_15, u2_16, u2_17, u2_18, u2_19, v2_0, v2_1, v2_2, v2_3, v2_4, v2_5, v2_6, v2_7, v2_8, v2_9, v2_10, v2_11, v2_12, v2_13, v2_14, v2_15, v2_16, v2_17, v2_18, v2_19⟩ := zge HB.out HR1.out x5_1 p415 q415
        cases e415
        replace p415 := eq_true p415
        replace q415 := eq_true q415
        refine zfb (n := 10) (S := fun w' => EA w' (ad414.add ((x5_1).toNat * 20)) (zh l0 x5_1) ((zh l0 x5_1).f2.f1) ((zh l0 x5_1).f3) (EA0 w' (ad415.add ((x5_1).toNat * 20)) (zh l1 x5_1) ((zh l1 x5_1).f2.f1) ((zh l1 x5_1).f3))) (ds := []) (fm 10 0) (by kernel_rfl) rfl rfl ⟨(bc HB.out v1_0), (bc HB.out v1_1), (bc HB.out v1_2), (bc HB.out v1_3), (bc HB.out v1_4), (bc HB.out v1_5), (bc HB.out v1_6), (bc HB.out v1_7), (bc HB.out v1_8), (bc HB.out v1_9), (bc HB.out v1_10), (bc HB.out v1_11), (bc HB.out v1_12), (bc HB.out v1_13), (bc HB.out v1_14), (bc HB.out v1_15), (bc HB.out v1_16), (bc HB.out v1_17), (bc HB.out v1_18), (bc HB.out v1_19), (bc HB.out v2_0), (bc HB.out v2_1), (bc HB.out v2_2), (bc HB.out v2_3), (bc HB.out v2_4), (bc HB.out v2_5), (bc HB.out v2_6), (bc HB.out v2_7), (bc HB.out v2_8), (bc HB.out v2_9), (bc HB.out v2_10), (bc HB.out v2_11), (bc HB.out v2_12), (bc HB.out v2_13), (bc HB.out v2_14), (bc HB.out v2_15), (bc HB.out v2_16), (bc HB.out v2_17), (bc HB.out v2_18), (bc HB.out v2_19)⟩ (fun hHeld => ?_); refine zoa laws_eqNodeS.tab6 laws_eqNodeS.bits6 (fun HT_ HW_ => ?_)
        generalize wr.drew = w9 at HB u1_0 u1_1 u1_10 u1_11 u1_12 u1_13 u1_14 u1_15 u1_16 u1_17 u1_18 u1_19 u1_2 u1_3 u1_4 u1_5 u1_6 u1_7 u1_8 u1_9 u2_0 u2_1 u2_10 u2_11 u2_12 u2_13 u2_14 u2_15 u2_16 u2_17 u2_18 u2_19 u2_2 u2_3 u2_4 u2_5 u2_6 u2_7 u2_8 u2_9 hHeld ⊢
        refine pb 0 17 (fm 10 1) rfl rfl HT_.out (by kernel_rfl) pq (by rfl) (by intro w'; go_simp; with_reducible rfl) (by simp only [Act.put, ea, eb, ec, zy, zz]; rfl) ?_
        refine pb 1 18 (fm 10 2) rfl rfl HT_.out (by kernel_rfl) pq (by rfl) (by intro w'; go_simp; with_reducible rfl) (by simp only [Act.put, ea, eb, ec, zy, zz]; rfl) ?_
        refine pb 2 19 (fm 10 3) rfl rfl HT_.out (by kernel_rfl) pq (by rfl) (by intro w'; go_simp; with_reducible rfl) (by simp only [Act.put, ea, eb, ec, zy, zz]; rfl) ?_
        refine pb 4 21 #[T, T, T, F, T, F, F, F, F, F] rfl rfl HT_.out (by kernel_rfl) pq (by rfl) (by intro w'; go_simp; with_reducible rfl) (by simp only [Act.put, ea, eb, ec, zy, zz]; rfl) ?_
        refine pb 5 22 #[T, T, T, F, T, T, F, F, F, F] rfl rfl HT_.out (by kernel_rfl) pq (by rfl) (by intro w'; go_simp; with_reducible rfl) (by simp only [Act.put, ea, eb, ec, zy, zz]; rfl) ?_
        refine pb 6 23 #[T, T, T, F, T, T, T, F, F, F] rfl rfl HT_.out (by kernel_rfl) pq (by rfl) (by intro w'; go_simp; with_reducible rfl) (by simp only [Act.put, ea, eb, ec, zy, zz]; rfl) ?_
        refine take_ (i := 3) (N := some 20) (v := ?_) (a' := ?_) (fm 10 7) rfl rfl (zka HT_.out HW_.out (by kernel_rfl)) (fun _ _ _ h => h) (Or.inl ⟨by rfl, ?_⟩) hHeld ?_ ?_
        rotate_left
        ·rintro w' ⟨s0, s1, s2, s3, s4, s5, s6, s7, s8, s9, s10, s11, s12, s13, s14, s15, s16, s17, s18, s19, s20, s21, s22, s23, s24, s25, s26, s27, s28, s29, s30, s31, s32, s33, s34, s35, s36, s37, s38, s39⟩
         first | (refine zya (x := ?ldx0_0_hu102) ?lda0_0_hu102 ?ldb0_0_hu102 hu102 ?ldc0_0_hu102 ?ldd0_0_hu102 s0 s1 s2 s3 s4 s5 s6 s7 s8 s9 s10 s11 s12 s13 s14 s15 s16 s17 s18 s19; (case lda0_0_hu102 => rfl); (case ldb0_0_hu102 => rfl); (case ldc0_0_hu102 => rfl); (case ldd0_0_hu102 => kernel_rfl)) | (refine zya (x := ?ldx0_1_hu102) ?lda0_1_hu102 ?ldb0_1_hu102 hu102 ?ldc0_1_hu102 ?ldd0_1_hu102 s20 s21 s22 s23 s24 s25 s26 s27 s28 s29 s30 s31 s32 s33 s34 s35 s36 s37 s38 s39; (case lda0_1_hu102 => rfl); (case ldb0_1_hu102 => rfl); (case ldc0_1_hu102 => rfl); (case ldd0_1_hu102 => kernel_rfl))
        rotate_left
        ·simp only [Act.put, List.setIfInBounds_toArray, List.set_cons_zero, List.set_cons_succ, zy, zz]
         rfl
        refine take_ (i := 7) (N := some 24) (v := ?_) (a' := ?_) (fm 10 8) rfl rfl (zka HT_.out HW_.out (by kernel_rfl)) (fun _ _ _ h => h) (Or.inl ⟨by rfl, ?_⟩) hHeld ?_ ?_
        rotate_left
        ·rintro w' ⟨s0, s1, s2, s3, s4, s5, s6, s7, s8, s9, s10, s11, s12, s13, s14, s15, s16, s17, s18, s19, s20, s21, s22, s23, s24, s25, s26, s27, s28, s29, s30, s31, s32, s33, s34, s35, s36, s37, s38, s39⟩
         first | (refine zya (x := ?ldx1_0_hu102) ?lda1_0_hu102 ?ldb1_0_hu102 hu102 ?ldc1_0_hu102 ?ldd1_0_hu102 s0 s1 s2 s3 s4 s5 s6 s7 s8 s9 s10 s11 s12 s13 s14 s15 s16 s17 s18 s19; (case lda1_0_hu102 => rfl); (case ldb1_0_hu102 => rfl); (case ldc1_0_hu102 => rfl); (case ldd1_0_hu102 => kernel_rfl)) | (refine zya (x := ?ldx1_1_hu102) ?lda1_1_hu102 ?ldb1_1_hu102 hu102 ?ldc1_1_hu102 ?ldd1_1_hu102 s20 s21 s22 s23 s24 s25 s26 s27 s28 s29 s30 s31 s32 s33 s34 s35 s36 s37 s38 s39; (case lda1_1_hu102 => rfl); (case ldb1_1_hu102 => rfl); (case ldc1_1_hu102 => rfl); (case ldd1_1_hu102 => kernel_rfl))
        rotate_left
        ·simp only [Act.put, List.setIfInBounds_toArray, List.set_cons_zero, List.set_cons_succ, zy, zz]
         rfl
        refine one_ (i := 8) (N := some 25) (fm 10 9) rfl rfl (zta HT_.out (by kernel_rfl)) (by decide) (fun K hK => ?_)
        refine zdb Try.func89 (by kernel_rfl) rfl #[.agg #[.int .i8 ((zh l0 x5_1).f0.f0), .int .i8 ((zh l0 x5_1).f0.f1), .int .i8 ((zh l0 x5_1).f0.f2), .int .i8 ((zh l0 x5_1).f0.f3), .int .i8 ((zh l0 x5_1).f0.f4), .int .i8 ((zh l0 x5_1).f0.f5), .int .i8 ((zh l0 x5_1).f0.f6), .int .i8 ((zh l0 x5_1).f0.f7), .int .i8 ((zh l0 x5_1).f0.f8), .int .i8 ((zh l0 x5_1).f0.f9), .int .i8 ((zh l0 x5_1).f0.f10), .int .i8 ((zh l0 x5_1).f0.f11), .int .i8 ((zh l0 x5_1).f0.f12), .int .i8 ((zh l0 x5_1).f0.f13), .int .i16 ((zh l0 x5_1).f1.f0), .int .i16 ((zh l0 x5_1).f1.f1), .int .i16 ((zh l0 x5_1).f1.f2), .int .i8 ((zh l0 x5_1).f2.f0), .bool ((zh l0 x5_1).f2.f1), .bool ((zh l0 x5_1).f3)], .agg #[.int .i8 ((zh l1 x5_1).f0.f0), .int .i8 ((zh l1 x5_1).f0.f1), .int .i8 ((zh l1 x5_1).f0.f2), .int .i8 ((zh l1 x5_1).f0.f3), .int .i8 ((zh l1 x5_1).f0.f4), .int .i8 ((zh l1 x5_1).f0.f5), .int .i8 ((zh l1 x5_1).f0.f6), .int .i8 ((zh l1 x5_1).f0.f7), .int .i8 ((zh l1 x5_1).f0.f8), .int .i8 ((zh l1 x5_1).f0.f9), .int .i8 ((zh l1 x5_1).f0.f10), .int .i8 ((zh l1 x5_1).f0.f11), .int .i8 ((zh l1 x5_1).f0.f12), .int .i8 ((zh l1 x5_1).f0.f13), .int .i16 ((zh l1 x5_1).f1.f0), .int .i16 ((zh l1 x5_1).f1.f1), .int .i16 ((zh l1 x5_1).f1.f2), .int .i8 ((zh l1 x5_1).f2.f0), .bool ((zh l1 x5_1).f2.f1), .bool ((zh l1 x5_1).f3)]] (by rfl) rfl rfl (by (try simp only [List.map_toArray, List.map_cons, List.map_nil]); first | done | rfl | (simp only [List.length_drop, List.length_take]; rfl)) ?_
        with_reducible refine (laws_eqNode.calls k1 ((zh l0 x5_1).f0.f0) ((zh l0 x5_1).f0.f1) ((zh l0 x5_1).f0.f2) ((zh l0 x5_1).f0.f3) ((zh l0 x5_1).f0.f4) ((zh l0 x5_1).f0.f5) ((zh l0 x5_1).f0.f6) ((zh l0 x5_1).f0.f7) ((zh l0 x5_1).f0.f8) ((zh l0 x5_1).f0.f9) ((zh l0 x5_1).f0.f10) ((zh l0 x5_1).f0.f11) ((zh l0 x5_1).f0.f12) ((zh l0 x5_1).f0.f13) ((zh l0 x5_1).f1.f0) ((zh l0 x5_1).f1.f1) ((zh l0 x5_1).f1.f2) ((zh l0 x5_1).f2.f0) ((zh l0 x5_1).f2.f1) ((zh l0 x5_1).f3) ((zh l1 x5_1).f0.f0) ((zh l1 x5_1).f0.f1) ((zh l1 x5_1).f0.f2) ((zh l1 x5_1).f0.f3) ((zh l1 x5_1).f0.f4) ((zh l1 x5_1).f0.f5) ((zh l1 x5_1).f0.f6) ((zh l1 x5_1).f0.f7) ((zh l1 x5_1).f0.f8) ((zh l1 x5_1).f0.f9) ((zh l1 x5_1).f0.f10) ((zh l1 x5_1).f0.f11) ((zh l1 x5_1).f0.f12) ((zh l1 x5_1).f0.f13) ((zh l1 x5_1).f1.f0) ((zh l1 x5_1).f1.f1) ((zh l1 x5_1).f1.f2) ((zh l1 x5_1).f2.f0) ((zh l1 x5_1).f2.f1) ((zh l1 x5_1).f3) true _ A7.out).mono ?_
        rintro e w10 ⟨rfl, hb⟩
        refine ⟨_, rfl, ?_⟩
        have n0_ := ze.mk (zt (by repeat (first | (with_reducible first | exact HB.out | apply zg | apply zc | apply zf) | exact HB.out)) hb)
        clear HB
        have HB := n0_
        clear n0_
        (try clear hb)
        (try clear hb2)
        (try clear hk)
        (try clear hi)
        refine hK.out _ _ ⟨(bc HB.out v1_0), (bc HB.out v1_1), (bc HB.out v1_2), (bc HB.out v1_3), (bc HB.out v1_4), (bc HB.out v1_5), (bc HB.out v1_6), (bc HB.out v1_7), (bc HB.out v1_8), (bc HB.out v1_9), (bc HB.out v1_10), (bc HB.out v1_11), (bc HB.out v1_12), (bc HB.out v1_13), (bc HB.out v1_14), (bc HB.out v1_15), (bc HB.out v1_16), (bc HB.out v1_17), (bc HB.out v1_18), (bc HB.out v1_19), (bc HB.out v2_0), (bc HB.out v2_1), (bc HB.out v2_2), (bc HB.out v2_3), (bc HB.out v2_4), (bc HB.out v2_5), (bc HB.out v2_6), (bc HB.out v2_7), (bc HB.out v2_8), (bc HB.out v2_9), (bc HB.out v2_10), (bc HB.out v2_11), (bc HB.out v2_12), (bc HB.out v2_13), (bc HB.out v2_14), (bc HB.out v2_15), (bc HB.out v2_16), (bc HB.out v2_17), (bc HB.out v2_18), (bc HB.out v2_19)⟩ (fun hHeld => ?_)
        clear hK K
        refine zpa (a' := ?_) ?_ ?_
        rotate_left
        ·show Act.put _ (some 25) _ = _
         simp only [Act.put, List.setIfInBounds_toArray, List.set_cons_zero, List.set_cons_succ, zy, zz]
         rfl
        refine pb 9 26 (fm 10 10) rfl rfl HT_.out (by kernel_rfl) pq (by rfl) (by intro w'; go_simp; with_reducible rfl) (by simp only [Act.put, ea, eb, ec, zy, zz]; rfl) ?_
        refine zxb (zcb HT_.out (by kernel_rfl)) ?_
        try go_wp2
        go_roundg k1
        case measure => have := HK1.out; omega
        case rel => exact ⟨(wrap64 (x5_1 + 1)), (by first | rfl | (simp; done) | (simp [*]; done)), H', ⟨by have := HK1.out; omega⟩, ⟨by repeat (first | (with_reducible first | exact HB.out | apply zg | apply zc | apply zf) | exact HB.out)⟩⟩
       replace c8 := Bool.eq_false_iff.mpr c8
       subst c8
       have H1 : (some false) = some r := by rw [if_neg (show ¬ (false = true) by decide)] at H; exact H
       clear H
       have H := H1
       clear H1
       obtain rfl := Option.some.inj H
       try go_wp2
       have n0_ := ze.mk (zf HB.out)
       clear HB
       have HB := n0_
       clear n0_
       have p414 : 0 ≤ (x5_1 : Int) := od (by first | (with_reducible assumption) | assumption)
       have q414 : x5_1 < (l0.length : Int) := od (by first | (with_reducible assumption) | assumption)
       obtain ⟨ad414, e414, u1_0, u1_1, u1_2, u1_3, u1_4, u1_5, u1_6, u1_7, u1_8, u1_9, u1_10, u1_11, u1_12, u1_13, u1_14, u1_15, u1_16, u1_17, u1_18, u1_19, v1_0, v1_1, v1_2, v1_3, v1_4, v1_5, v1_6, v1_7, v1_8, v1_9, v1_10, v1_11, v1_12, v1_13, v1_14, v1_15, v1_16, v1_17, v1_18, v1_19⟩ := zge HB.out HR0.out x5_1 p414 q414
       cases e414
       replace p414 := eq_true p414
       replace q414 := eq_true q414
       have p415 : 0 ≤ (x5_1 : Int) := od (by first | (with_reducible assumption) | assumption)
       have q415 : x5_1 < (l1.length : Int) := od (by first | (with_reducible assumption) | assumption)
       obtain ⟨ad415, e415, u2_0, u2_1, u2_2, u2_3, u2_4, u2_5, u2_6, u2_7, u2_8, u2_9, u2_10, u2_11, u2_12, u2_13, u2_14, u2_15, u2_16, u2_17, u2_18, u2_19, v2_0, v2_1, v2_2, v2_3, v2_4, v2_5, v2_6, v2_7, v2_8, v2_9, v2_10, v2_11, v2_12, v2_13, v2_14, v2_15, v2_16, v2_17, v2_18, v2_19⟩ := zge HB.out HR1.out x5_1 p415 q415
       cases e415
       replace p415 := eq_true p415
       replace q415 := eq_true q415
       refine zfb (n := 10) (S := fun w' => EA w' (ad414.add ((x5_1).toNat * 20)) (zh l0 x5_1) ((zh l0 x5_1).f2.f1) ((zh l0 x5_1).f3) (EA0 w' (ad415.add ((x5_1).toNat * 20)) (zh l1 x5_1) ((zh l1 x5_1).f2.f1) ((zh l1 x5_1).f3))) (ds := []) (fm 10 0) (by kernel_rfl) rfl rfl ⟨(bc HB.out v1_0), (bc HB.out v1_1), (bc HB.out v1_2), (bc HB.out v1_3), (bc HB.out v1_4), (bc HB.out v1_5), (bc HB.out v1_6), (bc HB.out v1_7), (bc HB.out v1_8), (bc HB.out v1_9), (bc HB.out v1_10), (bc HB.out v1_11), (bc HB.out v1_12), (bc HB.out v1_13), (bc HB.out v1_14), (bc HB.out v1_15), (bc HB.out v1_16), (bc HB.out v1_17), (bc HB.out v1_18), (bc HB.out v1_19), (bc HB.out v2_0), (bc HB.out v2_1), (bc HB.out v2_2), (bc HB.out v2_3), (bc HB.out v2_4), (bc HB.out v2_5), (bc HB.out v2_6), (bc HB.out v2_7), (bc HB.out v2_8), (bc HB.out v2_9), (bc HB.out v2_10), (bc HB.out v2_11), (bc HB.out v2_12), (bc HB.out v2_13), (bc HB.out v2_14), (bc HB.out v2_15), (bc HB.out v2_16), (bc HB.out v2_17), (bc HB.out v2_18), (bc HB.out v2_19)⟩ (fun hHeld => ?_); refine zoa laws_eqNodeS.tab6 laws_eqNodeS.bits6 (fun HT_ HW_ => ?_)
       generalize wr.drew = w11 at HB u1_0 u1_1 u1_10 u1_11 u1_12 u1_13 u1_14 u1_15 u1_16 u1_17 u1_18 u1_19 u1_2 u1_3 u1_4 u1_5 u1_6 u1_7 u1_8 u1_9 u2_0 u2_1 u2_10 u2_11 u2_12 u2_13 u2_14 u2_15 u2_16 u2_17 u2_18 u2_19 u2_2 u2_3 u2_4 u2_5 u2_6 u2_7 u2_8 u2_9 hHeld ⊢
       refine pb 0 17 (fm 10 1) rfl rfl HT_.out (by kernel_rfl) pq (by rfl) (by intro w'; go_simp; with_reducible rfl) (by simp only [Act.put, ea, eb, ec, zy, zz]; rfl) ?_
       refine pb 1 18 (fm 10 2) rfl rfl HT_.out (by kernel_rfl) pq (by rfl) (by intro w'; go_simp; with_reducible rfl) (by simp only [Act.put, ea, eb, ec, zy, zz]; rfl) ?_
       refine pb 2 19 (fm 10 3) rfl rfl HT_.out (by kernel_rfl) pq (by rfl) (by intro w'; go_simp; with_reducible rfl) (by simp only [Act.put, ea, eb, ec, zy, zz]; rfl) ?_
       refine pb 4 21 #[T, T, T, F, T, F, F, F, F, F] rfl rfl HT_.out (by kernel_rfl) pq (by rfl) (by intro w'; go_simp; with_reducible rfl) (by simp only [Act.put, ea, eb, ec, zy, zz]; rfl) ?_
       refine pb 5 22 #[T, T, T, F, T, T, F, F, F, F] rfl rfl HT_.out (by kernel_rfl) pq (by rfl) (by intro w'; go_simp; with_reducible rfl) (by simp only [Act.put, ea, eb, ec, zy, zz]; rfl) ?_
       refine pb 6 23 #[T, T, T, F, T, T, T, F, F, F] rfl rfl HT_.out (by kernel_rfl) pq (by rfl) (by intro w'; go_simp; with_reducible rfl) (by simp only [Act.put, ea, eb, ec, zy, zz]; rfl) ?_
       refine take_ (i := 3) (N := some 20) (v := ?_) (a' := ?_) (fm 10 7) rfl rfl (zka HT_.out HW_.out (by kernel_rfl)) (fun _ _ _ h => h) (Or.inl ⟨by rfl, ?_⟩) hHeld ?_ ?_
       rotate_left
       ·rintro w' ⟨s0, s1, s2, s3, s4, s5, s6, s7, s8, s9, s10, s11, s12, s13, s14, s15, s16, s17, s18, s19, s20, s21, s22, s23, s24, s25, s26, s27, s28, s29, s30, s31, s32, s33, s34, s35, s36, s37, s38, s39⟩
        first | (refine zya (x := ?ldx2_0_hu102) ?lda2_0_hu102 ?ldb2_0_hu102 hu102 ?ldc2_0_hu102 ?ldd2_0_hu102 s0 s1 s2 s3 s4 s5 s6 s7 s8 s9 s10 s11 s12 s13 s14 s15 s16 s17 s18 s19; (case lda2_0_hu102 => rfl); (case ldb2_0_hu102 => rfl); (case ldc2_0_hu102 => rfl); (case ldd2_0_hu102 => kernel_rfl)) | (refine zya (x := ?ldx2_1_hu102) ?lda2_1_hu102 ?ldb2_1_hu102 hu102 ?ldc2_1_hu102 ?ldd2_1_hu102 s20 s21 s22 s23 s24 s25 s26 s27 s28 s29 s30 s31 s32 s33 s34 s35 s36 s37 s38 s39; (case lda2_1_hu102 => rfl); (case ldb2_1_hu102 => rfl); (case ldc2_1_hu102 => rfl); (case ldd2_1_hu102 => kernel_rfl))
       rotate_left
       ·simp only [Act.put, List.setIfInBounds_toArray, List.set_cons_zero, List.set_cons_succ, zy, zz]
        rfl
       refine take_ (i := 7) (N := some 24) (v := ?_) (a' := ?_) (fm 10 8) rfl rfl (zka HT_.out HW_.out (by kernel_rfl)) (fun _ _ _ h => h) (Or.inl ⟨by rfl, ?_⟩) hHeld ?_ ?_
       rotate_left
       ·rintro w' ⟨s0, s1, s2, s3, s4, s5, s6, s7, s8, s9, s10, s11, s12, s13, s14, s15, s16, s17, s18, s19, s20, s21, s22, s23, s24, s25, s26, s27, s28, s29, s30, s31, s32, s33, s34, s35, s36, s37, s38, s39⟩
        first | (refine zya (x := ?ldx3_0_hu102) ?lda3_0_hu102 ?ldb3_0_hu102 hu102 ?ldc3_0_hu102 ?ldd3_0_hu102 s0 s1 s2 s3 s4 s5 s6 s7 s8 s9 s10 s11 s12 s13 s14 s15 s16 s17 s18 s19; (case lda3_0_hu102 => rfl); (case ldb3_0_hu102 => rfl); (case ldc3_0_hu102 => rfl); (case ldd3_0_hu102 => kernel_rfl)) | (refine zya (x := ?ldx3_1_hu102) ?lda3_1_hu102 ?ldb3_1_hu102 hu102 ?ldc3_1_hu102 ?ldd3_1_hu102 s20 s21 s22 s23 s24 s25 s26 s27 s28 s29 s30 s31 s32 s33 s34 s35 s36 s37 s38 s39; (case lda3_1_hu102 => rfl); (case ldb3_1_hu102 => rfl); (case ldc3_1_hu102 => rfl); (case ldd3_1_hu102 => kernel_rfl))
       rotate_left
       ·simp only [Act.put, List.setIfInBounds_toArray, List.set_cons_zero, List.set_cons_succ, zy, zz]
        rfl
       refine one_ (i := 8) (N := some 25) (fm 10 9) rfl rfl (zta HT_.out (by kernel_rfl)) (by decide) (fun K hK => ?_)
       refine zdb Try.func89 (by kernel_rfl) rfl #[.agg #[.int .i8 ((zh l0 x5_1).f0.f0), .int .i8 ((zh l0 x5_1).f0.f1), .int .i8 ((zh l0 x5_1).f0.f2), .int .i8 ((zh l0 x5_1).f0.f3), .int .i8 ((zh l0 x5_1).f0.f4), .int .i8 ((zh l0 x5_1).f0.f5), .int .i8 ((zh l0 x5_1).f0.f6), .int .i8 ((zh l0 x5_1).f0.f7), .int .i8 ((zh l0 x5_1).f0.f8), .int .i8 ((zh l0 x5_1).f0.f9), .int .i8 ((zh l0 x5_1).f0.f10), .int .i8 ((zh l0 x5_1).f0.f11), .int .i8 ((zh l0 x5_1).f0.f12), .int .i8 ((zh l0 x5_1).f0.f13), .int .i16 ((zh l0 x5_1).f1.f0), .int .i16 ((zh l0 x5_1).f1.f1), .int .i16 ((zh l0 x5_1).f1.f2), .int .i8 ((zh l0 x5_1).f2.f0), .bool ((zh l0 x5_1).f2.f1), .bool ((zh l0 x5_1).f3)], .agg #[.int .i8 ((zh l1 x5_1).f0.f0), .int .i8 ((zh l1 x5_1).f0.f1), .int .i8 ((zh l1 x5_1).f0.f2), .int .i8 ((zh l1 x5_1).f0.f3), .int .i8 ((zh l1 x5_1).f0.f4), .int .i8 ((zh l1 x5_1).f0.f5), .int .i8 ((zh l1 x5_1).f0.f6), .int .i8 ((zh l1 x5_1).f0.f7), .int .i8 ((zh l1 x5_1).f0.f8), .int .i8 ((zh l1 x5_1).f0.f9), .int .i8 ((zh l1 x5_1).f0.f10), .int .i8 ((zh l1 x5_1).f0.f11), .int .i8 ((zh l1 x5_1).f0.f12), .int .i8 ((zh l1 x5_1).f0.f13), .int .i16 ((zh l1 x5_1).f1.f0), .int .i16 ((zh l1 x5_1).f1.f1), .int .i16 ((zh l1 x5_1).f1.f2), .int .i8 ((zh l1 x5_1).f2.f0), .bool ((zh l1 x5_1).f2.f1), .bool ((zh l1 x5_1).f3)]] (by rfl) rfl rfl (by (try simp only [List.map_toArray, List.map_cons, List.map_nil]); first | done | rfl | (simp only [List.length_drop, List.length_take]; rfl)) ?_
       with_reducible refine (laws_eqNode.calls k1 ((zh l0 x5_1).f0.f0) ((zh l0 x5_1).f0.f1) ((zh l0 x5_1).f0.f2) ((zh l0 x5_1).f0.f3) ((zh l0 x5_1).f0.f4) ((zh l0 x5_1).f0.f5) ((zh l0 x5_1).f0.f6) ((zh l0 x5_1).f0.f7) ((zh l0 x5_1).f0.f8) ((zh l0 x5_1).f0.f9) ((zh l0 x5_1).f0.f10) ((zh l0 x5_1).f0.f11) ((zh l0 x5_1).f0.f12) ((zh l0 x5_1).f0.f13) ((zh l0 x5_1).f1.f0) ((zh l0 x5_1).f1.f1) ((zh l0 x5_1).f1.f2) ((zh l0 x5_1).f2.f0) ((zh l0 x5_1).f2.f1) ((zh l0 x5_1).f3) ((zh l1 x5_1).f0.f0) ((zh l1 x5_1).f0.f1) ((zh l1 x5_1).f0.f2) ((zh l1 x5_1).f0.f3) ((zh l1 x5_1).f0.f4) ((zh l1 x5_1).f0.f5) ((zh l1 x5_1).f0.f6) ((zh l1 x5_1).f0.f7) ((zh l1 x5_1).f0.f8) ((zh l1 x5_1).f0.f9) ((zh l1 x5_1).f0.f10) ((zh l1 x5_1).f0.f11) ((zh l1 x5_1).f0.f12) ((zh l1 x5_1).f0.f13) ((zh l1 x5_1).f1.f0) ((zh l1 x5_1).f1.f1) ((zh l1 x5_1).f1.f2) ((zh l1 x5_1).f2.f0) ((zh l1 x5_1).f2.f1) ((zh l1 x5_1).f3) false _ A7.out).mono ?_
       rintro e w12 ⟨rfl, hb⟩
       refine ⟨_, rfl, ?_⟩
       have n0_ := ze.mk (zt (by repeat (first | (with_reducible first | exact HB.out | apply zg | apply zc | apply zf) | exact HB.out)) hb)
       clear HB
       have HB := n0_
       clear n0_
       (try clear hb)
       (try clear hb2)
       (try clear hk)
       (try clear hi)
       refine hK.out _ _ ⟨(bc HB.out v1_0), (bc HB.out v1_1), (bc HB.out v1_2), (bc HB.out v1_3), (bc HB.out v1_4), (bc HB.out v1_5), (bc HB.out v1_6), (bc HB.out v1_7), (bc HB.out v1_8), (bc HB.out v1_9), (bc HB.out v1_10), (bc HB.out v1_11), (bc HB.out v1_12), (bc HB.out v1_13), (bc HB.out v1_14), (bc HB.out v1_15), (bc HB.out v1_16), (bc HB.out v1_17), (bc HB.out v1_18), (bc HB.out v1_19), (bc HB.out v2_0), (bc HB.out v2_1), (bc HB.out v2_2), (bc HB.out v2_3), (bc HB.out v2_4), (bc HB.out v2_5), (bc HB.out v2_6), (bc HB.out v2_7), (bc HB.out v2_8), (bc HB.out v2_9), (bc HB.out v2_10), (bc HB.out v2_11), (bc HB.out v2_12), (bc HB.out v2_13), (bc HB.out v2_14), (bc HB.out v2_15), (bc HB.out v2_16), (bc HB.out v2_17), (bc HB.out v2_18), (bc HB.out v2_19)⟩ (fun hHeld => ?_)
       clear hK K
       refine zpa (a' := ?_) ?_ ?_
       rotate_left
       ·show Act.put _ (some 25) _ = _
        simp only [Act.put, List.setIfInBounds_toArray, List.set_cons_zero, List.set_cons_succ, zy, zz]
        rfl
       refine pb 9 26 (fm 10 10) rfl rfl HT_.out (by kernel_rfl) pq (by rfl) (by intro w'; go_simp; with_reducible rfl) (by simp only [Act.put, ea, eb, ec, zy, zz]; rfl) ?_
       refine zxb (zcb HT_.out (by kernel_rfl)) ?_
       try go_wp2
       go_ret
       exact ⟨by first | rfl | (simp [zn, zm] <;> rfl) | (simp [*, zn, zm] <;> rfl), by repeat (first | (with_reducible first | exact HB.out | apply zg | apply zc | apply zf) | exact HB.out)⟩
      rw [if_neg c6] at H
      exact absurd H (by simp)
     rw [if_neg c5] at H
     exact absurd H (by simp)
    rw [if_neg c4] at H
    have c4b0 : decide (x5_1 < (l0.length : Int)) = false := decide_eq_false c4
    clear c4
    obtain rfl := Option.some.inj H
    go_wp2
    go_ret
    exact ⟨by first | rfl | (simp [zn, zm] <;> rfl) | (simp [*, zn, zm] <;> rfl), by repeat (first | (with_reducible first | exact HB.out | apply zg | apply zc | apply zf) | exact HB.out)⟩
 rw [if_neg c3] at H
 have c3b0 : ((l0.length : Int) == (l1.length : Int)) = false := beq_eq_false_iff_ne.mpr c3
 have c3b1 : ((l0.length : Int) != (l1.length : Int)) = true := bne_iff_ne.mpr c3
 have c3b2 : (l0.length == l1.length) = false := by first | simpa using c3 | (simp at c3 ⊢; omega)
 obtain rfl := Option.some.inj H
 go_enter Try.func34, Try.ntmps34
 go_wp2
 go_ret
 exact ⟨by first | rfl | (simp [zn, zm] <;> rfl) | (simp [*, zn, zm] <;> rfl), by repeat (first | (with_reducible first | exact HB.out | apply zg | apply zc | apply zf) | exact HB.out)⟩
def laws_eqWord.l0 : Nat → Int → Int → Int → Int → Int → Int → Int → Int → Int → Option (Bool)
 | 0, _, _, _, _, _, _, _, _, _ => none
 | k + 1, x5, x418000, x418001, x418002, x418003, x419000, x419001, x419002, x419003 => if x5 < 4 then (if 0 ≤ x5 then (if (rd [x418000, x418001, x418002, x418003] x5) = (rd [x419000, x419001, x419002, x419003] x5) then (laws_eqWord.l0 k (wrap64 (x5 + 1)) x418000 x418001 x418002 x418003 x419000 x419001 x419002 x419003) else (some false)) else (none)) else (some true)
def laws_eqWord.f (k : Nat) (a0_0 : Int) (a0_1 : Int) (a0_2 : Int) (a0_3 : Int) (a1_0 : Int) (a1_1 : Int) (a1_2 : Int) (a1_3 : Int) : Option (Bool) := laws_eqWord.l0 k 0 a0_0 a0_1 a0_2 a0_3 a1_0 a1_1 a1_2 a1_3
set_option maxHeartbeats 8000000 in
set_option maxRecDepth 100000 in
theorem laws_eqWord.calls (k : Nat) (a0_0 : Int) (a0_1 : Int) (a0_2 : Int) (a0_3 : Int) (a1_0 : Int) (a1_1 : Int) (a1_2 : Int) (a1_3 : Int) (r : Bool) (w : World) (h : laws_eqWord.f k a0_0 a0_1 a0_2 a0_3 a1_0 a1_1 a1_2 a1_3 = some r) :
  Calls Try.prog 110 #[.agg #[.int .i8 a0_0, .int .i8 a0_1, .int .i8 a0_2, .int .i8 a0_3], .agg #[.int .i8 a1_0, .int .i8 a1_1, .int .i8 a1_2, .int .i8 a1_3]] w fun e w' => e = .returned (.bool r) ∧ Below w.heap.size w w' := by
 have hu43 := Try.underlying43
 have HB := ze.mk (Below.refl w.heap.size w)
 have H : (laws_eqWord.l0 k 0 a0_0 a0_1 a0_2 a0_3 a1_0 a1_1 a1_2 a1_3) = some r := h
 clear h
 have H' := ze.mk H
 clear H
 go_enter Try.func110, Try.ntmps110
 go_wp2_with (first | ((with_reducible refine zu (N := 2) rfl ?_); refine zr ?hg (N := 2) ?hd (cs := #[.int .i8 a0_0, .int .i8 a0_1, .int .i8 a0_2, .int .i8 a0_3]) (t := 43) ?hr ?_; (case hd => rfl); (case hg => rfl); (case hr => first | (go_simp; done) | (go_simp; rfl)); intro gb417 hg w3 hbox hb; obtain ⟨n0_, n2_⟩ := bx (by repeat (first | (with_reducible first | exact HB.out | apply zg | apply zc | apply zf) | exact HB.out)) hb hg; have n1_ := ze.mk (hbox); have n3_ := n2_; clear HB; have HB := n0_; have BK417 := n1_; have GW417 := n2_; have GE417 := n3_; clear n0_ n1_ n2_ n3_; clear hb hbox hg) | ((with_reducible refine zu (N := 3) rfl ?_); refine zr ?hg (N := 3) ?hd (cs := #[.int .i8 a1_0, .int .i8 a1_1, .int .i8 a1_2, .int .i8 a1_3]) (t := 43) ?hr ?_; (case hd => rfl); (case hg => rfl); (case hr => first | (go_simp; done) | (go_simp; rfl)); intro gb418 hg w4 hbox hb; have n0_ := ze.mk (zk (by (with_reducible repeat (first | refine zb ?_ _ | refine zd ?_ | refine za ?_ _)); exact BK417.out) hb); obtain ⟨n1_, n3_⟩ := bx (by repeat (first | (with_reducible first | exact HB.out | apply zg | apply zc | apply zf | refine zi ?_ GE417.out) | exact HB.out)) hb hg; have n2_ := ze.mk (hbox); have n4_ := n3_; have n5_ := ze.mk ((by rw [hg]; exact Nat.ne_of_lt (zba (by (with_reducible repeat (first | refine zb ?_ _ | refine zd ?_ | refine za ?_ _)); exact BK417.out)) : gb417 ≠ gb418)); have n6_ := ze.mk n5_.out.symm; clear BK417; clear HB; have BK417 := n0_; have HB := n1_; have BK418 := n2_; have GW418 := n3_; have GE418 := n4_; have NB417_418 := n5_; have NB418_417 := n6_; clear n0_ n1_ n2_ n3_ n4_ n5_ n6_; clear hb hbox hg))
 repeat (go_quiet (first | ((with_reducible refine zu (N := 2) rfl ?_); refine zr ?hg (N := 2) ?hd (cs := #[.int .i8 a0_0, .int .i8 a0_1, .int .i8 a0_2, .int .i8 a0_3]) (t := 43) ?hr ?_; (case hd => rfl); (case hg => rfl); (case hr => first | (go_simp; done) | (go_simp; rfl)); intro gb417 hg w3 hbox hb; obtain ⟨n0_, n2_⟩ := bx (by repeat (first | (with_reducible first | exact HB.out | apply zg | apply zc | apply zf) | exact HB.out)) hb hg; have n1_ := ze.mk (hbox); have n3_ := n2_; clear HB; have HB := n0_; have BK417 := n1_; have GW417 := n2_; have GE417 := n3_; clear n0_ n1_ n2_ n3_; clear hb hbox hg) | ((with_reducible refine zu (N := 3) rfl ?_); refine zr ?hg (N := 3) ?hd (cs := #[.int .i8 a1_0, .int .i8 a1_1, .int .i8 a1_2, .int .i8 a1_3]) (t := 43) ?hr ?_; (case hd => rfl); (case hg => rfl); (case hr => first | (go_simp; done) | (go_simp; rfl)); intro gb418 hg w4 hbox hb; have n0_ := ze.mk (zk (by (with_reducible repeat (first | refine zb ?_ _ | refine zd ?_ | refine za ?_ _)); exact BK417.out) hb); obtain ⟨n1_, n3_⟩ := bx (by repeat (first | (with_reducible first | exact HB.out | apply zg | apply zc | apply zf | refine zi ?_ GE417.out) | exact HB.out)) hb hg; have n2_ := ze.mk (hbox); have n4_ := n3_; have n5_ := ze.mk ((by rw [hg]; exact Nat.ne_of_lt (zba (by (with_reducible repeat (first | refine zb ?_ _ | refine zd ?_ | refine za ?_ _)); exact BK417.out)) : gb417 ≠ gb418)); have n6_ := ze.mk n5_.out.symm; clear BK417; clear HB; have BK417 := n0_; have HB := n1_; have BK418 := n2_; have GW418 := n3_; have GE418 := n4_; have NB417_418 := n5_; have NB418_417 := n6_; clear n0_ n1_ n2_ n3_ n4_ n5_ n6_; clear hb hbox hg)); try go_wp2_with (first | ((with_reducible refine zu (N := 2) rfl ?_); refine zr ?hg (N := 2) ?hd (cs := #[.int .i8 a0_0, .int .i8 a0_1, .int .i8 a0_2, .int .i8 a0_3]) (t := 43) ?hr ?_; (case hd => rfl); (case hg => rfl); (case hr => first | (go_simp; done) | (go_simp; rfl)); intro gb417 hg w3 hbox hb; obtain ⟨n0_, n2_⟩ := bx (by repeat (first | (with_reducible first | exact HB.out | apply zg | apply zc | apply zf) | exact HB.out)) hb hg; have n1_ := ze.mk (hbox); have n3_ := n2_; clear HB; have HB := n0_; have BK417 := n1_; have GW417 := n2_; have GE417 := n3_; clear n0_ n1_ n2_ n3_; clear hb hbox hg) | ((with_reducible refine zu (N := 3) rfl ?_); refine zr ?hg (N := 3) ?hd (cs := #[.int .i8 a1_0, .int .i8 a1_1, .int .i8 a1_2, .int .i8 a1_3]) (t := 43) ?hr ?_; (case hd => rfl); (case hg => rfl); (case hr => first | (go_simp; done) | (go_simp; rfl)); intro gb418 hg w4 hbox hb; have n0_ := ze.mk (zk (by (with_reducible repeat (first | refine zb ?_ _ | refine zd ?_ | refine za ?_ _)); exact BK417.out) hb); obtain ⟨n1_, n3_⟩ := bx (by repeat (first | (with_reducible first | exact HB.out | apply zg | apply zc | apply zf | refine zi ?_ GE417.out) | exact HB.out)) hb hg; have n2_ := ze.mk (hbox); have n4_ := n3_; have n5_ := ze.mk ((by rw [hg]; exact Nat.ne_of_lt (zba (by (with_reducible repeat (first | refine zb ?_ _ | refine zd ?_ | refine za ?_ _)); exact BK417.out)) : gb417 ≠ gb418)); have n6_ := ze.mk n5_.out.symm; clear BK417; clear HB; have BK417 := n0_; have HB := n1_; have BK418 := n2_; have GW418 := n3_; have GE418 := n4_; have NB417_418 := n5_; have NB418_417 := n6_; clear n0_ n1_ n2_ n3_ n4_ n5_ n6_; clear hb hbox hg)))
 go_loopg [5] k (fun kq v5 w' => ∃ (x5_1 : Int), v5 = .int .i64 x5_1 ∧ ze (laws_eqWord.l0 kq x5_1 a0_0 a0_1 a0_2 a0_3 a1_0 a1_1 a1_2 a1_3 = some r) ∧ ze (kq ≤ k) ∧ ze (w'.heap[gb417]? = some (.cells #[.int .i8 a0_0, .int .i8 a0_1, .int .i8 a0_2, .int .i8 a0_3] 43 (0, 0))) ∧ ze (w'.heap[gb418]? = some (.cells #[.int .i8 a1_0, .int .i8 a1_1, .int .i8 a1_2, .int .i8 a1_3] 43 (0, 0))) ∧ ze (Below w.heap.size w w'))
 case atStart => exact ⟨(0), (by first | rfl | (simp; done) | (simp [*]; done)), H', ⟨Nat.le_refl _⟩, ⟨by (with_reducible repeat (first | refine zb ?_ _ | refine zd ?_ | refine za ?_ _)); exact BK417.out⟩, ⟨by (with_reducible repeat (first | refine zb ?_ _ | refine zd ?_ | refine za ?_ _)); exact BK418.out⟩, ⟨by repeat (first | (with_reducible first | exact HB.out | apply zg | apply zc | apply zf | refine zi ?_ GE417.out | refine zi ?_ GE418.out) | exact HB.out)⟩⟩
 case round =>
  clear H'
  try clear c1
  try clear p2
  obtain ⟨x5_1, rfl, HA, HK1, BK417, BK418, HB⟩ := hrel
  cases gk with
  | zero => exact absurd HA.out (by simp [laws_eqWord.l0])
  | succ k1 =>
   have H := HA.out
   clear HA
   simp only [laws_eqWord.l0] at H
   by_cases c5 : x5_1 < 4
   ·rw [if_pos c5] at H
    have c5b0 : decide (x5_1 < 4) = true := decide_eq_true c5
    clear c5
    by_cases c6 : 0 ≤ x5_1
    ·rw [if_pos c6] at H
     have c6b0 : decide (0 ≤ x5_1) = true := decide_eq_true c6
     clear c6
     by_cases c7 : (rd [a0_0, a0_1, a0_2, a0_3] x5_1) = (rd [a1_0, a1_1, a1_2, a1_3] x5_1)
     ·rw [if_pos c7] at H
      have c7b0 : ((rd [a0_0, a0_1, a0_2, a0_3] x5_1) == (rd [a1_0, a1_1, a1_2, a1_3] x5_1)) = true := beq_iff_eq.mpr c7
      have c7b1 : ((rd [a0_0, a0_1, a0_2, a0_3] x5_1) != (rd [a1_0, a1_1, a1_2, a1_3] x5_1)) = false := bne_eq_false_iff_eq.mpr c7
      clear c7
      have H' := ze.mk H
      clear H
      have p8 : 0 ≤ (x5_1 : Int) := od (by first | (with_reducible assumption) | assumption)
      have q8 : x5_1 < (4 : Int) := od (by first | (with_reducible assumption) | assumption)
      replace p8 := eq_true p8
      replace q8 := eq_true q8
      have hnb9 := NB417_418.out
      have hnc9 := NB418_417.out
      obtain ⟨y1_0, y1_1, y1_2, y1_3, z1_0, z1_1, z1_2, z1_3⟩ := cf4 BK417.out
      have u1_0 : wr.cell? ⟨gb417, (x5_1).toNat, none⟩ = some (.int .i8 (rd [a0_0, a0_1, a0_2, a0_3] x5_1)) := (zo BK417.out _).trans (by rcases (show (x5_1 : Int) = 0 ∨ (x5_1 : Int) = 1 ∨ (x5_1 : Int) = 2 ∨ (x5_1 : Int) = 3 by have hp_ : 0 ≤ (x5_1 : Int) := od (by first | (with_reducible assumption) | assumption); have hq_ : x5_1 < (4 : Int) := od (by first | (with_reducible assumption) | assumption); omega) with h_ | h_ | h_ | h_ <;> rw [h_] <;> rfl)
      have p12 : 0 ≤ (x5_1 : Int) := od (by first | (with_reducible assumption) | assumption)
      have q12 : x5_1 < (4 : Int) := od (by first | (with_reducible assumption) | assumption)
      replace p12 := eq_true p12
      replace q12 := eq_true q12
      obtain ⟨y2_0, y2_1, y2_2, y2_3, z2_0, z2_1, z2_2, z2_3⟩ := cf4 BK418.out
      have u2_0 : wr.cell? ⟨gb418, (x5_1).toNat, none⟩ = some (.int .i8 (rd [a1_0, a1_1, a1_2, a1_3] x5_1)) := (zo BK418.out _).trans (by rcases (show (x5_1 : Int) = 0 ∨ (x5_1 : Int) = 1 ∨ (x5_1 : Int) = 2 ∨ (x5_1 : Int) = 3 by have hp_ : 0 ≤ (x5_1 : Int) := od (by first | (with_reducible assumption) | assumption); have hq_ : x5_1 < (4 : Int) := od (by first | (with_reducible assumption) | assumption); omega) with h_ | h_ | h_ | h_ <;> rw [h_] <;> rfl)
      go_wp2
      repeat (go_quiet (fail); try go_wp2)
      go_roundg k1
      case measure => have := HK1.out; omega
      case rel => exact ⟨(wrap64 (x5_1 + 1)), (by first | rfl | (simp; done) | (simp [*]; done)), H', ⟨by have := HK1.out; omega⟩, ⟨by (with_reducible repeat (first | refine zb ?_ _ | refine zd ?_ | refine za ?_ _)); exact BK417.out⟩, ⟨by (with_reducible repeat (first | refine zb ?_ _ | refine zd ?_ | refine za ?_ _)); exact BK418.out⟩, ⟨by repeat (first | (with_reducible first | exact HB.out | apply zg | apply zc | apply zf | refine zi ?_ GE417.out | refine zi ?_ GE418.out) | exact HB.out)⟩⟩
     rw [if_neg c7] at H
     have c7b0 : ((rd [a0_0, a0_1, a0_2, a0_3] x5_1) == (rd [a1_0, a1_1, a1_2, a1_3] x5_1)) = false := beq_eq_false_iff_ne.mpr c7
     have c7b1 : ((rd [a0_0, a0_1, a0_2, a0_3] x5_1) != (rd [a1_0, a1_1, a1_2, a1_3] x5_1)) = true := bne_iff_ne.mpr c7
     obtain rfl := Option.some.inj H
     have p15 : 0 ≤ (x5_1 : Int) := od (by first | (with_reducible assumption) | assumption)
     have q15 : x5_1 < (4 : Int) := od (by first | (with_reducible assumption) | assumption)
     replace p15 := eq_true p15
     replace q15 := eq_true q15
     have hnb16 := NB417_418.out
     have hnc16 := NB418_417.out
     obtain ⟨y3_0, y3_1, y3_2, y3_3, z3_0, z3_1, z3_2, z3_3⟩ := cf4 BK417.out
     have u3_0 : wr.cell? ⟨gb417, (x5_1).toNat, none⟩ = some (.int .i8 (rd [a0_0, a0_1, a0_2, a0_3] x5_1)) := (zo BK417.out _).trans (by rcases (show (x5_1 : Int) = 0 ∨ (x5_1 : Int) = 1 ∨ (x5_1 : Int) = 2 ∨ (x5_1 : Int) = 3 by have hp_ : 0 ≤ (x5_1 : Int) := od (by first | (with_reducible assumption) | assumption); have hq_ : x5_1 < (4 : Int) := od (by first | (with_reducible assumption) | assumption); omega) with h_ | h_ | h_ | h_ <;> rw [h_] <;> rfl)
     have p19 : 0 ≤ (x5_1 : Int) := od (by first | (with_reducible assumption) | assumption)
     have q19 : x5_1 < (4 : Int) := od (by first | (with_reducible assumption) | assumption)
     replace p19 := eq_true p19
     replace q19 := eq_true q19
     obtain ⟨y4_0, y4_1, y4_2, y4_3, z4_0, z4_1, z4_2, z4_3⟩ := cf4 BK418.out
     have u4_0 : wr.cell? ⟨gb418, (x5_1).toNat, none⟩ = some (.int .i8 (rd [a1_0, a1_1, a1_2, a1_3] x5_1)) := (zo BK418.out _).trans (by rcases (show (x5_1 : Int) = 0 ∨ (x5_1 : Int) = 1 ∨ (x5_1 : Int) = 2 ∨ (x5_1 : Int) = 3 by have hp_ : 0 ≤ (x5_1 : Int) := od (by first | (with_reducible assumption) | assumption); have hq_ : x5_1 < (4 : Int) := od (by first | (with_reducible assumption) | assumption); omega) with h_ | h_ | h_ | h_ <;> rw [h_] <;> rfl)
     go_wp2
     repeat (go_quiet (fail); try go_wp2)
     go_ret
     exact ⟨by first | rfl | (simp [zn, zm] <;> rfl) | (simp [*, zn, zm] <;> rfl), by repeat (first | (with_reducible first | exact HB.out | apply zg | apply zc | apply zf | refine zi ?_ GE417.out | refine zi ?_ GE418.out) | exact HB.out)⟩
    rw [if_neg c6] at H
    exact absurd H (by simp)
   rw [if_neg c5] at H
   have c5b0 : decide (x5_1 < 4) = false := decide_eq_false c5
   clear c5
   obtain rfl := Option.some.inj H
   go_wp2
   repeat (go_quiet (fail); try go_wp2)
   go_ret
   exact ⟨by first | rfl | (simp [zn, zm] <;> rfl) | (simp [*, zn, zm] <;> rfl), by repeat (first | (with_reducible first | exact HB.out | apply zg | apply zc | apply zf | refine zi ?_ GE417.out | refine zi ?_ GE418.out) | exact HB.out)⟩
def laws_eqWordS.l0 : Nat → List (S43) → List (S43) → Int → Option (Bool)
 | 0, _, _, _ => none
 | k + 1, x0, x1, x5 => if x5 < (x0.length : Int) then (if 0 ≤ x5 then (if x5 < (x1.length : Int) then ((laws_eqWord.f k ((zj x0 x5).f0) ((zj x0 x5).f1) ((zj x0 x5).f2) ((zj x0 x5).f3) ((zj x1 x5).f0) ((zj x1 x5).f1) ((zj x1 x5).f2) ((zj x1 x5).f3)).bind fun t425 => (if t425 = true then (laws_eqWordS.l0 k x0 x1 (wrap64 (x5 + 1))) else (some false))) else (none)) else (none)) else (some true)
def laws_eqWordS.f (k : Nat) (l0 : List (S43)) (l1 : List (S43)) : Option (Bool) := if (l0.length : Int) = (l1.length : Int) then (laws_eqWordS.l0 k l0 l1 0) else (some false)
def laws_eqWordS.T6 : Bool × List (List Nat × List Nat) := (true, [([], []), ([], []), ([0, 1], [0, 1]), ([2], [2]), ([], []), ([], []), ([4, 5], [4, 5]), ([6], [6]), ([3, 7], [3, 7]), ([8], [8])])
def laws_eqWordS.B6 : List Nat := [0, 0, 3, 7, 0, 0, 48, 112, 255, 511]
theorem laws_eqWordS.tab6 : rtab .any (zqe Try.f90 6) = laws_eqWordS.T6 := by kernel_rfl
theorem laws_eqWordS.bits6 : zgb laws_eqWordS.T6.2 laws_eqWordS.B6 = true := by kernel_rfl
set_option maxHeartbeats 8000000 in
set_option maxRecDepth 100000 in
theorem laws_eqWordS.calls (k : Nat) (A0 : Option Addr) (c0 : Nat) (l0 : List (S43)) (A1 : Option Addr) (c1 : Nat) (l1 : List (S43)) (r : Bool) (w : World) (hr0 : Kd.C k43 w A0 l0.length l0) (hc0 : l0.length ≤ c0) (hr1 : Kd.C k43 w A1 l1.length l1) (hc1 : l1.length ≤ c1) (h : laws_eqWordS.f k l0 l1 = some r) :
  Calls Try.prog 90 #[.slice A0 l0.length c0, .slice A1 l1.length c1] w fun e w' => e = .returned (.bool r) ∧ Below w.heap.size w w' := by
 have hu43 := Try.underlying43
 have HR0 := ze.mk hr0
 have HC0 := ze.mk hc0
 clear hr0 hc0
 have HR1 := ze.mk hr1
 have HC1 := ze.mk hc1
 clear hr1 hc1
 have HB := ze.mk (Below.refl w.heap.size w)
 have H : (if (l0.length : Int) = (l1.length : Int) then (laws_eqWordS.l0 k l0 l1 0) else (some false)) = some r := h
 clear h
 by_cases c3 : (l0.length : Int) = (l1.length : Int)
 ·rw [if_pos c3] at H
  have c3b0 : ((l0.length : Int) == (l1.length : Int)) = true := beq_iff_eq.mpr c3
  have c3b1 : ((l0.length : Int) != (l1.length : Int)) = false := bne_eq_false_iff_eq.mpr c3
  have c3b2 : (l0.length == l1.length) = true := by first | simpa using c3 | (simp at c3 ⊢; omega)
  clear c3
  have H' := ze.mk H
  clear H
  go_enter Try.func90, Try.ntmps90
  go_wp2
  go_loopg [5] k (fun kq v5 w' => ∃ (x5_1 : Int), v5 = .int .i64 x5_1 ∧ ze (laws_eqWordS.l0 kq l0 l1 x5_1 = some r) ∧ ze (kq ≤ k) ∧ ze (Below w.heap.size w w'))
  case atStart => exact ⟨(0), (by first | rfl | (simp; done) | (simp [*]; done)), H', ⟨Nat.le_refl _⟩, ⟨by repeat (first | (with_reducible first | exact HB.out | apply zg | apply zc | apply zf) | exact HB.out)⟩⟩
  case round =>
   clear H'
   try clear c1
   try clear p2
   try clear c3
   try clear c3b0
   try clear c3b1
   try clear c3b2
   obtain ⟨x5_1, rfl, HA, HK1, HB⟩ := hrel
   cases gk with
   | zero => exact absurd HA.out (by simp [laws_eqWordS.l0])
   | succ k1 =>
    have H := HA.out
    clear HA
    simp only [laws_eqWordS.l0] at H
    by_cases c4 : x5_1 < (l0.length : Int)
    ·rw [if_pos c4] at H
     have c4b0 : decide (x5_1 < (l0.length : Int)) = true := decide_eq_true c4
     clear c4
     by_cases c5 : 0 ≤ x5_1
     ·rw [if_pos c5] at H
      have c5b0 : decide (0 ≤ x5_1) = true := decide_eq_true c5
      clear c5
      by_cases c6 : x5_1 < (l1.length : Int)
      ·rw [if_pos c6] at H
       have c6b0 : decide (x5_1 < (l1.length : Int)) = true := decide_eq_true c6
       clear c6
       replace H := Option.bind_eq_some_iff.mp H
       obtain ⟨t425, A70, H⟩ := H
       replace H : (if t425 = true then (laws_eqWordS.l0 k1 l0 l1 (wrap64 (x5_1 + 1))) else (some false)) = some r := H
       have A7 := ze.mk A70
       clear A70
       by_cases c8 : t425 = true
       ·subst c8
        have H1 : (laws_eqWordS.l0 k1 l0 l1 (wrap64 (x5_1 + 1))) = some r := by rw [if_pos rfl] at H; exact H
        clear H
        have H := H1
        clear H1
        have H' := ze.mk H
        clear H
        try go_wp2
        have n0_ := ze.mk (zf HB.out)
        clear HB
        have HB := n0_
        clear n0_
        have p423 : 0 ≤ (x5_1 : Int) := od (by first | (with_reducible assumption) | assumption)
        have q423 : x5_1 < (l0.length : Int) := od (by first | (with_reducible assumption) | assumption)
        obtain ⟨ad423, e423, u1_0, u1_1, u1_2, u1_3, v1_0, v1_1, v1_2, v1_3⟩ := zcd HB.out HR0.out x5_1 p423 q423
        cases e423
        replace p423 := eq_true p423
        replace q423 := eq_true q423
        have p424 : 0 ≤ (x5_1 : Int) := od (by first | (with_reducible assumption) | assumption)
        have q424 : x5_1 < (l1.length : Int) := od (by first | (with_reducible assumption) | assumption)
        obtain ⟨ad424, e424, u2_0, u2_1, u2_2, u2_3, v2_0, v2_1, v2_2, v2_3⟩ := zcd HB.out HR1.out x5_1 p424 q424
        cases e424
        replace p424 := eq_true p424
        replace q424 := eq_true q424
        refine zfb (n := 10) (S := fun w' => w'.cell? (ad423.add ((x5_1).toNat * 4)) = some (.int .i8 ((zj l0 x5_1).f0)) ∧ w'.cell? ⟨(ad423.add ((x5_1).toNat * 4)).block, (ad423.add ((x5_1).toNat * 4)).off + 1, none⟩ = some (.int .i8 ((zj l0 x5_1).f1)) ∧ w'.cell? ⟨(ad423.add ((x5_1).toNat * 4)).block, (ad423.add ((x5_1).toNat * 4)).off + 2, none⟩ = some (.int .i8 ((zj l0 x5_1).f2)) ∧ w'.cell? ⟨(ad423.add ((x5_1).toNat * 4)).block, (ad423.add ((x5_1).toNat * 4)).off + 3, none⟩ = some (.int .i8 ((zj l0 x5_1).f3)) ∧ w'.cell? (ad424.add ((x5_1).toNat * 4)) = some (.int .i8 ((zj l1 x5_1).f0)) ∧ w'.cell? ⟨(ad424.add ((x5_1).toNat * 4)).block, (ad424.add ((x5_1).toNat * 4)).off + 1, none⟩ = some (.int .i8 ((zj l1 x5_1).f1)) ∧ w'.cell? ⟨(ad424.add ((x5_1).toNat * 4)).block, (ad424.add ((x5_1).toNat * 4)).off + 2, none⟩ = some (.int .i8 ((zj l1 x5_1).f2)) ∧ w'.cell? ⟨(ad424.add ((x5_1).toNat * 4)).block, (ad424.add ((x5_1).toNat * 4)).off + 3, none⟩ = some (.int .i8 ((zj l1 x5_1).f3))) (ds := []) (fm 10 0) (by kernel_rfl) rfl rfl ⟨(bc HB.out v1_0), (bc HB.out v1_1), (bc HB.out v1_2), (bc HB.out v1_3), (bc HB.out v2_0), (bc HB.out v2_1), (bc HB.out v2_2), (bc HB.out v2_3)⟩ (fun hHeld => ?_); refine zoa laws_eqWordS.tab6 laws_eqWordS.bits6 (fun HT_ HW_ => ?_)
        generalize wr.drew = w9 at HB u1_0 u1_1 u1_2 u1_3 u2_0 u2_1 u2_2 u2_3 hHeld ⊢
        refine pb 0 17 (fm 10 1) rfl rfl HT_.out (by kernel_rfl) pq (by rfl) (by intro w'; go_simp; with_reducible rfl) (by simp only [Act.put, ea, eb, ec, zy, zz]; rfl) ?_
        refine pb 1 18 (fm 10 2) rfl rfl HT_.out (by kernel_rfl) pq (by rfl) (by intro w'; go_simp; with_reducible rfl) (by simp only [Act.put, ea, eb, ec, zy, zz]; rfl) ?_
        refine pb 2 19 (fm 10 3) rfl rfl HT_.out (by kernel_rfl) pq (by rfl) (by intro w'; go_simp; with_reducible rfl) (by simp only [Act.put, ea, eb, ec, zy, zz]; rfl) ?_
        refine pb 4 21 #[T, T, T, F, T, F, F, F, F, F] rfl rfl HT_.out (by kernel_rfl) pq (by rfl) (by intro w'; go_simp; with_reducible rfl) (by simp only [Act.put, ea, eb, ec, zy, zz]; rfl) ?_
        refine pb 5 22 #[T, T, T, F, T, T, F, F, F, F] rfl rfl HT_.out (by kernel_rfl) pq (by rfl) (by intro w'; go_simp; with_reducible rfl) (by simp only [Act.put, ea, eb, ec, zy, zz]; rfl) ?_
        refine pb 6 23 #[T, T, T, F, T, T, T, F, F, F] rfl rfl HT_.out (by kernel_rfl) pq (by rfl) (by intro w'; go_simp; with_reducible rfl) (by simp only [Act.put, ea, eb, ec, zy, zz]; rfl) ?_
        refine take_ (i := 3) (N := some 20) (v := ?_) (a' := ?_) (fm 10 7) rfl rfl (zka HT_.out HW_.out (by kernel_rfl)) (fun _ _ _ h => h) (Or.inl ⟨by rfl, ?_⟩) hHeld ?_ ?_
        rotate_left
        ·rintro w' ⟨s0, s1, s2, s3, s4, s5, s6, s7⟩
         go_simp
         with_reducible rfl
        rotate_left
        ·simp only [Act.put, List.setIfInBounds_toArray, List.set_cons_zero, List.set_cons_succ, zy, zz]
         rfl
        refine take_ (i := 7) (N := some 24) (v := ?_) (a' := ?_) (fm 10 8) rfl rfl (zka HT_.out HW_.out (by kernel_rfl)) (fun _ _ _ h => h) (Or.inl ⟨by rfl, ?_⟩) hHeld ?_ ?_
        rotate_left
        ·rintro w' ⟨s0, s1, s2, s3, s4, s5, s6, s7⟩
         go_simp
         with_reducible rfl
        rotate_left
        ·simp only [Act.put, List.setIfInBounds_toArray, List.set_cons_zero, List.set_cons_succ, zy, zz]
         rfl
        refine one_ (i := 8) (N := some 25) (fm 10 9) rfl rfl (zta HT_.out (by kernel_rfl)) (by decide) (fun K hK => ?_)
        refine zdb Try.func110 (by kernel_rfl) rfl #[.agg #[.int .i8 ((zj l0 x5_1).f0), .int .i8 ((zj l0 x5_1).f1), .int .i8 ((zj l0 x5_1).f2), .int .i8 ((zj l0 x5_1).f3)], .agg #[.int .i8 ((zj l1 x5_1).f0), .int .i8 ((zj l1 x5_1).f1), .int .i8 ((zj l1 x5_1).f2), .int .i8 ((zj l1 x5_1).f3)]] (by rfl) rfl rfl (by (try simp only [List.map_toArray, List.map_cons, List.map_nil]); first | done | rfl | (simp only [List.length_drop, List.length_take]; rfl)) ?_
        with_reducible refine (laws_eqWord.calls k1 ((zj l0 x5_1).f0) ((zj l0 x5_1).f1) ((zj l0 x5_1).f2) ((zj l0 x5_1).f3) ((zj l1 x5_1).f0) ((zj l1 x5_1).f1) ((zj l1 x5_1).f2) ((zj l1 x5_1).f3) true _ A7.out).mono ?_
        rintro e w10 ⟨rfl, hb⟩
        refine ⟨_, rfl, ?_⟩
        have n0_ := ze.mk (zt (by repeat (first | (with_reducible first | exact HB.out | apply zg | apply zc | apply zf) | exact HB.out)) hb)
        clear HB
        have HB := n0_
        clear n0_
        (try clear hb)
        (try clear hb2)
        (try clear hk)
        (try clear hi)
        refine hK.out _ _ ⟨(bc HB.out v1_0), (bc HB.out v1_1), (bc HB.out v1_2), (bc HB.out v1_3), (bc HB.out v2_0), (bc HB.out v2_1), (bc HB.out v2_2), (bc HB.out v2_3)⟩ (fun hHeld => ?_)
        clear hK K
        refine zpa (a' := ?_) ?_ ?_
        rotate_left
        ·show Act.put _ (some 25) _ = _
         simp only [Act.put, List.setIfInBounds_toArray, List.set_cons_zero, List.set_cons_succ, zy, zz]
         rfl
        refine pb 9 26 (fm 10 10) rfl rfl HT_.out (by kernel_rfl) pq (by rfl) (by intro w'; go_simp; with_reducible rfl) (by simp only [Act.put, ea, eb, ec, zy, zz]; rfl) ?_
        refine zxb (zcb HT_.out (by kernel_rfl)) ?_
        try go_wp2
        go_roundg k1
        case measure => have := HK1.out; omega
        case rel => exact ⟨(wrap64 (x5_1 + 1)), (by first | rfl | (simp; done) | (simp [*]; done)), H', ⟨by have := HK1.out; omega⟩, ⟨by repeat (first | (with_reducible first | exact HB.out | apply zg | apply zc | apply zf) | exact HB.out)⟩⟩
       replace c8 := Bool.eq_false_iff.mpr c8
       subst c8
       have H1 : (some false) = some r := by rw [if_neg (show ¬ (false = true) by decide)] at H; exact H
       clear H
       have H := H1
       clear H1
       obtain rfl := Option.some.inj H
       try go_wp2
       have n0_ := ze.mk (zf HB.out)
       clear HB
       have HB := n0_
       clear n0_
       have p423 : 0 ≤ (x5_1 : Int) := od (by first | (with_reducible assumption) | assumption)
       have q423 : x5_1 < (l0.length : Int) := od (by first | (with_reducible assumption) | assumption)
       obtain ⟨ad423, e423, u1_0, u1_1, u1_2, u1_3, v1_0, v1_1, v1_2, v1_3⟩ := zcd HB.out HR0.out x5_1 p423 q423
       cases e423
       replace p423 := eq_true p423
       replace q423 := eq_true q423
       have p424 : 0 ≤ (x5_1 : Int) := od (by first | (with_reducible assumption) | assumption)
       have q424 : x5_1 < (l1.length : Int) := od (by first | (with_reducible assumption) | assumption)
       obtain ⟨ad424, e424, u2_0, u2_1, u2_2, u2_3, v2_0, v2_1, v2_2, v2_3⟩ := zcd HB.out HR1.out x5_1 p424 q424
       cases e424
       replace p424 := eq_true p424
       replace q424 := eq_true q424
       refine zfb (n := 10) (S := fun w' => w'.cell? (ad423.add ((x5_1).toNat * 4)) = some (.int .i8 ((zj l0 x5_1).f0)) ∧ w'.cell? ⟨(ad423.add ((x5_1).toNat * 4)).block, (ad423.add ((x5_1).toNat * 4)).off + 1, none⟩ = some (.int .i8 ((zj l0 x5_1).f1)) ∧ w'.cell? ⟨(ad423.add ((x5_1).toNat * 4)).block, (ad423.add ((x5_1).toNat * 4)).off + 2, none⟩ = some (.int .i8 ((zj l0 x5_1).f2)) ∧ w'.cell? ⟨(ad423.add ((x5_1).toNat * 4)).block, (ad423.add ((x5_1).toNat * 4)).off + 3, none⟩ = some (.int .i8 ((zj l0 x5_1).f3)) ∧ w'.cell? (ad424.add ((x5_1).toNat * 4)) = some (.int .i8 ((zj l1 x5_1).f0)) ∧ w'.cell? ⟨(ad424.add ((x5_1).toNat * 4)).block, (ad424.add ((x5_1).toNat * 4)).off + 1, none⟩ = some (.int .i8 ((zj l1 x5_1).f1)) ∧ w'.cell? ⟨(ad424.add ((x5_1).toNat * 4)).block, (ad424.add ((x5_1).toNat * 4)).off + 2, none⟩ = some (.int .i8 ((zj l1 x5_1).f2)) ∧ w'.cell? ⟨(ad424.add ((x5_1).toNat * 4)).block, (ad424.add ((x5_1).toNat * 4)).off + 3, none⟩ = some (.int .i8 ((zj l1 x5_1).f3))) (ds := []) (fm 10 0) (by kernel_rfl) rfl rfl ⟨(bc HB.out v1_0), (bc HB.out v1_1), (bc HB.out v1_2), (bc HB.out v1_3), (bc HB.out v2_0), (bc HB.out v2_1), (bc HB.out v2_2), (bc HB.out v2_3)⟩ (fun hHeld => ?_); refine zoa laws_eqWordS.tab6 laws_eqWordS.bits6 (fun HT_ HW_ => ?_)
       generalize wr.drew = w11 at HB u1_0 u1_1 u1_2 u1_3 u2_0 u2_1 u2_2 u2_3 hHeld ⊢
       refine pb 0 17 (fm 10 1) rfl rfl HT_.out (by kernel_rfl) pq (by rfl) (by intro w'; go_simp; with_reducible rfl) (by simp only [Act.put, ea, eb, ec, zy, zz]; rfl) ?_
       refine pb 1 18 (fm 10 2) rfl rfl HT_.out (by kernel_rfl) pq (by rfl) (by intro w'; go_simp; with_reducible rfl) (by simp only [Act.put, ea, eb, ec, zy, zz]; rfl) ?_
       refine pb 2 19 (fm 10 3) rfl rfl HT_.out (by kernel_rfl) pq (by rfl) (by intro w'; go_simp; with_reducible rfl) (by simp only [Act.put, ea, eb, ec, zy, zz]; rfl) ?_
       refine pb 4 21 #[T, T, T, F, T, F, F, F, F, F] rfl rfl HT_.out (by kernel_rfl) pq (by rfl) (by intro w'; go_simp; with_reducible rfl) (by simp only [Act.put, ea, eb, ec, zy, zz]; rfl) ?_
       refine pb 5 22 #[T, T, T, F, T, T, F, F, F, F] rfl rfl HT_.out (by kernel_rfl) pq (by rfl) (by intro w'; go_simp; with_reducible rfl) (by simp only [Act.put, ea, eb, ec, zy, zz]; rfl) ?_
       refine pb 6 23 #[T, T, T, F, T, T, T, F, F, F] rfl rfl HT_.out (by kernel_rfl) pq (by rfl) (by intro w'; go_simp; with_reducible rfl) (by simp only [Act.put, ea, eb, ec, zy, zz]; rfl) ?_
       refine take_ (i := 3) (N := some 20) (v := ?_) (a' := ?_) (fm 10 7) rfl rfl (zka HT_.out HW_.out (by kernel_rfl)) (fun _ _ _ h => h) (Or.inl ⟨by rfl, ?_⟩) hHeld ?_ ?_
       rotate_left
       ·rintro w' ⟨s0, s1, s2, s3, s4, s5, s6, s7⟩
        go_simp
        with_reducible rfl
       rotate_left
       ·simp only [Act.put, List.setIfInBounds_toArray, List.set_cons_zero, List.set_cons_succ, zy, zz]
        rfl
       refine take_ (i := 7) (N := some 24) (v := ?_) (a' := ?_) (fm 10 8) rfl rfl (zka HT_.out HW_.out (by kernel_rfl)) (fun _ _ _ h => h) (Or.inl ⟨by rfl, ?_⟩) hHeld ?_ ?_
       rotate_left
       ·rintro w' ⟨s0, s1, s2, s3, s4, s5, s6, s7⟩
        go_simp
        with_reducible rfl
       rotate_left
       ·simp only [Act.put, List.setIfInBounds_toArray, List.set_cons_zero, List.set_cons_succ, zy, zz]
        rfl
       refine one_ (i := 8) (N := some 25) (fm 10 9) rfl rfl (zta HT_.out (by kernel_rfl)) (by decide) (fun K hK => ?_)
       refine zdb Try.func110 (by kernel_rfl) rfl #[.agg #[.int .i8 ((zj l0 x5_1).f0), .int .i8 ((zj l0 x5_1).f1), .int .i8 ((zj l0 x5_1).f2), .int .i8 ((zj l0 x5_1).f3)], .agg #[.int .i8 ((zj l1 x5_1).f0), .int .i8 ((zj l1 x5_1).f1), .int .i8 ((zj l1 x5_1).f2), .int .i8 ((zj l1 x5_1).f3)]] (by rfl) rfl rfl (by (try simp only [List.map_toArray, List.map_cons, List.map_nil]); first | done | rfl | (simp only [List.length_drop, List.length_take]; rfl)) ?_
       with_reducible refine (laws_eqWord.calls k1 ((zj l0 x5_1).f0) ((zj l0 x5_1).f1) ((zj l0 x5_1).f2) ((zj l0 x5_1).f3) ((zj l1 x5_1).f0) ((zj l1 x5_1).f1) ((zj l1 x5_1).f2) ((zj l1 x5_1).f3) false _ A7.out).mono ?_
       rintro e w12 ⟨rfl, hb⟩
       refine ⟨_, rfl, ?_⟩
       have n0_ := ze.mk (zt (by repeat (first | (with_reducible first | exact HB.out | apply zg | apply zc | apply zf) | exact HB.out)) hb)
       clear HB
       have HB := n0_
       clear n0_
       (try clear hb)
       (try clear hb2)
       (try clear hk)
       (try clear hi)
       refine hK.out _ _ ⟨(bc HB.out v1_0), (bc HB.out v1_1), (bc HB.out v1_2), (bc HB.out v1_3), (bc HB.out v2_0), (bc HB.out v2_1), (bc HB.out v2_2), (bc HB.out v2_3)⟩ (fun hHeld => ?_)
       clear hK K
       refine zpa (a' := ?_) ?_ ?_
       rotate_left
       ·show Act.put _ (some 25) _ = _
        simp only [Act.put, List.setIfInBounds_toArray, List.set_cons_zero, List.set_cons_succ, zy, zz]
        rfl
       refine pb 9 26 (fm 10 10) rfl rfl HT_.out (by kernel_rfl) pq (by rfl) (by intro w'; go_simp; with_reducible rfl) (by simp only [Act.put, ea, eb, ec, zy, zz]; rfl) ?_
       refine zxb (zcb HT_.out (by kernel_rfl)) ?_
       try go_wp2
       go_ret
       exact ⟨by first | rfl | (simp [zn, zm] <;> rfl) | (simp [*, zn, zm] <;> rfl), by repeat (first | (with_reducible first | exact HB.out | apply zg | apply zc | apply zf) | exact HB.out)⟩
      rw [if_neg c6] at H
      exact absurd H (by simp)
     rw [if_neg c5] at H
     exact absurd H (by simp)
    rw [if_neg c4] at H
    have c4b0 : decide (x5_1 < (l0.length : Int)) = false := decide_eq_false c4
    clear c4
    obtain rfl := Option.some.inj H
    go_wp2
    go_ret
    exact ⟨by first | rfl | (simp [zn, zm] <;> rfl) | (simp [*, zn, zm] <;> rfl), by repeat (first | (with_reducible first | exact HB.out | apply zg | apply zc | apply zf) | exact HB.out)⟩
 rw [if_neg c3] at H
 have c3b0 : ((l0.length : Int) == (l1.length : Int)) = false := beq_eq_false_iff_ne.mpr c3
 have c3b1 : ((l0.length : Int) != (l1.length : Int)) = true := bne_iff_ne.mpr c3
 have c3b2 : (l0.length == l1.length) = false := by first | simpa using c3 | (simp at c3 ⊢; omega)
 obtain rfl := Option.some.inj H
 go_enter Try.func90, Try.ntmps90
 go_wp2
 go_ret
 exact ⟨by first | rfl | (simp [zn, zm] <;> rfl) | (simp [*, zn, zm] <;> rfl), by repeat (first | (with_reducible first | exact HB.out | apply zg | apply zc | apply zf) | exact HB.out)⟩
def laws_eqFixed.f (k : Nat) (a0_0 : Int) (a0_1 : Int) (l0_2 : List (S43)) (a1_0 : Int) (a1_1 : Int) (l1_2 : List (S43)) : Option (Bool) := if a0_0 = a1_0 then (if a0_1 = a1_1 then ((laws_eqWordS.f k l0_2 l1_2).bind fun t428 => (if t428 = true then (some true) else (some false))) else (some false)) else (some false)
set_option maxHeartbeats 8000000 in
set_option maxRecDepth 100000 in
theorem laws_eqFixed.calls (k : Nat) (a0_0 : Int) (a0_1 : Int) (A0_2 : Option Addr) (c0_2 : Nat) (l0_2 : List (S43)) (a1_0 : Int) (a1_1 : Int) (A1_2 : Option Addr) (c1_2 : Nat) (l1_2 : List (S43)) (r : Bool) (w : World) (hr0_2 : Kd.C k43 w A0_2 l0_2.length l0_2) (hc0_2 : l0_2.length ≤ c0_2) (hr1_2 : Kd.C k43 w A1_2 l1_2.length l1_2) (hc1_2 : l1_2.length ≤ c1_2) (h : laws_eqFixed.f k a0_0 a0_1 l0_2 a1_0 a1_1 l1_2 = some r) :
  Calls Try.prog 35 #[.agg #[.int .i8 a0_0, .int .i8 a0_1, .slice A0_2 l0_2.length c0_2], .agg #[.int .i8 a1_0, .int .i8 a1_1, .slice A1_2 l1_2.length c1_2]] w fun e w' => e = .returned (.bool r) ∧ Below w.heap.size w w' := by
 have hu28 := Try.underlying28
 have HR0_2 := ze.mk hr0_2
 have HC0_2 := ze.mk hc0_2
 clear hr0_2 hc0_2
 have HR1_2 := ze.mk hr1_2
 have HC1_2 := ze.mk hc1_2
 clear hr1_2 hc1_2
 have HB := ze.mk (Below.refl w.heap.size w)
 have H : (if a0_0 = a1_0 then (if a0_1 = a1_1 then ((laws_eqWordS.f k l0_2 l1_2).bind fun t428 => (if t428 = true then (some true) else (some false))) else (some false)) else (some false)) = some r := h
 clear h
 by_cases c3 : a0_0 = a1_0
 ·rw [if_pos c3] at H
  have c3b0 : (a0_0 == a1_0) = true := beq_iff_eq.mpr c3
  have c3b1 : (a0_0 != a1_0) = false := bne_eq_false_iff_eq.mpr c3
  clear c3
  by_cases c4 : a0_1 = a1_1
  ·rw [if_pos c4] at H
   have c4b0 : (a0_1 == a1_1) = true := beq_iff_eq.mpr c4
   have c4b1 : (a0_1 != a1_1) = false := bne_eq_false_iff_eq.mpr c4
   clear c4
   replace H := Option.bind_eq_some_iff.mp H
   obtain ⟨t428, A50, H⟩ := H
   replace H : (if t428 = true then (some true) else (some false)) = some r := H
   have A5 := ze.mk A50
   clear A50
   by_cases c6 : t428 = true
   ·subst c6
    have H1 : (some true) = some r := by rw [if_pos rfl] at H; exact H
    clear H
    have H := H1
    clear H1
    obtain rfl := Option.some.inj H
    go_enter Try.func35, Try.ntmps35
    go_wp2_with (first | ((with_reducible refine zu (N := 2) rfl ?_); refine zr ?hg (N := 2) ?hd (cs := #[.int .i8 a0_0, .int .i8 a0_1, .slice A0_2 l0_2.length c0_2]) (t := 28) ?hr ?_; (case hd => rfl); (case hg => rfl); (case hr => first | (go_simp; done) | (go_simp; rfl)); intro gb426 hg w7 hbox hb; obtain ⟨n0_, n2_⟩ := bx (by repeat (first | (with_reducible first | exact HB.out | apply zg | apply zc | apply zf) | exact HB.out)) hb hg; have n1_ := ze.mk (hbox); have n3_ := n2_; clear HB; have HB := n0_; have BK426 := n1_; have GW426 := n2_; have GE426 := n3_; clear n0_ n1_ n2_ n3_; clear hb hbox hg) | ((with_reducible refine zu (N := 3) rfl ?_); refine zr ?hg (N := 3) ?hd (cs := #[.int .i8 a1_0, .int .i8 a1_1, .slice A1_2 l1_2.length c1_2]) (t := 28) ?hr ?_; (case hd => rfl); (case hg => rfl); (case hr => first | (go_simp; done) | (go_simp; rfl)); intro gb427 hg w8 hbox hb; have n0_ := ze.mk (zk (by (with_reducible repeat (first | refine zb ?_ _ | refine zd ?_ | refine za ?_ _)); exact BK426.out) hb); obtain ⟨n1_, n3_⟩ := bx (by repeat (first | (with_reducible first | exact HB.out | apply zg | apply zc | apply zf | refine zi ?_ GE426.out) | exact HB.out)) hb hg; have n2_ := ze.mk (hbox); have n4_ := n3_; have n5_ := ze.mk ((by rw [hg]; exact Nat.ne_of_lt (zba (by (with_reducible repeat (first | refine zb ?_ _ | refine zd ?_ | refine za ?_ _)); exact BK426.out)) : gb426 ≠ gb427)); have n6_ := ze.mk n5_.out.symm; clear BK426; clear HB; have BK426 := n0_; have HB := n1_; have BK427 := n2_; have GW427 := n3_; have GE427 := n4_; have NB426_427 := n5_; have NB427_426 := n6_; clear n0_ n1_ n2_ n3_ n4_ n5_ n6_; clear hb hbox hg; have hnb9 := NB426_427.out; have hnc9 := NB427_426.out; obtain ⟨y1_0, y1_1, y1_2, z1_0, z1_1, z1_2⟩ := cf3 BK426.out; obtain ⟨y2_0, y2_1, y2_2, z2_0, z2_1, z2_2⟩ := cf3 BK427.out) | ((with_reducible refine zs (f := 90) rfl ?_); refine zda (some 19) rfl rfl Try.func90 (by kernel_rfl) rfl #[.slice A0_2 l0_2.length c0_2, .slice A1_2 l1_2.length c1_2] rfl (by (try simp only [List.map_toArray, List.map_cons, List.map_nil]); first | done | rfl | (simp only [List.length_drop, List.length_take]; rfl)) ?_; (with_reducible refine (laws_eqWordS.calls k _ _ l0_2 _ _ l1_2 true _ ?side1 ?side2 ?side3 ?side4 A5.out).mono ?_); (case side1 => repeat (first | exact (Kd.C_below HR0_2.out HB.out) | (with_reducible refine Kd.C_alloc ?_ _) | (with_reducible refine Kd.C_drewN ?_ _) | (with_reducible refine Kd.C_drew ?_))); (case side2 => exact HC0_2.out); (case side3 => repeat (first | exact (Kd.C_below HR1_2.out HB.out) | (with_reducible refine Kd.C_alloc ?_ _) | (with_reducible refine Kd.C_drewN ?_ _) | (with_reducible refine Kd.C_drew ?_))); (case side4 => exact HC1_2.out); rintro e w12 ⟨rfl, hb⟩; refine ⟨_, rfl, ?_⟩; have n0_ := ze.mk (zk (by (with_reducible repeat (first | refine zb ?_ _ | refine zd ?_ | refine za ?_ _)); exact BK426.out) hb); have n1_ := ze.mk (zk (by (with_reducible repeat (first | refine zb ?_ _ | refine zd ?_ | refine za ?_ _)); exact BK427.out) hb); have n2_ := ze.mk (zt (by repeat (first | (with_reducible first | exact HB.out | apply zg | apply zc | apply zf | refine zi ?_ GE426.out | refine zi ?_ GE427.out) | exact HB.out)) hb); clear BK426; clear BK427; clear HB; have BK426 := n0_; have BK427 := n1_; have HB := n2_; clear n0_ n1_ n2_; (try clear hb); (try clear hb2); (try clear hk); (try clear hi)))
    go_ret
    exact ⟨by first | rfl | (simp [zn, zm] <;> rfl) | (simp [*, zn, zm] <;> rfl), by repeat (first | (with_reducible first | exact HB.out | apply zg | apply zc | apply zf | refine zi ?_ GE426.out | refine zi ?_ GE427.out) | exact HB.out)⟩
   replace c6 := Bool.eq_false_iff.mpr c6
   subst c6
   have H1 : (some false) = some r := by rw [if_neg (show ¬ (false = true) by decide)] at H; exact H
   clear H
   have H := H1
   clear H1
   obtain rfl := Option.some.inj H
   go_enter Try.func35, Try.ntmps35
   go_wp2_with (first | ((with_reducible refine zu (N := 2) rfl ?_); refine zr ?hg (N := 2) ?hd (cs := #[.int .i8 a0_0, .int .i8 a0_1, .slice A0_2 l0_2.length c0_2]) (t := 28) ?hr ?_; (case hd => rfl); (case hg => rfl); (case hr => first | (go_simp; done) | (go_simp; rfl)); intro gb426 hg w13 hbox hb; obtain ⟨n0_, n2_⟩ := bx (by repeat (first | (with_reducible first | exact HB.out | apply zg | apply zc | apply zf) | exact HB.out)) hb hg; have n1_ := ze.mk (hbox); have n3_ := n2_; clear HB; have HB := n0_; have BK426 := n1_; have GW426 := n2_; have GE426 := n3_; clear n0_ n1_ n2_ n3_; clear hb hbox hg) | ((with_reducible refine zu (N := 3) rfl ?_); refine zr ?hg (N := 3) ?hd (cs := #[.int .i8 a1_0, .int .i8 a1_1, .slice A1_2 l1_2.length c1_2]) (t := 28) ?hr ?_; (case hd => rfl); (case hg => rfl); (case hr => first | (go_simp; done) | (go_simp; rfl)); intro gb427 hg w14 hbox hb; have n0_ := ze.mk (zk (by (with_reducible repeat (first | refine zb ?_ _ | refine zd ?_ | refine za ?_ _)); exact BK426.out) hb); obtain ⟨n1_, n3_⟩ := bx (by repeat (first | (with_reducible first | exact HB.out | apply zg | apply zc | apply zf | refine zi ?_ GE426.out) | exact HB.out)) hb hg; have n2_ := ze.mk (hbox); have n4_ := n3_; have n5_ := ze.mk ((by rw [hg]; exact Nat.ne_of_lt (zba (by (with_reducible repeat (first | refine zb ?_ _ | refine zd ?_ | refine za ?_ _)); exact BK426.out)) : gb426 ≠ gb427)); have n6_ := ze.mk n5_.out.symm; clear BK426; clear HB; have BK426 := n0_; have HB := n1_; have BK427 := n2_; have GW427 := n3_; have GE427 := n4_; have NB426_427 := n5_; have NB427_426 := n6_; clear n0_ n1_ n2_ n3_ n4_ n5_ n6_; clear hb hbox hg; have hnb15 := NB426_427.out; have hnc15 := NB427_426.out; obtain ⟨y3_0, y3_1, y3_2, z3_0, z3_1, z3_2⟩ := cf3 BK426.out; obtain ⟨y4_0, y4_1, y4_2, z4_0, z4_1, z4_2⟩ := cf3 BK427.out) | ((with_reducible refine zs (f := 90) rfl ?_); refine zda (some 19) rfl rfl Try.func90 (by kernel_rfl) rfl #[.slice A0_2 l0_2.length c0_2, .slice A1_2 l1_2.length c1_2] rfl (by (try simp only [List.map_toArray, List.map_cons, List.map_nil]); first | done | rfl | (simp only [List.length_drop, List.length_take]; rfl)) ?_; (with_reducible refine (laws_eqWordS.calls k _ _ l0_2 _ _ l1_2 false _ ?side1 ?side2 ?side3 ?side4 A5.out).mono ?_); (case side1 => repeat (first | exact (Kd.C_below HR0_2.out HB.out) | (with_reducible refine Kd.C_alloc ?_ _) | (with_reducible refine Kd.C_drewN ?_ _) | (with_reducible refine Kd.C_drew ?_))); (case side2 => exact HC0_2.out); (case side3 => repeat (first | exact (Kd.C_below HR1_2.out HB.out) | (with_reducible refine Kd.C_alloc ?_ _) | (with_reducible refine Kd.C_drewN ?_ _) | (with_reducible refine Kd.C_drew ?_))); (case side4 => exact HC1_2.out); rintro e w18 ⟨rfl, hb⟩; refine ⟨_, rfl, ?_⟩; have n0_ := ze.mk (zk (by (with_reducible repeat (first | refine zb ?_ _ | refine zd ?_ | refine za ?_ _)); exact BK426.out) hb); have n1_ := ze.mk (zk (by (with_reducible repeat (first | refine zb ?_ _ | refine zd ?_ | refine za ?_ _)); exact BK427.out) hb); have n2_ := ze.mk (zt (by repeat (first | (with_reducible first | exact HB.out | apply zg | apply zc | apply zf | refine zi ?_ GE426.out | refine zi ?_ GE427.out) | exact HB.out)) hb); clear BK426; clear BK427; clear HB; have BK426 := n0_; have BK427 := n1_; have HB := n2_; clear n0_ n1_ n2_; (try clear hb); (try clear hb2); (try clear hk); (try clear hi)))
   go_ret
   exact ⟨by first | rfl | (simp [zn, zm] <;> rfl) | (simp [*, zn, zm] <;> rfl), by repeat (first | (with_reducible first | exact HB.out | apply zg | apply zc | apply zf | refine zi ?_ GE426.out | refine zi ?_ GE427.out) | exact HB.out)⟩
  rw [if_neg c4] at H
  have c4b0 : (a0_1 == a1_1) = false := beq_eq_false_iff_ne.mpr c4
  have c4b1 : (a0_1 != a1_1) = true := bne_iff_ne.mpr c4
  obtain rfl := Option.some.inj H
  go_enter Try.func35, Try.ntmps35
  go_wp2_with (first | ((with_reducible refine zu (N := 2) rfl ?_); refine zr ?hg (N := 2) ?hd (cs := #[.int .i8 a0_0, .int .i8 a0_1, .slice A0_2 l0_2.length c0_2]) (t := 28) ?hr ?_; (case hd => rfl); (case hg => rfl); (case hr => first | (go_simp; done) | (go_simp; rfl)); intro gb426 hg w19 hbox hb; obtain ⟨n0_, n2_⟩ := bx (by repeat (first | (with_reducible first | exact HB.out | apply zg | apply zc | apply zf) | exact HB.out)) hb hg; have n1_ := ze.mk (hbox); have n3_ := n2_; clear HB; have HB := n0_; have BK426 := n1_; have GW426 := n2_; have GE426 := n3_; clear n0_ n1_ n2_ n3_; clear hb hbox hg) | ((with_reducible refine zu (N := 3) rfl ?_); refine zr ?hg (N := 3) ?hd (cs := #[.int .i8 a1_0, .int .i8 a1_1, .slice A1_2 l1_2.length c1_2]) (t := 28) ?hr ?_; (case hd => rfl); (case hg => rfl); (case hr => first | (go_simp; done) | (go_simp; rfl)); intro gb427 hg w20 hbox hb; have n0_ := ze.mk (zk (by (with_reducible repeat (first | refine zb ?_ _ | refine zd ?_ | refine za ?_ _)); exact BK426.out) hb); obtain ⟨n1_, n3_⟩ := bx (by repeat (first | (with_reducible first | exact HB.out | apply zg | apply zc | apply zf | refine zi ?_ GE426.out) | exact HB.out)) hb hg; have n2_ := ze.mk (hbox); have n4_ := n3_; have n5_ := ze.mk ((by rw [hg]; exact Nat.ne_of_lt (zba (by (with_reducible repeat (first | refine zb ?_ _ | refine zd ?_ | refine za ?_ _)); exact BK426.out)) : gb426 ≠ gb427)); have n6_ := ze.mk n5_.out.symm; clear BK426; clear HB; have BK426 := n0_; have HB := n1_; have BK427 := n2_; have GW427 := n3_; have GE427 := n4_; have NB426_427 := n5_; have NB427_426 := n6_; clear n0_ n1_ n2_ n3_ n4_ n5_ n6_; clear hb hbox hg; have hnb21 := NB426_427.out; have hnc21 := NB427_426.out; obtain ⟨y5_0, y5_1, y5_2, z5_0, z5_1, z5_2⟩ := cf3 BK426.out; obtain ⟨y6_0, y6_1, y6_2, z6_0, z6_1, z6_2⟩ := cf3 BK427.out))
  go_ret
  exact ⟨by first | rfl | (simp [zn, zm] <;> rfl) | (simp [*, zn, zm] <;> rfl), by repeat (first | (with_reducible first | exact HB.out | apply zg | apply zc | apply zf | refine zi ?_ GE426.out | refine zi ?_ GE427.out) | exact HB.out)⟩
 rw [if_neg c3] at H
 have c3b0 : (a0_0 == a1_0) = false := beq_eq_false_iff_ne.mpr c3
 have c3b1 : (a0_0 != a1_0) = true := bne_iff_ne.mpr c3
 obtain rfl := Option.some.inj H
 go_enter Try.func35, Try.ntmps35
 go_wp2_with (first | ((with_reducible refine zu (N := 2) rfl ?_); refine zr ?hg (N := 2) ?hd (cs := #[.int .i8 a0_0, .int .i8 a0_1, .slice A0_2 l0_2.length c0_2]) (t := 28) ?hr ?_; (case hd => rfl); (case hg => rfl); (case hr => first | (go_simp; done) | (go_simp; rfl)); intro gb426 hg w24 hbox hb; obtain ⟨n0_, n2_⟩ := bx (by repeat (first | (with_reducible first | exact HB.out | apply zg | apply zc | apply zf) | exact HB.out)) hb hg; have n1_ := ze.mk (hbox); have n3_ := n2_; clear HB; have HB := n0_; have BK426 := n1_; have GW426 := n2_; have GE426 := n3_; clear n0_ n1_ n2_ n3_; clear hb hbox hg) | ((with_reducible refine zu (N := 3) rfl ?_); refine zr ?hg (N := 3) ?hd (cs := #[.int .i8 a1_0, .int .i8 a1_1, .slice A1_2 l1_2.length c1_2]) (t := 28) ?hr ?_; (case hd => rfl); (case hg => rfl); (case hr => first | (go_simp; done) | (go_simp; rfl)); intro gb427 hg w25 hbox hb; have n0_ := ze.mk (zk (by (with_reducible repeat (first | refine zb ?_ _ | refine zd ?_ | refine za ?_ _)); exact BK426.out) hb); obtain ⟨n1_, n3_⟩ := bx (by repeat (first | (with_reducible first | exact HB.out | apply zg | apply zc | apply zf | refine zi ?_ GE426.out) | exact HB.out)) hb hg; have n2_ := ze.mk (hbox); have n4_ := n3_; have n5_ := ze.mk ((by rw [hg]; exact Nat.ne_of_lt (zba (by (with_reducible repeat (first | refine zb ?_ _ | refine zd ?_ | refine za ?_ _)); exact BK426.out)) : gb426 ≠ gb427)); have n6_ := ze.mk n5_.out.symm; clear BK426; clear HB; have BK426 := n0_; have HB := n1_; have BK427 := n2_; have GW427 := n3_; have GE427 := n4_; have NB426_427 := n5_; have NB427_426 := n6_; clear n0_ n1_ n2_ n3_ n4_ n5_ n6_; clear hb hbox hg; have hnb26 := NB426_427.out; have hnc26 := NB427_426.out; obtain ⟨y7_0, y7_1, y7_2, z7_0, z7_1, z7_2⟩ := cf3 BK426.out; obtain ⟨y8_0, y8_1, y8_2, z8_0, z8_1, z8_2⟩ := cf3 BK427.out))
 go_ret
 exact ⟨by first | rfl | (simp [zn, zm] <;> rfl) | (simp [*, zn, zm] <;> rfl), by repeat (first | (with_reducible first | exact HB.out | apply zg | apply zc | apply zf | refine zi ?_ GE426.out | refine zi ?_ GE427.out) | exact HB.out)⟩
mutual
def laws_markWordS.l0 : Nat → List (S43) → Int → Int → Option (Int × (List (S43)))
 | 0, _, _, _ => none
 | k + 1, x0, x1, x5 => if x5 < (x0.length : Int) then (laws_markWordS.l1 k x0 x1 x5 0) else (some (x1, x0))
def laws_markWordS.l1 : Nat → List (S43) → Int → Int → Int → Option (Int × (List (S43)))
 | 0, _, _, _, _ => none
 | k + 1, x0, x1, x5, x6 => if x6 < 4 then (if 0 ≤ x5 then (if x5 < (x0.length : Int) then (if 0 ≤ x6 then (laws_markWordS.l1 k (x0.set (x5 : Int).toNat (⟨(zv x6 0 (IntKind.i8.wrap (x1)) ((zj x0 x5).f0)), (zv x6 1 (IntKind.i8.wrap (x1)) ((zj x0 x5).f1)), (zv x6 2 (IntKind.i8.wrap (x1)) ((zj x0 x5).f2)), (zv x6 3 (IntKind.i8.wrap (x1)) ((zj x0 x5).f3))⟩ : S43)) (wrap64 (x1 + 1)) x5 (wrap64 (x6 + 1))) else (none)) else (none)) else (none)) else (laws_markWordS.l0 k x0 x1 (wrap64 (x5 + 1)))
end
def laws_markWordS.f (k : Nat) (l0 : List (S43)) (a1 : Int) : Option (Int × (List (S43))) := laws_markWordS.l0 k l0 a1 0
set_option maxHeartbeats 8000000 in
set_option maxRecDepth 100000 in
theorem laws_markWordS.calls (k : Nat) (P0_ : Nat → Prop) (u9000_ : Value) (l0 : List (S43)) (a1 : Int) (r1 : Int) (r2 : List (S43)) (w0 w : World) (hB : Below w0.heap.size w0 w) (ho0 : Kd.R k43 43 w w0.heap.size P0_ u9000_ l0) (h : laws_markWordS.f k l0 a1 = some (r1, r2)) :
  Calls Try.prog 91 #[u9000_, .int .i64 a1] w fun e w' => e = .returned (.int .i64 r1) ∧ Kd.R k43 43 w' w0.heap.size (fun k_ => (P0_ k_ ∨ w.heap.size ≤ k_)) u9000_ r2 ∧ Below w0.heap.size w0 w' ∧ Kept w w' (fun k_ => P0_ k_) := by
 have HO0 := ze.mk (show Kd.R k43 43 w w0.heap.size (fun k_ => (P0_ k_ ∨ w.heap.size ≤ k_)) u9000_ l0 from Kd.R_mono ho0 (fun k_ hk => (.inl hk)))
 have HK := ze.mk (Kept.refl w (fun k_ => P0_ k_))
 have HW0 := ze.mk hB.size
 have HB := ze.mk hB
 clear hB
 have H : (laws_markWordS.l0 k l0 a1 0) = some (r1, r2) := h
 clear h
 have H' := ze.mk H
 clear H
 go_enter Try.func91, Try.ntmps91
 go_wp2
 go_loopg [1, 5] k (fun kq v1 v5 w' => ∃ (x0_1 : List (S43)) (x1_1 : Int) (x5_1 : Int), v1 = .int .i64 x1_1 ∧ v5 = .int .i64 x5_1 ∧ ze (laws_markWordS.l0 kq x0_1 x1_1 x5_1 = some (r1, r2)) ∧ ze (kq ≤ k) ∧ ze (Kd.R k43 43 w' w0.heap.size (fun k_ => (P0_ k_ ∨ w.heap.size ≤ k_)) u9000_ x0_1) ∧ ze (Kept w w' (fun k_ => P0_ k_)) ∧ ze (Below w0.heap.size w0 w'))
 case atStart => exact ⟨(l0), (a1), (0), (by first | rfl | (simp; done) | (simp [*]; done)), (by first | rfl | (simp; done) | (simp [*]; done)), H', ⟨Nat.le_refl _⟩, ⟨by (with_reducible repeat (first | apply Kd.R_alloc | apply Kd.R_drewN | apply Kd.R_drew)); exact HO0.out⟩, ⟨by repeat (first | (with_reducible first | exact HK.out | apply Kept.alloc | apply Kept.drewN | apply Kept.drew) | exact HK.out)⟩, ⟨by repeat (first | (with_reducible first | exact HB.out | apply zg | apply zc | apply zf) | exact HB.out)⟩⟩
 case round =>
  clear H'
  try clear p2
  obtain ⟨x0_1, x1_1, x5_1, rfl, rfl, HA, HK1, HO_0, HK, HB⟩ := hrel
  cases gk with
  | zero => exact absurd HA.out (by simp [laws_markWordS.l0])
  | succ k1 =>
   have H := HA.out
   clear HA
   simp only [laws_markWordS.l0] at H
   by_cases c3 : x5_1 < (x0_1.length : Int)
   ·rw [if_pos c3] at H
    have c3b0 : decide (x5_1 < (x0_1.length : Int)) = true := decide_eq_true c3
    clear c3
    have H' := ze.mk H
    clear H
    obtain ⟨Ao4, co4, eo4⟩ := Kd.R_slice HO_0.out
    subst eo4
    go_wp2
    go_loopg [1, 6] k1 (fun kq v1 v6 w' => ∃ (x0_2 : List (S43)) (x1_2 : Int) (x6_2 : Int), v1 = .int .i64 x1_2 ∧ v6 = .int .i64 x6_2 ∧ ze (laws_markWordS.l1 kq x0_2 x1_2 x5_1 x6_2 = some (r1, r2)) ∧ ze (kq ≤ k1) ∧ ze (Kd.R k43 43 w' w0.heap.size (fun k_ => (P0_ k_ ∨ w.heap.size ≤ k_)) (.slice Ao4 x0_1.length co4) x0_2) ∧ ze (Kept w w' (fun k_ => P0_ k_)) ∧ ze (Below w0.heap.size w0 w'))
    case atStart => exact ⟨(x0_1), (x1_1), (0), (by first | rfl | (simp; done) | (simp [*]; done)), (by first | rfl | (simp; done) | (simp [*]; done)), H', ⟨Nat.le_refl _⟩, ⟨by (with_reducible repeat (first | apply Kd.R_alloc | apply Kd.R_drewN | apply Kd.R_drew)); exact HO_0.out⟩, ⟨by repeat (first | (with_reducible first | exact HK.out | apply Kept.alloc | apply Kept.drewN | apply Kept.drew) | exact HK.out)⟩, ⟨by repeat (first | (with_reducible first | exact HB.out | apply zg | apply zc | apply zf) | exact HB.out)⟩⟩
    case round =>
     clear H'
     try clear p2
     try clear c3
     try clear c3b0
     try clear p2
     obtain ⟨x0_2, x1_2, x6_2, rfl, rfl, HA, HK2, HO_0, HK, HB⟩ := hrel
     have hl0_2 := (Kd.R_reads' HO_0.out).1
     rw [hl0_2] at HO_0
     (try simp only [hl0_2])
     cases gk with
     | zero => exact absurd HA.out (by simp [laws_markWordS.l1])
     | succ k2 =>
      have H := HA.out
      clear HA
      simp only [laws_markWordS.l1] at H
      by_cases c5 : x6_2 < 4
      ·rw [if_pos c5] at H
       have c5b0 : decide (x6_2 < 4) = true := decide_eq_true c5
       clear c5
       by_cases c6 : 0 ≤ x5_1
       ·rw [if_pos c6] at H
        have c6b0 : decide (0 ≤ x5_1) = true := decide_eq_true c6
        clear c6
        by_cases c7 : x5_1 < (x0_2.length : Int)
        ·rw [if_pos c7] at H
         have c7b0 : decide (x5_1 < (x0_2.length : Int)) = true := decide_eq_true c7
         clear c7
         by_cases c9 : 0 ≤ x6_2
         ·rw [if_pos c9] at H
          have c9b0 : decide (0 ≤ x6_2) = true := decide_eq_true c9
          clear c9
          obtain ⟨y430, hy430⟩ : ∃ y_ : List (S43), y_ = (x0_2.set (x5_1 : Int).toNat (⟨(zv x6_2 0 (IntKind.i8.wrap (x1_2)) ((zj x0_2 x5_1).f0)), (zv x6_2 1 (IntKind.i8.wrap (x1_2)) ((zj x0_2 x5_1).f1)), (zv x6_2 2 (IntKind.i8.wrap (x1_2)) ((zj x0_2 x5_1).f2)), (zv x6_2 3 (IntKind.i8.wrap (x1_2)) ((zj x0_2 x5_1).f3))⟩ : S43)) := ⟨_, rfl⟩
          replace H : (laws_markWordS.l1 k2 y430 (wrap64 (x1_2 + 1)) x5_1 (wrap64 (x6_2 + 1))) = some (r1, r2) := by first | (rw [hy430]; with_reducible exact H) | (have H2_ := (Option.bind_some _ _).symm.trans H; rw [hy430]; with_reducible exact H2_) | (have H2_ := (Option.bind_some _ _).symm.trans H; with_reducible exact H2_) | with_reducible exact H | (rw [hy430]; exact H) | exact H
          have Ny430 := ze.mk hy430
          clear hy430
          have H' := ze.mk H
          clear H
          have p8 : 0 ≤ (x5_1 : Int) := od (by first | (with_reducible assumption) | assumption)
          have q8 : (x5_1 : Int) < ((x0_2.length : Int) : Int) := od (by first | (with_reducible assumption) | assumption)
          obtain ⟨go8, co8, eo8, gb8, gl8, cl8, HG8⟩ := Kd.R_form HO_0.out (by omega)
          (first | cases eo8 | (injection eo8 with ea_ en_ ec_; (first | subst ea_ | (injection ea_ with ea_; subst ea_)); subst ec_; clear en_))
          have GB8 := ze.mk gb8
          have GG8 := ze.mk HG8
          clear gb8 gl8 HG8
          have HMgo8 := ze.mk (show (P0_ go8 ∨ w.heap.size ≤ go8) from (HO_0.out.1 _ rfl))
          obtain ⟨ce8, hcl8, hM8, hcc8, hfr8⟩ := Kd.R_elem HO_0.out z43 (x5_1 : Int) p8 q8
          obtain rfl := zoc hM8
          obtain ⟨u1_0, u1_1, u1_2, u1_3⟩ := rx4 (g := go8) (b := (x5_1 : Int).toNat * 4) hcc8
          obtain ⟨t1_0, t1_1, t1_2, t1_3⟩ := rf4 (g := go8) (b := (x5_1 : Int).toNat * 4) hfr8
          clear hcl8 hcc8 hfr8 hM8
          replace p8 := eq_true p8
          replace q8 := eq_true q8
          have u2_0 : wr.cell? ⟨go8, (x5_1 : Int).toNat * 4 + (x6_2).toNat, none⟩ = some (.int .i8 (rd [(zj x0_2 x5_1).f0, (zj x0_2 x5_1).f1, (zj x0_2 x5_1).f2, (zj x0_2 x5_1).f3] x6_2)) := by rcases (show (x6_2 : Int) = 0 ∨ (x6_2 : Int) = 1 ∨ (x6_2 : Int) = 2 ∨ (x6_2 : Int) = 3 by have hp_ : 0 ≤ (x6_2 : Int) := od (by first | (with_reducible assumption) | assumption); have hq_ : x6_2 < (4 : Int) := od (by first | (with_reducible assumption) | assumption); omega) with h_ | h_ | h_ | h_ <;> rw [h_] <;> first | exact u1_0 | exact u1_1 | exact u1_2 | exact u1_3
          have t2_0 : wr.frozen? ⟨go8, (x5_1 : Int).toNat * 4 + (x6_2).toNat, none⟩ = false := by rcases (show (x6_2 : Int) = 0 ∨ (x6_2 : Int) = 1 ∨ (x6_2 : Int) = 2 ∨ (x6_2 : Int) = 3 by have hp_ : 0 ≤ (x6_2 : Int) := od (by first | (with_reducible assumption) | assumption); have hq_ : x6_2 < (4 : Int) := od (by first | (with_reducible assumption) | assumption); omega) with h_ | h_ | h_ | h_ <;> rw [h_] <;> first | exact t1_0 | exact t1_1 | exact t1_2 | exact t1_3
          have p10 : 0 ≤ (x6_2 : Int) := od (by first | (with_reducible assumption) | assumption)
          have q10 : x6_2 < (4 : Int) := od (by first | (with_reducible assumption) | assumption)
          replace p10 := eq_true p10
          replace q10 := eq_true q10
          have HX11 := ze.mk (show Kd.R k43 43 wr w0.heap.size (fun k_ => (P0_ k_ ∨ w.heap.size ≤ k_)) (.slice (some ⟨go8, 0, none⟩) x0_2.length co4) x0_2 from (by (with_reducible repeat (first | apply Kd.R_alloc | apply Kd.R_drewN | apply Kd.R_drew)); exact HO_0.out))
          obtain ⟨ce11, hcl11, hM11, hcc11, hfr11⟩ := Kd.R_elem HX11.out z43 (x5_1 : Int) (od (by first | (with_reducible assumption) | assumption)) (by have h_ : (x5_1 : Int) < ((x0_2.length : Int) : Int) := od (by first | (with_reducible assumption) | assumption); first | exact h_ | (have e_ := (Kd.R_reads' HO_0.out).1; omega) | simpa using h_)
          obtain rfl := zoc hM11
          have HP11 := Kd.R_seg HX11.out (x5_1 : Int) (od (by first | (with_reducible assumption) | assumption)) (by have h_ : (x5_1 : Int) < ((x0_2.length : Int) : Int) := od (by first | (with_reducible assumption) | assumption); first | exact h_ | (have e_ := (Kd.R_reads' HO_0.out).1; omega) | simpa using h_) (seg := [.int .i8 (IntKind.i8.wrap (x1_2))]) (j := (x6_2).toNat) hcl11 hcc11 (show (x6_2).toNat + 1 ≤ 4 from by have hp_ : 0 ≤ (x6_2 : Int) := od (by first | (with_reducible assumption) | assumption); have hq_ : x6_2 < (4 : Int) := od (by first | (with_reducible assumption) | assumption); omega) (x' := (⟨(zv x6_2 0 (IntKind.i8.wrap (x1_2)) ((zj x0_2 x5_1).f0)), (zv x6_2 1 (IntKind.i8.wrap (x1_2)) ((zj x0_2 x5_1).f1)), (zv x6_2 2 (IntKind.i8.wrap (x1_2)) ((zj x0_2 x5_1).f2)), (zv x6_2 3 (IntKind.i8.wrap (x1_2)) ((zj x0_2 x5_1).f3))⟩ : S43)) (by rcases (show (x6_2 : Int) = 0 ∨ (x6_2 : Int) = 1 ∨ (x6_2 : Int) = 2 ∨ (x6_2 : Int) = 3 by have hp_ : 0 ≤ (x6_2 : Int) := od (by first | (with_reducible assumption) | assumption); have hq_ : x6_2 < (4 : Int) := od (by first | (with_reducible assumption) | assumption); omega) with h_ | h_ | h_ | h_ <;> rw [h_] <;> exact zye _ _ _ _) (fun _ hk => hk)
          skip
          (try simp only [show (k43).sz = 4 from rfl, Nat.mul_one, Nat.add_zero] at u3_0)
          skip
          (try simp only [show (k43).sz = 4 from rfl, Nat.mul_one, Nat.add_zero] at t3_0)
          clear hcl11 hcc11 hfr11 hM11
          go_wp2_with (first | ((with_reducible refine zja (t := 25) (p := 23) rfl ?_); refine zia (t := 25) (p := 23) (v := ?vo_w12) (w1 := (wr.setCell ⟨go8, (x5_1 : Int).toNat * 4 + (x6_2).toNat, none⟩ (.int .i8 (IntKind.i8.wrap (x1_2))))) ?hg ?ho ?hn ?hr ?_; (case ho => rfl); (case hg => rfl); (case hn => rfl); (case hr => first | (go_simp; done) | (go_simp; rfl)); intro w12 hw; have hg : wr.grownBy w12 (some go8) := (by rw [hw]; exact HP11.2); have hp_ : Kd.R k43 43 w12 w0.heap.size (fun k_ => (P0_ k_ ∨ w.heap.size ≤ k_)) (.slice (some ⟨go8, 0, none⟩) x0_2.length co4) y430 := (by rw [hw, Ny430.out]; exact HP11.1); clear HP11; have n0_ := ze.mk (hp_); have n1_ := ze.mk ((by rw [hw]; exact zi (HB.out) GB8.out : Below w0.heap.size w0 w12)); have n2_ := ze.mk (Kept.of_grown (S := (fun k_ => P0_ k_)) hg (by repeat (first | (with_reducible first | exact HK.out | apply Kept.alloc | apply Kept.drewN | apply Kept.drew) | exact HK.out)) (fun k_ e_ => (HO_0.out.1 k_ e_))); clear HO_0; clear HB; clear HK; have HO_0 := n0_; have HB := n1_; have HK := n2_; clear n0_ n1_ n2_; clear hg hw hp_))
          (try simp only [← hl0_2])
          go_roundg k2
          case measure => have := HK1.out; have := HK2.out; omega
          case rel => exact ⟨(y430), (wrap64 (x1_2 + 1)), (wrap64 (x6_2 + 1)), (by first | rfl | (simp; done) | (simp [*]; done)), (by first | rfl | (simp; done) | (simp [*]; done)), H', ⟨by have := HK1.out; have := HK2.out; omega⟩, ⟨by (try simp only [hl0_2]); (with_reducible repeat (first | apply Kd.R_alloc | apply Kd.R_drewN | apply Kd.R_drew)); exact HO_0.out⟩, ⟨by repeat (first | (with_reducible first | exact HK.out | apply Kept.alloc | apply Kept.drewN | apply Kept.drew) | exact HK.out)⟩, ⟨by repeat (first | (with_reducible first | exact HB.out | apply zg | apply zc | apply zf) | exact HB.out)⟩⟩
         rw [if_neg c9] at H
         exact absurd H (by simp)
        rw [if_neg c7] at H
        exact absurd H (by simp)
       rw [if_neg c6] at H
       exact absurd H (by simp)
      rw [if_neg c5] at H
      have c5b0 : decide (x6_2 < 4) = false := decide_eq_false c5
      clear c5
      have H' := ze.mk H
      clear H
      go_wp2
      (try simp only [← hl0_2])
      go_roundg k2
      case measure => have := HK1.out; have := HK2.out; omega
      case rel => exact ⟨(x0_2), (x1_2), (wrap64 (x5_1 + 1)), (by first | rfl | (simp; done) | (simp [*]; done)), (by first | rfl | (simp; done) | (simp [*]; done)), H', ⟨by have := HK1.out; have := HK2.out; omega⟩, ⟨by (try simp only [hl0_2]); (with_reducible repeat (first | apply Kd.R_alloc | apply Kd.R_drewN | apply Kd.R_drew)); exact HO_0.out⟩, ⟨by repeat (first | (with_reducible first | exact HK.out | apply Kept.alloc | apply Kept.drewN | apply Kept.drew) | exact HK.out)⟩, ⟨by repeat (first | (with_reducible first | exact HB.out | apply zg | apply zc | apply zf) | exact HB.out)⟩⟩
   rw [if_neg c3] at H
   have c3b0 : decide (x5_1 < (x0_1.length : Int)) = false := decide_eq_false c3
   clear c3
   simp only [Option.some.injEq, Prod.mk.injEq] at H
   obtain ⟨rfl, rfl⟩ := H
   obtain ⟨Ao13, co13, eo13⟩ := Kd.R_slice HO_0.out
   subst eo13
   go_wp2
   go_ret
   exact ⟨by first | rfl | (simp [zn, zm] <;> rfl) | (simp [*, zn, zm] <;> rfl), by (with_reducible repeat (first | apply Kd.R_alloc | apply Kd.R_drewN | apply Kd.R_drew)); exact HO_0.out, by repeat (first | (with_reducible first | exact HB.out | apply zg | apply zc | apply zf) | exact HB.out), by repeat (first | (with_reducible first | exact HK.out | apply Kept.alloc | apply Kept.drewN | apply Kept.drew) | exact HK.out)⟩
def laws_markFixed.f (k : Nat) (a0_0 : Int) (a0_1 : Int) (l0_2 : List (S43)) (a1 : Int) : Option (Int × (List (S43))) := (laws_markWordS.f k l0_2 a1).bind fun bt432 => (some (bt432.1, bt432.2))
set_option maxHeartbeats 8000000 in
set_option maxRecDepth 100000 in
theorem laws_markFixed.calls (k : Nat) (a0_0 : Int) (a0_1 : Int) (P0_2_ : Nat → Prop) (u9000_ : Value) (l0_2 : List (S43)) (a1 : Int) (r1 : Int) (r2 : List (S43)) (w0 w : World) (hB : Below w0.heap.size w0 w) (ho0_2 : Kd.R k43 43 w w0.heap.size P0_2_ u9000_ l0_2) (h : laws_markFixed.f k a0_0 a0_1 l0_2 a1 = some (r1, r2)) :
  Calls Try.prog 36 #[.agg #[.int .i8 a0_0, .int .i8 a0_1, u9000_], .int .i64 a1] w fun e w' => e = .returned (.int .i64 r1) ∧ Kd.R k43 43 w' w0.heap.size (fun k_ => (P0_2_ k_ ∨ w.heap.size ≤ k_)) u9000_ r2 ∧ Below w0.heap.size w0 w' ∧ Kept w w' (fun k_ => P0_2_ k_) := by
 have hu28 := Try.underlying28
 have HO0_2 := ze.mk (show Kd.R k43 43 w w0.heap.size (fun k_ => (P0_2_ k_ ∨ w.heap.size ≤ k_)) u9000_ l0_2 from Kd.R_mono ho0_2 (fun k_ hk => (.inl hk)))
 have HK := ze.mk (Kept.refl w (fun k_ => P0_2_ k_))
 have HW0 := ze.mk hB.size
 have HB := ze.mk hB
 clear hB
 have H : ((laws_markWordS.f k l0_2 a1).bind fun bt432 => (some (bt432.1, bt432.2))) = some (r1, r2) := h
 clear h
 replace H := Option.bind_eq_some_iff.mp H
 obtain ⟨⟨t432, t433⟩, A30, H⟩ := H
 replace H : (some (t432, t433)) = some (r1, r2) := H
 have A3 := ze.mk A30
 clear A30
 simp only [Option.some.injEq, Prod.mk.injEq] at H
 obtain ⟨rfl, rfl⟩ := H
 obtain ⟨Ao4, co4, eo4⟩ := Kd.R_slice HO0_2.out
 subst eo4
 go_enter Try.func36, Try.ntmps36
 go_wp2_with (first | ((with_reducible refine zu (N := 2) rfl ?_); refine zr ?hg (N := 2) ?hd (cs := #[.int .i8 a0_0, .int .i8 a0_1, .slice Ao4 l0_2.length co4]) (t := 28) ?hr ?_; (case hd => rfl); (case hg => rfl); (case hr => first | (go_simp; done) | (go_simp; rfl)); intro gb431 hg w5 hbox hb; have n0_ := ze.mk (Kd.R_below (by (with_reducible repeat (first | apply Kd.R_alloc | apply Kd.R_drewN | apply Kd.R_drew)); exact HO0_2.out) hb); have n1_ := ze.mk (Kept.below (S := (fun k_ => P0_2_ k_)) (by repeat (first | (with_reducible first | exact HK.out | apply Kept.alloc | apply Kept.drewN | apply Kept.drew) | exact HK.out)) hb); have n2_ := ze.mk (zt (by repeat (first | (with_reducible first | exact HB.out | apply zg | apply zc | apply zf) | exact HB.out)) hb); have n3_ := ze.mk (hbox); have n4_ := ze.mk ((by rw [hg]; exact (by first | exact HK.out.1 | exact (show Kept w _ (fun k_ => P0_2_ k_) from by repeat (first | (with_reducible first | exact HK.out | apply Kept.alloc | apply Kept.drewN | apply Kept.drew) | exact HK.out)).1) : w.heap.size ≤ gb431)); have n5_ := ze.mk ((by rw [hg]; exact (zaa (by repeat (first | (with_reducible first | exact HB.out | apply zg | apply zc | apply zf) | exact HB.out))) : w0.heap.size ≤ gb431)); clear HO0_2; clear HK; clear HB; have HO0_2 := n0_; have HK := n1_; have HB := n2_; have BK431 := n3_; have GW431 := n4_; have GE431 := n5_; clear n0_ n1_ n2_ n3_ n4_ n5_; clear hb hbox hg; obtain ⟨y9_0, y9_1, y9_2, z9_0, z9_1, z9_2⟩ := cf3 BK431.out) | ((with_reducible refine zs (f := 91) rfl ?_); refine zda (some 8) rfl rfl Try.func91 (by kernel_rfl) rfl #[.slice Ao4 l0_2.length co4, .int .i64 a1] rfl (by (try simp only [List.map_toArray, List.map_cons, List.map_nil]); first | done | rfl | (simp only [List.length_drop, List.length_take]; rfl)) ?_; (with_reducible refine (laws_markWordS.calls k (fun k_ => some k_ = (.slice Ao4 l0_2.length co4 : Value).ownBlock) (.slice Ao4 l0_2.length co4) l0_2 a1 t432 t433 w0 _ ?side1 ?side2 A3.out).mono ?_); (case side1 => repeat (first | (with_reducible first | exact HB.out | apply zg | apply zc | apply zf | refine zi ?_ GE431.out) | exact HB.out)); (case side2 => exact Kd.R_tight rfl HO0_2.out); rintro e w7 ⟨rfl, hy0, hb, hkp⟩; refine ⟨_, rfl, ?_⟩; have n0_ := ze.mk (Kd.R_reok rfl hy0 (fun k_ e_ => HO0_2.out.1 k_ e_)); have n1_ := ze.mk (zhb (by (with_reducible repeat (first | refine zb ?_ _ | refine zd ?_ | refine za ?_ _)); exact BK431.out) hkp (fun hs_ => (fun e_ => (Kd.R_ne HO0_2.out BK431.out (by decide)) e_) hs_)); have n2_ := ze.mk (Kept.then_ (S := (fun k_ => P0_2_ k_)) (by repeat (first | (with_reducible first | exact HK.out | apply Kept.alloc | apply Kept.drewN | apply Kept.drew | refine Kept.setCell ?_ (.inr GW431.out) _) | exact HK.out)) hkp (fun k_ hs_ => (fun e_ => (HO0_2.out.1 k_ e_.symm)) hs_)); have n3_ := ze.mk (hb); clear HO0_2; clear BK431; clear HK; clear HB; have HO0_2 := n0_; have BK431 := n1_; have HK := n2_; have HB := n3_; clear n0_ n1_ n2_ n3_; (try clear hb); (try clear hkp); (try clear hy0)))
 go_ret
 exact ⟨by first | rfl | (simp [zn, zm] <;> rfl) | (simp [*, zn, zm] <;> rfl), by (with_reducible repeat (first | apply Kd.R_alloc | apply Kd.R_drewN | apply Kd.R_drew)); exact HO0_2.out, by repeat (first | (with_reducible first | exact HB.out | apply zg | apply zc | apply zf | refine zi ?_ GE431.out) | exact HB.out), by repeat (first | (with_reducible first | exact HK.out | apply Kept.alloc | apply Kept.drewN | apply Kept.drew | refine Kept.setCell ?_ (.inr GW431.out) _) | exact HK.out)⟩
end Go.Proofs.Ytmfbcklaomigaaa.M
