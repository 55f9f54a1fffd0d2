-- Written by wip/tools/myprint.py.
import Derived.Test.YtmfbcklaomigaaaMx0
import Derived.Test.YtmfbcklaomigaaaLLoad
namespace Go.Proofs.Ytmfbcklaomigaaa.M
open Go.RowKit Go.Proofs.YtmfbcklaomigaaaW.PrintWords Go.Proofs.YtmfbcklaomigaaaW.PrintLast Go.Proofs.YtmfbcklaomigaaaW.PrintMore
attribute [local go_sem] zrb zqb zkc zhc zlb zkb ztb zub
set_option linter.unusedVariables false
set_option linter.unusedSimpArgs false
theorem eqA43 (d : Nat) (w : World) (x0 y0 : Int) (x1 y1 : Int) (x2 y2 : Int) (x3 y3 : Int) :
  (Op.equalIn (d + 2) 43 (.agg #[.int .i8 x0, .int .i8 x1, .int .i8 x2, .int .i8 x3]) (.agg #[.int .i8 y0, .int .i8 y1, .int .i8 y2, .int .i8 y3])).run Try.prog w = .ok (x0 == y0 && (x1 == y1 && (x2 == y2 && (x3 == y3)))) w := by
 obtain ⟨i, hi⟩ : ∃ i, Try.prog.info? 25 = some i := Option.isSome_iff_exists.mp (by kernel_rfl)
 rw [run_equalIn_array w (d + 1) _ _ Try.underlying43 hi, show Try.prog.cellsOf 25 = 1 by kernel_rfl, show List.range 4 = [0, 1, 2, 3] from rfl]
 refine zna (by go_simp; rfl) (by go_simp; rfl) (by go_simp) ?_
 refine zna (by go_simp; rfl) (by go_simp; rfl) (by go_simp) ?_
 refine zna (by go_simp; rfl) (by go_simp; rfl) (by go_simp) ?_
 exact zde (by go_simp; rfl) (by go_simp; rfl) (by go_simp)
theorem eqA96 (d : Nat) (w : World) (x0 y0 : Int) (x1 y1 : Int) (x2 y2 : Int) (x3 y3 : Int) (x4 y4 : Int) (x5 y5 : Int) (x6 y6 : Int) (x7 y7 : Int) (x8 y8 : Int) (x9 y9 : Int) (x10 y10 : Int) (x11 y11 : Int) (x12 y12 : Int) (x13 y13 : Int) :
  (Op.equalIn (d + 2) 96 (.agg #[.int .i8 x0, .int .i8 x1, .int .i8 x2, .int .i8 x3, .int .i8 x4, .int .i8 x5, .int .i8 x6, .int .i8 x7, .int .i8 x8, .int .i8 x9, .int .i8 x10, .int .i8 x11, .int .i8 x12, .int .i8 x13]) (.agg #[.int .i8 y0, .int .i8 y1, .int .i8 y2, .int .i8 y3, .int .i8 y4, .int .i8 y5, .int .i8 y6, .int .i8 y7, .int .i8 y8, .int .i8 y9, .int .i8 y10, .int .i8 y11, .int .i8 y12, .int .i8 y13])).run Try.prog w = .ok (x0 == y0 && (x1 == y1 && (x2 == y2 && (x3 == y3 && (x4 == y4 && (x5 == y5 && (x6 == y6 && (x7 == y7 && (x8 == y8 && (x9 == y9 && (x10 == y10 && (x11 == y11 && (x12 == y12 && (x13 == y13)))))))))))))) w := by
 obtain ⟨i, hi⟩ : ∃ i, Try.prog.info? 25 = some i := Option.isSome_iff_exists.mp (by kernel_rfl)
 rw [run_equalIn_array w (d + 1) _ _ Try.underlying96 hi, show Try.prog.cellsOf 25 = 1 by kernel_rfl, show List.range 14 = [0, 1, 2, 3, 4, 5, 6, 7, 8, 9, 10, 11, 12, 13] from rfl]
 refine zna (by go_simp; rfl) (by go_simp; rfl) (by go_simp) ?_
 refine zna (by go_simp; rfl) (by go_simp; rfl) (by go_simp) ?_
 refine zna (by go_simp; rfl) (by go_simp; rfl) (by go_simp) ?_
 refine zna (by go_simp; rfl) (by go_simp; rfl) (by go_simp) ?_
 refine zna (by go_simp; rfl) (by go_simp; rfl) (by go_simp) ?_
 refine zna (by go_simp; rfl) (by go_simp; rfl) (by go_simp) ?_
 refine zna (by go_simp; rfl) (by go_simp; rfl) (by go_simp) ?_
 refine zna (by go_simp; rfl) (by go_simp; rfl) (by go_simp) ?_
 refine zna (by go_simp; rfl) (by go_simp; rfl) (by go_simp) ?_
 refine zna (by go_simp; rfl) (by go_simp; rfl) (by go_simp) ?_
 refine zna (by go_simp; rfl) (by go_simp; rfl) (by go_simp) ?_
 refine zna (by go_simp; rfl) (by go_simp; rfl) (by go_simp) ?_
 refine zna (by go_simp; rfl) (by go_simp; rfl) (by go_simp) ?_
 exact zde (by go_simp; rfl) (by go_simp; rfl) (by go_simp)
theorem eqA129 (d : Nat) (w : World) (x0 y0 : Int) (x1 y1 : Int) (x2 y2 : Int) (x3 y3 : Int) :
  (Op.equalIn (d + 2) 129 (.agg #[.int .i64 x0, .int .i64 x1, .int .i64 x2, .int .i64 x3]) (.agg #[.int .i64 y0, .int .i64 y1, .int .i64 y2, .int .i64 y3])).run Try.prog w = .ok (x0 == y0 && (x1 == y1 && (x2 == y2 && (x3 == y3)))) w := by
 obtain ⟨i, hi⟩ : ∃ i, Try.prog.info? 3 = some i := Option.isSome_iff_exists.mp (by kernel_rfl)
 rw [run_equalIn_array w (d + 1) _ _ Try.underlying129 hi, show Try.prog.cellsOf 3 = 1 by kernel_rfl, show List.range 4 = [0, 1, 2, 3] from rfl]
 refine zna (by go_simp; rfl) (by go_simp; rfl) (by go_simp) ?_
 refine zna (by go_simp; rfl) (by go_simp; rfl) (by go_simp) ?_
 refine zna (by go_simp; rfl) (by go_simp; rfl) (by go_simp) ?_
 exact zde (by go_simp; rfl) (by go_simp; rfl) (by go_simp)
def impl_power.l0 : Nat → Int → Int → Int → Option (Int)
 | 0, _, _, _ => none
 | k + 1, x3, x4, x5 => if x5 < x4 then (impl_power.l0 k (wrap64 (x3 * 3)) x4 (wrap64 (x5 + 1))) else (some x3)
def impl_power.f (k : Nat) (a0 : Int) : Option (Int) := impl_power.l0 k 1 a0 0
set_option maxHeartbeats 8000000 in
set_option maxRecDepth 100000 in
theorem impl_power.calls (k : Nat) (a0 : Int) (r : Int) (w : World) (h : impl_power.f k a0 = some r) :
  Calls Try.prog 44 #[.int .i64 a0] w fun e w' => e = .returned (.int .i64 r) ∧ zca w w' := by
 have H : (impl_power.l0 k 1 a0 0) = some r := h
 clear h
 have H' := ze.mk H
 clear H
 go_enter Try.func44, Try.ntmps44
 go_wp2
 go_loopg [3, 5] k (fun kq v3 v5 w' => ∃ (x3_1 : Int) (x5_1 : Int), v3 = .int .i64 x3_1 ∧ v5 = .int .i64 x5_1 ∧ ze (impl_power.l0 kq x3_1 a0 x5_1 = some r) ∧ ze (kq ≤ k) ∧ zca w w')
 case atStart => exact ⟨(1), (0), (by first | rfl | (simp; done) | (simp [*]; done)), (by first | rfl | (simp; done) | (simp [*]; done)), H', ⟨Nat.le_refl _⟩, by repeat (first | exact zca.refl _ | apply zca.step)⟩
 case round =>
  clear H'
  obtain ⟨x3_1, x5_1, rfl, rfl, HA, HK1, ⟨m1, rfl⟩⟩ := hrel
  cases gk with
  | zero => exact absurd HA.out (by simp [impl_power.l0])
  | succ k1 =>
   have H := HA.out
   clear HA
   simp only [impl_power.l0] at H
   by_cases c2 : x5_1 < a0
   ·rw [if_pos c2] at H
    have c2b0 : decide (x5_1 < a0) = true := decide_eq_true c2
    clear c2
    have H' := ze.mk H
    clear H
    go_wp2
    go_roundg k1
    case measure => have := HK1.out; omega
    case rel => exact ⟨(wrap64 (x3_1 * 3)), (wrap64 (x5_1 + 1)), (by first | rfl | (simp; done) | (simp [*]; done)), (by first | rfl | (simp; done) | (simp [*]; done)), H', ⟨by have := HK1.out; omega⟩, by repeat (first | exact zca.refl _ | apply zca.step)⟩
   rw [if_neg c2] at H
   have c2b0 : decide (x5_1 < a0) = false := decide_eq_false c2
   clear c2
   obtain rfl := Option.some.inj H
   go_wp2
   go_ret
   exact ⟨by first | rfl | (simp; done) | (simp [*]; done), by repeat (first | exact zca.refl _ | apply zca.step)⟩
def impl_wordAt.l0 : Nat → Int → Int → Int → Int → Int → Int → Option (Int × Int × Int × Int)
 | 0, _, _, _, _, _, _ => none
 | k + 1, x1, x6, x103000, x103001, x103002, x103003 => if x6 ≥ 0 then (if 0 ≤ x6 then (if x6 < 4 then (impl_wordAt.l0 k (wrap64 (Int.tdiv x1 3)) (wrap64 (x6 - 1)) (zv x6 0 (IntKind.i8.wrap ((IntKind.i8.wrap (Int.tmod x1 3)) - 1)) x103000) (zv x6 1 (IntKind.i8.wrap ((IntKind.i8.wrap (Int.tmod x1 3)) - 1)) x103001) (zv x6 2 (IntKind.i8.wrap ((IntKind.i8.wrap (Int.tmod x1 3)) - 1)) x103002) (zv x6 3 (IntKind.i8.wrap ((IntKind.i8.wrap (Int.tmod x1 3)) - 1)) x103003)) else (none)) else (none)) else (some (x103000, x103001, x103002, x103003))
def impl_wordAt.f (k : Nat) (a0 : Int) (a1 : Int) : Option (Int × Int × Int × Int) := impl_wordAt.l0 k a1 (wrap64 (a0 - 1)) 0 0 0 0
set_option maxHeartbeats 8000000 in
set_option maxRecDepth 100000 in
theorem impl_wordAt.calls (k : Nat) (a0 : Int) (a1 : Int) (r1 : Int) (r2 : Int) (r3 : Int) (r4 : Int) (w : World) (h : impl_wordAt.f k a0 a1 = some (r1, r2, r3, r4)) :
  Calls Try.prog 45 #[.int .i64 a0, .int .i64 a1] w fun e w' => e = .returned (.agg #[.int .i8 r1, .int .i8 r2, .int .i8 r3, .int .i8 r4]) ∧ Below w.heap.size w w' := by
 have hu43 := Try.underlying43
 have HB := ze.mk (Below.refl w.heap.size w)
 have H : (impl_wordAt.l0 k a1 (wrap64 (a0 - 1)) 0 0 0 0) = some (r1, r2, r3, r4) := h
 clear h
 have H' := ze.mk H
 clear H
 go_enter Try.func45, Try.ntmps45
 go_wp2_with (first | ((with_reducible refine zu (N := 4) rfl ?_); refine zr ?hg (N := 4) ?hd (cs := #[.int .i8 0, .int .i8 0, .int .i8 0, .int .i8 0]) (t := 43) ?hr ?_; (case hd => rfl); (case hg => rfl); (case hr => first | (go_simp; done) | (go_simp; rfl)); intro gb101 hg w3 hbox hb; obtain ⟨n0_, n2_⟩ := bx (by repeat (first | (with_reducible first | exact HB.out | apply zg | apply zc | apply zf) | exact HB.out)) hb hg; have n1_ := ze.mk (hbox); have n3_ := n2_; clear HB; have HB := n0_; have BK101 := n1_; have GW101 := n2_; have GE101 := n3_; clear n0_ n1_ n2_ n3_; clear hb hbox hg) | ((with_reducible refine zu (N := 5) rfl ?_); refine zr ?hg (N := 5) ?hd (cs := #[.int .i8 0, .int .i8 0, .int .i8 0, .int .i8 0]) (t := 43) ?hr ?_; (case hd => rfl); (case hg => rfl); (case hr => first | (go_simp; done) | (go_simp; rfl)); intro gb102 hg w4 hbox hb; have n0_ := ze.mk (zk (by (with_reducible repeat (first | refine zb ?_ _ | refine zd ?_ | refine za ?_ _)); exact BK101.out) hb); obtain ⟨n1_, n3_⟩ := bx (by repeat (first | (with_reducible first | exact HB.out | apply zg | apply zc | apply zf | refine zi ?_ GE101.out) | exact HB.out)) hb hg; have n2_ := ze.mk (hbox); have n4_ := n3_; have n5_ := ze.mk ((by rw [hg]; exact Nat.ne_of_lt (zba (by (with_reducible repeat (first | refine zb ?_ _ | refine zd ?_ | refine za ?_ _)); exact BK101.out)) : gb101 ≠ gb102)); have n6_ := ze.mk n5_.out.symm; clear BK101; clear HB; have BK101 := n0_; have HB := n1_; have BK102 := n2_; have GW102 := n3_; have GE102 := n4_; have NB101_102 := n5_; have NB102_101 := n6_; clear n0_ n1_ n2_ n3_ n4_ n5_ n6_; clear hb hbox hg; have hnb5 := NB102_101.out; have hnc5 := NB101_102.out; obtain ⟨y1_0, y1_1, y1_2, y1_3, z1_0, z1_1, z1_2, z1_3⟩ := cf4 BK102.out))
 go_loopg [1, 6] k (fun kq v1 v6 w' => ∃ (x1_1 : Int) (x6_1 : Int) (x103000_1 : Int) (x103001_1 : Int) (x103002_1 : Int) (x103003_1 : Int), v1 = .int .i64 x1_1 ∧ v6 = .int .i64 x6_1 ∧ ze (impl_wordAt.l0 kq x1_1 x6_1 x103000_1 x103001_1 x103002_1 x103003_1 = some (r1, r2, r3, r4)) ∧ ze (kq ≤ k) ∧ ze (w'.heap[gb101]? = some (.cells #[.int .i8 0, .int .i8 0, .int .i8 0, .int .i8 0] 43 (0, 0))) ∧ ze (w'.heap[gb102]? = some (.cells #[.int .i8 x103000_1, .int .i8 x103001_1, .int .i8 x103002_1, .int .i8 x103003_1] 43 (0, 0))) ∧ ze (Below w.heap.size w w'))
 case atStart => exact ⟨(a1), (wrap64 (a0 - 1)), (0), (0), (0), (0), (by first | rfl | (simp; done) | (simp [*]; done)), (by first | rfl | (simp; done) | (simp [*]; done)), H', ⟨Nat.le_refl _⟩, ⟨by (with_reducible repeat (first | refine zb ?_ _ | refine zd ?_ | refine za ?_ _)); refine zq ?_ NB101_102.out _; (with_reducible repeat (first | refine zb ?_ _ | refine zd ?_ | refine za ?_ _)); refine zq ?_ NB101_102.out _; (with_reducible repeat (first | refine zb ?_ _ | refine zd ?_ | refine za ?_ _)); refine zq ?_ NB101_102.out _; (with_reducible repeat (first | refine zb ?_ _ | refine zd ?_ | refine za ?_ _)); refine zq ?_ NB101_102.out _; (with_reducible repeat (first | refine zb ?_ _ | refine zd ?_ | refine za ?_ _)); exact BK101.out⟩, ⟨by (with_reducible repeat (first | refine zb ?_ _ | refine zd ?_ | refine za ?_ _)); refine zp (cs := #[.int .i8 0, .int .i8 0, .int .i8 0, .int .i8 0]) ?_ 3 _ rfl; (with_reducible repeat (first | refine zb ?_ _ | refine zd ?_ | refine za ?_ _)); refine zp (cs := #[.int .i8 0, .int .i8 0, .int .i8 0, .int .i8 0]) ?_ 2 _ rfl; (with_reducible repeat (first | refine zb ?_ _ | refine zd ?_ | refine za ?_ _)); refine zp (cs := #[.int .i8 0, .int .i8 0, .int .i8 0, .int .i8 0]) ?_ 1 _ rfl; (with_reducible repeat (first | refine zb ?_ _ | refine zd ?_ | refine za ?_ _)); refine zp (cs := #[.int .i8 0, .int .i8 0, .int .i8 0, .int .i8 0]) ?_ 0 _ rfl; (with_reducible repeat (first | refine zb ?_ _ | refine zd ?_ | refine za ?_ _)); exact BK102.out⟩, ⟨by repeat (first | (with_reducible first | exact HB.out | apply zg | apply zc | apply zf | refine zi ?_ GE101.out | refine zi ?_ GE102.out) | exact HB.out)⟩⟩
 case round =>
  clear H'
  try clear p2
  try clear c4
  try clear c5
  try clear p6
  try clear y1_0 y1_1 y1_2 y1_3
  try clear z1_0 z1_1 z1_2 z1_3
  obtain ⟨x1_1, x6_1, x103000_1, x103001_1, x103002_1, x103003_1, rfl, rfl, HA, HK1, BK101, BK102, HB⟩ := hrel
  cases gk with
  | zero => exact absurd HA.out (by simp [impl_wordAt.l0])
  | succ k1 =>
   have H := HA.out
   clear HA
   simp only [impl_wordAt.l0] at H
   by_cases c7 : x6_1 ≥ 0
   ·rw [if_pos c7] at H
    have c7b0 : decide (0 ≤ x6_1) = true := decide_eq_true c7
    clear c7
    by_cases c8 : 0 ≤ x6_1
    ·rw [if_pos c8] at H
     have c8b0 : decide (0 ≤ x6_1) = true := decide_eq_true c8
     clear c8
     by_cases c9 : x6_1 < 4
     ·rw [if_pos c9] at H
      have c9b0 : decide (x6_1 < 4) = true := decide_eq_true c9
      clear c9
      have H' := ze.mk H
      clear H
      have p10 : 0 ≤ (x6_1 : Int) := od (by first | (with_reducible assumption) | assumption)
      have q10 : x6_1 < (4 : Int) := od (by first | (with_reducible assumption) | assumption)
      replace p10 := eq_true p10
      replace q10 := eq_true q10
      have hnb11 := NB102_101.out
      have hnc11 := NB101_102.out
      obtain ⟨y2_0, y2_1, y2_2, y2_3, z2_0, z2_1, z2_2, z2_3⟩ := cf4 BK102.out
      go_wp2_with (first | ((with_reducible refine zja (t := 25) (p := 19) rfl ?_); have u1_0 : wr.cell? ⟨gb102, (x6_1).toNat, none⟩ = some (.int .i8 (rd [x103000_1, x103001_1, x103002_1, x103003_1] x6_1)) := (zo BK102.out _).trans (by rcases (show (x6_1 : Int) = 0 ∨ (x6_1 : Int) = 1 ∨ (x6_1 : Int) = 2 ∨ (x6_1 : Int) = 3 by have hp_ : 0 ≤ (x6_1 : Int) := od (by first | (with_reducible assumption) | assumption); have hq_ : x6_1 < (4 : Int) := od (by first | (with_reducible assumption) | assumption); omega) with h_ | h_ | h_ | h_ <;> rw [h_] <;> rfl); have z3_0 := zw BK102.out ((x6_1).toNat); refine zia (t := 25) (p := 19) (v := ?vo_w14) (w1 := (wr.setCell ⟨gb102, (x6_1).toNat, none⟩ (.int .i8 (IntKind.i8.wrap ((IntKind.i8.wrap (Int.tmod x1_1 3)) - 1))))) ?hg ?ho ?hn ?hr ?_; (case ho => rfl); (case hg => rfl); (case hn => rfl); (case hr => first | (go_simp; done) | (go_simp; rfl)); intro w14 hw; have n0_ : ze (w14.heap[gb101]? = some (.cells #[.int .i8 0, .int .i8 0, .int .i8 0, .int .i8 0] 43 (0, 0))) := ⟨(by rw [hw]; exact (by (with_reducible repeat (first | refine zb ?_ _ | refine zd ?_ | refine za ?_ _)); refine zq ?_ NB101_102.out _; (with_reducible repeat (first | refine zb ?_ _ | refine zd ?_ | refine za ?_ _)); exact BK101.out))⟩; have n1_ : ze (w14.heap[gb102]? = some (.cells #[.int .i8 (zv x6_1 0 (IntKind.i8.wrap ((IntKind.i8.wrap (Int.tmod x1_1 3)) - 1)) x103000_1), .int .i8 (zv x6_1 1 (IntKind.i8.wrap ((IntKind.i8.wrap (Int.tmod x1_1 3)) - 1)) x103001_1), .int .i8 (zv x6_1 2 (IntKind.i8.wrap ((IntKind.i8.wrap (Int.tmod x1_1 3)) - 1)) x103002_1), .int .i8 (zv x6_1 3 (IntKind.i8.wrap ((IntKind.i8.wrap (Int.tmod x1_1 3)) - 1)) x103003_1)] 43 (0, 0))) := ⟨(by rw [hw]; exact (by (with_reducible repeat (first | refine zb ?_ _ | refine zd ?_ | refine za ?_ _)); refine zp (cs := #[.int .i8 x103000_1, .int .i8 x103001_1, .int .i8 x103002_1, .int .i8 x103003_1]) ?_ ((x6_1).toNat) _ (by rcases (show (x6_1 : Int) = 0 ∨ (x6_1 : Int) = 1 ∨ (x6_1 : Int) = 2 ∨ (x6_1 : Int) = 3 by have hp_ : 0 ≤ (x6_1 : Int) := od (by first | (with_reducible assumption) | assumption); have hq_ : x6_1 < (4 : Int) := od (by first | (with_reducible assumption) | assumption); omega) with h_ | h_ | h_ | h_ <;> rw [h_] <;> rfl); (with_reducible repeat (first | refine zb ?_ _ | refine zd ?_ | refine za ?_ _)); exact BK102.out))⟩; have n2_ : ze (Below w.heap.size w w14) := ⟨(by rw [hw]; exact (by repeat (first | (with_reducible first | exact HB.out | apply zg | apply zc | apply zf | refine zi ?_ GE101.out | refine zi ?_ GE102.out) | exact HB.out)))⟩; clear hw; clear BK101; clear BK102; clear HB; have BK101 := n0_; have BK102 := n1_; have HB := n2_; clear n0_ n1_ n2_))
      go_roundg k1
      case measure => have := HK1.out; omega
      case rel => exact ⟨(wrap64 (Int.tdiv x1_1 3)), (wrap64 (x6_1 - 1)), ((zv x6_1 0 (IntKind.i8.wrap ((IntKind.i8.wrap (Int.tmod x1_1 3)) - 1)) x103000_1)), ((zv x6_1 1 (IntKind.i8.wrap ((IntKind.i8.wrap (Int.tmod x1_1 3)) - 1)) x103001_1)), ((zv x6_1 2 (IntKind.i8.wrap ((IntKind.i8.wrap (Int.tmod x1_1 3)) - 1)) x103002_1)), ((zv x6_1 3 (IntKind.i8.wrap ((IntKind.i8.wrap (Int.tmod x1_1 3)) - 1)) x103003_1)), (by first | rfl | (simp; done) | (simp [*]; done)), (by first | rfl | (simp; done) | (simp [*]; done)), H', ⟨by have := HK1.out; omega⟩, ⟨by (with_reducible repeat (first | refine zb ?_ _ | refine zd ?_ | refine za ?_ _)); exact BK101.out⟩, ⟨by (with_reducible repeat (first | refine zb ?_ _ | refine zd ?_ | refine za ?_ _)); exact BK102.out⟩, ⟨by repeat (first | (with_reducible first | exact HB.out | apply zg | apply zc | apply zf | refine zi ?_ GE101.out | refine zi ?_ GE102.out) | exact HB.out)⟩⟩
     rw [if_neg c9] at H
     exact absurd H (by simp)
    rw [if_neg c8] at H
    exact absurd H (by simp)
   rw [if_neg c7] at H
   have c7b0 : decide (0 ≤ x6_1) = false := decide_eq_false c7
   clear c7
   simp only [Option.some.injEq, Prod.mk.injEq] at H
   obtain ⟨rfl, rfl, rfl, rfl⟩ := H
   have hnb15 := NB102_101.out
   have hnc15 := NB101_102.out
   obtain ⟨y3_0, y3_1, y3_2, y3_3, z4_0, z4_1, z4_2, z4_3⟩ := cf4 BK102.out
   obtain ⟨y4_0, y4_1, y4_2, y4_3, z5_0, z5_1, z5_2, z5_3⟩ := cf4 BK101.out
   go_wp2
   refine bodyPost_ret (results_cell_row rfl _ _ gb101 43 #[.int .i8 x103000_1, .int .i8 x103001_1, .int .i8 x103002_1, .int .i8 x103003_1] (0, 0) _ rfl (by (with_reducible repeat (first | refine zb ?_ _ | refine zd ?_ | refine za ?_ _)); refine zp (cs := #[.int .i8 x103000_1, .int .i8 x103001_1, .int .i8 x103002_1, .int .i8 0]) ?_ 3 _ rfl; (with_reducible repeat (first | refine zb ?_ _ | refine zd ?_ | refine za ?_ _)); refine zp (cs := #[.int .i8 x103000_1, .int .i8 x103001_1, .int .i8 0, .int .i8 0]) ?_ 2 _ rfl; (with_reducible repeat (first | refine zb ?_ _ | refine zd ?_ | refine za ?_ _)); refine zp (cs := #[.int .i8 x103000_1, .int .i8 0, .int .i8 0, .int .i8 0]) ?_ 1 _ rfl; (with_reducible repeat (first | refine zb ?_ _ | refine zd ?_ | refine za ?_ _)); refine zp (cs := #[.int .i8 0, .int .i8 0, .int .i8 0, .int .i8 0]) ?_ 0 _ rfl; (with_reducible repeat (first | refine zb ?_ _ | refine zd ?_ | refine za ?_ _)); exact BK101.out) Try.underlying43 rfl (by kernel_rfl)) rfl ?_
   exact ⟨by first | rfl | (simp [zn, zm] <;> rfl) | (simp [*, zn, zm] <;> rfl), by repeat (first | (with_reducible first | exact HB.out | apply zg | apply zc | apply zf | refine zi ?_ GE101.out | refine zi ?_ GE102.out) | exact HB.out)⟩
def impl_within.f (a0 : Int) (a1 : Int) (a2 : Int) : Option (Bool) := if a1 ≤ a0 then (some (decide (a0 ≤ a2))) else (some false)
set_option maxHeartbeats 8000000 in
set_option maxRecDepth 100000 in
theorem impl_within.calls (a0 : Int) (a1 : Int) (a2 : Int) (r : Bool) (w : World) (h : impl_within.f a0 a1 a2 = some r) :
  Calls Try.prog 43 #[.int .i64 a0, .int .i64 a1, .int .i64 a2] w fun e w' => e = .returned (.bool r) ∧ zca w w' := by
 have H : (if a1 ≤ a0 then (some (decide (a0 ≤ a2))) else (some false)) = some r := h
 clear h
 by_cases c4 : a1 ≤ a0
 ·rw [if_pos c4] at H
  have c4b0 : decide (a1 ≤ a0) = true := decide_eq_true c4
  clear c4
  obtain rfl := Option.some.inj H
  go_enter Try.func43, Try.ntmps43
  go_wp2
  go_ret
  exact ⟨by first | rfl | (simp; done) | (simp [*]; done), by repeat (first | exact zca.refl _ | apply zca.step)⟩
 rw [if_neg c4] at H
 have c4b0 : decide (a1 ≤ a0) = false := decide_eq_false c4
 clear c4
 obtain rfl := Option.some.inj H
 go_enter Try.func43, Try.ntmps43
 go_wp2
 go_ret
 exact ⟨by first | rfl | (simp; done) | (simp [*]; done), by repeat (first | exact zca.refl _ | apply zca.step)⟩
def impl_areLetters.f (a0 : Int) : Option (Bool) := (impl_within.f a0 1 4).bind fun t105 => (some t105)
set_option maxHeartbeats 8000000 in
set_option maxRecDepth 100000 in
theorem impl_areLetters.calls (a0 : Int) (r : Bool) (w : World) (h : impl_areLetters.f a0 = some r) :
  Calls Try.prog 41 #[.int .i64 a0] w fun e w' => e = .returned (.bool r) ∧ zca w w' := by
 have H : ((impl_within.f a0 1 4).bind fun t105 => (some t105)) = some r := h
 clear h
 replace H := Option.bind_eq_some_iff.mp H
 obtain ⟨t105, A20, H⟩ := H
 replace H : (some t105) = some r := H
 have A2 := ze.mk A20
 clear A20
 obtain rfl := Option.some.inj H
 go_enter Try.func41, Try.ntmps41
 go_wp2_with (first | ((with_reducible refine zs (f := 43) rfl ?_); refine zda (some 4) rfl rfl Try.func43 (by kernel_rfl) rfl #[.int .i64 a0, .int .i64 1, .int .i64 4] rfl (by (try simp only [List.map_toArray, List.map_cons, List.map_nil]); first | done | rfl | (simp only [List.length_drop, List.length_take]; rfl)) ?_; (with_reducible refine (impl_within.calls a0 1 4 t105 _ A2.out).mono ?_); rintro e w' ⟨rfl, ⟨nd, rfl⟩⟩; refine ⟨_, rfl, ?_⟩))
 go_ret
 exact ⟨by first | rfl | (simp; done) | (simp [*]; done), by repeat (first | exact zca.refl _ | apply zca.step)⟩
def impl_isKind.f (a0 : Int) : Option (Bool) := (impl_within.f a0 0 2).bind fun t106 => (some t106)
set_option maxHeartbeats 8000000 in
set_option maxRecDepth 100000 in
theorem impl_isKind.calls (a0 : Int) (r : Bool) (w : World) (h : impl_isKind.f a0 = some r) :
  Calls Try.prog 42 #[.int .i64 a0] w fun e w' => e = .returned (.bool r) ∧ zca w w' := by
 have H : ((impl_within.f a0 0 2).bind fun t106 => (some t106)) = some r := h
 clear h
 replace H := Option.bind_eq_some_iff.mp H
 obtain ⟨t106, A20, H⟩ := H
 replace H : (some t106) = some r := H
 have A2 := ze.mk A20
 clear A20
 obtain rfl := Option.some.inj H
 go_enter Try.func42, Try.ntmps42
 go_wp2_with (first | ((with_reducible refine zs (f := 43) rfl ?_); refine zda (some 4) rfl rfl Try.func43 (by kernel_rfl) rfl #[.int .i64 a0, .int .i64 0, .int .i64 2] rfl (by (try simp only [List.map_toArray, List.map_cons, List.map_nil]); first | done | rfl | (simp only [List.length_drop, List.length_take]; rfl)) ?_; (with_reducible refine (impl_within.calls a0 0 2 t106 _ A2.out).mono ?_); rintro e w' ⟨rfl, ⟨nd, rfl⟩⟩; refine ⟨_, rfl, ?_⟩))
 go_ret
 exact ⟨by first | rfl | (simp; done) | (simp [*]; done), by repeat (first | exact zca.refl _ | apply zca.step)⟩
def impl_Word_46.f (l0 : List (S43)) : Option (Int) := some (l0.length : Int)
set_option maxHeartbeats 8000000 in
set_option maxRecDepth 100000 in
theorem impl_Word_46.calls (A0 : Option Addr) (c0 : Nat) (l0 : List (S43)) (r : Int) (w : World) (hr0 : Kd.C k43 w A0 l0.length l0) (hc0 : l0.length ≤ c0) (h : impl_Word_46.f l0 = some r) :
  Calls Try.prog 46 #[.slice A0 l0.length c0] w fun e w' => e = .returned (.int .i64 r) ∧ zca w w' := by
 have HR0 := ze.mk hr0
 have HC0 := ze.mk hc0
 clear hr0 hc0
 have H : (some (l0.length : Int)) = some r := h
 clear h
 obtain rfl := Option.some.inj H
 go_enter Try.func46, Try.ntmps46
 go_wp2
 go_ret
 exact ⟨by first | rfl | (simp; done) | (simp [*]; done), by repeat (first | exact zca.refl _ | apply zca.step)⟩
-- NOT PRINTED: function 111 (impl_Word_111)
-- NOT PRINTED: function 94 (impl_Word_94)
def impl_ValidWord.l0 : Nat → Int → Int → Int → Int → Int → Int → Option (Bool)
 | 0, _, _, _, _, _, _ => none
 | k + 1, x0, x11, x90011000, x90011001, x90011002, x90011003 => if x11 < 4 then (if 0 ≤ x11 then (if (rd [x90011000, x90011001, x90011002, x90011003] x11) < (-1) then (some false) else (if (rd [x90011000, x90011001, x90011002, x90011003] x11) > 1 then (some false) else (if x11 ≥ x0 then (if (rd [x90011000, x90011001, x90011002, x90011003] x11) = 0 then (impl_ValidWord.l0 k x0 (wrap64 (x11 + 1)) x90011000 x90011001 x90011002 x90011003) else (some false)) else (impl_ValidWord.l0 k x0 (wrap64 (x11 + 1)) x90011000 x90011001 x90011002 x90011003)))) else (none)) else (some true)
def impl_ValidWord.f (k : Nat) (a0 : Int) (a1_0 : Int) (a1_1 : Int) (a1_2 : Int) (a1_3 : Int) : Option (Bool) := (impl_areLetters.f a0).bind fun t108 => (if t108 = true then (impl_ValidWord.l0 k a0 0 a1_0 a1_1 a1_2 a1_3) else (some false))
set_option maxHeartbeats 8000000 in
set_option maxRecDepth 100000 in
theorem impl_ValidWord.calls (k : Nat) (a0 : Int) (a1_0 : Int) (a1_1 : Int) (a1_2 : Int) (a1_3 : Int) (r : Bool) (w : World) (h : impl_ValidWord.f k a0 a1_0 a1_1 a1_2 a1_3 = some r) :
  Calls Try.prog 78 #[.int .i64 a0, .agg #[.int .i8 a1_0, .int .i8 a1_1, .int .i8 a1_2, .int .i8 a1_3]] w fun e w' => e = .returned (.bool r) ∧ Below w.heap.size w w' := by
 have hu43 := Try.underlying43
 have HB := ze.mk (Below.refl w.heap.size w)
 have H : ((impl_areLetters.f a0).bind fun t108 => (if t108 = true then (impl_ValidWord.l0 k a0 0 a1_0 a1_1 a1_2 a1_3) else (some false))) = some r := h
 clear h
 replace H := Option.bind_eq_some_iff.mp H
 obtain ⟨t108, A30, H⟩ := H
 replace H : (if t108 = true then (impl_ValidWord.l0 k a0 0 a1_0 a1_1 a1_2 a1_3) else (some false)) = some r := H
 have A3 := ze.mk A30
 clear A30
 by_cases c4 : t108 = true
 ·subst c4
  have H1 : (impl_ValidWord.l0 k a0 0 a1_0 a1_1 a1_2 a1_3) = some r := by rw [if_pos rfl] at H; exact H
  clear H
  have H := H1
  clear H1
  have H' := ze.mk H
  clear H
  go_enter Try.func78, Try.ntmps78
  go_wp2_with (first | ((with_reducible refine zu (N := 3) rfl ?_); refine zr ?hg (N := 3) ?hd (cs := #[.int .i8 a1_0, .int .i8 a1_1, .int .i8 a1_2, .int .i8 a1_3]) (t := 43) ?hr ?_; (case hd => rfl); (case hg => rfl); (case hr => first | (go_simp; done) | (go_simp; rfl)); intro gb107 hg w5 hbox hb; obtain ⟨n0_, n2_⟩ := bx (by repeat (first | (with_reducible first | exact HB.out | apply zg | apply zc | apply zf) | exact HB.out)) hb hg; have n1_ := ze.mk (hbox); have n3_ := n2_; clear HB; have HB := n0_; have BK107 := n1_; have GW107 := n2_; have GE107 := n3_; clear n0_ n1_ n2_ n3_; clear hb hbox hg) | ((with_reducible refine zs (f := 41) rfl ?_); refine zda (some 8) rfl rfl Try.func41 (by kernel_rfl) rfl #[.int .i64 a0] rfl (by (try simp only [List.map_toArray, List.map_cons, List.map_nil]); first | done | rfl | (simp only [List.length_drop, List.length_take]; rfl)) ?_; (with_reducible refine (impl_areLetters.calls a0 true _ A3.out).mono ?_); rintro e w' ⟨rfl, ⟨nd, rfl⟩⟩; refine ⟨_, rfl, ?_⟩; obtain ⟨y1_0, y1_1, y1_2, y1_3, z1_0, z1_1, z1_2, z1_3⟩ := cf4 BK107.out))
  go_loopg [11] k (fun kq v11 w' => ∃ (x11_1 : Int), v11 = .int .i64 x11_1 ∧ ze (impl_ValidWord.l0 kq a0 x11_1 a1_0 a1_1 a1_2 a1_3 = some r) ∧ ze (kq ≤ k) ∧ ze (w'.heap[gb107]? = some (.cells #[.int .i8 a1_0, .int .i8 a1_1, .int .i8 a1_2, .int .i8 a1_3] 43 (0, 0))) ∧ ze (Below w.heap.size w w'))
  case atStart => exact ⟨(0), (by first | rfl | (simp; done) | (simp [*]; done)), H', ⟨Nat.le_refl _⟩, ⟨by (with_reducible repeat (first | refine zb ?_ _ | refine zd ?_ | refine za ?_ _)); exact BK107.out⟩, ⟨by repeat (first | (with_reducible first | exact HB.out | apply zg | apply zc | apply zf | refine zi ?_ GE107.out) | exact HB.out)⟩⟩
  case round =>
   clear H'
   try clear p2
   try clear c4
   try clear y1_0 y1_1 y1_2 y1_3
   try clear z1_0 z1_1 z1_2 z1_3
   obtain ⟨x11_1, rfl, HA, HK1, BK107, HB⟩ := hrel
   cases gk with
   | zero => exact absurd HA.out (by simp [impl_ValidWord.l0])
   | succ k1 =>
    have H := HA.out
    clear HA
    simp only [impl_ValidWord.l0] at H
    by_cases c7 : x11_1 < 4
    ·rw [if_pos c7] at H
     have c7b0 : decide (x11_1 < 4) = true := decide_eq_true c7
     clear c7
     by_cases c8 : 0 ≤ x11_1
     ·rw [if_pos c8] at H
      have c8b0 : decide (0 ≤ x11_1) = true := decide_eq_true c8
      clear c8
      by_cases c9 : (rd [a1_0, a1_1, a1_2, a1_3] x11_1) < (-1)
      ·rw [if_pos c9] at H
       have c9b0 : decide ((rd [a1_0, a1_1, a1_2, a1_3] x11_1) < (-1)) = true := decide_eq_true c9
       clear c9
       obtain rfl := Option.some.inj H
       have u1_0 : ∀ W_ : World, (Instr.index 43 (.agg #[.int .i8 a1_0, .int .i8 a1_1, .int .i8 a1_2, .int .i8 a1_3]) (.int .i64 x11_1)).run Try.prog W_ = .ok (.int .i8 (rd [a1_0, a1_1, a1_2, a1_3] x11_1)) W_ := by intro W_; rcases (show (x11_1 : Int) = 0 ∨ (x11_1 : Int) = 1 ∨ (x11_1 : Int) = 2 ∨ (x11_1 : Int) = 3 by have hp_ : 0 ≤ (x11_1 : Int) := od (by first | (with_reducible assumption) | assumption); have hq_ : x11_1 < (4 : Int) := od (by first | (with_reducible assumption) | assumption); omega) with h_ | h_ | h_ | h_ <;> rw [h_] <;> kernel_rfl
       go_wp2
       go_ret
       exact ⟨by first | rfl | (simp [zn, zm] <;> rfl) | (simp [*, zn, zm] <;> rfl), by repeat (first | (with_reducible first | exact HB.out | apply zg | apply zc | apply zf | refine zi ?_ GE107.out) | exact HB.out)⟩
      rw [if_neg c9] at H
      have c9b0 : decide ((rd [a1_0, a1_1, a1_2, a1_3] x11_1) < (-1)) = false := decide_eq_false c9
      clear c9
      by_cases c11 : (rd [a1_0, a1_1, a1_2, a1_3] x11_1) > 1
      ·rw [if_pos c11] at H
       have c11b0 : decide (1 < (rd [a1_0, a1_1, a1_2, a1_3] x11_1)) = true := decide_eq_true c11
       clear c11
       obtain rfl := Option.some.inj H
       have u2_0 : ∀ W_ : World, (Instr.index 43 (.agg #[.int .i8 a1_0, .int .i8 a1_1, .int .i8 a1_2, .int .i8 a1_3]) (.int .i64 x11_1)).run Try.prog W_ = .ok (.int .i8 (rd [a1_0, a1_1, a1_2, a1_3] x11_1)) W_ := by intro W_; rcases (show (x11_1 : Int) = 0 ∨ (x11_1 : Int) = 1 ∨ (x11_1 : Int) = 2 ∨ (x11_1 : Int) = 3 by have hp_ : 0 ≤ (x11_1 : Int) := od (by first | (with_reducible assumption) | assumption); have hq_ : x11_1 < (4 : Int) := od (by first | (with_reducible assumption) | assumption); omega) with h_ | h_ | h_ | h_ <;> rw [h_] <;> kernel_rfl
       go_wp2
       go_ret
       exact ⟨by first | rfl | (simp [zn, zm] <;> rfl) | (simp [*, zn, zm] <;> rfl), by repeat (first | (with_reducible first | exact HB.out | apply zg | apply zc | apply zf | refine zi ?_ GE107.out) | exact HB.out)⟩
      rw [if_neg c11] at H
      have c11b0 : decide (1 < (rd [a1_0, a1_1, a1_2, a1_3] x11_1)) = false := decide_eq_false c11
      clear c11
      by_cases c13 : x11_1 ≥ a0
      ·rw [if_pos c13] at H
       have c13b0 : decide (a0 ≤ x11_1) = true := decide_eq_true c13
       clear c13
       by_cases c14 : (rd [a1_0, a1_1, a1_2, a1_3] x11_1) = 0
       ·rw [if_pos c14] at H
        have c14b0 : ((rd [a1_0, a1_1, a1_2, a1_3] x11_1) == 0) = true := beq_iff_eq.mpr c14
        have c14b1 : ((rd [a1_0, a1_1, a1_2, a1_3] x11_1) != 0) = false := bne_eq_false_iff_eq.mpr c14
        clear c14
        have H' := ze.mk H
        clear H
        have u3_0 : ∀ W_ : World, (Instr.index 43 (.agg #[.int .i8 a1_0, .int .i8 a1_1, .int .i8 a1_2, .int .i8 a1_3]) (.int .i64 x11_1)).run Try.prog W_ = .ok (.int .i8 (rd [a1_0, a1_1, a1_2, a1_3] x11_1)) W_ := by intro W_; rcases (show (x11_1 : Int) = 0 ∨ (x11_1 : Int) = 1 ∨ (x11_1 : Int) = 2 ∨ (x11_1 : Int) = 3 by have hp_ : 0 ≤ (x11_1 : Int) := od (by first | (with_reducible assumption) | assumption); have hq_ : x11_1 < (4 : Int) := od (by first | (with_reducible assumption) | assumption); omega) with h_ | h_ | h_ | h_ <;> rw [h_] <;> kernel_rfl
        go_wp2
        go_roundg k1
        case measure => have := HK1.out; omega
        case rel => exact ⟨(wrap64 (x11_1 + 1)), (by first | rfl | (simp; done) | (simp [*]; done)), H', ⟨by have := HK1.out; omega⟩, ⟨by (with_reducible repeat (first | refine zb ?_ _ | refine zd ?_ | refine za ?_ _)); exact BK107.out⟩, ⟨by repeat (first | (with_reducible first | exact HB.out | apply zg | apply zc | apply zf | refine zi ?_ GE107.out) | exact HB.out)⟩⟩
       rw [if_neg c14] at H
       have c14b0 : ((rd [a1_0, a1_1, a1_2, a1_3] x11_1) == 0) = false := beq_eq_false_iff_ne.mpr c14
       have c14b1 : ((rd [a1_0, a1_1, a1_2, a1_3] x11_1) != 0) = true := bne_iff_ne.mpr c14
       obtain rfl := Option.some.inj H
       have u4_0 : ∀ W_ : World, (Instr.index 43 (.agg #[.int .i8 a1_0, .int .i8 a1_1, .int .i8 a1_2, .int .i8 a1_3]) (.int .i64 x11_1)).run Try.prog W_ = .ok (.int .i8 (rd [a1_0, a1_1, a1_2, a1_3] x11_1)) W_ := by intro W_; rcases (show (x11_1 : Int) = 0 ∨ (x11_1 : Int) = 1 ∨ (x11_1 : Int) = 2 ∨ (x11_1 : Int) = 3 by have hp_ : 0 ≤ (x11_1 : Int) := od (by first | (with_reducible assumption) | assumption); have hq_ : x11_1 < (4 : Int) := od (by first | (with_reducible assumption) | assumption); omega) with h_ | h_ | h_ | h_ <;> rw [h_] <;> kernel_rfl
       go_wp2
       go_ret
       exact ⟨by first | rfl | (simp [zn, zm] <;> rfl) | (simp [*, zn, zm] <;> rfl), by repeat (first | (with_reducible first | exact HB.out | apply zg | apply zc | apply zf | refine zi ?_ GE107.out) | exact HB.out)⟩
      rw [if_neg c13] at H
      have c13b0 : decide (a0 ≤ x11_1) = false := decide_eq_false c13
      clear c13
      have H' := ze.mk H
      clear H
      have u5_0 : ∀ W_ : World, (Instr.index 43 (.agg #[.int .i8 a1_0, .int .i8 a1_1, .int .i8 a1_2, .int .i8 a1_3]) (.int .i64 x11_1)).run Try.prog W_ = .ok (.int .i8 (rd [a1_0, a1_1, a1_2, a1_3] x11_1)) W_ := by intro W_; rcases (show (x11_1 : Int) = 0 ∨ (x11_1 : Int) = 1 ∨ (x11_1 : Int) = 2 ∨ (x11_1 : Int) = 3 by have hp_ : 0 ≤ (x11_1 : Int) := od (by first | (with_reducible assumption) | assumption); have hq_ : x11_1 < (4 : Int) := od (by first | (with_reducible assumption) | assumption); omega) with h_ | h_ | h_ | h_ <;> rw [h_] <;> kernel_rfl
      go_wp2
      go_roundg k1
      case measure => have := HK1.out; omega
      case rel => exact ⟨(wrap64 (x11_1 + 1)), (by first | rfl | (simp; done) | (simp [*]; done)), H', ⟨by have := HK1.out; omega⟩, ⟨by (with_reducible repeat (first | refine zb ?_ _ | refine zd ?_ | refine za ?_ _)); exact BK107.out⟩, ⟨by repeat (first | (with_reducible first | exact HB.out | apply zg | apply zc | apply zf | refine zi ?_ GE107.out) | exact HB.out)⟩⟩
     rw [if_neg c8] at H
     exact absurd H (by simp)
    rw [if_neg c7] at H
    have c7b0 : decide (x11_1 < 4) = false := decide_eq_false c7
    clear c7
    obtain rfl := Option.some.inj H
    go_wp2
    go_ret
    exact ⟨by first | rfl | (simp [zn, zm] <;> rfl) | (simp [*, zn, zm] <;> rfl), by repeat (first | (with_reducible first | exact HB.out | apply zg | apply zc | apply zf | refine zi ?_ GE107.out) | exact HB.out)⟩
 replace c4 := Bool.eq_false_iff.mpr c4
 subst c4
 have H1 : (some false) = some r := by rw [if_neg (show ¬ (false = true) by decide)] at H; exact H
 clear H
 have H := H1
 clear H1
 obtain rfl := Option.some.inj H
 go_enter Try.func78, Try.ntmps78
 go_wp2_with (first | ((with_reducible refine zu (N := 3) rfl ?_); refine zr ?hg (N := 3) ?hd (cs := #[.int .i8 a1_0, .int .i8 a1_1, .int .i8 a1_2, .int .i8 a1_3]) (t := 43) ?hr ?_; (case hd => rfl); (case hg => rfl); (case hr => first | (go_simp; done) | (go_simp; rfl)); intro gb107 hg w18 hbox hb; obtain ⟨n0_, n2_⟩ := bx (by repeat (first | (with_reducible first | exact HB.out | apply zg | apply zc | apply zf) | exact HB.out)) hb hg; have n1_ := ze.mk (hbox); have n3_ := n2_; clear HB; have HB := n0_; have BK107 := n1_; have GW107 := n2_; have GE107 := n3_; clear n0_ n1_ n2_ n3_; clear hb hbox hg) | ((with_reducible refine zs (f := 41) rfl ?_); refine zda (some 8) rfl rfl Try.func41 (by kernel_rfl) rfl #[.int .i64 a0] rfl (by (try simp only [List.map_toArray, List.map_cons, List.map_nil]); first | done | rfl | (simp only [List.length_drop, List.length_take]; rfl)) ?_; (with_reducible refine (impl_areLetters.calls a0 false _ A3.out).mono ?_); rintro e w' ⟨rfl, ⟨nd, rfl⟩⟩; refine ⟨_, rfl, ?_⟩))
 go_ret
 exact ⟨by first | rfl | (simp [zn, zm] <;> rfl) | (simp [*, zn, zm] <;> rfl), by repeat (first | (with_reducible first | exact HB.out | apply zg | apply zc | apply zf | refine zi ?_ GE107.out) | exact HB.out)⟩
def impl_ValidFixed_1.f (k : Nat) (a0_0 : Int) (a0_1 : Int) (a0_2 : Int) (a0_3 : Int) (a1_0 : Int) : Option (Bool) := (impl_ValidWord.f k a1_0 a0_0 a0_1 a0_2 a0_3).bind fun t111 => (some (!t111))
set_option maxHeartbeats 8000000 in
set_option maxRecDepth 100000 in
theorem impl_ValidFixed_1.calls (k : Nat) (a0_0 : Int) (a0_1 : Int) (a0_2 : Int) (a0_3 : Int) (g1 : Nat) (a1_0 : Int) (r : Bool) (w : World) (hb1 : w.heap[g1]? = some (.cells #[.int .i64 a1_0] 2 (0, 0))) (h : impl_ValidFixed_1.f k a0_0 a0_1 a0_2 a0_3 a1_0 = some r) :
  Calls Try.prog 95 #[.agg #[.int .i8 a0_0, .int .i8 a0_1, .int .i8 a0_2, .int .i8 a0_3], .pointer (some ⟨g1, 0, none⟩)] w fun e w' => e = .returned (.bool r) ∧ Below w.heap.size w w' := by
 have hu43 := Try.underlying43
 have BK1 := ze.mk hb1
 clear hb1
 have HB := ze.mk (Below.refl w.heap.size w)
 have H : ((impl_ValidWord.f k a1_0 a0_0 a0_1 a0_2 a0_3).bind fun t111 => (some (!t111))) = some r := h
 clear h
 replace H := Option.bind_eq_some_iff.mp H
 obtain ⟨t111, A30, H⟩ := H
 replace H : (some (!t111)) = some r := H
 have A3 := ze.mk A30
 clear A30
 obtain rfl := Option.some.inj H
 go_enter Try.func95, Try.ntmps95
 go_wp2_with (first | ((with_reducible refine zu (N := 2) rfl ?_); refine zr ?hg (N := 2) ?hd (cs := #[.int .i8 a0_0, .int .i8 a0_1, .int .i8 a0_2, .int .i8 a0_3]) (t := 43) ?hr ?_; (case hd => rfl); (case hg => rfl); (case hr => first | (go_simp; done) | (go_simp; rfl)); intro gb110 hg w4 hbox hb; have n0_ := ze.mk (zk (g := g1) (o := .cells #[.int .i64 a1_0] 2 (0, 0)) (by (with_reducible repeat (first | refine zb ?_ _ | refine zd ?_ | refine za ?_ _)); exact BK1.out) hb); obtain ⟨n1_, n3_⟩ := bx (by repeat (first | (with_reducible first | exact HB.out | apply zg | apply zc | apply zf) | exact HB.out)) hb hg; have n2_ := ze.mk (hbox); have n4_ := n3_; have n5_ := ze.mk ((by rw [hg]; exact Nat.ne_of_lt (zba (g := g1) (o := .cells #[.int .i64 a1_0] 2 (0, 0)) (by (with_reducible repeat (first | refine zb ?_ _ | refine zd ?_ | refine za ?_ _)); exact BK1.out)) : g1 ≠ gb110)); have n6_ := ze.mk ((by rw [hg]; exact Nat.ne_of_gt (zba (g := g1) (o := .cells #[.int .i64 a1_0] 2 (0, 0)) (by (with_reducible repeat (first | refine zb ?_ _ | refine zd ?_ | refine za ?_ _)); exact BK1.out)) : gb110 ≠ g1)); clear BK1; clear HB; have BK1 := n0_; have HB := n1_; have BK110 := n2_; have GW110 := n3_; have GE110 := n4_; have NB1_110 := n5_; have NB110_1 := n6_; clear n0_ n1_ n2_ n3_ n4_ n5_ n6_; clear hb hbox hg; have hnb5 := NB1_110.out; have hnc5 := NB110_1.out; have y1_0 := cz BK1.out 0 rfl; have z1_0 := zw BK1.out 0; obtain ⟨y2_0, y2_1, y2_2, y2_3, z2_0, z2_1, z2_2, z2_3⟩ := cf4 BK110.out) | ((with_reducible refine zs (f := 78) rfl ?_); refine zda (some 6) rfl rfl Try.func78 (by kernel_rfl) rfl #[.int .i64 a1_0, .agg #[.int .i8 a0_0, .int .i8 a0_1, .int .i8 a0_2, .int .i8 a0_3]] rfl (by (try simp only [List.map_toArray, List.map_cons, List.map_nil]); first | done | rfl | (simp only [List.length_drop, List.length_take]; rfl)) ?_; (with_reducible refine (impl_ValidWord.calls k a1_0 a0_0 a0_1 a0_2 a0_3 t111 _ A3.out).mono ?_); rintro e w8 ⟨rfl, hb⟩; refine ⟨_, rfl, ?_⟩; have n0_ := ze.mk (zk (g := g1) (o := .cells #[.int .i64 a1_0] 2 (0, 0)) (by (with_reducible repeat (first | refine zb ?_ _ | refine zd ?_ | refine za ?_ _)); exact BK1.out) hb); have n1_ := ze.mk (zk (by (with_reducible repeat (first | refine zb ?_ _ | refine zd ?_ | refine za ?_ _)); exact BK110.out) hb); have n2_ := ze.mk (zt (by repeat (first | (with_reducible first | exact HB.out | apply zg | apply zc | apply zf | refine zi ?_ GE110.out) | exact HB.out)) hb); clear BK1; clear BK110; clear HB; have BK1 := n0_; have BK110 := n1_; have HB := n2_; clear n0_ n1_ n2_; (try clear hb); (try clear hb2); (try clear hk); (try clear hi)))
 go_ret
 exact ⟨by first | rfl | (simp [zn, zm] <;> rfl) | (simp [*, zn, zm] <;> rfl), by repeat (first | (with_reducible first | exact HB.out | apply zg | apply zc | apply zf | refine zi ?_ GE110.out) | exact HB.out)⟩
def impl_Word_111_95.l0 : Nat → List (S43) → Int → Int → Int → Option (Int)
 | 0, _, _, _, _ => none
 | k + 1, x0, x7, x8, x31000 => if x8 < x7 then (if 0 ≤ x8 then (if x8 < (x0.length : Int) then ((impl_ValidFixed_1.f k ((zj x0 x8).f0) ((zj x0 x8).f1) ((zj x0 x8).f2) ((zj x0 x8).f3) x31000).bind fun t113 => (if t113 = true then (some x8) else (impl_Word_111_95.l0 k x0 x7 (wrap64 (x8 + 1)) x31000))) else (none)) else (none)) else (some (-1))
def impl_Word_111_95.f (k : Nat) (l0 : List (S43)) (a1_0 : Int) : Option (Int) := impl_Word_111_95.l0 k l0 (l0.length : Int) 0 a1_0
set_option maxHeartbeats 8000000 in
set_option maxRecDepth 100000 in
theorem impl_Word_111_95.calls (k : Nat) (A0 : Option Addr) (c0 : Nat) (l0 : List (S43)) (g200 : Nat) (a1_0 : Int) (r : Int) (w : World) (hr0 : Kd.C k43 w A0 l0.length l0) (hc0 : l0.length ≤ c0) (hb30 : w.heap[g200]? = some (.cells #[.int .i64 a1_0] 2 (0, 0))) (h : impl_Word_111_95.f k l0 a1_0 = some r) :
  Calls Try.prog 111 #[.slice A0 l0.length c0, .func (.func 95) #[] #[.pointer (some ⟨g200, 0, none⟩)]] w fun e w' => e = .returned (.int .i64 r) ∧ Below w.heap.size w w' := by
 have hu43 := Try.underlying43
 have HR0 := ze.mk hr0
 have HC0 := ze.mk hc0
 clear hr0 hc0
 have BK30 := ze.mk hb30
 clear hb30
 have HB := ze.mk (Below.refl w.heap.size w)
 have H : (impl_Word_111_95.l0 k l0 (l0.length : Int) 0 a1_0) = some r := h
 clear h
 have H' := ze.mk H
 clear H
 go_enter Try.func111, Try.ntmps111
 go_wp2
 go_loopg [8] k (fun kq v8 w' => ∃ (x8_1 : Int), v8 = .int .i64 x8_1 ∧ ze (impl_Word_111_95.l0 kq l0 (l0.length : Int) x8_1 a1_0 = some r) ∧ ze (kq ≤ k) ∧ ze (w'.heap[g200]? = some (.cells #[.int .i64 a1_0] 2 (0, 0))) ∧ ze (Below w.heap.size w w'))
 case atStart => exact ⟨(0), (by first | rfl | (simp; done) | (simp [*]; done)), H', ⟨Nat.le_refl _⟩, ⟨by (with_reducible repeat (first | refine zb ?_ _ | refine zd ?_ | refine za ?_ _)); exact BK30.out⟩, ⟨by repeat (first | (with_reducible first | exact HB.out | apply zg | apply zc | apply zf) | exact HB.out)⟩⟩
 case round =>
  clear H'
  try clear c1
  try clear p2
  obtain ⟨x8_1, rfl, HA, HK1, BK30, HB⟩ := hrel
  cases gk with
  | zero => exact absurd HA.out (by simp [impl_Word_111_95.l0])
  | succ k1 =>
   have H := HA.out
   clear HA
   simp only [impl_Word_111_95.l0] at H
   by_cases c3 : x8_1 < (l0.length : Int)
   ·rw [if_pos c3] at H
    have c3b0 : decide (x8_1 < (l0.length : Int)) = true := decide_eq_true c3
    clear c3
    by_cases c4 : 0 ≤ x8_1
    ·rw [if_pos c4] at H
     have c4b0 : decide (0 ≤ x8_1) = true := decide_eq_true c4
     clear c4
     by_cases c5 : x8_1 < (l0.length : Int)
     ·rw [if_pos c5] at H
      have c5b0 : decide (x8_1 < (l0.length : Int)) = true := decide_eq_true c5
      clear c5
      replace H := Option.bind_eq_some_iff.mp H
      obtain ⟨t113, A60, H⟩ := H
      replace H : (if t113 = true then (some x8_1) else (impl_Word_111_95.l0 k1 l0 (l0.length : Int) (wrap64 (x8_1 + 1)) a1_0)) = some r := H
      have A6 := ze.mk A60
      clear A60
      by_cases c7 : t113 = true
      ·subst c7
       have H1 : (some x8_1) = some r := by rw [if_pos rfl] at H; exact H
       clear H
       have H := H1
       clear H1
       obtain rfl := Option.some.inj H
       have p112 : 0 ≤ (x8_1 : Int) := od (by first | (with_reducible assumption) | assumption)
       have q112 : x8_1 < (l0.length : Int) := od (by first | (with_reducible assumption) | assumption)
       obtain ⟨ad112, e112, u6_0, u6_1, u6_2, u6_3⟩ := zoe HB.out HR0.out x8_1 p112 q112
       cases e112
       replace p112 := eq_true p112
       replace q112 := eq_true q112
       go_wp2_with (first | (go_at_call 95; (with_reducible refine (impl_ValidFixed_1.calls k1 ((zj l0 x8_1).f0) ((zj l0 x8_1).f1) ((zj l0 x8_1).f2) ((zj l0 x8_1).f3) g200 a1_0 true _ ?side1 A6.out).mono ?_); (case side1 => (with_reducible repeat (first | refine zb ?_ _ | refine zd ?_ | refine za ?_ _)); exact BK30.out); rintro e w8 ⟨rfl, hb⟩; have n0_ := ze.mk (zk (g := g200) (o := .cells #[.int .i64 a1_0] 2 (0, 0)) (by (with_reducible repeat (first | refine zb ?_ _ | refine zd ?_ | refine za ?_ _)); exact BK30.out) hb); have n1_ := ze.mk (zt (by repeat (first | (with_reducible first | exact HB.out | apply zg | apply zc | apply zf) | exact HB.out)) hb); clear BK30; clear HB; have BK30 := n0_; have HB := n1_; clear n0_ n1_; (try clear hb); (try clear hb2); (try clear hk); (try clear hi)))
       go_ret
       exact ⟨by first | rfl | (simp [zn, zm] <;> rfl) | (simp [*, zn, zm] <;> rfl), by repeat (first | (with_reducible first | exact HB.out | apply zg | apply zc | apply zf) | exact HB.out)⟩
      replace c7 := Bool.eq_false_iff.mpr c7
      subst c7
      have H1 : (impl_Word_111_95.l0 k1 l0 (l0.length : Int) (wrap64 (x8_1 + 1)) a1_0) = some r := by rw [if_neg (show ¬ (false = true) by decide)] at H; exact H
      clear H
      have H := H1
      clear H1
      have H' := ze.mk H
      clear H
      have p112 : 0 ≤ (x8_1 : Int) := od (by first | (with_reducible assumption) | assumption)
      have q112 : x8_1 < (l0.length : Int) := od (by first | (with_reducible assumption) | assumption)
      obtain ⟨ad112, e112, u6_0, u6_1, u6_2, u6_3⟩ := zoe HB.out HR0.out x8_1 p112 q112
      cases e112
      replace p112 := eq_true p112
      replace q112 := eq_true q112
      go_wp2_with (first | (go_at_call 95; (with_reducible refine (impl_ValidFixed_1.calls k1 ((zj l0 x8_1).f0) ((zj l0 x8_1).f1) ((zj l0 x8_1).f2) ((zj l0 x8_1).f3) g200 a1_0 false _ ?side1 A6.out).mono ?_); (case side1 => (with_reducible repeat (first | refine zb ?_ _ | refine zd ?_ | refine za ?_ _)); exact BK30.out); rintro e w9 ⟨rfl, hb⟩; have n0_ := ze.mk (zk (g := g200) (o := .cells #[.int .i64 a1_0] 2 (0, 0)) (by (with_reducible repeat (first | refine zb ?_ _ | refine zd ?_ | refine za ?_ _)); exact BK30.out) hb); have n1_ := ze.mk (zt (by repeat (first | (with_reducible first | exact HB.out | apply zg | apply zc | apply zf) | exact HB.out)) hb); clear BK30; clear HB; have BK30 := n0_; have HB := n1_; clear n0_ n1_; (try clear hb); (try clear hb2); (try clear hk); (try clear hi)))
      go_roundg k1
      case measure => have := HK1.out; omega
      case rel => exact ⟨(wrap64 (x8_1 + 1)), (by first | rfl | (simp; done) | (simp [*]; done)), H', ⟨by have := HK1.out; omega⟩, ⟨by (with_reducible repeat (first | refine zb ?_ _ | refine zd ?_ | refine za ?_ _)); exact BK30.out⟩, ⟨by repeat (first | (with_reducible first | exact HB.out | apply zg | apply zc | apply zf) | exact HB.out)⟩⟩
     rw [if_neg c5] at H
     exact absurd H (by simp)
    rw [if_neg c4] at H
    exact absurd H (by simp)
   rw [if_neg c3] at H
   have c3b0 : decide (x8_1 < (l0.length : Int)) = false := decide_eq_false c3
   clear c3
   obtain rfl := Option.some.inj H
   go_wp2
   go_ret
   exact ⟨by first | rfl | (simp [zn, zm] <;> rfl) | (simp [*, zn, zm] <;> rfl), by repeat (first | (with_reducible first | exact HB.out | apply zg | apply zc | apply zf) | exact HB.out)⟩
def impl_Word_94_95.f (k : Nat) (l0 : List (S43)) (a1_0 : Int) : Option (Bool) := (impl_Word_111_95.f k l0 a1_0).bind fun t114 => (some (decide (t114 ≥ 0)))
set_option maxHeartbeats 8000000 in
set_option maxRecDepth 100000 in
theorem impl_Word_94_95.calls (k : Nat) (A0 : Option Addr) (c0 : Nat) (l0 : List (S43)) (g200 : Nat) (a1_0 : Int) (r : Bool) (w : World) (hr0 : Kd.C k43 w A0 l0.length l0) (hc0 : l0.length ≤ c0) (hb30 : w.heap[g200]? = some (.cells #[.int .i64 a1_0] 2 (0, 0))) (h : impl_Word_94_95.f k l0 a1_0 = some r) :
  Calls Try.prog 94 #[.slice A0 l0.length c0, .func (.func 95) #[] #[.pointer (some ⟨g200, 0, none⟩)]] w fun e w' => e = .returned (.bool r) ∧ Below w.heap.size w w' := by
 have HR0 := ze.mk hr0
 have HC0 := ze.mk hc0
 clear hr0 hc0
 have BK30 := ze.mk hb30
 clear hb30
 have HB := ze.mk (Below.refl w.heap.size w)
 have H : ((impl_Word_111_95.f k l0 a1_0).bind fun t114 => (some (decide (t114 ≥ 0)))) = some r := h
 clear h
 replace H := Option.bind_eq_some_iff.mp H
 obtain ⟨t114, A30, H⟩ := H
 replace H : (some (decide (t114 ≥ 0))) = some r := H
 have A3 := ze.mk A30
 clear A30
 obtain rfl := Option.some.inj H
 go_enter Try.func94, Try.ntmps94
 go_wp2_with (first | ((with_reducible refine zs (f := 111) rfl ?_); refine zda (some 7) rfl rfl Try.func111 (by kernel_rfl) rfl #[.slice A0 l0.length c0, .func (.func 95) #[] #[.pointer (some ⟨g200, 0, none⟩)]] rfl (by (try simp only [List.map_toArray, List.map_cons, List.map_nil]); first | done | rfl | (simp only [List.length_drop, List.length_take]; rfl)) ?_; (with_reducible refine (impl_Word_111_95.calls k _ _ l0 g200 a1_0 t114 _ ?side1 ?side2 ?side3 A3.out).mono ?_); (case side1 => repeat (first | exact HR0.out | (with_reducible refine Kd.C_alloc ?_ _) | (with_reducible refine Kd.C_drewN ?_ _) | (with_reducible refine Kd.C_drew ?_))); (case side2 => exact HC0.out); (case side3 => (with_reducible repeat (first | refine zb ?_ _ | refine zd ?_ | refine za ?_ _)); exact BK30.out); rintro e w4 ⟨rfl, hb⟩; refine ⟨_, rfl, ?_⟩; have n0_ := ze.mk (zk (g := g200) (o := .cells #[.int .i64 a1_0] 2 (0, 0)) (by (with_reducible repeat (first | refine zb ?_ _ | refine zd ?_ | refine za ?_ _)); exact BK30.out) hb); have n1_ := ze.mk (zt (by repeat (first | (with_reducible first | exact HB.out | apply zg | apply zc | apply zf) | exact HB.out)) hb); clear BK30; clear HB; have BK30 := n0_; have HB := n1_; clear n0_ n1_; (try clear hb); (try clear hb2); (try clear hk); (try clear hi)))
 go_ret
 exact ⟨by first | rfl | (simp [zn, zm] <;> rfl) | (simp [*, zn, zm] <;> rfl), by repeat (first | (with_reducible first | exact HB.out | apply zg | apply zc | apply zf) | exact HB.out)⟩
def impl_ValidFixed.f (k : Nat) (a0_0 : Int) (a0_1 : Int) (l0_2 : List (S43)) : Option (Bool) := (impl_areLetters.f (wrap64 (a0_0))).bind fun t117 => (if t117 = true then ((impl_isKind.f (wrap64 (a0_1))).bind fun t118 => (if t118 = true then ((impl_Word_46.f l0_2).bind fun t119 => ((impl_within.f t119 1 80).bind fun t120 => (if t120 = true then ((impl_Word_94_95.f k l0_2 (wrap64 (a0_0))).bind fun t121 => (some (!t121))) else (some false)))) else (some false))) else (some false))
set_option maxHeartbeats 8000000 in
set_option maxRecDepth 100000 in
theorem impl_ValidFixed.calls (k : Nat) (a0_0 : Int) (a0_1 : Int) (A0_2 : Option Addr) (c0_2 : Nat) (l0_2 : List (S43)) (r : Bool) (w : World) (hr0_2 : Kd.C k43 w A0_2 l0_2.length l0_2) (hc0_2 : l0_2.length ≤ c0_2) (h : impl_ValidFixed.f k a0_0 a0_1 l0_2 = some r) :
  Calls Try.prog 56 #[.agg #[.int .i8 a0_0, .int .i8 a0_1, .slice A0_2 l0_2.length c0_2]] w fun e w' => e = .returned (.bool r) ∧ Below w.heap.size w w' := by
 have hu28 := Try.underlying28
 have HR0_2 := ze.mk hr0_2
 have HC0_2 := ze.mk hc0_2
 clear hr0_2 hc0_2
 have HB := ze.mk (Below.refl w.heap.size w)
 have H : ((impl_areLetters.f (wrap64 (a0_0))).bind fun t117 => (if t117 = true then ((impl_isKind.f (wrap64 (a0_1))).bind fun t118 => (if t118 = true then ((impl_Word_46.f l0_2).bind fun t119 => ((impl_within.f t119 1 80).bind fun t120 => (if t120 = true then ((impl_Word_94_95.f k l0_2 (wrap64 (a0_0))).bind fun t121 => (some (!t121))) else (some false)))) else (some false))) else (some false))) = some r := h
 clear h
 replace H := Option.bind_eq_some_iff.mp H
 obtain ⟨t117, A20, H⟩ := H
 replace H : (if t117 = true then ((impl_isKind.f (wrap64 (a0_1))).bind fun t118 => (if t118 = true then ((impl_Word_46.f l0_2).bind fun t119 => ((impl_within.f t119 1 80).bind fun t120 => (if t120 = true then ((impl_Word_94_95.f k l0_2 (wrap64 (a0_0))).bind fun t121 => (some (!t121))) else (some false)))) else (some false))) else (some false)) = some r := H
 have A2 := ze.mk A20
 clear A20
 by_cases c3 : t117 = true
 ·subst c3
  have H1 : ((impl_isKind.f (wrap64 (a0_1))).bind fun t118 => (if t118 = true then ((impl_Word_46.f l0_2).bind fun t119 => ((impl_within.f t119 1 80).bind fun t120 => (if t120 = true then ((impl_Word_94_95.f k l0_2 (wrap64 (a0_0))).bind fun t121 => (some (!t121))) else (some false)))) else (some false))) = some r := by rw [if_pos rfl] at H; exact H
  clear H
  have H := H1
  clear H1
  replace H := Option.bind_eq_some_iff.mp H
  obtain ⟨t118, A40, H⟩ := H
  replace H : (if t118 = true then ((impl_Word_46.f l0_2).bind fun t119 => ((impl_within.f t119 1 80).bind fun t120 => (if t120 = true then ((impl_Word_94_95.f k l0_2 (wrap64 (a0_0))).bind fun t121 => (some (!t121))) else (some false)))) else (some false)) = some r := H
  have A4 := ze.mk A40
  clear A40
  by_cases c5 : t118 = true
  ·subst c5
   have H1 : ((impl_Word_46.f l0_2).bind fun t119 => ((impl_within.f t119 1 80).bind fun t120 => (if t120 = true then ((impl_Word_94_95.f k l0_2 (wrap64 (a0_0))).bind fun t121 => (some (!t121))) else (some false)))) = some r := by rw [if_pos rfl] at H; exact H
   clear H
   have H := H1
   clear H1
   replace H := Option.bind_eq_some_iff.mp H
   obtain ⟨t119, A60, H⟩ := H
   replace H : ((impl_within.f t119 1 80).bind fun t120 => (if t120 = true then ((impl_Word_94_95.f k l0_2 (wrap64 (a0_0))).bind fun t121 => (some (!t121))) else (some false))) = some r := H
   have A6 := ze.mk A60
   clear A60
   replace H := Option.bind_eq_some_iff.mp H
   obtain ⟨t120, A70, H⟩ := H
   replace H : (if t120 = true then ((impl_Word_94_95.f k l0_2 (wrap64 (a0_0))).bind fun t121 => (some (!t121))) else (some false)) = some r := H
   have A7 := ze.mk A70
   clear A70
   by_cases c8 : t120 = true
   ·subst c8
    have H1 : ((impl_Word_94_95.f k l0_2 (wrap64 (a0_0))).bind fun t121 => (some (!t121))) = some r := by rw [if_pos rfl] at H; exact H
    clear H
    have H := H1
    clear H1
    replace H := Option.bind_eq_some_iff.mp H
    obtain ⟨t121, A90, H⟩ := H
    replace H : (some (!t121)) = some r := H
    have A9 := ze.mk A90
    clear A90
    obtain rfl := Option.some.inj H
    go_enter Try.func56, Try.ntmps56
    go_wp2_with (first | ((with_reducible refine zu (N := 1) rfl ?_); refine zr ?hg (N := 1) ?hd (cs := #[.int .i8 a0_0, .int .i8 a0_1, .slice A0_2 l0_2.length c0_2]) (t := 28) ?hr ?_; (case hd => rfl); (case hg => rfl); (case hr => first | (go_simp; done) | (go_simp; rfl)); intro gb115 hg w10 hbox hb; obtain ⟨n0_, n2_⟩ := bx (by repeat (first | (with_reducible first | exact HB.out | apply zg | apply zc | apply zf) | exact HB.out)) hb hg; have n1_ := ze.mk (hbox); have n3_ := n2_; clear HB; have HB := n0_; have BK115 := n1_; have GW115 := n2_; have GE115 := n3_; clear n0_ n1_ n2_ n3_; clear hb hbox hg; obtain ⟨y1_0, y1_1, y1_2, z1_0, z1_1, z1_2⟩ := cf3 BK115.out) | ((with_reducible refine zu (N := 3) rfl ?_); refine zr ?hg (N := 3) ?hd (cs := #[.int .i64 0]) (t := 2) ?hr ?_; (case hd => rfl); (case hg => rfl); (case hr => first | (go_simp; done) | (go_simp; rfl)); intro gb116 hg w12 hbox hb; have n0_ := ze.mk (zk (by (with_reducible repeat (first | refine zb ?_ _ | refine zd ?_ | refine za ?_ _)); exact BK115.out) hb); obtain ⟨n1_, n3_⟩ := bx (by repeat (first | (with_reducible first | exact HB.out | apply zg | apply zc | apply zf | refine zi ?_ GE115.out) | exact HB.out)) hb hg; have n2_ := ze.mk (hbox); have n4_ := n3_; have n5_ := ze.mk ((by rw [hg]; exact Nat.ne_of_lt (zba (by (with_reducible repeat (first | refine zb ?_ _ | refine zd ?_ | refine za ?_ _)); exact BK115.out)) : gb115 ≠ gb116)); have n6_ := ze.mk n5_.out.symm; clear BK115; clear HB; have BK115 := n0_; have HB := n1_; have BK116 := n2_; have GW116 := n3_; have GE116 := n4_; have NB115_116 := n5_; have NB116_115 := n6_; clear n0_ n1_ n2_ n3_ n4_ n5_ n6_; clear hb hbox hg; have hnb13 := NB116_115.out; have hnc13 := NB115_116.out; have y2_0 := cz BK116.out 0 rfl; have z2_0 := zw BK116.out 0) | ((with_reducible refine zs (f := 41) rfl ?_); refine zda (some 8) rfl rfl Try.func41 (by kernel_rfl) rfl #[.int .i64 (wrap64 (a0_0))] rfl (by (try simp only [List.map_toArray, List.map_cons, List.map_nil]); first | done | rfl | (simp only [List.length_drop, List.length_take]; rfl)) ?_; (with_reducible refine (impl_areLetters.calls (wrap64 (a0_0)) true _ A2.out).mono ?_); rintro e w' ⟨rfl, ⟨nd, rfl⟩⟩; refine ⟨_, rfl, ?_⟩; obtain ⟨y3_0, y3_1, y3_2, z3_0, z3_1, z3_2⟩ := cf3 BK115.out) | (go_at_call 42; (with_reducible refine (impl_isKind.calls (wrap64 (a0_1)) true _ A4.out).mono ?_); rintro e w' ⟨rfl, ⟨nd, rfl⟩⟩) | (go_at_call 46; (with_reducible refine (impl_Word_46.calls _ _ l0_2 t119 _ ?side1 ?side2 A6.out).mono ?_); (case side1 => exact Kd.C_below HR0_2.out (by repeat (first | (with_reducible first | exact HB.out | apply zg | apply zc | apply zf | refine zi ?_ GE115.out | refine zi ?_ GE116.out) | exact HB.out))); (case side2 => exact HC0_2.out); rintro e w' ⟨rfl, ⟨nd, rfl⟩⟩) | (go_at_call 43; (with_reducible refine (impl_within.calls t119 1 80 true _ A7.out).mono ?_); rintro e w' ⟨rfl, ⟨nd, rfl⟩⟩) | (go_at_call 94; (with_reducible refine (impl_Word_94_95.calls k _ _ l0_2 gb116 (wrap64 (a0_0)) t121 _ ?side1 ?side2 ?side3 A9.out).mono ?_); (case side1 => exact Kd.C_below HR0_2.out (by repeat (first | (with_reducible first | exact HB.out | apply zg | apply zc | apply zf | refine zi ?_ GE115.out | refine zi ?_ GE116.out) | exact HB.out))); (case side2 => exact HC0_2.out); (case side3 => (with_reducible repeat (first | refine zb ?_ _ | refine zd ?_ | refine za ?_ _)); refine zp (cs := #[.int .i64 0]) ?_ 0 _ rfl; (with_reducible repeat (first | refine zb ?_ _ | refine zd ?_ | refine za ?_ _)); exact BK116.out); rintro e w16 ⟨rfl, hb⟩; have n0_ := ze.mk (zk (g := gb115) (o := .cells #[.int .i8 a0_0, .int .i8 a0_1, .slice A0_2 l0_2.length c0_2] 28 (0, 0)) (by (with_reducible repeat (first | refine zb ?_ _ | refine zd ?_ | refine za ?_ _)); refine zq ?_ NB115_116.out _; (with_reducible repeat (first | refine zb ?_ _ | refine zd ?_ | refine za ?_ _)); exact BK115.out) hb); have n1_ := ze.mk (zk (g := gb116) (o := .cells #[.int .i64 (wrap64 (a0_0))] 2 (0, 0)) (by (with_reducible repeat (first | refine zb ?_ _ | refine zd ?_ | refine za ?_ _)); refine zp (cs := #[.int .i64 0]) ?_ 0 _ rfl; (with_reducible repeat (first | refine zb ?_ _ | refine zd ?_ | refine za ?_ _)); exact BK116.out) hb); have n2_ := ze.mk (zt (by repeat (first | (with_reducible first | exact HB.out | apply zg | apply zc | apply zf | refine zi ?_ GE115.out | refine zi ?_ GE116.out) | exact HB.out)) hb); clear BK115; clear BK116; clear HB; have BK115 := n0_; have BK116 := n1_; have HB := n2_; clear n0_ n1_ n2_; (try clear hb); (try clear hb2); (try clear hk); (try clear hi)))
    go_ret
    exact ⟨by first | rfl | (simp [zn, zm] <;> rfl) | (simp [*, zn, zm] <;> rfl), by repeat (first | (with_reducible first | exact HB.out | apply zg | apply zc | apply zf | refine zi ?_ GE115.out | refine zi ?_ GE116.out) | exact HB.out)⟩
   replace c8 := Bool.eq_false_iff.mpr c8
   subst c8
   have H1 : (some false) = some r := by rw [if_neg (show ¬ (false = true) by decide)] at H; exact H
   clear H
   have H := H1
   clear H1
   obtain rfl := Option.some.inj H
   go_enter Try.func56, Try.ntmps56
   go_wp2_with (first | ((with_reducible refine zu (N := 1) rfl ?_); refine zr ?hg (N := 1) ?hd (cs := #[.int .i8 a0_0, .int .i8 a0_1, .slice A0_2 l0_2.length c0_2]) (t := 28) ?hr ?_; (case hd => rfl); (case hg => rfl); (case hr => first | (go_simp; done) | (go_simp; rfl)); intro gb115 hg w17 hbox hb; obtain ⟨n0_, n2_⟩ := bx (by repeat (first | (with_reducible first | exact HB.out | apply zg | apply zc | apply zf) | exact HB.out)) hb hg; have n1_ := ze.mk (hbox); have n3_ := n2_; clear HB; have HB := n0_; have BK115 := n1_; have GW115 := n2_; have GE115 := n3_; clear n0_ n1_ n2_ n3_; clear hb hbox hg; obtain ⟨y4_0, y4_1, y4_2, z4_0, z4_1, z4_2⟩ := cf3 BK115.out) | ((with_reducible refine zu (N := 3) rfl ?_); refine zr ?hg (N := 3) ?hd (cs := #[.int .i64 0]) (t := 2) ?hr ?_; (case hd => rfl); (case hg => rfl); (case hr => first | (go_simp; done) | (go_simp; rfl)); intro gb116 hg w19 hbox hb; have n0_ := ze.mk (zk (by (with_reducible repeat (first | refine zb ?_ _ | refine zd ?_ | refine za ?_ _)); exact BK115.out) hb); obtain ⟨n1_, n3_⟩ := bx (by repeat (first | (with_reducible first | exact HB.out | apply zg | apply zc | apply zf | refine zi ?_ GE115.out) | exact HB.out)) hb hg; have n2_ := ze.mk (hbox); have n4_ := n3_; have n5_ := ze.mk ((by rw [hg]; exact Nat.ne_of_lt (zba (by (with_reducible repeat (first | refine zb ?_ _ | refine zd ?_ | refine za ?_ _)); exact BK115.out)) : gb115 ≠ gb116)); have n6_ := ze.mk n5_.out.symm; clear BK115; clear HB; have BK115 := n0_; have HB := n1_; have BK116 := n2_; have GW116 := n3_; have GE116 := n4_; have NB115_116 := n5_; have NB116_115 := n6_; clear n0_ n1_ n2_ n3_ n4_ n5_ n6_; clear hb hbox hg; have hnb20 := NB116_115.out; have hnc20 := NB115_116.out; have y5_0 := cz BK116.out 0 rfl; have z5_0 := zw BK116.out 0) | ((with_reducible refine zs (f := 41) rfl ?_); refine zda (some 8) rfl rfl Try.func41 (by kernel_rfl) rfl #[.int .i64 (wrap64 (a0_0))] rfl (by (try simp only [List.map_toArray, List.map_cons, List.map_nil]); first | done | rfl | (simp only [List.length_drop, List.length_take]; rfl)) ?_; (with_reducible refine (impl_areLetters.calls (wrap64 (a0_0)) true _ A2.out).mono ?_); rintro e w' ⟨rfl, ⟨nd, rfl⟩⟩; refine ⟨_, rfl, ?_⟩; obtain ⟨y6_0, y6_1, y6_2, z6_0, z6_1, z6_2⟩ := cf3 BK115.out) | (go_at_call 42; (with_reducible refine (impl_isKind.calls (wrap64 (a0_1)) true _ A4.out).mono ?_); rintro e w' ⟨rfl, ⟨nd, rfl⟩⟩) | (go_at_call 46; (with_reducible refine (impl_Word_46.calls _ _ l0_2 t119 _ ?side1 ?side2 A6.out).mono ?_); (case side1 => exact Kd.C_below HR0_2.out (by repeat (first | (with_reducible first | exact HB.out | apply zg | apply zc | apply zf | refine zi ?_ GE115.out | refine zi ?_ GE116.out) | exact HB.out))); (case side2 => exact HC0_2.out); rintro e w' ⟨rfl, ⟨nd, rfl⟩⟩) | (go_at_call 43; (with_reducible refine (impl_within.calls t119 1 80 false _ A7.out).mono ?_); rintro e w' ⟨rfl, ⟨nd, rfl⟩⟩))
   go_ret
   exact ⟨by first | rfl | (simp [zn, zm] <;> rfl) | (simp [*, zn, zm] <;> rfl), by repeat (first | (with_reducible first | exact HB.out | apply zg | apply zc | apply zf | refine zi ?_ GE115.out | refine zi ?_ GE116.out) | exact HB.out)⟩
  replace c5 := Bool.eq_false_iff.mpr c5
  subst c5
  have H1 : (some false) = some r := by rw [if_neg (show ¬ (false = true) by decide)] at H; exact H
  clear H
  have H := H1
  clear H1
  obtain rfl := Option.some.inj H
  go_enter Try.func56, Try.ntmps56
  go_wp2_with (first | ((with_reducible refine zu (N := 1) rfl ?_); refine zr ?hg (N := 1) ?hd (cs := #[.int .i8 a0_0, .int .i8 a0_1, .slice A0_2 l0_2.length c0_2]) (t := 28) ?hr ?_; (case hd => rfl); (case hg => rfl); (case hr => first | (go_simp; done) | (go_simp; rfl)); intro gb115 hg w23 hbox hb; obtain ⟨n0_, n2_⟩ := bx (by repeat (first | (with_reducible first | exact HB.out | apply zg | apply zc | apply zf) | exact HB.out)) hb hg; have n1_ := ze.mk (hbox); have n3_ := n2_; clear HB; have HB := n0_; have BK115 := n1_; have GW115 := n2_; have GE115 := n3_; clear n0_ n1_ n2_ n3_; clear hb hbox hg; obtain ⟨y7_0, y7_1, y7_2, z7_0, z7_1, z7_2⟩ := cf3 BK115.out) | ((with_reducible refine zu (N := 3) rfl ?_); refine zr ?hg (N := 3) ?hd (cs := #[.int .i64 0]) (t := 2) ?hr ?_; (case hd => rfl); (case hg => rfl); (case hr => first | (go_simp; done) | (go_simp; rfl)); intro gb116 hg w25 hbox hb; have n0_ := ze.mk (zk (by (with_reducible repeat (first | refine zb ?_ _ | refine zd ?_ | refine za ?_ _)); exact BK115.out) hb); obtain ⟨n1_, n3_⟩ := bx (by repeat (first | (with_reducible first | exact HB.out | apply zg | apply zc | apply zf | refine zi ?_ GE115.out) | exact HB.out)) hb hg; have n2_ := ze.mk (hbox); have n4_ := n3_; have n5_ := ze.mk ((by rw [hg]; exact Nat.ne_of_lt (zba (by (with_reducible repeat (first | refine zb ?_ _ | refine zd ?_ | refine za ?_ _)); exact BK115.out)) : gb115 ≠ gb116)); have n6_ := ze.mk n5_.out.symm; clear BK115; clear HB; have BK115 := n0_; have HB := n1_; have BK116 := n2_; have GW116 := n3_; have GE116 := n4_; have NB115_116 := n5_; have NB116_115 := n6_; clear n0_ n1_ n2_ n3_ n4_ n5_ n6_; clear hb hbox hg; have hnb26 := NB116_115.out; have hnc26 := NB115_116.out; have y8_0 := cz BK116.out 0 rfl; have z8_0 := zw BK116.out 0) | ((with_reducible refine zs (f := 41) rfl ?_); refine zda (some 8) rfl rfl Try.func41 (by kernel_rfl) rfl #[.int .i64 (wrap64 (a0_0))] rfl (by (try simp only [List.map_toArray, List.map_cons, List.map_nil]); first | done | rfl | (simp only [List.length_drop, List.length_take]; rfl)) ?_; (with_reducible refine (impl_areLetters.calls (wrap64 (a0_0)) true _ A2.out).mono ?_); rintro e w' ⟨rfl, ⟨nd, rfl⟩⟩; refine ⟨_, rfl, ?_⟩; obtain ⟨y9_0, y9_1, y9_2, z9_0, z9_1, z9_2⟩ := cf3 BK115.out) | (go_at_call 42; (with_reducible refine (impl_isKind.calls (wrap64 (a0_1)) false _ A4.out).mono ?_); rintro e w' ⟨rfl, ⟨nd, rfl⟩⟩))
  go_ret
  exact ⟨by first | rfl | (simp [zn, zm] <;> rfl) | (simp [*, zn, zm] <;> rfl), by repeat (first | (with_reducible first | exact HB.out | apply zg | apply zc | apply zf | refine zi ?_ GE115.out | refine zi ?_ GE116.out) | exact HB.out)⟩
 replace c3 := Bool.eq_false_iff.mpr c3
 subst c3
 have H1 : (some false) = some r := by rw [if_neg (show ¬ (false = true) by decide)] at H; exact H
 clear H
 have H := H1
 clear H1
 obtain rfl := Option.some.inj H
 go_enter Try.func56, Try.ntmps56
 go_wp2_with (first | ((with_reducible refine zu (N := 1) rfl ?_); refine zr ?hg (N := 1) ?hd (cs := #[.int .i8 a0_0, .int .i8 a0_1, .slice A0_2 l0_2.length c0_2]) (t := 28) ?hr ?_; (case hd => rfl); (case hg => rfl); (case hr => first | (go_simp; done) | (go_simp; rfl)); intro gb115 hg w29 hbox hb; obtain ⟨n0_, n2_⟩ := bx (by repeat (first | (with_reducible first | exact HB.out | apply zg | apply zc | apply zf) | exact HB.out)) hb hg; have n1_ := ze.mk (hbox); have n3_ := n2_; clear HB; have HB := n0_; have BK115 := n1_; have GW115 := n2_; have GE115 := n3_; clear n0_ n1_ n2_ n3_; clear hb hbox hg; obtain ⟨y10_0, y10_1, y10_2, z10_0, z10_1, z10_2⟩ := cf3 BK115.out) | ((with_reducible refine zu (N := 3) rfl ?_); refine zr ?hg (N := 3) ?hd (cs := #[.int .i64 0]) (t := 2) ?hr ?_; (case hd => rfl); (case hg => rfl); (case hr => first | (go_simp; done) | (go_simp; rfl)); intro gb116 hg w31 hbox hb; have n0_ := ze.mk (zk (by (with_reducible repeat (first | refine zb ?_ _ | refine zd ?_ | refine za ?_ _)); exact BK115.out) hb); obtain ⟨n1_, n3_⟩ := bx (by repeat (first | (with_reducible first | exact HB.out | apply zg | apply zc | apply zf | refine zi ?_ GE115.out) | exact HB.out)) hb hg; have n2_ := ze.mk (hbox); have n4_ := n3_; have n5_ := ze.mk ((by rw [hg]; exact Nat.ne_of_lt (zba (by (with_reducible repeat (first | refine zb ?_ _ | refine zd ?_ | refine za ?_ _)); exact BK115.out)) : gb115 ≠ gb116)); have n6_ := ze.mk n5_.out.symm; clear BK115; clear HB; have BK115 := n0_; have HB := n1_; have BK116 := n2_; have GW116 := n3_; have GE116 := n4_; have NB115_116 := n5_; have NB116_115 := n6_; clear n0_ n1_ n2_ n3_ n4_ n5_ n6_; clear hb hbox hg; have hnb32 := NB116_115.out; have hnc32 := NB115_116.out; have y11_0 := cz BK116.out 0 rfl; have z11_0 := zw BK116.out 0) | ((with_reducible refine zs (f := 41) rfl ?_); refine zda (some 8) rfl rfl Try.func41 (by kernel_rfl) rfl #[.int .i64 (wrap64 (a0_0))] rfl (by (try simp only [List.map_toArray, List.map_cons, List.map_nil]); first | done | rfl | (simp only [List.length_drop, List.length_take]; rfl)) ?_; (with_reducible refine (impl_areLetters.calls (wrap64 (a0_0)) false _ A2.out).mono ?_); rintro e w' ⟨rfl, ⟨nd, rfl⟩⟩; refine ⟨_, rfl, ?_⟩))
 go_ret
 exact ⟨by first | rfl | (simp [zn, zm] <;> rfl) | (simp [*, zn, zm] <;> rfl), by repeat (first | (with_reducible first | exact HB.out | apply zg | apply zc | apply zf | refine zi ?_ GE115.out | refine zi ?_ GE116.out) | exact HB.out)⟩
attribute [local go_sem high] eqA129
mutual
def impl_Fixed_isBalanced.l0 : Nat → List (S43) → Int → Int → Int → Int → Int → Int → Option (Bool)
 | 0, _, _, _, _, _, _, _ => none
 | k + 1, x10, x11, x12, x124000, x124001, x124002, x124003 => if x12 < x11 then (if 0 ≤ x12 then (if x12 < (x10.length : Int) then (impl_Fixed_isBalanced.l1 k x10 x11 x12 0 x124000 x124001 x124002 x124003 ((zj x10 x12).f0) ((zj x10 x12).f1) ((zj x10 x12).f2) ((zj x10 x12).f3)) else (none)) else (none)) else (some (x124000 == 0 && (x124001 == 0 && (x124002 == 0 && (x124003 == 0)))))
def impl_Fixed_isBalanced.l1 : Nat → List (S43) → Int → Int → Int → Int → Int → Int → Int → Int → Int → Int → Int → Option (Bool)
 | 0, _, _, _, _, _, _, _, _, _, _, _, _ => none
 | k + 1, x10, x11, x12, x17, x124000, x124001, x124002, x124003, x90017000, x90017001, x90017002, x90017003 => if x17 < 4 then (if 0 ≤ x17 then (impl_Fixed_isBalanced.l1 k x10 x11 x12 (wrap64 (x17 + 1)) (zv x17 0 (wrap64 ((rd [x124000, x124001, x124002, x124003] x17) + (wrap64 (rd [x90017000, x90017001, x90017002, x90017003] x17)))) x124000) (zv x17 1 (wrap64 ((rd [x124000, x124001, x124002, x124003] x17) + (wrap64 (rd [x90017000, x90017001, x90017002, x90017003] x17)))) x124001) (zv x17 2 (wrap64 ((rd [x124000, x124001, x124002, x124003] x17) + (wrap64 (rd [x90017000, x90017001, x90017002, x90017003] x17)))) x124002) (zv x17 3 (wrap64 ((rd [x124000, x124001, x124002, x124003] x17) + (wrap64 (rd [x90017000, x90017001, x90017002, x90017003] x17)))) x124003) x90017000 x90017001 x90017002 x90017003) else (none)) else (impl_Fixed_isBalanced.l0 k x10 x11 (wrap64 (x12 + 1)) x124000 x124001 x124002 x124003)
end
def impl_Fixed_isBalanced.f (k : Nat) (a0_0 : Int) (a0_1 : Int) (l0_2 : List (S43)) : Option (Bool) := impl_Fixed_isBalanced.l0 k l0_2 (l0_2.length : Int) 0 0 0 0 0
set_option maxHeartbeats 8000000 in
set_option maxRecDepth 100000 in
theorem impl_Fixed_isBalanced.calls (k : Nat) (a0_0 : Int) (a0_1 : Int) (A0_2 : Option Addr) (c0_2 : Nat) (l0_2 : List (S43)) (r : Bool) (w : World) (hr0_2 : Kd.C k43 w A0_2 l0_2.length l0_2) (hc0_2 : l0_2.length ≤ c0_2) (h : impl_Fixed_isBalanced.f k a0_0 a0_1 l0_2 = some r) :
  Calls Try.prog 57 #[.agg #[.int .i8 a0_0, .int .i8 a0_1, .slice A0_2 l0_2.length c0_2]] w fun e w' => e = .returned (.bool r) ∧ Below w.heap.size w w' := by
 have hu28 := Try.underlying28
 have hu129 := Try.underlying129
 have hu43 := Try.underlying43
 have HR0_2 := ze.mk hr0_2
 have HC0_2 := ze.mk hc0_2
 clear hr0_2 hc0_2
 have HB := ze.mk (Below.refl w.heap.size w)
 have H : (impl_Fixed_isBalanced.l0 k l0_2 (l0_2.length : Int) 0 0 0 0 0) = some r := h
 clear h
 have H' := ze.mk H
 clear H
 go_enter Try.func57, Try.ntmps57
 go_wp2_with (first | ((with_reducible refine zu (N := 1) rfl ?_); refine zr ?hg (N := 1) ?hd (cs := #[.int .i8 a0_0, .int .i8 a0_1, .slice A0_2 l0_2.length c0_2]) (t := 28) ?hr ?_; (case hd => rfl); (case hg => rfl); (case hr => first | (go_simp; done) | (go_simp; rfl)); intro gb122 hg w2 hbox hb; obtain ⟨n0_, n2_⟩ := bx (by repeat (first | (with_reducible first | exact HB.out | apply zg | apply zc | apply zf) | exact HB.out)) hb hg; have n1_ := ze.mk (hbox); have n3_ := n2_; clear HB; have HB := n0_; have BK122 := n1_; have GW122 := n2_; have GE122 := n3_; clear n0_ n1_ n2_ n3_; clear hb hbox hg) | ((with_reducible refine zu (N := 3) rfl ?_); refine zr ?hg (N := 3) ?hd (cs := #[.int .i64 0, .int .i64 0, .int .i64 0, .int .i64 0]) (t := 129) ?hr ?_; (case hd => rfl); (case hg => rfl); (case hr => first | (go_simp; done) | (go_simp; rfl)); intro gb123 hg w3 hbox hb; have n0_ := ze.mk (zk (by (with_reducible repeat (first | refine zb ?_ _ | refine zd ?_ | refine za ?_ _)); exact BK122.out) hb); obtain ⟨n1_, n3_⟩ := bx (by repeat (first | (with_reducible first | exact HB.out | apply zg | apply zc | apply zf | refine zi ?_ GE122.out) | exact HB.out)) hb hg; have n2_ := ze.mk (hbox); have n4_ := n3_; have n5_ := ze.mk ((by rw [hg]; exact Nat.ne_of_lt (zba (by (with_reducible repeat (first | refine zb ?_ _ | refine zd ?_ | refine za ?_ _)); exact BK122.out)) : gb122 ≠ gb123)); have n6_ := ze.mk n5_.out.symm; clear BK122; clear HB; have BK122 := n0_; have HB := n1_; have BK123 := n2_; have GW123 := n3_; have GE123 := n4_; have NB122_123 := n5_; have NB123_122 := n6_; clear n0_ n1_ n2_ n3_ n4_ n5_ n6_; clear hb hbox hg; have hnb4 := NB123_122.out; have hnc4 := NB122_123.out; obtain ⟨y1_0, y1_1, y1_2, y1_3, z1_0, z1_1, z1_2, z1_3⟩ := cf4 BK123.out; obtain ⟨y2_0, y2_1, y2_2, z2_0, z2_1, z2_2⟩ := cf3 BK122.out))
 go_loopg [12] k (fun kq v12 w' => ∃ (x12_1 : Int) (x124000_1 : Int) (x124001_1 : Int) (x124002_1 : Int) (x124003_1 : Int), v12 = .int .i64 x12_1 ∧ ze (impl_Fixed_isBalanced.l0 kq l0_2 (l0_2.length : Int) x12_1 x124000_1 x124001_1 x124002_1 x124003_1 = some r) ∧ ze (kq ≤ k) ∧ ze (w'.heap[gb122]? = some (.cells #[.int .i8 a0_0, .int .i8 a0_1, (.slice A0_2 l0_2.length c0_2)] 28 (0, 0))) ∧ ze (w'.heap[gb123]? = some (.cells #[.int .i64 x124000_1, .int .i64 x124001_1, .int .i64 x124002_1, .int .i64 x124003_1] 129 (0, 0))) ∧ ze (Below w.heap.size w w'))
 case atStart => exact ⟨(0), (0), (0), (0), (0), (by first | rfl | (simp; done) | (simp [*]; done)), H', ⟨Nat.le_refl _⟩, ⟨by (with_reducible repeat (first | refine zb ?_ _ | refine zd ?_ | refine za ?_ _)); refine zq ?_ NB122_123.out _; (with_reducible repeat (first | refine zb ?_ _ | refine zd ?_ | refine za ?_ _)); refine zq ?_ NB122_123.out _; (with_reducible repeat (first | refine zb ?_ _ | refine zd ?_ | refine za ?_ _)); refine zq ?_ NB122_123.out _; (with_reducible repeat (first | refine zb ?_ _ | refine zd ?_ | refine za ?_ _)); refine zq ?_ NB122_123.out _; (with_reducible repeat (first | refine zb ?_ _ | refine zd ?_ | refine za ?_ _)); exact BK122.out⟩, ⟨by (with_reducible repeat (first | refine zb ?_ _ | refine zd ?_ | refine za ?_ _)); refine zp (cs := #[.int .i64 0, .int .i64 0, .int .i64 0, .int .i64 0]) ?_ 3 _ rfl; (with_reducible repeat (first | refine zb ?_ _ | refine zd ?_ | refine za ?_ _)); refine zp (cs := #[.int .i64 0, .int .i64 0, .int .i64 0, .int .i64 0]) ?_ 2 _ rfl; (with_reducible repeat (first | refine zb ?_ _ | refine zd ?_ | refine za ?_ _)); refine zp (cs := #[.int .i64 0, .int .i64 0, .int .i64 0, .int .i64 0]) ?_ 1 _ rfl; (with_reducible repeat (first | refine zb ?_ _ | refine zd ?_ | refine za ?_ _)); refine zp (cs := #[.int .i64 0, .int .i64 0, .int .i64 0, .int .i64 0]) ?_ 0 _ rfl; (with_reducible repeat (first | refine zb ?_ _ | refine zd ?_ | refine za ?_ _)); exact BK123.out⟩, ⟨by repeat (first | (with_reducible first | exact HB.out | apply zg | apply zc | apply zf | refine zi ?_ GE122.out | refine zi ?_ GE123.out) | exact HB.out)⟩⟩
 case round =>
  clear H'
  try clear p2
  try clear c4
  try clear c5
  try clear y1_0 y1_1 y1_2 y1_3
  try clear y2_0 y2_1 y2_2
  try clear z1_0 z1_1 z1_2 z1_3
  try clear z2_0 z2_1 z2_2
  obtain ⟨x12_1, x124000_1, x124001_1, x124002_1, x124003_1, rfl, HA, HK1, BK122, BK123, HB⟩ := hrel
  cases gk with
  | zero => exact absurd HA.out (by simp [impl_Fixed_isBalanced.l0])
  | succ k1 =>
   have H := HA.out
   clear HA
   simp only [impl_Fixed_isBalanced.l0] at H
   by_cases c7 : x12_1 < (l0_2.length : Int)
   ·rw [if_pos c7] at H
    have c7b0 : decide (x12_1 < (l0_2.length : Int)) = true := decide_eq_true c7
    clear c7
    by_cases c8 : 0 ≤ x12_1
    ·rw [if_pos c8] at H
     have c8b0 : decide (0 ≤ x12_1) = true := decide_eq_true c8
     clear c8
     by_cases c9 : x12_1 < (l0_2.length : Int)
     ·rw [if_pos c9] at H
      have c9b0 : decide (x12_1 < (l0_2.length : Int)) = true := decide_eq_true c9
      clear c9
      have H' := ze.mk H
      clear H
      have p124 : 0 ≤ (x12_1 : Int) := od (by first | (with_reducible assumption) | assumption)
      have q124 : x12_1 < (l0_2.length : Int) := od (by first | (with_reducible assumption) | assumption)
      obtain ⟨ad124, e124, u1_0, u1_1, u1_2, u1_3⟩ := zoe HB.out HR0_2.out x12_1 p124 q124
      cases e124
      replace p124 := eq_true p124
      replace q124 := eq_true q124
      go_wp2_with (first | ((with_reducible refine zu (N := 5) rfl ?_); refine zr ?hg (N := 5) ?hd (cs := #[.int .i8 0, .int .i8 0, .int .i8 0, .int .i8 0]) (t := 43) ?hr ?_; (case hd => rfl); (case hg => rfl); (case hr => first | (go_simp; done) | (go_simp; rfl)); intro gb125 hg w10 hbox hb; have n0_ := ze.mk (zk (by (with_reducible repeat (first | refine zb ?_ _ | refine zd ?_ | refine za ?_ _)); exact BK122.out) hb); have n1_ := ze.mk (zk (by (with_reducible repeat (first | refine zb ?_ _ | refine zd ?_ | refine za ?_ _)); exact BK123.out) hb); obtain ⟨n2_, n4_⟩ := bx (by repeat (first | (with_reducible first | exact HB.out | apply zg | apply zc | apply zf | refine zi ?_ GE122.out | refine zi ?_ GE123.out) | exact HB.out)) hb hg; have n3_ := ze.mk (hbox); have n5_ := n4_; have n6_ := ze.mk ((by rw [hg]; exact Nat.ne_of_lt (zba (by (with_reducible repeat (first | refine zb ?_ _ | refine zd ?_ | refine za ?_ _)); exact BK122.out)) : gb122 ≠ gb125)); have n7_ := ze.mk n6_.out.symm; have n8_ := ze.mk ((by rw [hg]; exact Nat.ne_of_lt (zba (by (with_reducible repeat (first | refine zb ?_ _ | refine zd ?_ | refine za ?_ _)); exact BK123.out)) : gb123 ≠ gb125)); have n9_ := ze.mk n8_.out.symm; clear BK122; clear BK123; clear HB; have BK122 := n0_; have BK123 := n1_; have HB := n2_; have BK125 := n3_; have GW125 := n4_; have GE125 := n5_; have NB122_125 := n6_; have NB125_122 := n7_; have NB123_125 := n8_; have NB125_123 := n9_; clear n0_ n1_ n2_ n3_ n4_ n5_ n6_ n7_ n8_ n9_; clear hb hbox hg; have hnb11 := NB125_122.out; have hnc11 := NB122_125.out; have hnb12 := NB125_123.out; have hnc12 := NB123_125.out; obtain ⟨y3_0, y3_1, y3_2, y3_3, z3_0, z3_1, z3_2, z3_3⟩ := cf4 BK125.out))
      go_loopg [17] k1 (fun kq v17 w' => ∃ (x17_2 : Int) (x124000_2 : Int) (x124001_2 : Int) (x124002_2 : Int) (x124003_2 : Int), v17 = .int .i64 x17_2 ∧ ze (impl_Fixed_isBalanced.l1 kq l0_2 (l0_2.length : Int) x12_1 x17_2 x124000_2 x124001_2 x124002_2 x124003_2 ((zj l0_2 x12_1).f0) ((zj l0_2 x12_1).f1) ((zj l0_2 x12_1).f2) ((zj l0_2 x12_1).f3) = some r) ∧ ze (kq ≤ k1) ∧ ze (w'.heap[gb122]? = some (.cells #[.int .i8 a0_0, .int .i8 a0_1, (.slice (some ad124) l0_2.length c0_2)] 28 (0, 0))) ∧ ze (w'.heap[gb123]? = some (.cells #[.int .i64 x124000_2, .int .i64 x124001_2, .int .i64 x124002_2, .int .i64 x124003_2] 129 (0, 0))) ∧ ze (w'.heap[gb125]? = some (.cells #[.int .i8 ((zj l0_2 x12_1).f0), .int .i8 ((zj l0_2 x12_1).f1), .int .i8 ((zj l0_2 x12_1).f2), .int .i8 ((zj l0_2 x12_1).f3)] 43 (0, 0))) ∧ ze (Below w.heap.size w w'))
      case atStart => exact ⟨(0), (x124000_1), (x124001_1), (x124002_1), (x124003_1), (by first | rfl | (simp; done) | (simp [*]; done)), H', ⟨Nat.le_refl _⟩, ⟨by (with_reducible repeat (first | refine zb ?_ _ | refine zd ?_ | refine za ?_ _)); refine zq ?_ NB122_125.out _; (with_reducible repeat (first | refine zb ?_ _ | refine zd ?_ | refine za ?_ _)); refine zq ?_ NB122_125.out _; (with_reducible repeat (first | refine zb ?_ _ | refine zd ?_ | refine za ?_ _)); refine zq ?_ NB122_125.out _; (with_reducible repeat (first | refine zb ?_ _ | refine zd ?_ | refine za ?_ _)); refine zq ?_ NB122_125.out _; (with_reducible repeat (first | refine zb ?_ _ | refine zd ?_ | refine za ?_ _)); exact BK122.out⟩, ⟨by (with_reducible repeat (first | refine zb ?_ _ | refine zd ?_ | refine za ?_ _)); refine zq ?_ NB123_125.out _; (with_reducible repeat (first | refine zb ?_ _ | refine zd ?_ | refine za ?_ _)); refine zq ?_ NB123_125.out _; (with_reducible repeat (first | refine zb ?_ _ | refine zd ?_ | refine za ?_ _)); refine zq ?_ NB123_125.out _; (with_reducible repeat (first | refine zb ?_ _ | refine zd ?_ | refine za ?_ _)); refine zq ?_ NB123_125.out _; (with_reducible repeat (first | refine zb ?_ _ | refine zd ?_ | refine za ?_ _)); exact BK123.out⟩, ⟨by (with_reducible repeat (first | refine zb ?_ _ | refine zd ?_ | refine za ?_ _)); refine zp (cs := #[.int .i8 ((zj l0_2 x12_1).f0), .int .i8 ((zj l0_2 x12_1).f1), .int .i8 ((zj l0_2 x12_1).f2), .int .i8 0]) ?_ 3 _ rfl; (with_reducible repeat (first | refine zb ?_ _ | refine zd ?_ | refine za ?_ _)); refine zp (cs := #[.int .i8 ((zj l0_2 x12_1).f0), .int .i8 ((zj l0_2 x12_1).f1), .int .i8 0, .int .i8 0]) ?_ 2 _ rfl; (with_reducible repeat (first | refine zb ?_ _ | refine zd ?_ | refine za ?_ _)); refine zp (cs := #[.int .i8 ((zj l0_2 x12_1).f0), .int .i8 0, .int .i8 0, .int .i8 0]) ?_ 1 _ rfl; (with_reducible repeat (first | refine zb ?_ _ | refine zd ?_ | refine za ?_ _)); refine zp (cs := #[.int .i8 0, .int .i8 0, .int .i8 0, .int .i8 0]) ?_ 0 _ rfl; (with_reducible repeat (first | refine zb ?_ _ | refine zd ?_ | refine za ?_ _)); exact BK125.out⟩, ⟨by repeat (first | (with_reducible first | exact HB.out | apply zg | apply zc | apply zf | refine zi ?_ GE122.out | refine zi ?_ GE123.out | refine zi ?_ GE125.out) | exact HB.out)⟩⟩
      case round =>
       clear H'
       try clear c1
       try clear p1
       try clear q1
       try clear hx1
       try clear p2
       try clear c4
       try clear c5
       try clear c7
       try clear c7b0
       try clear c8
       try clear c8b0
       try clear c9
       try clear c9b0
       try clear c11
       try clear c12
       try clear p12
       try clear q12
       try clear hx12
       try clear y3_0 y3_1 y3_2 y3_3
       try clear y1_0 y1_1 y1_2 y1_3
       try clear y2_0 y2_1 y2_2
       try clear z3_0 z3_1 z3_2 z3_3
       try clear z1_0 z1_1 z1_2 z1_3
       try clear z2_0 z2_1 z2_2
       try clear u1_0
       try clear u1_1
       try clear u1_2
       try clear u1_3
       try clear p124
       try clear p2
       try clear q124
       obtain ⟨x17_2, x124000_2, x124001_2, x124002_2, x124003_2, rfl, HA, HK2, BK122, BK123, BK125, HB⟩ := hrel
       cases gk with
       | zero => exact absurd HA.out (by simp [impl_Fixed_isBalanced.l1])
       | succ k2 =>
        have H := HA.out
        clear HA
        simp only [impl_Fixed_isBalanced.l1] at H
        by_cases c14 : x17_2 < 4
        ·rw [if_pos c14] at H
         have c14b0 : decide (x17_2 < 4) = true := decide_eq_true c14
         clear c14
         by_cases c15 : 0 ≤ x17_2
         ·rw [if_pos c15] at H
          have c15b0 : decide (0 ≤ x17_2) = true := decide_eq_true c15
          clear c15
          have H' := ze.mk H
          clear H
          have u2_0 : ∀ W_ : World, (Instr.index 43 (.agg #[.int .i8 ((zj l0_2 x12_1).f0), .int .i8 ((zj l0_2 x12_1).f1), .int .i8 ((zj l0_2 x12_1).f2), .int .i8 ((zj l0_2 x12_1).f3)]) (.int .i64 x17_2)).run Try.prog W_ = .ok (.int .i8 (rd [((zj l0_2 x12_1).f0), ((zj l0_2 x12_1).f1), ((zj l0_2 x12_1).f2), ((zj l0_2 x12_1).f3)] x17_2)) W_ := by intro W_; rcases (show (x17_2 : Int) = 0 ∨ (x17_2 : Int) = 1 ∨ (x17_2 : Int) = 2 ∨ (x17_2 : Int) = 3 by have hp_ : 0 ≤ (x17_2 : Int) := od (by first | (with_reducible assumption) | assumption); have hq_ : x17_2 < (4 : Int) := od (by first | (with_reducible assumption) | assumption); omega) with h_ | h_ | h_ | h_ <;> rw [h_] <;> kernel_rfl
          have p17 : 0 ≤ (x17_2 : Int) := od (by first | (with_reducible assumption) | assumption)
          have q17 : x17_2 < (4 : Int) := od (by first | (with_reducible assumption) | assumption)
          replace p17 := eq_true p17
          replace q17 := eq_true q17
          have hnb18 := NB123_122.out
          have hnc18 := NB122_123.out
          have hnb19 := NB123_125.out
          have hnc19 := NB125_123.out
          obtain ⟨y4_0, y4_1, y4_2, y4_3, z4_0, z4_1, z4_2, z4_3⟩ := cf4 BK123.out
          have u3_0 : wr.cell? ⟨gb123, (x17_2).toNat, none⟩ = some (.int .i64 (rd [x124000_2, x124001_2, x124002_2, x124003_2] x17_2)) := (zo BK123.out _).trans (by rcases (show (x17_2 : Int) = 0 ∨ (x17_2 : Int) = 1 ∨ (x17_2 : Int) = 2 ∨ (x17_2 : Int) = 3 by have hp_ : 0 ≤ (x17_2 : Int) := od (by first | (with_reducible assumption) | assumption); have hq_ : x17_2 < (4 : Int) := od (by first | (with_reducible assumption) | assumption); omega) with h_ | h_ | h_ | h_ <;> rw [h_] <;> rfl)
          have p22 : 0 ≤ (x17_2 : Int) := od (by first | (with_reducible assumption) | assumption)
          have q22 : x17_2 < (4 : Int) := od (by first | (with_reducible assumption) | assumption)
          replace p22 := eq_true p22
          replace q22 := eq_true q22
          go_wp2_with (first | ((with_reducible refine zja (t := 3) (p := 27) rfl ?_); have u4_0 : wr.cell? ⟨gb123, (x17_2).toNat, none⟩ = some (.int .i64 (rd [x124000_2, x124001_2, x124002_2, x124003_2] x17_2)) := (zo BK123.out _).trans (by rcases (show (x17_2 : Int) = 0 ∨ (x17_2 : Int) = 1 ∨ (x17_2 : Int) = 2 ∨ (x17_2 : Int) = 3 by have hp_ : 0 ≤ (x17_2 : Int) := od (by first | (with_reducible assumption) | assumption); have hq_ : x17_2 < (4 : Int) := od (by first | (with_reducible assumption) | assumption); omega) with h_ | h_ | h_ | h_ <;> rw [h_] <;> rfl); have z5_0 := zw BK123.out ((x17_2).toNat); refine zia (t := 3) (p := 27) (v := ?vo_w24) (w1 := (wr.setCell ⟨gb123, (x17_2).toNat, none⟩ (.int .i64 (wrap64 ((rd [x124000_2, x124001_2, x124002_2, x124003_2] x17_2) + (wrap64 (rd [((zj l0_2 x12_1).f0), ((zj l0_2 x12_1).f1), ((zj l0_2 x12_1).f2), ((zj l0_2 x12_1).f3)] x17_2))))))) ?hg ?ho ?hn ?hr ?_; (case ho => rfl); (case hg => rfl); (case hn => rfl); (case hr => first | (go_simp; done) | (go_simp; rfl)); intro w24 hw; have n0_ : ze (w24.heap[gb122]? = some (.cells #[.int .i8 a0_0, .int .i8 a0_1, .slice (some ad124) l0_2.length c0_2] 28 (0, 0))) := ⟨(by rw [hw]; exact (by (with_reducible repeat (first | refine zb ?_ _ | refine zd ?_ | refine za ?_ _)); refine zq ?_ NB122_123.out _; (with_reducible repeat (first | refine zb ?_ _ | refine zd ?_ | refine za ?_ _)); exact BK122.out))⟩; have n1_ : ze (w24.heap[gb123]? = some (.cells #[.int .i64 (zv x17_2 0 (wrap64 ((rd [x124000_2, x124001_2, x124002_2, x124003_2] x17_2) + (wrap64 (rd [((zj l0_2 x12_1).f0), ((zj l0_2 x12_1).f1), ((zj l0_2 x12_1).f2), ((zj l0_2 x12_1).f3)] x17_2)))) x124000_2), .int .i64 (zv x17_2 1 (wrap64 ((rd [x124000_2, x124001_2, x124002_2, x124003_2] x17_2) + (wrap64 (rd [((zj l0_2 x12_1).f0), ((zj l0_2 x12_1).f1), ((zj l0_2 x12_1).f2), ((zj l0_2 x12_1).f3)] x17_2)))) x124001_2), .int .i64 (zv x17_2 2 (wrap64 ((rd [x124000_2, x124001_2, x124002_2, x124003_2] x17_2) + (wrap64 (rd [((zj l0_2 x12_1).f0), ((zj l0_2 x12_1).f1), ((zj l0_2 x12_1).f2), ((zj l0_2 x12_1).f3)] x17_2)))) x124002_2), .int .i64 (zv x17_2 3 (wrap64 ((rd [x124000_2, x124001_2, x124002_2, x124003_2] x17_2) + (wrap64 (rd [((zj l0_2 x12_1).f0), ((zj l0_2 x12_1).f1), ((zj l0_2 x12_1).f2), ((zj l0_2 x12_1).f3)] x17_2)))) x124003_2)] 129 (0, 0))) := ⟨(by rw [hw]; exact (by (with_reducible repeat (first | refine zb ?_ _ | refine zd ?_ | refine za ?_ _)); refine zp (cs := #[.int .i64 x124000_2, .int .i64 x124001_2, .int .i64 x124002_2, .int .i64 x124003_2]) ?_ ((x17_2).toNat) _ (by rcases (show (x17_2 : Int) = 0 ∨ (x17_2 : Int) = 1 ∨ (x17_2 : Int) = 2 ∨ (x17_2 : Int) = 3 by have hp_ : 0 ≤ (x17_2 : Int) := od (by first | (with_reducible assumption) | assumption); have hq_ : x17_2 < (4 : Int) := od (by first | (with_reducible assumption) | assumption); omega) with h_ | h_ | h_ | h_ <;> rw [h_] <;> rfl); (with_reducible repeat (first | refine zb ?_ _ | refine zd ?_ | refine za ?_ _)); exact BK123.out))⟩; have n2_ : ze (w24.heap[gb125]? = some (.cells #[.int .i8 ((zj l0_2 x12_1).f0), .int .i8 ((zj l0_2 x12_1).f1), .int .i8 ((zj l0_2 x12_1).f2), .int .i8 ((zj l0_2 x12_1).f3)] 43 (0, 0))) := ⟨(by rw [hw]; exact (by (with_reducible repeat (first | refine zb ?_ _ | refine zd ?_ | refine za ?_ _)); refine zq ?_ NB125_123.out _; (with_reducible repeat (first | refine zb ?_ _ | refine zd ?_ | refine za ?_ _)); exact BK125.out))⟩; have n3_ : ze (Below w.heap.size w w24) := ⟨(by rw [hw]; exact (by repeat (first | (with_reducible first | exact HB.out | apply zg | apply zc | apply zf | refine zi ?_ GE122.out | refine zi ?_ GE123.out | refine zi ?_ GE125.out) | exact HB.out)))⟩; clear hw; clear BK122; clear BK123; clear BK125; clear HB; have BK122 := n0_; have BK123 := n1_; have BK125 := n2_; have HB := n3_; clear n0_ n1_ n2_ n3_))
          go_roundg k2
          case measure => have := HK1.out; have := HK2.out; omega
          case rel => exact ⟨(wrap64 (x17_2 + 1)), ((zv x17_2 0 (wrap64 ((rd [x124000_2, x124001_2, x124002_2, x124003_2] x17_2) + (wrap64 (rd [((zj l0_2 x12_1).f0), ((zj l0_2 x12_1).f1), ((zj l0_2 x12_1).f2), ((zj l0_2 x12_1).f3)] x17_2)))) x124000_2)), ((zv x17_2 1 (wrap64 ((rd [x124000_2, x124001_2, x124002_2, x124003_2] x17_2) + (wrap64 (rd [((zj l0_2 x12_1).f0), ((zj l0_2 x12_1).f1), ((zj l0_2 x12_1).f2), ((zj l0_2 x12_1).f3)] x17_2)))) x124001_2)), ((zv x17_2 2 (wrap64 ((rd [x124000_2, x124001_2, x124002_2, x124003_2] x17_2) + (wrap64 (rd [((zj l0_2 x12_1).f0), ((zj l0_2 x12_1).f1), ((zj l0_2 x12_1).f2), ((zj l0_2 x12_1).f3)] x17_2)))) x124002_2)), ((zv x17_2 3 (wrap64 ((rd [x124000_2, x124001_2, x124002_2, x124003_2] x17_2) + (wrap64 (rd [((zj l0_2 x12_1).f0), ((zj l0_2 x12_1).f1), ((zj l0_2 x12_1).f2), ((zj l0_2 x12_1).f3)] x17_2)))) x124003_2)), (by first | rfl | (simp; done) | (simp [*]; done)), H', ⟨by have := HK1.out; have := HK2.out; omega⟩, ⟨by (with_reducible repeat (first | refine zb ?_ _ | refine zd ?_ | refine za ?_ _)); exact BK122.out⟩, ⟨by (with_reducible repeat (first | refine zb ?_ _ | refine zd ?_ | refine za ?_ _)); exact BK123.out⟩, ⟨by (with_reducible repeat (first | refine zb ?_ _ | refine zd ?_ | refine za ?_ _)); exact BK125.out⟩, ⟨by repeat (first | (with_reducible first | exact HB.out | apply zg | apply zc | apply zf | refine zi ?_ GE122.out | refine zi ?_ GE123.out | refine zi ?_ GE125.out) | exact HB.out)⟩⟩
         rw [if_neg c15] at H
         exact absurd H (by simp)
        rw [if_neg c14] at H
        have c14b0 : decide (x17_2 < 4) = false := decide_eq_false c14
        clear c14
        have H' := ze.mk H
        clear H
        go_wp2
        go_roundg k2
        case measure => have := HK1.out; have := HK2.out; omega
        case rel => exact ⟨(wrap64 (x12_1 + 1)), (x124000_2), (x124001_2), (x124002_2), (x124003_2), (by first | rfl | (simp; done) | (simp [*]; done)), H', ⟨by have := HK1.out; have := HK2.out; omega⟩, ⟨by (with_reducible repeat (first | refine zb ?_ _ | refine zd ?_ | refine za ?_ _)); exact BK122.out⟩, ⟨by (with_reducible repeat (first | refine zb ?_ _ | refine zd ?_ | refine za ?_ _)); exact BK123.out⟩, ⟨by repeat (first | (with_reducible first | exact HB.out | apply zg | apply zc | apply zf | refine zi ?_ GE122.out | refine zi ?_ GE123.out | refine zi ?_ GE125.out) | exact HB.out)⟩⟩
     rw [if_neg c9] at H
     exact absurd H (by simp)
    rw [if_neg c8] at H
    exact absurd H (by simp)
   rw [if_neg c7] at H
   have c7b0 : decide (x12_1 < (l0_2.length : Int)) = false := decide_eq_false c7
   clear c7
   obtain rfl := Option.some.inj H
   have hnb25 := NB123_122.out
   have hnc25 := NB122_123.out
   obtain ⟨y5_0, y5_1, y5_2, y5_3, z6_0, z6_1, z6_2, z6_3⟩ := cf4 BK123.out
   go_wp2
   go_ret
   exact ⟨by first | rfl | (simp [zn, zm] <;> rfl) | (simp [*, zn, zm] <;> rfl), by repeat (first | (with_reducible first | exact HB.out | apply zg | apply zc | apply zf | refine zi ?_ GE122.out | refine zi ?_ GE123.out) | exact HB.out)⟩
def impl_Fixed_weighing.l0 : Nat → Int → List (S43) → Int → Int → Int → Int → Int → Int → Int → Int → Int → Int → Int → Int → Int → Int → Int → Int → Option (Int × Int × Int × Int × Int × Int × Int × Int × Int × Int × Int × Int × Int × Int)
 | 0, _, _, _, _, _, _, _, _, _, _, _, _, _, _, _, _, _, _ => none
 | k + 1, x1, x10, x11, x12, x134000, x134001, x134002, x134003, x134004, x134005, x134006, x134007, x134008, x134009, x134010, x134011, x134012, x134013 => if x12 < x11 then (if 0 ≤ x12 then (if x12 < (x10.length : Int) then (if 0 ≤ x1 then (if x1 < 4 then (if x12 < 14 then (impl_Fixed_weighing.l0 k x1 x10 x11 (wrap64 (x12 + 1)) (zv x12 0 (rd [(zj x10 x12).f0, (zj x10 x12).f1, (zj x10 x12).f2, (zj x10 x12).f3] x1) x134000) (zv x12 1 (rd [(zj x10 x12).f0, (zj x10 x12).f1, (zj x10 x12).f2, (zj x10 x12).f3] x1) x134001) (zv x12 2 (rd [(zj x10 x12).f0, (zj x10 x12).f1, (zj x10 x12).f2, (zj x10 x12).f3] x1) x134002) (zv x12 3 (rd [(zj x10 x12).f0, (zj x10 x12).f1, (zj x10 x12).f2, (zj x10 x12).f3] x1) x134003) (zv x12 4 (rd [(zj x10 x12).f0, (zj x10 x12).f1, (zj x10 x12).f2, (zj x10 x12).f3] x1) x134004) (zv x12 5 (rd [(zj x10 x12).f0, (zj x10 x12).f1, (zj x10 x12).f2, (zj x10 x12).f3] x1) x134005) (zv x12 6 (rd [(zj x10 x12).f0, (zj x10 x12).f1, (zj x10 x12).f2, (zj x10 x12).f3] x1) x134006) (zv x12 7 (rd [(zj x10 x12).f0, (zj x10 x12).f1, (zj x10 x12).f2, (zj x10 x12).f3] x1) x134007) (zv x12 8 (rd [(zj x10 x12).f0, (zj x10 x12).f1, (zj x10 x12).f2, (zj x10 x12).f3] x1) x134008) (zv x12 9 (rd [(zj x10 x12).f0, (zj x10 x12).f1, (zj x10 x12).f2, (zj x10 x12).f3] x1) x134009) (zv x12 10 (rd [(zj x10 x12).f0, (zj x10 x12).f1, (zj x10 x12).f2, (zj x10 x12).f3] x1) x134010) (zv x12 11 (rd [(zj x10 x12).f0, (zj x10 x12).f1, (zj x10 x12).f2, (zj x10 x12).f3] x1) x134011) (zv x12 12 (rd [(zj x10 x12).f0, (zj x10 x12).f1, (zj x10 x12).f2, (zj x10 x12).f3] x1) x134012) (zv x12 13 (rd [(zj x10 x12).f0, (zj x10 x12).f1, (zj x10 x12).f2, (zj x10 x12).f3] x1) x134013)) else (none)) else (none)) else (none)) else (none)) else (none)) else (some (x134000, x134001, x134002, x134003, x134004, x134005, x134006, x134007, x134008, x134009, x134010, x134011, x134012, x134013))
def impl_Fixed_weighing.f (k : Nat) (a0_0 : Int) (a0_1 : Int) (l0_2 : List (S43)) (a1 : Int) : Option (Int × Int × Int × Int × Int × Int × Int × Int × Int × Int × Int × Int × Int × Int) := impl_Fixed_weighing.l0 k a1 l0_2 (l0_2.length : Int) 0 0 0 0 0 0 0 0 0 0 0 0 0 0 0
set_option maxHeartbeats 8000000 in
set_option maxRecDepth 100000 in
theorem impl_Fixed_weighing.calls (k : Nat) (a0_0 : Int) (a0_1 : Int) (A0_2 : Option Addr) (c0_2 : Nat) (l0_2 : List (S43)) (a1 : Int) (r1 : Int) (r2 : Int) (r3 : Int) (r4 : Int) (r5 : Int) (r6 : Int) (r7 : Int) (r8 : Int) (r9 : Int) (r10 : Int) (r11 : Int) (r12 : Int) (r13 : Int) (r14 : Int) (w : World) (hr0_2 : Kd.C k43 w A0_2 l0_2.length l0_2) (hc0_2 : l0_2.length ≤ c0_2) (h : impl_Fixed_weighing.f k a0_0 a0_1 l0_2 a1 = some (r1, r2, r3, r4, r5, r6, r7, r8, r9, r10, r11, r12, r13, r14)) :
  Calls Try.prog 66 #[.agg #[.int .i8 a0_0, .int .i8 a0_1, .slice A0_2 l0_2.length c0_2], .int .i64 a1] w fun e w' => e = .returned (.agg #[.int .i8 r1, .int .i8 r2, .int .i8 r3, .int .i8 r4, .int .i8 r5, .int .i8 r6, .int .i8 r7, .int .i8 r8, .int .i8 r9, .int .i8 r10, .int .i8 r11, .int .i8 r12, .int .i8 r13, .int .i8 r14]) ∧ Below w.heap.size w w' := by
 have hu28 := Try.underlying28
 have hu96 := Try.underlying96
 have hu43 := Try.underlying43
 have HR0_2 := ze.mk hr0_2
 have HC0_2 := ze.mk hc0_2
 clear hr0_2 hc0_2
 have HB := ze.mk (Below.refl w.heap.size w)
 have H : (impl_Fixed_weighing.l0 k a1 l0_2 (l0_2.length : Int) 0 0 0 0 0 0 0 0 0 0 0 0 0 0 0) = some (r1, r2, r3, r4, r5, r6, r7, r8, r9, r10, r11, r12, r13, r14) := h
 clear h
 have H' := ze.mk H
 clear H
 go_enter Try.func66, Try.ntmps66
 go_wp2_with (first | ((with_reducible refine zu (N := 2) rfl ?_); refine zr ?hg (N := 2) ?hd (cs := #[.int .i8 a0_0, .int .i8 a0_1, .slice A0_2 l0_2.length c0_2]) (t := 28) ?hr ?_; (case hd => rfl); (case hg => rfl); (case hr => first | (go_simp; done) | (go_simp; rfl)); intro gb131 hg w3 hbox hb; obtain ⟨n0_, n2_⟩ := bx (by repeat (first | (with_reducible first | exact HB.out | apply zg | apply zc | apply zf) | exact HB.out)) hb hg; have n1_ := ze.mk (hbox); have n3_ := n2_; clear HB; have HB := n0_; have BK131 := n1_; have GW131 := n2_; have GE131 := n3_; clear n0_ n1_ n2_ n3_; clear hb hbox hg) | ((with_reducible refine zu (N := 4) rfl ?_); refine zr ?hg (N := 4) ?hd (cs := #[.int .i8 0, .int .i8 0, .int .i8 0, .int .i8 0, .int .i8 0, .int .i8 0, .int .i8 0, .int .i8 0, .int .i8 0, .int .i8 0, .int .i8 0, .int .i8 0, .int .i8 0, .int .i8 0]) (t := 96) ?hr ?_; (case hd => rfl); (case hg => rfl); (case hr => first | (go_simp; done) | (go_simp; rfl)); intro gb132 hg w4 hbox hb; have n0_ := ze.mk (zk (by (with_reducible repeat (first | refine zb ?_ _ | refine zd ?_ | refine za ?_ _)); exact BK131.out) hb); obtain ⟨n1_, n3_⟩ := bx (by repeat (first | (with_reducible first | exact HB.out | apply zg | apply zc | apply zf | refine zi ?_ GE131.out) | exact HB.out)) hb hg; have n2_ := ze.mk (hbox); have n4_ := n3_; have n5_ := ze.mk ((by rw [hg]; exact Nat.ne_of_lt (zba (by (with_reducible repeat (first | refine zb ?_ _ | refine zd ?_ | refine za ?_ _)); exact BK131.out)) : gb131 ≠ gb132)); have n6_ := ze.mk n5_.out.symm; clear BK131; clear HB; have BK131 := n0_; have HB := n1_; have BK132 := n2_; have GW132 := n3_; have GE132 := n4_; have NB131_132 := n5_; have NB132_131 := n6_; clear n0_ n1_ n2_ n3_ n4_ n5_ n6_; clear hb hbox hg) | ((with_reducible refine zu (N := 5) rfl ?_); refine zr ?hg (N := 5) ?hd (cs := #[.int .i8 0, .int .i8 0, .int .i8 0, .int .i8 0, .int .i8 0, .int .i8 0, .int .i8 0, .int .i8 0, .int .i8 0, .int .i8 0, .int .i8 0, .int .i8 0, .int .i8 0, .int .i8 0]) (t := 96) ?hr ?_; (case hd => rfl); (case hg => rfl); (case hr => first | (go_simp; done) | (go_simp; rfl)); intro gb133 hg w5 hbox hb; have n0_ := ze.mk (zk (by (with_reducible repeat (first | refine zb ?_ _ | refine zd ?_ | refine za ?_ _)); exact BK131.out) hb); have n1_ := ze.mk (zk (by (with_reducible repeat (first | refine zb ?_ _ | refine zd ?_ | refine za ?_ _)); exact BK132.out) hb); obtain ⟨n2_, n4_⟩ := bx (by repeat (first | (with_reducible first | exact HB.out | apply zg | apply zc | apply zf | refine zi ?_ GE131.out | refine zi ?_ GE132.out) | exact HB.out)) hb hg; have n3_ := ze.mk (hbox); have n5_ := n4_; have n6_ := ze.mk ((by rw [hg]; exact Nat.ne_of_lt (zba (by (with_reducible repeat (first | refine zb ?_ _ | refine zd ?_ | refine za ?_ _)); exact BK131.out)) : gb131 ≠ gb133)); have n7_ := ze.mk n6_.out.symm; have n8_ := ze.mk ((by rw [hg]; exact Nat.ne_of_lt (zba (by (with_reducible repeat (first | refine zb ?_ _ | refine zd ?_ | refine za ?_ _)); exact BK132.out)) : gb132 ≠ gb133)); have n9_ := ze.mk n8_.out.symm; clear BK131; clear BK132; clear HB; have BK131 := n0_; have BK132 := n1_; have HB := n2_; have BK133 := n3_; have GW133 := n4_; have GE133 := n5_; have NB131_133 := n6_; have NB133_131 := n7_; have NB132_133 := n8_; have NB133_132 := n9_; clear n0_ n1_ n2_ n3_ n4_ n5_ n6_ n7_ n8_ n9_; clear hb hbox hg; have hnb6 := NB133_131.out; have hnc6 := NB131_133.out; have hnb7 := NB133_132.out; have hnc7 := NB132_133.out; obtain ⟨y1_0, y1_1, y1_2, y1_3, y1_4, y1_5, y1_6, y1_7, y1_8, y1_9, y1_10, y1_11, y1_12, y1_13, z1_0, z1_1, z1_2, z1_3, z1_4, z1_5, z1_6, z1_7, z1_8, z1_9, z1_10, z1_11, z1_12, z1_13⟩ := cf14 BK133.out; have hnb9 := NB131_132.out; have hnc9 := NB132_131.out; obtain ⟨y2_0, y2_1, y2_2, z2_0, z2_1, z2_2⟩ := cf3 BK131.out))
 go_loopg [12] k (fun kq v12 w' => ∃ (x12_1 : Int) (x134000_1 : Int) (x134001_1 : Int) (x134002_1 : Int) (x134003_1 : Int) (x134004_1 : Int) (x134005_1 : Int) (x134006_1 : Int) (x134007_1 : Int) (x134008_1 : Int) (x134009_1 : Int) (x134010_1 : Int) (x134011_1 : Int) (x134012_1 : Int) (x134013_1 : Int), v12 = .int .i64 x12_1 ∧ ze (impl_Fixed_weighing.l0 kq a1 l0_2 (l0_2.length : Int) x12_1 x134000_1 x134001_1 x134002_1 x134003_1 x134004_1 x134005_1 x134006_1 x134007_1 x134008_1 x134009_1 x134010_1 x134011_1 x134012_1 x134013_1 = some (r1, r2, r3, r4, r5, r6, r7, r8, r9, r10, r11, r12, r13, r14)) ∧ ze (kq ≤ k) ∧ ze (w'.heap[gb131]? = some (.cells #[.int .i8 a0_0, .int .i8 a0_1, (.slice A0_2 l0_2.length c0_2)] 28 (0, 0))) ∧ ze (w'.heap[gb132]? = some (.cells #[.int .i8 0, .int .i8 0, .int .i8 0, .int .i8 0, .int .i8 0, .int .i8 0, .int .i8 0, .int .i8 0, .int .i8 0, .int .i8 0, .int .i8 0, .int .i8 0, .int .i8 0, .int .i8 0] 96 (0, 0))) ∧ ze (w'.heap[gb133]? = some (.cells #[.int .i8 x134000_1, .int .i8 x134001_1, .int .i8 x134002_1, .int .i8 x134003_1, .int .i8 x134004_1, .int .i8 x134005_1, .int .i8 x134006_1, .int .i8 x134007_1, .int .i8 x134008_1, .int .i8 x134009_1, .int .i8 x134010_1, .int .i8 x134011_1, .int .i8 x134012_1, .int .i8 x134013_1] 96 (0, 0))) ∧ ze (Below w.heap.size w w'))
 case atStart => exact ⟨(0), (0), (0), (0), (0), (0), (0), (0), (0), (0), (0), (0), (0), (0), (0), (by first | rfl | (simp; done) | (simp [*]; done)), H', ⟨Nat.le_refl _⟩, ⟨by (with_reducible repeat (first | refine zb ?_ _ | refine zd ?_ | refine za ?_ _)); refine zq ?_ NB131_133.out _; (with_reducible repeat (first | refine zb ?_ _ | refine zd ?_ | refine za ?_ _)); refine zq ?_ NB131_133.out _; (with_reducible repeat (first | refine zb ?_ _ | refine zd ?_ | refine za ?_ _)); refine zq ?_ NB131_133.out _; (with_reducible repeat (first | refine zb ?_ _ | refine zd ?_ | refine za ?_ _)); refine zq ?_ NB131_133.out _; (with_reducible repeat (first | refine zb ?_ _ | refine zd ?_ | refine za ?_ _)); refine zq ?_ NB131_133.out _; (with_reducible repeat (first | refine zb ?_ _ | refine zd ?_ | refine za ?_ _)); refine zq ?_ NB131_133.out _; (with_reducible repeat (first | refine zb ?_ _ | refine zd ?_ | refine za ?_ _)); refine zq ?_ NB131_133.out _; (with_reducible repeat (first | refine zb ?_ _ | refine zd ?_ | refine za ?_ _)); refine zq ?_ NB131_133.out _; (with_reducible repeat (first | refine zb ?_ _ | refine zd ?_ | refine za ?_ _)); refine zq ?_ NB131_133.out _; (with_reducible repeat (first | refine zb ?_ _ | refine zd ?_ | refine za ?_ _)); refine zq ?_ NB131_133.out _; (with_reducible repeat (first | refine zb ?_ _ | refine zd ?_ | refine za ?_ _)); refine zq ?_ NB131_133.out _; (with_reducible repeat (first | refine zb ?_ _ | refine zd ?_ | refine za ?_ _)); refine zq ?_ NB131_133.out _; (with_reducible repeat (first | refine zb ?_ _ | refine zd ?_ | refine za ?_ _)); refine zq ?_ NB131_133.out _; (with_reducible repeat (first | refine zb ?_ _ | refine zd ?_ | refine za ?_ _)); refine zq ?_ NB131_133.out _; (with_reducible repeat (first | refine zb ?_ _ | refine zd ?_ | refine za ?_ _)); exact BK131.out⟩, ⟨by (with_reducible repeat (first | refine zb ?_ _ | refine zd ?_ | refine za ?_ _)); refine zq ?_ NB132_133.out _; (with_reducible repeat (first | refine zb ?_ _ | refine zd ?_ | refine za ?_ _)); refine zq ?_ NB132_133.out _; (with_reducible repeat (first | refine zb ?_ _ | refine zd ?_ | refine za ?_ _)); refine zq ?_ NB132_133.out _; (with_reducible repeat (first | refine zb ?_ _ | refine zd ?_ | refine za ?_ _)); refine zq ?_ NB132_133.out _; (with_reducible repeat (first | refine zb ?_ _ | refine zd ?_ | refine za ?_ _)); refine zq ?_ NB132_133.out _; (with_reducible repeat (first | refine zb ?_ _ | refine zd ?_ | refine za ?_ _)); refine zq ?_ NB132_133.out _; (with_reducible repeat (first | refine zb ?_ _ | refine zd ?_ | refine za ?_ _)); refine zq ?_ NB132_133.out _; (with_reducible repeat (first | refine zb ?_ _ | refine zd ?_ | refine za ?_ _)); refine zq ?_ NB132_133.out _; (with_reducible repeat (first | refine zb ?_ _ | refine zd ?_ | refine za ?_ _)); refine zq ?_ NB132_133.out _; (with_reducible repeat (first | refine zb ?_ _ | refine zd ?_ | refine za ?_ _)); refine zq ?_ NB132_133.out _; (with_reducible repeat (first | refine zb ?_ _ | refine zd ?_ | refine za ?_ _)); refine zq ?_ NB132_133.out _; (with_reducible repeat (first | refine zb ?_ _ | refine zd ?_ | refine za ?_ _)); refine zq ?_ NB132_133.out _; (with_reducible repeat (first | refine zb ?_ _ | refine zd ?_ | refine za ?_ _)); refine zq ?_ NB132_133.out _; (with_reducible repeat (first | refine zb ?_ _ | refine zd ?_ | refine za ?_ _)); refine zq ?_ NB132_133.out _; (with_reducible repeat (first | refine zb ?_ _ | refine zd ?_ | refine za ?_ _)); exact BK132.out⟩, ⟨by (with_reducible repeat (first | refine zb ?_ _ | refine zd ?_ | refine za ?_ _)); refine zp (cs := #[.int .i8 0, .int .i8 0, .int .i8 0, .int .i8 0, .int .i8 0, .int .i8 0, .int .i8 0, .int .i8 0, .int .i8 0, .int .i8 0, .int .i8 0, .int .i8 0, .int .i8 0, .int .i8 0]) ?_ 13 _ rfl; (with_reducible repeat (first | refine zb ?_ _ | refine zd ?_ | refine za ?_ _)); refine zp (cs := #[.int .i8 0, .int .i8 0, .int .i8 0, .int .i8 0, .int .i8 0, .int .i8 0, .int .i8 0, .int .i8 0, .int .i8 0, .int .i8 0, .int .i8 0, .int .i8 0, .int .i8 0, .int .i8 0]) ?_ 12 _ rfl; (with_reducible repeat (first | refine zb ?_ _ | refine zd ?_ | refine za ?_ _)); refine zp (cs := #[.int .i8 0, .int .i8 0, .int .i8 0, .int .i8 0, .int .i8 0, .int .i8 0, .int .i8 0, .int .i8 0, .int .i8 0, .int .i8 0, .int .i8 0, .int .i8 0, .int .i8 0, .int .i8 0]) ?_ 11 _ rfl; (with_reducible repeat (first | refine zb ?_ _ | refine zd ?_ | refine za ?_ _)); refine zp (cs := #[.int .i8 0, .int .i8 0, .int .i8 0, .int .i8 0, .int .i8 0, .int .i8 0, .int .i8 0, .int .i8 0, .int .i8 0, .int .i8 0, .int .i8 0, .int .i8 0, .int .i8 0, .int .i8 0]) ?_ 10 _ rfl; (with_reducible repeat (first | refine zb ?_ _ | refine zd ?_ | refine za ?_ _)); refine zp (cs := #[.int .i8 0, .int .i8 0, .int .i8 0, .int .i8 0, .int .i8 0, .int .i8 0, .int .i8 0, .int .i8 0, .int .i8 0, .int .i8 0, .int .i8 0, .int .i8 0, .int .i8 0, .int .i8 0]) ?_ 9 _ rfl; (with_reducible repeat (first | refine zb ?_ _ | refine zd ?_ | refine za ?_ _)); refine zp (cs := #[.int .i8 0, .int .i8 0, .int .i8 0, .int .i8 0, .int .i8 0, .int .i8 0, .int .i8 0, .int .i8 0, .int .i8 0, .int .i8 0, .int .i8 0, .int .i8 0, .int .i8 0, .int .i8 0]) ?_ 8 _ rfl; (with_reducible repeat (first | refine zb ?_ _ | refine zd ?_ | refine za ?_ _)); refine zp (cs := #[.int .i8 0, .int .i8 0, .int .i8 0, .int .i8 0, .int .i8 0, .int .i8 0, .int .i8 0, .int .i8 0, .int .i8 0, .int .i8 0, .int .i8 0, .int .i8 0, .int .i8 0, .int .i8 0]) ?_ 7 _ rfl; (with_reducible repeat (first | refine zb ?_ _ | refine zd ?_ | refine za ?_ _)); refine zp (cs := #[.int .i8 0, .int .i8 0, .int .i8 0, .int .i8 0, .int .i8 0, .int .i8 0, .int .i8 0, .int .i8 0, .int .i8 0, .int .i8 0, .int .i8 0, .int .i8 0, .int .i8 0, .int .i8 0]) ?_ 6 _ rfl; (with_reducible repeat (first | refine zb ?_ _ | refine zd ?_ | refine za ?_ _)); refine zp (cs := #[.int .i8 0, .int .i8 0, .int .i8 0, .int .i8 0, .int .i8 0, .int .i8 0, .int .i8 0, .int .i8 0, .int .i8 0, .int .i8 0, .int .i8 0, .int .i8 0, .int .i8 0, .int .i8 0]) ?_ 5 _ rfl; (with_reducible repeat (first | refine zb ?_ _ | refine zd ?_ | refine za ?_ _)); refine zp (cs := #[.int .i8 0, .int .i8 0, .int .i8 0, .int .i8 0, .int .i8 0, .int .i8 0, .int .i8 0, .int .i8 0, .int .i8 0, .int .i8 0, .int .i8 0, .int .i8 0, .int .i8 0, .int .i8 0]) ?_ 4 _ rfl; (with_reducible repeat (first | refine zb ?_ _ | refine zd ?_ | refine za ?_ _)); refine zp (cs := #[.int .i8 0, .int .i8 0, .int .i8 0, .int .i8 0, .int .i8 0, .int .i8 0, .int .i8 0, .int .i8 0, .int .i8 0, .int .i8 0, .int .i8 0, .int .i8 0, .int .i8 0, .int .i8 0]) ?_ 3 _ rfl; (with_reducible repeat (first | refine zb ?_ _ | refine zd ?_ | refine za ?_ _)); refine zp (cs := #[.int .i8 0, .int .i8 0, .int .i8 0, .int .i8 0, .int .i8 0, .int .i8 0, .int .i8 0, .int .i8 0, .int .i8 0, .int .i8 0, .int .i8 0, .int .i8 0, .int .i8 0, .int .i8 0]) ?_ 2 _ rfl; (with_reducible repeat (first | refine zb ?_ _ | refine zd ?_ | refine za ?_ _)); refine zp (cs := #[.int .i8 0, .int .i8 0, .int .i8 0, .int .i8 0, .int .i8 0, .int .i8 0, .int .i8 0, .int .i8 0, .int .i8 0, .int .i8 0, .int .i8 0, .int .i8 0, .int .i8 0, .int .i8 0]) ?_ 1 _ rfl; (with_reducible repeat (first | refine zb ?_ _ | refine zd ?_ | refine za ?_ _)); refine zp (cs := #[.int .i8 0, .int .i8 0, .int .i8 0, .int .i8 0, .int .i8 0, .int .i8 0, .int .i8 0, .int .i8 0, .int .i8 0, .int .i8 0, .int .i8 0, .int .i8 0, .int .i8 0, .int .i8 0]) ?_ 0 _ rfl; (with_reducible repeat (first | refine zb ?_ _ | refine zd ?_ | refine za ?_ _)); exact BK133.out⟩, ⟨by repeat (first | (with_reducible first | exact HB.out | apply zg | apply zc | apply zf | refine zi ?_ GE131.out | refine zi ?_ GE132.out | refine zi ?_ GE133.out) | exact HB.out)⟩⟩
 case round =>
  clear H'
  try clear p2
  try clear c6
  try clear c7
  try clear c9
  try clear y2_0 y2_1 y2_2
  try clear y1_0 y1_1 y1_10 y1_11 y1_12 y1_13 y1_2 y1_3 y1_4 y1_5 y1_6 y1_7 y1_8 y1_9
  try clear z2_0 z2_1 z2_2
  try clear z1_0 z1_1 z1_10 z1_11 z1_12 z1_13 z1_2 z1_3 z1_4 z1_5 z1_6 z1_7 z1_8 z1_9
  obtain ⟨x12_1, x134000_1, x134001_1, x134002_1, x134003_1, x134004_1, x134005_1, x134006_1, x134007_1, x134008_1, x134009_1, x134010_1, x134011_1, x134012_1, x134013_1, rfl, HA, HK1, BK131, BK132, BK133, HB⟩ := hrel
  cases gk with
  | zero => exact absurd HA.out (by simp [impl_Fixed_weighing.l0])
  | succ k1 =>
   have H := HA.out
   clear HA
   simp only [impl_Fixed_weighing.l0] at H
   by_cases c11 : x12_1 < (l0_2.length : Int)
   ·rw [if_pos c11] at H
    have c11b0 : decide (x12_1 < (l0_2.length : Int)) = true := decide_eq_true c11
    clear c11
    by_cases c12 : 0 ≤ x12_1
    ·rw [if_pos c12] at H
     have c12b0 : decide (0 ≤ x12_1) = true := decide_eq_true c12
     clear c12
     by_cases c13 : x12_1 < (l0_2.length : Int)
     ·rw [if_pos c13] at H
      have c13b0 : decide (x12_1 < (l0_2.length : Int)) = true := decide_eq_true c13
      clear c13
      by_cases c14 : 0 ≤ a1
      ·rw [if_pos c14] at H
       have c14b0 : decide (0 ≤ a1) = true := decide_eq_true c14
       clear c14
       by_cases c15 : a1 < 4
       ·rw [if_pos c15] at H
        have c15b0 : decide (a1 < 4) = true := decide_eq_true c15
        clear c15
        by_cases c16 : x12_1 < 14
        ·rw [if_pos c16] at H
         have c16b0 : decide (x12_1 < 14) = true := decide_eq_true c16
         clear c16
         have H' := ze.mk H
         clear H
         have p134 : 0 ≤ (x12_1 : Int) := od (by first | (with_reducible assumption) | assumption)
         have q134 : x12_1 < (l0_2.length : Int) := od (by first | (with_reducible assumption) | assumption)
         obtain ⟨ad134, e134, u1_0, u1_1, u1_2, u1_3⟩ := zoe HB.out HR0_2.out x12_1 p134 q134
         cases e134
         replace p134 := eq_true p134
         replace q134 := eq_true q134
         go_wp2_with (first | ((with_reducible refine zu (N := 7) rfl ?_); refine zr ?hg (N := 7) ?hd (cs := #[.int .i8 0, .int .i8 0, .int .i8 0, .int .i8 0]) (t := 43) ?hr ?_; (case hd => rfl); (case hg => rfl); (case hr => first | (go_simp; done) | (go_simp; rfl)); intro gb135 hg w17 hbox hb; have n0_ := ze.mk (zk (by (with_reducible repeat (first | refine zb ?_ _ | refine zd ?_ | refine za ?_ _)); exact BK131.out) hb); have n1_ := ze.mk (zk (by (with_reducible repeat (first | refine zb ?_ _ | refine zd ?_ | refine za ?_ _)); exact BK132.out) hb); have n2_ := ze.mk (zk (by (with_reducible repeat (first | refine zb ?_ _ | refine zd ?_ | refine za ?_ _)); exact BK133.out) hb); obtain ⟨n3_, n5_⟩ := bx (by repeat (first | (with_reducible first | exact HB.out | apply zg | apply zc | apply zf | refine zi ?_ GE131.out | refine zi ?_ GE132.out | refine zi ?_ GE133.out) | exact HB.out)) hb hg; have n4_ := ze.mk (hbox); have n6_ := n5_; have n7_ := ze.mk ((by rw [hg]; exact Nat.ne_of_lt (zba (by (with_reducible repeat (first | refine zb ?_ _ | refine zd ?_ | refine za ?_ _)); exact BK131.out)) : gb131 ≠ gb135)); have n8_ := ze.mk n7_.out.symm; have n9_ := ze.mk ((by rw [hg]; exact Nat.ne_of_lt (zba (by (with_reducible repeat (first | refine zb ?_ _ | refine zd ?_ | refine za ?_ _)); exact BK132.out)) : gb132 ≠ gb135)); have n10_ := ze.mk n9_.out.symm; have n11_ := ze.mk ((by rw [hg]; exact Nat.ne_of_lt (zba (by (with_reducible repeat (first | refine zb ?_ _ | refine zd ?_ | refine za ?_ _)); exact BK133.out)) : gb133 ≠ gb135)); have n12_ := ze.mk n11_.out.symm; clear BK131; clear BK132; clear BK133; clear HB; have BK131 := n0_; have BK132 := n1_; have BK133 := n2_; have HB := n3_; have BK135 := n4_; have GW135 := n5_; have GE135 := n6_; have NB131_135 := n7_; have NB135_131 := n8_; have NB132_135 := n9_; have NB135_132 := n10_; have NB133_135 := n11_; have NB135_133 := n12_; clear n0_ n1_ n2_ n3_ n4_ n5_ n6_ n7_ n8_ n9_ n10_ n11_ n12_; clear hb hbox hg; have hnb18 := NB135_131.out; have hnc18 := NB131_135.out; have hnb19 := NB135_132.out; have hnc19 := NB132_135.out; have hnb20 := NB135_133.out; have hnc20 := NB133_135.out; obtain ⟨y3_0, y3_1, y3_2, y3_3, z3_0, z3_1, z3_2, z3_3⟩ := cf4 BK135.out) | ((with_reducible refine zja (t := 43) (p := 7) rfl ?_); refine zia (t := 43) (p := 7) (v := ?vo_w22) (w1 := ((((w17.setCell ⟨gb135, 0, none⟩ (.int .i8 ((zj l0_2 x12_1).f0))).setCell ⟨gb135, 1, none⟩ (.int .i8 ((zj l0_2 x12_1).f1))).setCell ⟨gb135, 2, none⟩ (.int .i8 ((zj l0_2 x12_1).f2))).setCell ⟨gb135, 3, none⟩ (.int .i8 ((zj l0_2 x12_1).f3)))) ?hg ?ho ?hn ?hr ?_; (case ho => rfl); (case hg => rfl); (case hn => rfl); (case hr => first | (go_simp; done) | (go_simp; rfl)); intro w22 hw; have n0_ : ze (w22.heap[gb131]? = some (.cells #[.int .i8 a0_0, .int .i8 a0_1, .slice (some ad134) l0_2.length c0_2] 28 (0, 0))) := ⟨(by rw [hw]; exact (by (with_reducible repeat (first | refine zb ?_ _ | refine zd ?_ | refine za ?_ _)); refine zq ?_ NB131_135.out _; (with_reducible repeat (first | refine zb ?_ _ | refine zd ?_ | refine za ?_ _)); refine zq ?_ NB131_135.out _; (with_reducible repeat (first | refine zb ?_ _ | refine zd ?_ | refine za ?_ _)); refine zq ?_ NB131_135.out _; (with_reducible repeat (first | refine zb ?_ _ | refine zd ?_ | refine za ?_ _)); refine zq ?_ NB131_135.out _; (with_reducible repeat (first | refine zb ?_ _ | refine zd ?_ | refine za ?_ _)); exact BK131.out))⟩; have n1_ : ze (w22.heap[gb132]? = some (.cells #[.int .i8 0, .int .i8 0, .int .i8 0, .int .i8 0, .int .i8 0, .int .i8 0, .int .i8 0, .int .i8 0, .int .i8 0, .int .i8 0, .int .i8 0, .int .i8 0, .int .i8 0, .int .i8 0] 96 (0, 0))) := ⟨(by rw [hw]; exact (by (with_reducible repeat (first | refine zb ?_ _ | refine zd ?_ | refine za ?_ _)); refine zq ?_ NB132_135.out _; (with_reducible repeat (first | refine zb ?_ _ | refine zd ?_ | refine za ?_ _)); refine zq ?_ NB132_135.out _; (with_reducible repeat (first | refine zb ?_ _ | refine zd ?_ | refine za ?_ _)); refine zq ?_ NB132_135.out _; (with_reducible repeat (first | refine zb ?_ _ | refine zd ?_ | refine za ?_ _)); refine zq ?_ NB132_135.out _; (with_reducible repeat (first | refine zb ?_ _ | refine zd ?_ | refine za ?_ _)); exact BK132.out))⟩; have n2_ : ze (w22.heap[gb133]? = some (.cells #[.int .i8 x134000_1, .int .i8 x134001_1, .int .i8 x134002_1, .int .i8 x134003_1, .int .i8 x134004_1, .int .i8 x134005_1, .int .i8 x134006_1, .int .i8 x134007_1, .int .i8 x134008_1, .int .i8 x134009_1, .int .i8 x134010_1, .int .i8 x134011_1, .int .i8 x134012_1, .int .i8 x134013_1] 96 (0, 0))) := ⟨(by rw [hw]; exact (by (with_reducible repeat (first | refine zb ?_ _ | refine zd ?_ | refine za ?_ _)); refine zq ?_ NB133_135.out _; (with_reducible repeat (first | refine zb ?_ _ | refine zd ?_ | refine za ?_ _)); refine zq ?_ NB133_135.out _; (with_reducible repeat (first | refine zb ?_ _ | refine zd ?_ | refine za ?_ _)); refine zq ?_ NB133_135.out _; (with_reducible repeat (first | refine zb ?_ _ | refine zd ?_ | refine za ?_ _)); refine zq ?_ NB133_135.out _; (with_reducible repeat (first | refine zb ?_ _ | refine zd ?_ | refine za ?_ _)); exact BK133.out))⟩; have n3_ : ze (w22.heap[gb135]? = some (.cells #[.int .i8 ((zj l0_2 x12_1).f0), .int .i8 ((zj l0_2 x12_1).f1), .int .i8 ((zj l0_2 x12_1).f2), .int .i8 ((zj l0_2 x12_1).f3)] 43 (0, 0))) := ⟨(by rw [hw]; exact (by (with_reducible repeat (first | refine zb ?_ _ | refine zd ?_ | refine za ?_ _)); refine zp (cs := #[.int .i8 ((zj l0_2 x12_1).f0), .int .i8 ((zj l0_2 x12_1).f1), .int .i8 ((zj l0_2 x12_1).f2), .int .i8 0]) ?_ 3 _ rfl; (with_reducible repeat (first | refine zb ?_ _ | refine zd ?_ | refine za ?_ _)); refine zp (cs := #[.int .i8 ((zj l0_2 x12_1).f0), .int .i8 ((zj l0_2 x12_1).f1), .int .i8 0, .int .i8 0]) ?_ 2 _ rfl; (with_reducible repeat (first | refine zb ?_ _ | refine zd ?_ | refine za ?_ _)); refine zp (cs := #[.int .i8 ((zj l0_2 x12_1).f0), .int .i8 0, .int .i8 0, .int .i8 0]) ?_ 1 _ rfl; (with_reducible repeat (first | refine zb ?_ _ | refine zd ?_ | refine za ?_ _)); refine zp (cs := #[.int .i8 0, .int .i8 0, .int .i8 0, .int .i8 0]) ?_ 0 _ rfl; (with_reducible repeat (first | refine zb ?_ _ | refine zd ?_ | refine za ?_ _)); exact BK135.out))⟩; have n4_ : ze (Below w.heap.size w w22) := ⟨(by rw [hw]; exact (by repeat (first | (with_reducible first | exact HB.out | apply zg | apply zc | apply zf | refine zi ?_ GE131.out | refine zi ?_ GE132.out | refine zi ?_ GE133.out | refine zi ?_ GE135.out) | exact HB.out)))⟩; clear hw; clear BK131; clear BK132; clear BK133; clear BK135; clear HB; have BK131 := n0_; have BK132 := n1_; have BK133 := n2_; have BK135 := n3_; have HB := n4_; clear n0_ n1_ n2_ n3_ n4_; have p23 : 0 ≤ (a1 : Int) := od (by first | (with_reducible assumption) | assumption); have q23 : a1 < (4 : Int) := od (by first | (with_reducible assumption) | assumption); replace p23 := eq_true p23; replace q23 := eq_true q23; obtain ⟨y4_0, y4_1, y4_2, y4_3, z4_0, z4_1, z4_2, z4_3⟩ := cf4 BK135.out; have u2_0 : w22.cell? ⟨gb135, (a1).toNat, none⟩ = some (.int .i8 (rd [(zj l0_2 x12_1).f0, (zj l0_2 x12_1).f1, (zj l0_2 x12_1).f2, (zj l0_2 x12_1).f3] a1)) := (zo BK135.out _).trans (by rcases (show (a1 : Int) = 0 ∨ (a1 : Int) = 1 ∨ (a1 : Int) = 2 ∨ (a1 : Int) = 3 by have hp_ : 0 ≤ (a1 : Int) := od (by first | (with_reducible assumption) | assumption); have hq_ : a1 < (4 : Int) := od (by first | (with_reducible assumption) | assumption); omega) with h_ | h_ | h_ | h_ <;> rw [h_] <;> rfl); have p26 : 0 ≤ (x12_1 : Int) := od (by first | (with_reducible assumption) | assumption); have q26 : x12_1 < (14 : Int) := od (by first | (with_reducible assumption) | assumption); replace p26 := eq_true p26; replace q26 := eq_true q26; have hnb27 := NB133_131.out; have hnc27 := NB131_133.out; have hnb28 := NB133_132.out; have hnc28 := NB132_133.out; obtain ⟨y5_0, y5_1, y5_2, y5_3, y5_4, y5_5, y5_6, y5_7, y5_8, y5_9, y5_10, y5_11, y5_12, y5_13, z5_0, z5_1, z5_2, z5_3, z5_4, z5_5, z5_6, z5_7, z5_8, z5_9, z5_10, z5_11, z5_12, z5_13⟩ := cf14 BK133.out) | ((with_reducible refine zja (t := 25) (p := 21) rfl ?_); have u3_0 : w22.cell? ⟨gb133, (x12_1).toNat, none⟩ = some (.int .i8 (rd [x134000_1, x134001_1, x134002_1, x134003_1, x134004_1, x134005_1, x134006_1, x134007_1, x134008_1, x134009_1, x134010_1, x134011_1, x134012_1, x134013_1] x12_1)) := (zo BK133.out _).trans (by rcases (is14 (j := x12_1) (od (by first | (with_reducible assumption) | assumption)) (od (by first | (with_reducible assumption) | assumption))) with h_ | h_ | h_ | h_ | h_ | h_ | h_ | h_ | h_ | h_ | h_ | h_ | h_ | h_ <;> rw [h_] <;> rfl); have z6_0 := zw BK133.out ((x12_1).toNat); refine zia (t := 25) (p := 21) (v := ?vo_w31) (w1 := (w22.setCell ⟨gb133, (x12_1).toNat, none⟩ (.int .i8 (rd [(zj l0_2 x12_1).f0, (zj l0_2 x12_1).f1, (zj l0_2 x12_1).f2, (zj l0_2 x12_1).f3] a1)))) ?hg ?ho ?hn ?hr ?_; (case ho => rfl); (case hg => rfl); (case hn => rfl); (case hr => first | (go_simp; done) | (go_simp; rfl)); intro w31 hw; have n0_ : ze (w31.heap[gb131]? = some (.cells #[.int .i8 a0_0, .int .i8 a0_1, .slice (some ad134) l0_2.length c0_2] 28 (0, 0))) := ⟨(by rw [hw]; exact (by (with_reducible repeat (first | refine zb ?_ _ | refine zd ?_ | refine za ?_ _)); refine zq ?_ NB131_133.out _; (with_reducible repeat (first | refine zb ?_ _ | refine zd ?_ | refine za ?_ _)); exact BK131.out))⟩; have n1_ : ze (w31.heap[gb132]? = some (.cells #[.int .i8 0, .int .i8 0, .int .i8 0, .int .i8 0, .int .i8 0, .int .i8 0, .int .i8 0, .int .i8 0, .int .i8 0, .int .i8 0, .int .i8 0, .int .i8 0, .int .i8 0, .int .i8 0] 96 (0, 0))) := ⟨(by rw [hw]; exact (by (with_reducible repeat (first | refine zb ?_ _ | refine zd ?_ | refine za ?_ _)); refine zq ?_ NB132_133.out _; (with_reducible repeat (first | refine zb ?_ _ | refine zd ?_ | refine za ?_ _)); exact BK132.out))⟩; have n2_ : ze (w31.heap[gb133]? = some (.cells #[.int .i8 (zv x12_1 0 (rd [(zj l0_2 x12_1).f0, (zj l0_2 x12_1).f1, (zj l0_2 x12_1).f2, (zj l0_2 x12_1).f3] a1) x134000_1), .int .i8 (zv x12_1 1 (rd [(zj l0_2 x12_1).f0, (zj l0_2 x12_1).f1, (zj l0_2 x12_1).f2, (zj l0_2 x12_1).f3] a1) x134001_1), .int .i8 (zv x12_1 2 (rd [(zj l0_2 x12_1).f0, (zj l0_2 x12_1).f1, (zj l0_2 x12_1).f2, (zj l0_2 x12_1).f3] a1) x134002_1), .int .i8 (zv x12_1 3 (rd [(zj l0_2 x12_1).f0, (zj l0_2 x12_1).f1, (zj l0_2 x12_1).f2, (zj l0_2 x12_1).f3] a1) x134003_1), .int .i8 (zv x12_1 4 (rd [(zj l0_2 x12_1).f0, (zj l0_2 x12_1).f1, (zj l0_2 x12_1).f2, (zj l0_2 x12_1).f3] a1) x134004_1), .int .i8 (zv x12_1 5 (rd [(zj l0_2 x12_1).f0, (zj l0_2 x12_1).f1, (zj l0_2 x12_1).f2, (zj l0_2 x12_1).f3] a1) x134005_1), .int .i8 (zv x12_1 6 (rd [(zj l0_2 x12_1).f0, (zj l0_2 x12_1).f1, (zj l0_2 x12_1).f2, (zj l0_2 x12_1).f3] a1) x134006_1), .int .i8 (zv x12_1 7 (rd [(zj l0_2 x12_1).f0, (zj l0_2 x12_1).f1, (zj l0_2 x12_1).f2, (zj l0_2 x12_1).f3] a1) x134007_1), .int .i8 (zv x12_1 8 (rd [(zj l0_2 x12_1).f0, (zj l0_2 x12_1).f1, (zj l0_2 x12_1).f2, (zj l0_2 x12_1).f3] a1) x134008_1), .int .i8 (zv x12_1 9 (rd [(zj l0_2 x12_1).f0, (zj l0_2 x12_1).f1, (zj l0_2 x12_1).f2, (zj l0_2 x12_1).f3] a1) x134009_1), .int .i8 (zv x12_1 10 (rd [(zj l0_2 x12_1).f0, (zj l0_2 x12_1).f1, (zj l0_2 x12_1).f2, (zj l0_2 x12_1).f3] a1) x134010_1), .int .i8 (zv x12_1 11 (rd [(zj l0_2 x12_1).f0, (zj l0_2 x12_1).f1, (zj l0_2 x12_1).f2, (zj l0_2 x12_1).f3] a1) x134011_1), .int .i8 (zv x12_1 12 (rd [(zj l0_2 x12_1).f0, (zj l0_2 x12_1).f1, (zj l0_2 x12_1).f2, (zj l0_2 x12_1).f3] a1) x134012_1), .int .i8 (zv x12_1 13 (rd [(zj l0_2 x12_1).f0, (zj l0_2 x12_1).f1, (zj l0_2 x12_1).f2, (zj l0_2 x12_1).f3] a1) x134013_1)] 96 (0, 0))) := ⟨(by rw [hw]; exact (by (with_reducible repeat (first | refine zb ?_ _ | refine zd ?_ | refine za ?_ _)); refine zp (cs := #[.int .i8 x134000_1, .int .i8 x134001_1, .int .i8 x134002_1, .int .i8 x134003_1, .int .i8 x134004_1, .int .i8 x134005_1, .int .i8 x134006_1, .int .i8 x134007_1, .int .i8 x134008_1, .int .i8 x134009_1, .int .i8 x134010_1, .int .i8 x134011_1, .int .i8 x134012_1, .int .i8 x134013_1]) ?_ ((x12_1).toNat) _ (by rcases (is14 (j := x12_1) (od (by first | (with_reducible assumption) | assumption)) (od (by first | (with_reducible assumption) | assumption))) with h_ | h_ | h_ | h_ | h_ | h_ | h_ | h_ | h_ | h_ | h_ | h_ | h_ | h_ <;> rw [h_] <;> rfl); (with_reducible repeat (first | refine zb ?_ _ | refine zd ?_ | refine za ?_ _)); exact BK133.out))⟩; have n3_ : ze (w31.heap[gb135]? = some (.cells #[.int .i8 ((zj l0_2 x12_1).f0), .int .i8 ((zj l0_2 x12_1).f1), .int .i8 ((zj l0_2 x12_1).f2), .int .i8 ((zj l0_2 x12_1).f3)] 43 (0, 0))) := ⟨(by rw [hw]; exact (by (with_reducible repeat (first | refine zb ?_ _ | refine zd ?_ | refine za ?_ _)); refine zq ?_ NB135_133.out _; (with_reducible repeat (first | refine zb ?_ _ | refine zd ?_ | refine za ?_ _)); exact BK135.out))⟩; have n4_ : ze (Below w.heap.size w w31) := ⟨(by rw [hw]; exact (by repeat (first | (with_reducible first | exact HB.out | apply zg | apply zc | apply zf | refine zi ?_ GE131.out | refine zi ?_ GE132.out | refine zi ?_ GE133.out | refine zi ?_ GE135.out) | exact HB.out)))⟩; clear hw; clear BK131; clear BK132; clear BK133; clear BK135; clear HB; have BK131 := n0_; have BK132 := n1_; have BK133 := n2_; have BK135 := n3_; have HB := n4_; clear n0_ n1_ n2_ n3_ n4_))
         go_roundg k1
         case measure => have := HK1.out; omega
         case rel => exact ⟨(wrap64 (x12_1 + 1)), ((zv x12_1 0 (rd [(zj l0_2 x12_1).f0, (zj l0_2 x12_1).f1, (zj l0_2 x12_1).f2, (zj l0_2 x12_1).f3] a1) x134000_1)), ((zv x12_1 1 (rd [(zj l0_2 x12_1).f0, (zj l0_2 x12_1).f1, (zj l0_2 x12_1).f2, (zj l0_2 x12_1).f3] a1) x134001_1)), ((zv x12_1 2 (rd [(zj l0_2 x12_1).f0, (zj l0_2 x12_1).f1, (zj l0_2 x12_1).f2, (zj l0_2 x12_1).f3] a1) x134002_1)), ((zv x12_1 3 (rd [(zj l0_2 x12_1).f0, (zj l0_2 x12_1).f1, (zj l0_2 x12_1).f2, (zj l0_2 x12_1).f3] a1) x134003_1)), ((zv x12_1 4 (rd [(zj l0_2 x12_1).f0, (zj l0_2 x12_1).f1, (zj l0_2 x12_1).f2, (zj l0_2 x12_1).f3] a1) x134004_1)), ((zv x12_1 5 (rd [(zj l0_2 x12_1).f0, (zj l0_2 x12_1).f1, (zj l0_2 x12_1).f2, (zj l0_2 x12_1).f3] a1) x134005_1)), ((zv x12_1 6 (rd [(zj l0_2 x12_1).f0, (zj l0_2 x12_1).f1, (zj l0_2 x12_1).f2, (zj l0_2 x12_1).f3] a1) x134006_1)), ((zv x12_1 7 (rd [(zj l0_2 x12_1).f0, (zj l0_2 x12_1).f1, (zj l0_2 x12_1).f2, (zj l0_2 x12_1).f3] a1) x134007_1)), ((zv x12_1 8 (rd [(zj l0_2 x12_1).f0, (zj l0_2 x12_1).f1, (zj l0_2 x12_1).f2, (zj l0_2 x12_1).f3] a1) x134008_1)), ((zv x12_1 9 (rd [(zj l0_2 x12_1).f0, (zj l0_2 x12_1).f1, (zj l0_2 x12_1).f2, (zj l0_2 x12_1).f3] a1) x134009_1)), ((zv x12_1 10 (rd [(zj l0_2 x12_1).f0, (zj l0_2 x12_1).f1, (zj l0_2 x12_1).f2, (zj l0_2 x12_1).f3] a1) x134010_1)), ((zv x12_1 11 (rd [(zj l0_2 x12_1).f0, (zj l0_2 x12_1).f1, (zj l0_2 x12_1).f2, (zj l0_2 x12_1).f3] a1) x134011_1)), ((zv x12_1 12 (rd [(zj l0_2 x12_1).f0, (zj l0_2 x12_1).f1, (zj l0_2 x12_1).f2, (zj l0_2 x12_1).f3] a1) x134012_1)), ((zv x12_1 13 (rd [(zj l0_2 x12_1).f0, (zj l0_2 x12_1).f1, (zj l0_2 x12_1).f2, (zj l0_2 x12_1).f3] a1) x134013_1)), (by first | rfl | (simp; done) | (simp [*]; done)), H', ⟨by have := HK1.out; omega⟩, ⟨by (with_reducible repeat (first | refine zb ?_ _ | refine zd ?_ | refine za ?_ _)); exact BK131.out⟩, ⟨by (with_reducible repeat (first | refine zb ?_ _ | refine zd ?_ | refine za ?_ _)); exact BK132.out⟩, ⟨by (with_reducible repeat (first | refine zb ?_ _ | refine zd ?_ | refine za ?_ _)); exact BK133.out⟩, ⟨by repeat (first | (with_reducible first | exact HB.out | apply zg | apply zc | apply zf | refine zi ?_ GE131.out | refine zi ?_ GE132.out | refine zi ?_ GE133.out | refine zi ?_ GE135.out) | exact HB.out)⟩⟩
        rw [if_neg c16] at H
        exact absurd H (by simp)
       rw [if_neg c15] at H
       exact absurd H (by simp)
      rw [if_neg c14] at H
      exact absurd H (by simp)
     rw [if_neg c13] at H
     exact absurd H (by simp)
    rw [if_neg c12] at H
    exact absurd H (by simp)
   rw [if_neg c11] at H
   have c11b0 : decide (x12_1 < (l0_2.length : Int)) = false := decide_eq_false c11
   clear c11
   simp only [Option.some.injEq, Prod.mk.injEq] at H
   obtain ⟨rfl, rfl, rfl, rfl, rfl, rfl, rfl, rfl, rfl, rfl, rfl, rfl, rfl, rfl⟩ := H
   have hnb32 := NB133_131.out
   have hnc32 := NB131_133.out
   have hnb33 := NB133_132.out
   have hnc33 := NB132_133.out
   obtain ⟨y6_0, y6_1, y6_2, y6_3, y6_4, y6_5, y6_6, y6_7, y6_8, y6_9, y6_10, y6_11, y6_12, y6_13, z7_0, z7_1, z7_2, z7_3, z7_4, z7_5, z7_6, z7_7, z7_8, z7_9, z7_10, z7_11, z7_12, z7_13⟩ := cf14 BK133.out
   have hnb35 := NB132_131.out
   have hnc35 := NB131_132.out
   obtain ⟨y7_0, y7_1, y7_2, y7_3, y7_4, y7_5, y7_6, y7_7, y7_8, y7_9, y7_10, y7_11, y7_12, y7_13, z8_0, z8_1, z8_2, z8_3, z8_4, z8_5, z8_6, z8_7, z8_8, z8_9, z8_10, z8_11, z8_12, z8_13⟩ := cf14 BK132.out
   go_wp2
   refine bodyPost_ret (results_cell_row rfl _ _ gb132 96 #[.int .i8 x134000_1, .int .i8 x134001_1, .int .i8 x134002_1, .int .i8 x134003_1, .int .i8 x134004_1, .int .i8 x134005_1, .int .i8 x134006_1, .int .i8 x134007_1, .int .i8 x134008_1, .int .i8 x134009_1, .int .i8 x134010_1, .int .i8 x134011_1, .int .i8 x134012_1, .int .i8 x134013_1] (0, 0) _ rfl (by (with_reducible repeat (first | refine zb ?_ _ | refine zd ?_ | refine za ?_ _)); refine zp (cs := #[.int .i8 x134000_1, .int .i8 x134001_1, .int .i8 x134002_1, .int .i8 x134003_1, .int .i8 x134004_1, .int .i8 x134005_1, .int .i8 x134006_1, .int .i8 x134007_1, .int .i8 x134008_1, .int .i8 x134009_1, .int .i8 x134010_1, .int .i8 x134011_1, .int .i8 x134012_1, .int .i8 0]) ?_ 13 _ rfl; (with_reducible repeat (first | refine zb ?_ _ | refine zd ?_ | refine za ?_ _)); refine zp (cs := #[.int .i8 x134000_1, .int .i8 x134001_1, .int .i8 x134002_1, .int .i8 x134003_1, .int .i8 x134004_1, .int .i8 x134005_1, .int .i8 x134006_1, .int .i8 x134007_1, .int .i8 x134008_1, .int .i8 x134009_1, .int .i8 x134010_1, .int .i8 x134011_1, .int .i8 0, .int .i8 0]) ?_ 12 _ rfl; (with_reducible repeat (first | refine zb ?_ _ | refine zd ?_ | refine za ?_ _)); refine zp (cs := #[.int .i8 x134000_1, .int .i8 x134001_1, .int .i8 x134002_1, .int .i8 x134003_1, .int .i8 x134004_1, .int .i8 x134005_1, .int .i8 x134006_1, .int .i8 x134007_1, .int .i8 x134008_1, .int .i8 x134009_1, .int .i8 x134010_1, .int .i8 0, .int .i8 0, .int .i8 0]) ?_ 11 _ rfl; (with_reducible repeat (first | refine zb ?_ _ | refine zd ?_ | refine za ?_ _)); refine zp (cs := #[.int .i8 x134000_1, .int .i8 x134001_1, .int .i8 x134002_1, .int .i8 x134003_1, .int .i8 x134004_1, .int .i8 x134005_1, .int .i8 x134006_1, .int .i8 x134007_1, .int .i8 x134008_1, .int .i8 x134009_1, .int .i8 0, .int .i8 0, .int .i8 0, .int .i8 0]) ?_ 10 _ rfl; (with_reducible repeat (first | refine zb ?_ _ | refine zd ?_ | refine za ?_ _)); refine zp (cs := #[.int .i8 x134000_1, .int .i8 x134001_1, .int .i8 x134002_1, .int .i8 x134003_1, .int .i8 x134004_1, .int .i8 x134005_1, .int .i8 x134006_1, .int .i8 x134007_1, .int .i8 x134008_1, .int .i8 0, .int .i8 0, .int .i8 0, .int .i8 0, .int .i8 0]) ?_ 9 _ rfl; (with_reducible repeat (first | refine zb ?_ _ | refine zd ?_ | refine za ?_ _)); refine zp (cs := #[.int .i8 x134000_1, .int .i8 x134001_1, .int .i8 x134002_1, .int .i8 x134003_1, .int .i8 x134004_1, .int .i8 x134005_1, .int .i8 x134006_1, .int .i8 x134007_1, .int .i8 0, .int .i8 0, .int .i8 0, .int .i8 0, .int .i8 0, .int .i8 0]) ?_ 8 _ rfl; (with_reducible repeat (first | refine zb ?_ _ | refine zd ?_ | refine za ?_ _)); refine zp (cs := #[.int .i8 x134000_1, .int .i8 x134001_1, .int .i8 x134002_1, .int .i8 x134003_1, .int .i8 x134004_1, .int .i8 x134005_1, .int .i8 x134006_1, .int .i8 0, .int .i8 0, .int .i8 0, .int .i8 0, .int .i8 0, .int .i8 0, .int .i8 0]) ?_ 7 _ rfl; (with_reducible repeat (first | refine zb ?_ _ | refine zd ?_ | refine za ?_ _)); refine zp (cs := #[.int .i8 x134000_1, .int .i8 x134001_1, .int .i8 x134002_1, .int .i8 x134003_1, .int .i8 x134004_1, .int .i8 x134005_1, .int .i8 0, .int .i8 0, .int .i8 0, .int .i8 0, .int .i8 0, .int .i8 0, .int .i8 0, .int .i8 0]) ?_ 6 _ rfl; (with_reducible repeat (first | refine zb ?_ _ | refine zd ?_ | refine za ?_ _)); refine zp (cs := #[.int .i8 x134000_1, .int .i8 x134001_1, .int .i8 x134002_1, .int .i8 x134003_1, .int .i8 x134004_1, .int .i8 0, .int .i8 0, .int .i8 0, .int .i8 0, .int .i8 0, .int .i8 0, .int .i8 0, .int .i8 0, .int .i8 0]) ?_ 5 _ rfl; (with_reducible repeat (first | refine zb ?_ _ | refine zd ?_ | refine za ?_ _)); refine zp (cs := #[.int .i8 x134000_1, .int .i8 x134001_1, .int .i8 x134002_1, .int .i8 x134003_1, .int .i8 0, .int .i8 0, .int .i8 0, .int .i8 0, .int .i8 0, .int .i8 0, .int .i8 0, .int .i8 0, .int .i8 0, .int .i8 0]) ?_ 4 _ rfl; (with_reducible repeat (first | refine zb ?_ _ | refine zd ?_ | refine za ?_ _)); refine zp (cs := #[.int .i8 x134000_1, .int .i8 x134001_1, .int .i8 x134002_1, .int .i8 0, .int .i8 0, .int .i8 0, .int .i8 0, .int .i8 0, .int .i8 0, .int .i8 0, .int .i8 0, .int .i8 0, .int .i8 0, .int .i8 0]) ?_ 3 _ rfl; (with_reducible repeat (first | refine zb ?_ _ | refine zd ?_ | refine za ?_ _)); refine zp (cs := #[.int .i8 x134000_1, .int .i8 x134001_1, .int .i8 0, .int .i8 0, .int .i8 0, .int .i8 0, .int .i8 0, .int .i8 0, .int .i8 0, .int .i8 0, .int .i8 0, .int .i8 0, .int .i8 0, .int .i8 0]) ?_ 2 _ rfl; (with_reducible repeat (first | refine zb ?_ _ | refine zd ?_ | refine za ?_ _)); refine zp (cs := #[.int .i8 x134000_1, .int .i8 0, .int .i8 0, .int .i8 0, .int .i8 0, .int .i8 0, .int .i8 0, .int .i8 0, .int .i8 0, .int .i8 0, .int .i8 0, .int .i8 0, .int .i8 0, .int .i8 0]) ?_ 1 _ rfl; (with_reducible repeat (first | refine zb ?_ _ | refine zd ?_ | refine za ?_ _)); refine zp (cs := #[.int .i8 0, .int .i8 0, .int .i8 0, .int .i8 0, .int .i8 0, .int .i8 0, .int .i8 0, .int .i8 0, .int .i8 0, .int .i8 0, .int .i8 0, .int .i8 0, .int .i8 0, .int .i8 0]) ?_ 0 _ rfl; (with_reducible repeat (first | refine zb ?_ _ | refine zd ?_ | refine za ?_ _)); exact BK132.out) Try.underlying96 rfl (by kernel_rfl)) rfl ?_
   exact ⟨by first | rfl | (simp [zn, zm] <;> rfl) | (simp [*, zn, zm] <;> rfl), by repeat (first | (with_reducible first | exact HB.out | apply zg | apply zc | apply zf | refine zi ?_ GE131.out | refine zi ?_ GE132.out | refine zi ?_ GE133.out) | exact HB.out)⟩
def impl_Node.f (l0 : List (S102)) : Option (Int) := some (l0.length : Int)
set_option maxHeartbeats 8000000 in
set_option maxRecDepth 100000 in
theorem impl_Node.calls (A0 : Option Addr) (c0 : Nat) (l0 : List (S102)) (r : Int) (w : World) (hr0 : Kd.C k102 w A0 l0.length l0) (hc0 : l0.length ≤ c0) (h : impl_Node.f l0 = some r) :
  Calls Try.prog 67 #[.slice A0 l0.length c0] w fun e w' => e = .returned (.int .i64 r) ∧ zca w w' := by
 have HR0 := ze.mk hr0
 have HC0 := ze.mk hc0
 clear hr0 hc0
 have H : (some (l0.length : Int)) = some r := h
 clear h
 obtain rfl := Option.some.inj H
 go_enter Try.func67, Try.ntmps67
 go_wp2
 go_ret
 exact ⟨by first | rfl | (simp; done) | (simp [*]; done), by repeat (first | exact zca.refl _ | apply zca.step)⟩
mutual
def impl_casesOf.j0 : Nat → Int → Int → List (S38) → Option ((List (S38)))
 | 0, _, _, _ => none
 | k + 1, x0, x1, x7 => impl_casesOf.l0 k x1 x7 x0 0
def impl_casesOf.l0 : Nat → Int → List (S38) → Int → Int → Option ((List (S38)))
 | 0, _, _, _, _ => none
 | k + 1, x1, x7, x15, x16 => if x16 < x15 then (if x1 = 1 then (if x1 = 0 then (impl_casesOf.l0 k x1 x7 x15 (wrap64 (x16 + 1))) else (if x7.length < 70368744177664 then (impl_casesOf.l0 k x1 (x7 ++ [(⟨IntKind.i8.wrap (x16), false⟩ : S38)]) x15 (wrap64 (x16 + 1))) else (none))) else (if x7.length < 70368744177664 then ((some (x7 ++ [(⟨IntKind.i8.wrap (x16), true⟩ : S38)] : List (S38))).bind fun y149 => (if x1 = 0 then (impl_casesOf.l0 k x1 y149 x15 (wrap64 (x16 + 1))) else (if y149.length < 70368744177664 then (impl_casesOf.l0 k x1 (y149 ++ [(⟨IntKind.i8.wrap (x16), false⟩ : S38)]) x15 (wrap64 (x16 + 1))) else (none)))) else (none))) else (some x7)
end
def impl_casesOf.f (k : Nat) (a0 : Int) (a1 : Int) (a2 : Bool) : Option ((List (S38))) := (some (([] : List (S38)) : List (S38))).bind fun y140 => (if a2 = true then (if y140.length < 70368744177664 then (impl_casesOf.j0 k a0 a1 (y140 ++ [(⟨(-1), false⟩ : S38)])) else (none)) else (impl_casesOf.j0 k a0 a1 y140))
set_option maxHeartbeats 8000000 in
set_option maxRecDepth 100000 in
theorem impl_casesOf.calls (k : Nat) (a0 : Int) (a1 : Int) (a2 : Bool) (r : List (S38)) (w : World) (h : impl_casesOf.f k a0 a1 a2 = some r) :
  Calls Try.prog 98 #[.int .i64 a0, .int .i8 a1, .bool a2] w fun e w' => ∃ v0_ : Value, e = .returned (v0_) ∧ Kd.R k38 38 w' w.heap.size (fun _ => True) v0_ r ∧ Below w.heap.size w w' := by
 have hu38 := Try.underlying38
 have HB := ze.mk (Below.refl w.heap.size w)
 have H : ((some (([] : List (S38)) : List (S38))).bind fun y140 => (if a2 = true then (if y140.length < 70368744177664 then (impl_casesOf.j0 k a0 a1 (y140 ++ [(⟨(-1), false⟩ : S38)])) else (none)) else (impl_casesOf.j0 k a0 a1 y140))) = some r := h
 clear h
 obtain ⟨y140, hy140⟩ : ∃ y_ : List (S38), y_ = (([] : List (S38))) := ⟨_, rfl⟩
 replace H : (if a2 = true then (if y140.length < 70368744177664 then (impl_casesOf.j0 k a0 a1 (y140 ++ [(⟨(-1), false⟩ : S38)])) else (none)) else (impl_casesOf.j0 k a0 a1 y140)) = some r := by first | (rw [hy140]; with_reducible exact H) | (have H2_ := (Option.bind_some _ _).symm.trans H; rw [hy140]; with_reducible exact H2_) | (have H2_ := (Option.bind_some _ _).symm.trans H; with_reducible exact H2_) | with_reducible exact H | (rw [hy140]; exact H) | exact H
 have Ny140 := ze.mk hy140
 clear hy140
 have HC4 := ze.mk H
 clear H
 go_enter Try.func98, Try.ntmps98
 go_upto_if 10 with (first | ((with_reducible refine zu (N := 9) rfl ?_); refine Kd.R_lit k38 _ 38 ?hg (N := 9) ?hd (xs := ([] : List (S38))) (inner := []) (ok := fun _ => True) (okp := fun _ => True) ?hr ?hp (fun _ hk => hk) trivial (Below.refl _ _) (Nat.le_refl _) (by simp) ?_; (case hd => rfl); (case hg => rfl); (case hr => first | (go_simp; done) | (go_simp; rfl)); (case hp => exact (Reps.none _ _)); intro v141 w5 ho6 hb hg_ hnew_; clear hg_ hnew_; (first | rw [← Ny140.out] at ho6 | (simp only [Int.reduceToNat] at ho6; rw [← Ny140.out] at ho6)); have n0_ := ze.mk (Kd.R_lower ho6 (zaa (by repeat (first | (with_reducible first | exact HB.out | apply zg | apply zc | apply zf) | exact HB.out)))); have n1_ := ze.mk (zt (by repeat (first | (with_reducible first | exact HB.out | apply zg | apply zc | apply zf) | exact HB.out)) hb); clear HB; have HO142 := n0_; have HB := n1_; clear n0_ n1_; clear hb ho6))
 (try simp only [Act.put, List.setIfInBounds_toArray, List.set_cons_zero, List.set_cons_succ])
 go_cut [7] (fun v7 wc => ∃ (kq : Nat) (x7_3 : List (S38)), ze (impl_casesOf.j0 kq a0 a1 x7_3 = some r) ∧ ze (kq ≤ k) ∧ ze (Kd.R k38 38 wc w.heap.size (fun _ => True) v7 x7_3) ∧ ze (Below w.heap.size w wc))
 case first =>
  have H := HC4.out
  clear HC4
  by_cases c7 : a2 = true
  ·subst c7
   have H1 : (if y140.length < 70368744177664 then (impl_casesOf.j0 k a0 a1 (y140 ++ [(⟨(-1), false⟩ : S38)])) else (none)) = some r := by rw [if_pos rfl] at H; exact H
   clear H
   have H := H1
   clear H1
   by_cases c8 : y140.length < 70368744177664
   ·rw [if_pos c8] at H
    have LMc8 := ze.mk c8
    clear c8
    obtain ⟨y143, hy143⟩ : ∃ y_ : List (S38), y_ = (y140 ++ [(⟨(-1), false⟩ : S38)]) := ⟨_, rfl⟩
    replace H : (impl_casesOf.j0 k a0 a1 y143) = some r := by first | (rw [hy143]; with_reducible exact H) | (have H2_ := (Option.bind_some _ _).symm.trans H; rw [hy143]; with_reducible exact H2_) | (have H2_ := (Option.bind_some _ _).symm.trans H; with_reducible exact H2_) | with_reducible exact H | (rw [hy143]; exact H) | exact H
    have Ny143 := ze.mk hy143
    clear hy143
    have H' := ze.mk H
    clear H
    go_wp2_with (first | ((with_reducible refine zga (b := .append) (xs := #[.tmp 11, .tmp 13]) rfl ?_); at_builtin; refine Kd.R_append k38 (w0 := w) w.heap.size rfl (.tmp 11) (.tmp 13) 55 38 (.agg #[(.int .i8 0), (.bool false)]) 2 rfl Try.underlying55 zgc rfl (by decide) (by omega) v141 y140 (⟨(-1), false⟩ : S38) [.int .i8 (-1), .bool false] (fun _ => True) (fun _ => False) rfl rfl ?aP (fun _ hk => hk.elim) ?aF ?aO ?aB ?aS ?aL ?_; (case aP => exact zib _ _ _ (⟨(-1), false⟩ : S38)); (case aB => exact (by repeat (first | (with_reducible first | exact HB.out | apply zg | apply zc | apply zf) | exact HB.out))); (case aF => exact (fun _ _ => trivial)); (case aO => exact (by (with_reducible repeat (first | apply Kd.R_alloc | apply Kd.R_drewN | apply Kd.R_drew)); exact HO142.out)); (case aS => exact (zaa (by repeat (first | (with_reducible first | exact HB.out | apply zg | apply zc | apply zf) | exact HB.out)))); (case aL => have := LMc8.out; omega); intro v144 w9 ho hb hg hat; rw [← Ny143.out] at ho; have n0_ := ze.mk (hb); have n1_ := ze.mk (ho); clear HB; clear HO142; have HB := n0_; have HO145 := n1_; clear n0_ n1_; clear ho hb hg hat))
    go_meet
    case rel => exact ⟨_, (y143), H', ⟨by first | omega | exact Nat.le_refl _⟩, ⟨by (with_reducible repeat (first | apply Kd.R_alloc | apply Kd.R_drewN | apply Kd.R_drew)); exact HO145.out⟩, ⟨by repeat (first | (with_reducible first | exact HB.out | apply zg | apply zc | apply zf) | exact HB.out)⟩⟩
   rw [if_neg c8] at H
   exact absurd H (by simp)
  replace c7 := Bool.eq_false_iff.mpr c7
  subst c7
  have H1 : (impl_casesOf.j0 k a0 a1 y140) = some r := by rw [if_neg (show ¬ (false = true) by decide)] at H; exact H
  clear H
  have H := H1
  clear H1
  have H' := ze.mk H
  clear H
  go_wp2
  go_meet
  case rel => exact ⟨_, (y140), H', ⟨by first | omega | exact Nat.le_refl _⟩, ⟨by (with_reducible repeat (first | apply Kd.R_alloc | apply Kd.R_drewN | apply Kd.R_drew)); exact HO142.out⟩, ⟨by repeat (first | (with_reducible first | exact HB.out | apply zg | apply zc | apply zf) | exact HB.out)⟩⟩
 case rest =>
  clear HC4
  try clear p2
  try clear c7
  try clear c8
  try clear c9
  obtain ⟨kq, x7_3, HA, HJ3, HO_7, HB⟩ := hcut
  cases kq with
  | zero => exact absurd HA.out (by simp [impl_casesOf.j0])
  | succ kj3 =>
   have H := HA.out
   clear HA
   simp only [impl_casesOf.j0] at H
   have H' := ze.mk H
   clear H
   go_wp2
   go_loopg [7, 16] kj3 (fun kq v7 v16 w' => ∃ (x7_2 : List (S38)) (x16_2 : Int), v16 = .int .i64 x16_2 ∧ ze (impl_casesOf.l0 kq a1 x7_2 a0 x16_2 = some r) ∧ ze (kq ≤ kj3) ∧ ze (Kd.R k38 38 w' w.heap.size (fun _ => True) v7 x7_2) ∧ ze (Below w.heap.size w w'))
   case atStart => exact ⟨(x7_3), (0), (by first | rfl | (simp; done) | (simp [*]; done)), H', ⟨Nat.le_refl _⟩, ⟨by (with_reducible repeat (first | apply Kd.R_alloc | apply Kd.R_drewN | apply Kd.R_drew)); exact HO_7.out⟩, ⟨by repeat (first | (with_reducible first | exact HB.out | apply zg | apply zc | apply zf) | exact HB.out)⟩⟩
   case round =>
    clear H'
    try clear p2
    try clear c7
    try clear c8
    try clear c9
    try clear p2
    obtain ⟨x7_2, x16_2, rfl, HA, HK2, HO_7, HB⟩ := hrel
    cases gk with
    | zero => exact absurd HA.out (by simp [impl_casesOf.l0])
    | succ k2 =>
     have H := HA.out
     clear HA
     simp only [impl_casesOf.l0] at H
     by_cases c10 : x16_2 < a0
     ·rw [if_pos c10] at H
      have c10b0 : decide (x16_2 < a0) = true := decide_eq_true c10
      clear c10
      by_cases c11 : a1 = 1
      ·rw [if_pos c11] at H
       have c11b0 : (a1 == 1) = true := beq_iff_eq.mpr c11
       have c11b1 : (a1 != 1) = false := bne_eq_false_iff_eq.mpr c11
       clear c11
       by_cases c12 : a1 = 0
       ·rw [if_pos c12] at H
        have c12b0 : (a1 == 0) = true := beq_iff_eq.mpr c12
        have c12b1 : (a1 != 0) = false := bne_eq_false_iff_eq.mpr c12
        clear c12
        have H' := ze.mk H
        clear H
        go_wp2
        go_roundg k2
        case measure => have := HJ3.out; have := HK2.out; omega
        case rel => exact ⟨(x7_2), (wrap64 (x16_2 + 1)), (by first | rfl | (simp; done) | (simp [*]; done)), H', ⟨by have := HJ3.out; have := HK2.out; omega⟩, ⟨by (with_reducible repeat (first | apply Kd.R_alloc | apply Kd.R_drewN | apply Kd.R_drew)); exact HO_7.out⟩, ⟨by repeat (first | (with_reducible first | exact HB.out | apply zg | apply zc | apply zf) | exact HB.out)⟩⟩
       rw [if_neg c12] at H
       have c12b0 : (a1 == 0) = false := beq_eq_false_iff_ne.mpr c12
       have c12b1 : (a1 != 0) = true := bne_iff_ne.mpr c12
       by_cases c13 : x7_2.length < 70368744177664
       ·rw [if_pos c13] at H
        have LMc13 := ze.mk c13
        clear c13
        obtain ⟨y146, hy146⟩ : ∃ y_ : List (S38), y_ = (x7_2 ++ [(⟨IntKind.i8.wrap (x16_2), false⟩ : S38)]) := ⟨_, rfl⟩
        replace H : (impl_casesOf.l0 k2 a1 y146 a0 (wrap64 (x16_2 + 1))) = some r := by first | (rw [hy146]; with_reducible exact H) | (have H2_ := (Option.bind_some _ _).symm.trans H; rw [hy146]; with_reducible exact H2_) | (have H2_ := (Option.bind_some _ _).symm.trans H; with_reducible exact H2_) | with_reducible exact H | (rw [hy146]; exact H) | exact H
        have Ny146 := ze.mk hy146
        clear hy146
        have H' := ze.mk H
        clear H
        go_wp2_with (first | ((with_reducible refine zga (b := .append) (xs := #[.tmp 29, .tmp 33]) rfl ?_); at_builtin; refine Kd.R_append k38 (w0 := w) w.heap.size rfl (.tmp 29) (.tmp 33) 55 38 (.agg #[(.int .i8 0), (.bool false)]) 2 rfl Try.underlying55 zgc rfl (by decide) (by omega) u7 x7_2 (⟨IntKind.i8.wrap (x16_2), false⟩ : S38) [.int .i8 (IntKind.i8.wrap (x16_2)), .bool false] (fun _ => True) (fun _ => False) rfl rfl ?aP (fun _ hk => hk.elim) ?aF ?aO ?aB ?aS ?aL ?_; (case aP => exact zib _ _ _ (⟨IntKind.i8.wrap (x16_2), false⟩ : S38)); (case aB => exact (by repeat (first | (with_reducible first | exact HB.out | apply zg | apply zc | apply zf) | exact HB.out))); (case aF => exact (fun _ _ => trivial)); (case aO => exact (by (with_reducible repeat (first | apply Kd.R_alloc | apply Kd.R_drewN | apply Kd.R_drew)); exact HO_7.out)); (case aS => exact (zaa (by repeat (first | (with_reducible first | exact HB.out | apply zg | apply zc | apply zf) | exact HB.out)))); (case aL => have := LMc13.out; omega); intro v147 w14 ho hb hg hat; rw [← Ny146.out] at ho; have n0_ := ze.mk (hb); have n1_ := ze.mk (ho); clear HB; clear HO_7; have HB := n0_; have HO148 := n1_; clear n0_ n1_; clear ho hb hg hat))
        go_roundg k2
        case measure => have := HJ3.out; have := HK2.out; omega
        case rel => exact ⟨(y146), (wrap64 (x16_2 + 1)), (by first | rfl | (simp; done) | (simp [*]; done)), H', ⟨by have := HJ3.out; have := HK2.out; omega⟩, ⟨by (with_reducible repeat (first | apply Kd.R_alloc | apply Kd.R_drewN | apply Kd.R_drew)); exact HO148.out⟩, ⟨by repeat (first | (with_reducible first | exact HB.out | apply zg | apply zc | apply zf) | exact HB.out)⟩⟩
       rw [if_neg c13] at H
       exact absurd H (by simp)
      rw [if_neg c11] at H
      have c11b0 : (a1 == 1) = false := beq_eq_false_iff_ne.mpr c11
      have c11b1 : (a1 != 1) = true := bne_iff_ne.mpr c11
      by_cases c15 : x7_2.length < 70368744177664
      ·rw [if_pos c15] at H
       have LMc15 := ze.mk c15
       clear c15
       obtain ⟨y149, hy149⟩ : ∃ y_ : List (S38), y_ = (x7_2 ++ [(⟨IntKind.i8.wrap (x16_2), true⟩ : S38)]) := ⟨_, rfl⟩
       replace H : (if a1 = 0 then (impl_casesOf.l0 k2 a1 y149 a0 (wrap64 (x16_2 + 1))) else (if y149.length < 70368744177664 then (impl_casesOf.l0 k2 a1 (y149 ++ [(⟨IntKind.i8.wrap (x16_2), false⟩ : S38)]) a0 (wrap64 (x16_2 + 1))) else (none))) = some r := by first | (rw [hy149]; with_reducible exact H) | (have H2_ := (Option.bind_some _ _).symm.trans H; rw [hy149]; with_reducible exact H2_) | (have H2_ := (Option.bind_some _ _).symm.trans H; with_reducible exact H2_) | with_reducible exact H | (rw [hy149]; exact H) | exact H
       have Ny149 := ze.mk hy149
       clear hy149
       by_cases c16 : a1 = 0
       ·rw [if_pos c16] at H
        have c16b0 : (a1 == 0) = true := beq_iff_eq.mpr c16
        have c16b1 : (a1 != 0) = false := bne_eq_false_iff_eq.mpr c16
        clear c16
        have H' := ze.mk H
        clear H
        go_wp2_with (first | ((with_reducible refine zga (b := .append) (xs := #[.tmp 21, .tmp 25]) rfl ?_); at_builtin; refine Kd.R_append k38 (w0 := w) w.heap.size rfl (.tmp 21) (.tmp 25) 55 38 (.agg #[(.int .i8 0), (.bool false)]) 2 rfl Try.underlying55 zgc rfl (by decide) (by omega) u7 x7_2 (⟨IntKind.i8.wrap (x16_2), true⟩ : S38) [.int .i8 (IntKind.i8.wrap (x16_2)), .bool true] (fun _ => True) (fun _ => False) rfl rfl ?aP (fun _ hk => hk.elim) ?aF ?aO ?aB ?aS ?aL ?_; (case aP => exact zib _ _ _ (⟨IntKind.i8.wrap (x16_2), true⟩ : S38)); (case aB => exact (by repeat (first | (with_reducible first | exact HB.out | apply zg | apply zc | apply zf) | exact HB.out))); (case aF => exact (fun _ _ => trivial)); (case aO => exact (by (with_reducible repeat (first | apply Kd.R_alloc | apply Kd.R_drewN | apply Kd.R_drew)); exact HO_7.out)); (case aS => exact (zaa (by repeat (first | (with_reducible first | exact HB.out | apply zg | apply zc | apply zf) | exact HB.out)))); (case aL => have := LMc15.out; omega); intro v150 w17 ho hb hg hat; rw [← Ny149.out] at ho; have n0_ := ze.mk (hb); have n1_ := ze.mk (ho); clear HB; clear HO_7; have HB := n0_; have HO151 := n1_; clear n0_ n1_; clear ho hb hg hat))
        go_roundg k2
        case measure => have := HJ3.out; have := HK2.out; omega
        case rel => exact ⟨(y149), (wrap64 (x16_2 + 1)), (by first | rfl | (simp; done) | (simp [*]; done)), H', ⟨by have := HJ3.out; have := HK2.out; omega⟩, ⟨by (with_reducible repeat (first | apply Kd.R_alloc | apply Kd.R_drewN | apply Kd.R_drew)); exact HO151.out⟩, ⟨by repeat (first | (with_reducible first | exact HB.out | apply zg | apply zc | apply zf) | exact HB.out)⟩⟩
       rw [if_neg c16] at H
       have c16b0 : (a1 == 0) = false := beq_eq_false_iff_ne.mpr c16
       have c16b1 : (a1 != 0) = true := bne_iff_ne.mpr c16
       by_cases c18 : y149.length < 70368744177664
       ·rw [if_pos c18] at H
        have LMc18 := ze.mk c18
        clear c18
        obtain ⟨y152, hy152⟩ : ∃ y_ : List (S38), y_ = (y149 ++ [(⟨IntKind.i8.wrap (x16_2), false⟩ : S38)]) := ⟨_, rfl⟩
        replace H : (impl_casesOf.l0 k2 a1 y152 a0 (wrap64 (x16_2 + 1))) = some r := by first | (rw [hy152]; with_reducible exact H) | (have H2_ := (Option.bind_some _ _).symm.trans H; rw [hy152]; with_reducible exact H2_) | (have H2_ := (Option.bind_some _ _).symm.trans H; with_reducible exact H2_) | with_reducible exact H | (rw [hy152]; exact H) | exact H
        have Ny152 := ze.mk hy152
        clear hy152
        have H' := ze.mk H
        clear H
        go_wp2_with (first | ((with_reducible refine zga (b := .append) (xs := #[.tmp 21, .tmp 25]) rfl ?_); at_builtin; refine Kd.R_append k38 (w0 := w) w.heap.size rfl (.tmp 21) (.tmp 25) 55 38 (.agg #[(.int .i8 0), (.bool false)]) 2 rfl Try.underlying55 zgc rfl (by decide) (by omega) u7 x7_2 (⟨IntKind.i8.wrap (x16_2), true⟩ : S38) [.int .i8 (IntKind.i8.wrap (x16_2)), .bool true] (fun _ => True) (fun _ => False) rfl rfl ?aP (fun _ hk => hk.elim) ?aF ?aO ?aB ?aS ?aL ?_; (case aP => exact zib _ _ _ (⟨IntKind.i8.wrap (x16_2), true⟩ : S38)); (case aB => exact (by repeat (first | (with_reducible first | exact HB.out | apply zg | apply zc | apply zf) | exact HB.out))); (case aF => exact (fun _ _ => trivial)); (case aO => exact (by (with_reducible repeat (first | apply Kd.R_alloc | apply Kd.R_drewN | apply Kd.R_drew)); exact HO_7.out)); (case aS => exact (zaa (by repeat (first | (with_reducible first | exact HB.out | apply zg | apply zc | apply zf) | exact HB.out)))); (case aL => have := LMc15.out; omega); intro v150 w19 ho hb hg hat; rw [← Ny149.out] at ho; have n0_ := ze.mk (hb); have n1_ := ze.mk (ho); clear HB; clear HO_7; have HB := n0_; have HO151 := n1_; clear n0_ n1_; clear ho hb hg hat) | ((with_reducible refine zga (b := .append) (xs := #[.tmp 29, .tmp 33]) rfl ?_); at_builtin; refine Kd.R_append k38 (w0 := w) w.heap.size rfl (.tmp 29) (.tmp 33) 55 38 (.agg #[(.int .i8 0), (.bool false)]) 2 rfl Try.underlying55 zgc rfl (by decide) (by omega) v150 y149 (⟨IntKind.i8.wrap (x16_2), false⟩ : S38) [.int .i8 (IntKind.i8.wrap (x16_2)), .bool false] (fun _ => True) (fun _ => False) rfl rfl ?aP (fun _ hk => hk.elim) ?aF ?aO ?aB ?aS ?aL ?_; (case aP => exact zib _ _ _ (⟨IntKind.i8.wrap (x16_2), false⟩ : S38)); (case aB => exact (by repeat (first | (with_reducible first | exact HB.out | apply zg | apply zc | apply zf) | exact HB.out))); (case aF => exact (fun _ _ => trivial)); (case aO => exact (by (with_reducible repeat (first | apply Kd.R_alloc | apply Kd.R_drewN | apply Kd.R_drew)); exact HO151.out)); (case aS => exact (zaa (by repeat (first | (with_reducible first | exact HB.out | apply zg | apply zc | apply zf) | exact HB.out)))); (case aL => have := LMc18.out; omega); intro v153 w20 ho hb hg hat; rw [← Ny152.out] at ho; have n0_ := ze.mk (hb); have n1_ := ze.mk (ho); clear HB; clear HO151; have HB := n0_; have HO154 := n1_; clear n0_ n1_; clear ho hb hg hat))
        go_roundg k2
        case measure => have := HJ3.out; have := HK2.out; omega
        case rel => exact ⟨(y152), (wrap64 (x16_2 + 1)), (by first | rfl | (simp; done) | (simp [*]; done)), H', ⟨by have := HJ3.out; have := HK2.out; omega⟩, ⟨by (with_reducible repeat (first | apply Kd.R_alloc | apply Kd.R_drewN | apply Kd.R_drew)); exact HO154.out⟩, ⟨by repeat (first | (with_reducible first | exact HB.out | apply zg | apply zc | apply zf) | exact HB.out)⟩⟩
       rw [if_neg c18] at H
       exact absurd H (by simp)
      rw [if_neg c15] at H
      exact absurd H (by simp)
     rw [if_neg c10] at H
     have c10b0 : decide (x16_2 < a0) = false := decide_eq_false c10
     clear c10
     obtain rfl := Option.some.inj H
     go_wp2
     go_ret
     exact ⟨_, by first | rfl | (simp [zn, zm] <;> rfl) | (simp [*, zn, zm] <;> rfl), by (with_reducible repeat (first | apply Kd.R_alloc | apply Kd.R_drewN | apply Kd.R_drew)); exact HO_7.out, by repeat (first | (with_reducible first | exact HB.out | apply zg | apply zc | apply zf) | exact HB.out)⟩
def impl_Fixed_cases.f (k : Nat) (a0_0 : Int) (a0_1 : Int) (l0_2 : List (S43)) : Option ((List (S38))) := (impl_Word_46.f l0_2).bind fun t156 => ((impl_casesOf.f k t156 a0_1 true).bind fun t157 => (some t157))
set_option maxHeartbeats 8000000 in
set_option maxRecDepth 100000 in
theorem impl_Fixed_cases.calls (k : Nat) (a0_0 : Int) (a0_1 : Int) (A0_2 : Option Addr) (c0_2 : Nat) (l0_2 : List (S43)) (r : List (S38)) (w : World) (hr0_2 : Kd.C k43 w A0_2 l0_2.length l0_2) (hc0_2 : l0_2.length ≤ c0_2) (h : impl_Fixed_cases.f k a0_0 a0_1 l0_2 = some r) :
  Calls Try.prog 61 #[.agg #[.int .i8 a0_0, .int .i8 a0_1, .slice A0_2 l0_2.length c0_2]] w fun e w' => ∃ v0_ : Value, e = .returned (v0_) ∧ Kd.R k38 38 w' w.heap.size (fun _ => True) v0_ r ∧ Below w.heap.size w w' := by
 have hu28 := Try.underlying28
 have HR0_2 := ze.mk hr0_2
 have HC0_2 := ze.mk hc0_2
 clear hr0_2 hc0_2
 have HB := ze.mk (Below.refl w.heap.size w)
 have H : ((impl_Word_46.f l0_2).bind fun t156 => ((impl_casesOf.f k t156 a0_1 true).bind fun t157 => (some t157))) = some r := h
 clear h
 replace H := Option.bind_eq_some_iff.mp H
 obtain ⟨t156, A20, H⟩ := H
 replace H : ((impl_casesOf.f k t156 a0_1 true).bind fun t157 => (some t157)) = some r := H
 have A2 := ze.mk A20
 clear A20
 replace H := Option.bind_eq_some_iff.mp H
 obtain ⟨t157, A30, H⟩ := H
 replace H : (some t157) = some r := H
 have A3 := ze.mk A30
 clear A30
 obtain rfl := Option.some.inj H
 go_enter Try.func61, Try.ntmps61
 try go_wp2_with (first | ((with_reducible refine zu (N := 1) rfl ?_); refine zr ?hg (N := 1) ?hd (cs := #[.int .i8 a0_0, .int .i8 a0_1, .slice A0_2 l0_2.length c0_2]) (t := 28) ?hr ?_; (case hd => rfl); (case hg => rfl); (case hr => first | (go_simp; done) | (go_simp; rfl)); intro gb155 hg w4 hbox hb; obtain ⟨n0_, n2_⟩ := bx (by repeat (first | (with_reducible first | exact HB.out | apply zg | apply zc | apply zf) | exact HB.out)) hb hg; have n1_ := ze.mk (hbox); have n3_ := n2_; clear HB; have HB := n0_; have BK155 := n1_; have GW155 := n2_; have GE155 := n3_; clear n0_ n1_ n2_ n3_; clear hb hbox hg))
 have n0_ := ze.mk (zd BK155.out)
 have n1_ := ze.mk (zf HB.out)
 clear BK155
 clear HB
 have BK155 := n0_
 have HB := n1_
 clear n0_ n1_
 refine zfb (n := 7) (S := fun w' => w'.cell? ⟨gb155, 0, none⟩ = some (.int .i8 a0_0) ∧ w'.cell? ⟨gb155, 1, none⟩ = some (.int .i8 a0_1) ∧ w'.cell? ⟨gb155, 2, none⟩ = some (.slice A0_2 l0_2.length c0_2)) (ds := []) (fm 7 0) (by kernel_rfl) rfl rfl ⟨(zo BK155.out 0).trans rfl, (zo BK155.out 1).trans rfl, (zo BK155.out 2).trans rfl⟩ (fun hHeld => ?_)
 generalize w4.drew = w5 at BK155 HB hHeld ⊢
 refine znd (i := 0) (N := some 3) (v := ?_) (a' := ?_) (fm 7 1) rfl rfl (by kernel_rfl) (fun _ _ _ h => h) (Or.inl ⟨by rfl, ?_⟩) ?_ ?_
 rotate_left
 ·intro w'
  go_simp
  with_reducible rfl
 rotate_left
 ·simp only [Act.put, List.setIfInBounds_toArray, List.set_cons_zero, List.set_cons_succ, zy, zz]
  rfl
 refine znd (i := 3) (N := some 6) (v := ?_) (a' := ?_) #[T, F, F, T, F, F, F] rfl rfl (by kernel_rfl) (fun _ _ _ h => h) (Or.inl ⟨by rfl, ?_⟩) ?_ ?_
 rotate_left
 ·intro w'
  go_simp
  with_reducible rfl
 rotate_left
 ·simp only [Act.put, List.setIfInBounds_toArray, List.set_cons_zero, List.set_cons_succ, zy, zz]
  rfl
 refine take_ (i := 1) (N := some 4) (v := ?_) (a' := ?_) #[T, T, F, T, F, F, F] rfl rfl (by kernel_rfl) (fun _ _ _ h => h) (Or.inl ⟨by rfl, ?_⟩) hHeld ?_ ?_
 rotate_left
 ·rintro w' ⟨s0, s1, s2⟩
  go_simp
  with_reducible rfl
 rotate_left
 ·simp only [Act.put, List.setIfInBounds_toArray, List.set_cons_zero, List.set_cons_succ, zy, zz]
  rfl
 refine take_ (i := 4) (N := some 7) (v := ?_) (a' := ?_) #[T, T, F, T, T, F, F] rfl rfl (by kernel_rfl) (fun _ _ _ h => h) (Or.inl ⟨by rfl, ?_⟩) hHeld ?_ ?_
 rotate_left
 ·rintro w' ⟨s0, s1, s2⟩
  go_simp
  with_reducible rfl
 rotate_left
 ·simp only [Act.put, List.setIfInBounds_toArray, List.set_cons_zero, List.set_cons_succ, zy, zz]
  rfl
 refine one_ (i := 2) (N := some 5) (fm 7 5) rfl rfl (by kernel_rfl) (by decide) (fun K hK => ?_)
 refine zdb Try.func46 (by kernel_rfl) rfl #[.slice A0_2 l0_2.length c0_2] (by rfl) rfl rfl (by (try simp only [List.map_toArray, List.map_cons, List.map_nil]); first | done | rfl | (simp only [List.length_drop, List.length_take]; rfl)) ?_
 with_reducible refine (impl_Word_46.calls _ _ l0_2 t156 _ ?side1 ?side2 A2.out).mono ?_
 (case side1 => repeat (first | exact (Kd.C_below HR0_2.out HB.out) | (with_reducible refine Kd.C_alloc ?_ _) | (with_reducible refine Kd.C_drewN ?_ _) | (with_reducible refine Kd.C_drew ?_)))
 (case side2 => exact HC0_2.out)
 rintro e w' ⟨rfl, ⟨nd, rfl⟩⟩
 refine ⟨_, rfl, ?_⟩
 refine hK.out _ _ ⟨(zo BK155.out 0).trans rfl, (zo BK155.out 1).trans rfl, (zo BK155.out 2).trans rfl⟩ (fun hHeld => ?_)
 clear hK K
 refine zpa (a' := ?_) ?_ ?_
 rotate_left
 ·show Act.put _ (some 5) _ = _
  simp only [Act.put, List.setIfInBounds_toArray, List.set_cons_zero, List.set_cons_succ, zy, zz]
  rfl
 refine one_ (i := 5) (N := some 8) (fm 7 6) rfl rfl (by kernel_rfl) (by decide) (fun K hK => ?_)
 refine zdb Try.func98 (by kernel_rfl) rfl #[.int .i64 t156, .int .i8 a0_1, .bool true] (by rfl) rfl rfl (by (try simp only [List.map_toArray, List.map_cons, List.map_nil]); first | done | rfl | (simp only [List.length_drop, List.length_take]; rfl)) ?_
 with_reducible refine (impl_casesOf.calls k t156 a0_1 true t157 _ A3.out).mono ?_
 rintro e w6 ⟨v158, rfl, ho0, hb⟩
 refine ⟨_, rfl, ?_⟩
 have n0_ := ze.mk (Kd.R_lower ho0 (zaa (by repeat (first | (with_reducible first | exact HB.out | apply zg | apply zc | apply zf | refine zi ?_ GE155.out) | exact HB.out))))
 have n1_ := ze.mk (zk (by (with_reducible repeat (first | refine zb ?_ _ | refine zd ?_ | refine za ?_ _)); exact BK155.out) hb)
 have n2_ := ze.mk (zt (by repeat (first | (with_reducible first | exact HB.out | apply zg | apply zc | apply zf | refine zi ?_ GE155.out) | exact HB.out)) hb)
 clear BK155
 clear HB
 have HO159 := n0_
 have BK155 := n1_
 have HB := n2_
 clear n0_ n1_ n2_
 (try clear hb)
 (try clear hb2)
 (try clear hk)
 (try clear hi)
 (try clear ho0)
 refine hK.out _ _ ⟨(zo BK155.out 0).trans rfl, (zo BK155.out 1).trans rfl, (zo BK155.out 2).trans rfl⟩ (fun hHeld => ?_)
 clear hK K
 refine zpa (a' := ?_) ?_ ?_
 rotate_left
 ·show Act.put _ (some 8) _ = _
  simp only [Act.put, List.setIfInBounds_toArray, List.set_cons_zero, List.set_cons_succ, zy, zz]
  rfl
 refine znd (i := 6) (N := some 2) (v := ?_) (a' := ?_) (fm 7 7) rfl rfl (by kernel_rfl) (fun _ _ _ h => h) (Or.inl ⟨by rfl, ?_⟩) ?_ ?_
 rotate_left
 ·intro w'
  go_simp
  with_reducible rfl
 rotate_left
 ·simp only [Act.put, List.setIfInBounds_toArray, List.set_cons_zero, List.set_cons_succ, zy, zz]
  rfl
 refine zxb (by kernel_rfl) ?_
 try go_wp2
 go_ret
 exact ⟨_, by first | rfl | (simp [zn, zm] <;> rfl) | (simp [*, zn, zm] <;> rfl), by (with_reducible repeat (first | apply Kd.R_alloc | apply Kd.R_drewN | apply Kd.R_drew)); exact HO159.out, by repeat (first | (with_reducible first | exact HB.out | apply zg | apply zc | apply zf | refine zi ?_ GE155.out) | exact HB.out)⟩
-- NOT PRINTED: function 79 (impl_Case)
def impl_OppositeWord.l0 : Nat → Int → Int → Int → Int → Int → Option (Int × Int × Int × Int)
 | 0, _, _, _, _, _ => none
 | k + 1, x4, x161000, x161001, x161002, x161003 => if x4 < 4 then (if 0 ≤ x4 then (impl_OppositeWord.l0 k (wrap64 (x4 + 1)) (zv x4 0 (IntKind.i8.wrap (-(rd [x161000, x161001, x161002, x161003] x4))) x161000) (zv x4 1 (IntKind.i8.wrap (-(rd [x161000, x161001, x161002, x161003] x4))) x161001) (zv x4 2 (IntKind.i8.wrap (-(rd [x161000, x161001, x161002, x161003] x4))) x161002) (zv x4 3 (IntKind.i8.wrap (-(rd [x161000, x161001, x161002, x161003] x4))) x161003)) else (none)) else (some (x161000, x161001, x161002, x161003))
def impl_OppositeWord.f (k : Nat) (a0_0 : Int) (a0_1 : Int) (a0_2 : Int) (a0_3 : Int) : Option (Int × Int × Int × Int) := impl_OppositeWord.l0 k 0 a0_0 a0_1 a0_2 a0_3
set_option maxHeartbeats 8000000 in
set_option maxRecDepth 100000 in
theorem impl_OppositeWord.calls (k : Nat) (a0_0 : Int) (a0_1 : Int) (a0_2 : Int) (a0_3 : Int) (r1 : Int) (r2 : Int) (r3 : Int) (r4 : Int) (w : World) (h : impl_OppositeWord.f k a0_0 a0_1 a0_2 a0_3 = some (r1, r2, r3, r4)) :
  Calls Try.prog 99 #[.agg #[.int .i8 a0_0, .int .i8 a0_1, .int .i8 a0_2, .int .i8 a0_3]] w fun e w' => e = .returned (.agg #[.int .i8 r1, .int .i8 r2, .int .i8 r3, .int .i8 r4]) ∧ Below w.heap.size w w' := by
 have hu43 := Try.underlying43
 have HB := ze.mk (Below.refl w.heap.size w)
 have H : (impl_OppositeWord.l0 k 0 a0_0 a0_1 a0_2 a0_3) = some (r1, r2, r3, r4) := h
 clear h
 have H' := ze.mk H
 clear H
 go_enter Try.func99, Try.ntmps99
 go_wp2_with (first | ((with_reducible refine zu (N := 1) rfl ?_); refine zr ?hg (N := 1) ?hd (cs := #[.int .i8 a0_0, .int .i8 a0_1, .int .i8 a0_2, .int .i8 a0_3]) (t := 43) ?hr ?_; (case hd => rfl); (case hg => rfl); (case hr => first | (go_simp; done) | (go_simp; rfl)); intro gb160 hg w2 hbox hb; obtain ⟨n0_, n2_⟩ := bx (by repeat (first | (with_reducible first | exact HB.out | apply zg | apply zc | apply zf) | exact HB.out)) hb hg; have n1_ := ze.mk (hbox); have n3_ := n2_; clear HB; have HB := n0_; have BK160 := n1_; have GW160 := n2_; have GE160 := n3_; clear n0_ n1_ n2_ n3_; clear hb hbox hg) | ((with_reducible refine zu (N := 2) rfl ?_); refine zr ?hg (N := 2) ?hd (cs := #[.int .i8 0, .int .i8 0, .int .i8 0, .int .i8 0]) (t := 43) ?hr ?_; (case hd => rfl); (case hg => rfl); (case hr => first | (go_simp; done) | (go_simp; rfl)); intro gb161 hg w3 hbox hb; have n0_ := ze.mk (zk (by (with_reducible repeat (first | refine zb ?_ _ | refine zd ?_ | refine za ?_ _)); exact BK160.out) hb); obtain ⟨n1_, n3_⟩ := bx (by repeat (first | (with_reducible first | exact HB.out | apply zg | apply zc | apply zf | refine zi ?_ GE160.out) | exact HB.out)) hb hg; have n2_ := ze.mk (hbox); have n4_ := n3_; have n5_ := ze.mk ((by rw [hg]; exact Nat.ne_of_lt (zba (by (with_reducible repeat (first | refine zb ?_ _ | refine zd ?_ | refine za ?_ _)); exact BK160.out)) : gb160 ≠ gb161)); have n6_ := ze.mk n5_.out.symm; clear BK160; clear HB; have BK160 := n0_; have HB := n1_; have BK161 := n2_; have GW161 := n3_; have GE161 := n4_; have NB160_161 := n5_; have NB161_160 := n6_; clear n0_ n1_ n2_ n3_ n4_ n5_ n6_; clear hb hbox hg))
 go_loopg [4] k (fun kq v4 w' => ∃ (x4_1 : Int) (x161000_1 : Int) (x161001_1 : Int) (x161002_1 : Int) (x161003_1 : Int), v4 = .int .i64 x4_1 ∧ ze (impl_OppositeWord.l0 kq x4_1 x161000_1 x161001_1 x161002_1 x161003_1 = some (r1, r2, r3, r4)) ∧ ze (kq ≤ k) ∧ ze (w'.heap[gb160]? = some (.cells #[.int .i8 x161000_1, .int .i8 x161001_1, .int .i8 x161002_1, .int .i8 x161003_1] 43 (0, 0))) ∧ ze (w'.heap[gb161]? = some (.cells #[.int .i8 0, .int .i8 0, .int .i8 0, .int .i8 0] 43 (0, 0))) ∧ ze (Below w.heap.size w w'))
 case atStart => exact ⟨(0), (a0_0), (a0_1), (a0_2), (a0_3), (by first | rfl | (simp; done) | (simp [*]; done)), H', ⟨Nat.le_refl _⟩, ⟨by (with_reducible repeat (first | refine zb ?_ _ | refine zd ?_ | refine za ?_ _)); exact BK160.out⟩, ⟨by (with_reducible repeat (first | refine zb ?_ _ | refine zd ?_ | refine za ?_ _)); exact BK161.out⟩, ⟨by repeat (first | (with_reducible first | exact HB.out | apply zg | apply zc | apply zf | refine zi ?_ GE160.out | refine zi ?_ GE161.out) | exact HB.out)⟩⟩
 case round =>
  clear H'
  try clear p2
  obtain ⟨x4_1, x161000_1, x161001_1, x161002_1, x161003_1, rfl, HA, HK1, BK160, BK161, HB⟩ := hrel
  cases gk with
  | zero => exact absurd HA.out (by simp [impl_OppositeWord.l0])
  | succ k1 =>
   have H := HA.out
   clear HA
   simp only [impl_OppositeWord.l0] at H
   by_cases c4 : x4_1 < 4
   ·rw [if_pos c4] at H
    have c4b0 : decide (x4_1 < 4) = true := decide_eq_true c4
    clear c4
    by_cases c5 : 0 ≤ x4_1
    ·rw [if_pos c5] at H
     have c5b0 : decide (0 ≤ x4_1) = true := decide_eq_true c5
     clear c5
     have H' := ze.mk H
     clear H
     have p6 : 0 ≤ (x4_1 : Int) := od (by first | (with_reducible assumption) | assumption)
     have q6 : x4_1 < (4 : Int) := od (by first | (with_reducible assumption) | assumption)
     replace p6 := eq_true p6
     replace q6 := eq_true q6
     have hnb7 := NB160_161.out
     have hnc7 := NB161_160.out
     obtain ⟨y1_0, y1_1, y1_2, y1_3, z1_0, z1_1, z1_2, z1_3⟩ := cf4 BK160.out
     have u1_0 : wr.cell? ⟨gb160, (x4_1).toNat, none⟩ = some (.int .i8 (rd [x161000_1, x161001_1, x161002_1, x161003_1] x4_1)) := (zo BK160.out _).trans (by rcases (show (x4_1 : Int) = 0 ∨ (x4_1 : Int) = 1 ∨ (x4_1 : Int) = 2 ∨ (x4_1 : Int) = 3 by have hp_ : 0 ≤ (x4_1 : Int) := od (by first | (with_reducible assumption) | assumption); have hq_ : x4_1 < (4 : Int) := od (by first | (with_reducible assumption) | assumption); omega) with h_ | h_ | h_ | h_ <;> rw [h_] <;> rfl)
     have p10 : 0 ≤ (x4_1 : Int) := od (by first | (with_reducible assumption) | assumption)
     have q10 : x4_1 < (4 : Int) := od (by first | (with_reducible assumption) | assumption)
     replace p10 := eq_true p10
     replace q10 := eq_true q10
     go_wp2_with (first | ((with_reducible refine zja (t := 25) (p := 12) rfl ?_); have u2_0 : wr.cell? ⟨gb160, (x4_1).toNat, none⟩ = some (.int .i8 (rd [x161000_1, x161001_1, x161002_1, x161003_1] x4_1)) := (zo BK160.out _).trans (by rcases (show (x4_1 : Int) = 0 ∨ (x4_1 : Int) = 1 ∨ (x4_1 : Int) = 2 ∨ (x4_1 : Int) = 3 by have hp_ : 0 ≤ (x4_1 : Int) := od (by first | (with_reducible assumption) | assumption); have hq_ : x4_1 < (4 : Int) := od (by first | (with_reducible assumption) | assumption); omega) with h_ | h_ | h_ | h_ <;> rw [h_] <;> rfl); have z2_0 := zw BK160.out ((x4_1).toNat); refine zia (t := 25) (p := 12) (v := ?vo_w12) (w1 := (wr.setCell ⟨gb160, (x4_1).toNat, none⟩ (.int .i8 (IntKind.i8.wrap (-(rd [x161000_1, x161001_1, x161002_1, x161003_1] x4_1)))))) ?hg ?ho ?hn ?hr ?_; (case ho => rfl); (case hg => rfl); (case hn => rfl); (case hr => first | (go_simp; done) | (go_simp; rfl)); intro w12 hw; have n0_ : ze (w12.heap[gb160]? = some (.cells #[.int .i8 (zv x4_1 0 (IntKind.i8.wrap (-(rd [x161000_1, x161001_1, x161002_1, x161003_1] x4_1))) x161000_1), .int .i8 (zv x4_1 1 (IntKind.i8.wrap (-(rd [x161000_1, x161001_1, x161002_1, x161003_1] x4_1))) x161001_1), .int .i8 (zv x4_1 2 (IntKind.i8.wrap (-(rd [x161000_1, x161001_1, x161002_1, x161003_1] x4_1))) x161002_1), .int .i8 (zv x4_1 3 (IntKind.i8.wrap (-(rd [x161000_1, x161001_1, x161002_1, x161003_1] x4_1))) x161003_1)] 43 (0, 0))) := ⟨(by rw [hw]; exact (by (with_reducible repeat (first | refine zb ?_ _ | refine zd ?_ | refine za ?_ _)); refine zp (cs := #[.int .i8 x161000_1, .int .i8 x161001_1, .int .i8 x161002_1, .int .i8 x161003_1]) ?_ ((x4_1).toNat) _ (by rcases (show (x4_1 : Int) = 0 ∨ (x4_1 : Int) = 1 ∨ (x4_1 : Int) = 2 ∨ (x4_1 : Int) = 3 by have hp_ : 0 ≤ (x4_1 : Int) := od (by first | (with_reducible assumption) | assumption); have hq_ : x4_1 < (4 : Int) := od (by first | (with_reducible assumption) | assumption); omega) with h_ | h_ | h_ | h_ <;> rw [h_] <;> rfl); (with_reducible repeat (first | refine zb ?_ _ | refine zd ?_ | refine za ?_ _)); exact BK160.out))⟩; have n1_ : ze (w12.heap[gb161]? = some (.cells #[.int .i8 0, .int .i8 0, .int .i8 0, .int .i8 0] 43 (0, 0))) := ⟨(by rw [hw]; exact (by (with_reducible repeat (first | refine zb ?_ _ | refine zd ?_ | refine za ?_ _)); refine zq ?_ NB161_160.out _; (with_reducible repeat (first | refine zb ?_ _ | refine zd ?_ | refine za ?_ _)); exact BK161.out))⟩; have n2_ : ze (Below w.heap.size w w12) := ⟨(by rw [hw]; exact (by repeat (first | (with_reducible first | exact HB.out | apply zg | apply zc | apply zf | refine zi ?_ GE160.out | refine zi ?_ GE161.out) | exact HB.out)))⟩; clear hw; clear BK160; clear BK161; clear HB; have BK160 := n0_; have BK161 := n1_; have HB := n2_; clear n0_ n1_ n2_))
     go_roundg k1
     case measure => have := HK1.out; omega
     case rel => exact ⟨(wrap64 (x4_1 + 1)), ((zv x4_1 0 (IntKind.i8.wrap (-(rd [x161000_1, x161001_1, x161002_1, x161003_1] x4_1))) x161000_1)), ((zv x4_1 1 (IntKind.i8.wrap (-(rd [x161000_1, x161001_1, x161002_1, x161003_1] x4_1))) x161001_1)), ((zv x4_1 2 (IntKind.i8.wrap (-(rd [x161000_1, x161001_1, x161002_1, x161003_1] x4_1))) x161002_1)), ((zv x4_1 3 (IntKind.i8.wrap (-(rd [x161000_1, x161001_1, x161002_1, x161003_1] x4_1))) x161003_1)), (by first | rfl | (simp; done) | (simp [*]; done)), H', ⟨by have := HK1.out; omega⟩, ⟨by (with_reducible repeat (first | refine zb ?_ _ | refine zd ?_ | refine za ?_ _)); exact BK160.out⟩, ⟨by (with_reducible repeat (first | refine zb ?_ _ | refine zd ?_ | refine za ?_ _)); exact BK161.out⟩, ⟨by repeat (first | (with_reducible first | exact HB.out | apply zg | apply zc | apply zf | refine zi ?_ GE160.out | refine zi ?_ GE161.out) | exact HB.out)⟩⟩
    rw [if_neg c5] at H
    exact absurd H (by simp)
   rw [if_neg c4] at H
   have c4b0 : decide (x4_1 < 4) = false := decide_eq_false c4
   clear c4
   simp only [Option.some.injEq, Prod.mk.injEq] at H
   obtain ⟨rfl, rfl, rfl, rfl⟩ := H
   have hnb13 := NB160_161.out
   have hnc13 := NB161_160.out
   obtain ⟨y2_0, y2_1, y2_2, y2_3, z3_0, z3_1, z3_2, z3_3⟩ := cf4 BK160.out
   obtain ⟨y3_0, y3_1, y3_2, y3_3, z4_0, z4_1, z4_2, z4_3⟩ := cf4 BK161.out
   go_wp2
   refine bodyPost_ret (results_cell_row rfl _ _ gb161 43 #[.int .i8 x161000_1, .int .i8 x161001_1, .int .i8 x161002_1, .int .i8 x161003_1] (0, 0) _ rfl (by (with_reducible repeat (first | refine zb ?_ _ | refine zd ?_ | refine za ?_ _)); refine zp (cs := #[.int .i8 x161000_1, .int .i8 x161001_1, .int .i8 x161002_1, .int .i8 0]) ?_ 3 _ rfl; (with_reducible repeat (first | refine zb ?_ _ | refine zd ?_ | refine za ?_ _)); refine zp (cs := #[.int .i8 x161000_1, .int .i8 x161001_1, .int .i8 0, .int .i8 0]) ?_ 2 _ rfl; (with_reducible repeat (first | refine zb ?_ _ | refine zd ?_ | refine za ?_ _)); refine zp (cs := #[.int .i8 x161000_1, .int .i8 0, .int .i8 0, .int .i8 0]) ?_ 1 _ rfl; (with_reducible repeat (first | refine zb ?_ _ | refine zd ?_ | refine za ?_ _)); refine zp (cs := #[.int .i8 0, .int .i8 0, .int .i8 0, .int .i8 0]) ?_ 0 _ rfl; (with_reducible repeat (first | refine zb ?_ _ | refine zd ?_ | refine za ?_ _)); exact BK161.out) Try.underlying43 rfl (by kernel_rfl)) rfl ?_
   exact ⟨by first | rfl | (simp [zn, zm] <;> rfl) | (simp [*, zn, zm] <;> rfl), by repeat (first | (with_reducible first | exact HB.out | apply zg | apply zc | apply zf | refine zi ?_ GE160.out | refine zi ?_ GE161.out) | exact HB.out)⟩
def impl_Fixed_seen.f (k : Nat) (a0_0 : Int) (a0_1 : Int) (l0_2 : List (S43)) (a1_0 : Int) (a1_1 : Bool) : Option (Int × Int × Int × Int) := if a1_0 < 0 then (some (0, 0, 0, 0)) else (if a1_1 = true then (if 0 ≤ a1_0 then (if a1_0 < (l0_2.length : Int) then (some ((zj l0_2 a1_0).f0, (zj l0_2 a1_0).f1, (zj l0_2 a1_0).f2, (zj l0_2 a1_0).f3)) else (none)) else (none)) else (if 0 ≤ a1_0 then (if a1_0 < (l0_2.length : Int) then ((impl_OppositeWord.f k ((zj l0_2 a1_0).f0) ((zj l0_2 a1_0).f1) ((zj l0_2 a1_0).f2) ((zj l0_2 a1_0).f3)).bind fun bt171 => (some (bt171.1, bt171.2.1, bt171.2.2.1, bt171.2.2.2))) else (none)) else (none)))
set_option maxHeartbeats 8000000 in
set_option maxRecDepth 100000 in
theorem impl_Fixed_seen.calls (k : Nat) (a0_0 : Int) (a0_1 : Int) (A0_2 : Option Addr) (c0_2 : Nat) (l0_2 : List (S43)) (a1_0 : Int) (a1_1 : Bool) (r1 : Int) (r2 : Int) (r3 : Int) (r4 : Int) (w : World) (hr0_2 : Kd.C k43 w A0_2 l0_2.length l0_2) (hc0_2 : l0_2.length ≤ c0_2) (h : impl_Fixed_seen.f k a0_0 a0_1 l0_2 a1_0 a1_1 = some (r1, r2, r3, r4)) :
  Calls Try.prog 62 #[.agg #[.int .i8 a0_0, .int .i8 a0_1, .slice A0_2 l0_2.length c0_2], .agg #[.int .i8 a1_0, .bool a1_1]] w fun e w' => e = .returned (.agg #[.int .i8 r1, .int .i8 r2, .int .i8 r3, .int .i8 r4]) ∧ Below w.heap.size w w' := by
 have hu28 := Try.underlying28
 have hu38 := Try.underlying38
 have hu43 := Try.underlying43
 have HR0_2 := ze.mk hr0_2
 have HC0_2 := ze.mk hc0_2
 clear hr0_2 hc0_2
 have HB := ze.mk (Below.refl w.heap.size w)
 have H : (if a1_0 < 0 then (some (0, 0, 0, 0)) else (if a1_1 = true then (if 0 ≤ a1_0 then (if a1_0 < (l0_2.length : Int) then (some ((zj l0_2 a1_0).f0, (zj l0_2 a1_0).f1, (zj l0_2 a1_0).f2, (zj l0_2 a1_0).f3)) else (none)) else (none)) else (if 0 ≤ a1_0 then (if a1_0 < (l0_2.length : Int) then ((impl_OppositeWord.f k ((zj l0_2 a1_0).f0) ((zj l0_2 a1_0).f1) ((zj l0_2 a1_0).f2) ((zj l0_2 a1_0).f3)).bind fun bt171 => (some (bt171.1, bt171.2.1, bt171.2.2.1, bt171.2.2.2))) else (none)) else (none)))) = some (r1, r2, r3, r4) := h
 clear h
 by_cases c3 : a1_0 < 0
 ·rw [if_pos c3] at H
  have c3b0 : decide (a1_0 < 0) = true := decide_eq_true c3
  clear c3
  simp only [Option.some.injEq, Prod.mk.injEq] at H
  obtain ⟨rfl, rfl, rfl, rfl⟩ := H
  go_enter Try.func62, Try.ntmps62
  go_wp2_with (first | ((with_reducible refine zu (N := 2) rfl ?_); refine zr ?hg (N := 2) ?hd (cs := #[.int .i8 a0_0, .int .i8 a0_1, .slice A0_2 l0_2.length c0_2]) (t := 28) ?hr ?_; (case hd => rfl); (case hg => rfl); (case hr => first | (go_simp; done) | (go_simp; rfl)); intro gb166 hg w4 hbox hb; obtain ⟨n0_, n2_⟩ := bx (by repeat (first | (with_reducible first | exact HB.out | apply zg | apply zc | apply zf) | exact HB.out)) hb hg; have n1_ := ze.mk (hbox); have n3_ := n2_; clear HB; have HB := n0_; have BK166 := n1_; have GW166 := n2_; have GE166 := n3_; clear n0_ n1_ n2_ n3_; clear hb hbox hg) | ((with_reducible refine zu (N := 3) rfl ?_); refine zr ?hg (N := 3) ?hd (cs := #[.int .i8 a1_0, .bool a1_1]) (t := 38) ?hr ?_; (case hd => rfl); (case hg => rfl); (case hr => first | (go_simp; done) | (go_simp; rfl)); intro gb167 hg w5 hbox hb; have n0_ := ze.mk (zk (by (with_reducible repeat (first | refine zb ?_ _ | refine zd ?_ | refine za ?_ _)); exact BK166.out) hb); obtain ⟨n1_, n3_⟩ := bx (by repeat (first | (with_reducible first | exact HB.out | apply zg | apply zc | apply zf | refine zi ?_ GE166.out) | exact HB.out)) hb hg; have n2_ := ze.mk (hbox); have n4_ := n3_; have n5_ := ze.mk ((by rw [hg]; exact Nat.ne_of_lt (zba (by (with_reducible repeat (first | refine zb ?_ _ | refine zd ?_ | refine za ?_ _)); exact BK166.out)) : gb166 ≠ gb167)); have n6_ := ze.mk n5_.out.symm; clear BK166; clear HB; have BK166 := n0_; have HB := n1_; have BK167 := n2_; have GW167 := n3_; have GE167 := n4_; have NB166_167 := n5_; have NB167_166 := n6_; clear n0_ n1_ n2_ n3_ n4_ n5_ n6_; clear hb hbox hg) | ((with_reducible refine zu (N := 4) rfl ?_); refine zr ?hg (N := 4) ?hd (cs := #[.int .i8 0, .int .i8 0, .int .i8 0, .int .i8 0]) (t := 43) ?hr ?_; (case hd => rfl); (case hg => rfl); (case hr => first | (go_simp; done) | (go_simp; rfl)); intro gb168 hg w6 hbox hb; have n0_ := ze.mk (zk (by (with_reducible repeat (first | refine zb ?_ _ | refine zd ?_ | refine za ?_ _)); exact BK166.out) hb); have n1_ := ze.mk (zk (by (with_reducible repeat (first | refine zb ?_ _ | refine zd ?_ | refine za ?_ _)); exact BK167.out) hb); obtain ⟨n2_, n4_⟩ := bx (by repeat (first | (with_reducible first | exact HB.out | apply zg | apply zc | apply zf | refine zi ?_ GE166.out | refine zi ?_ GE167.out) | exact HB.out)) hb hg; have n3_ := ze.mk (hbox); have n5_ := n4_; have n6_ := ze.mk ((by rw [hg]; exact Nat.ne_of_lt (zba (by (with_reducible repeat (first | refine zb ?_ _ | refine zd ?_ | refine za ?_ _)); exact BK166.out)) : gb166 ≠ gb168)); have n7_ := ze.mk n6_.out.symm; have n8_ := ze.mk ((by rw [hg]; exact Nat.ne_of_lt (zba (by (with_reducible repeat (first | refine zb ?_ _ | refine zd ?_ | refine za ?_ _)); exact BK167.out)) : gb167 ≠ gb168)); have n9_ := ze.mk n8_.out.symm; clear BK166; clear BK167; clear HB; have BK166 := n0_; have BK167 := n1_; have HB := n2_; have BK168 := n3_; have GW168 := n4_; have GE168 := n5_; have NB166_168 := n6_; have NB168_166 := n7_; have NB167_168 := n8_; have NB168_167 := n9_; clear n0_ n1_ n2_ n3_ n4_ n5_ n6_ n7_ n8_ n9_; clear hb hbox hg; have hnb7 := NB167_166.out; have hnc7 := NB166_167.out; have hnb8 := NB167_168.out; have hnc8 := NB168_167.out; obtain ⟨y4_0, y4_1, z5_0, z5_1⟩ := cf2 BK167.out; have hnb10 := NB168_166.out; have hnc10 := NB166_168.out; obtain ⟨y5_0, y5_1, y5_2, y5_3, z2_0, z2_1, z2_2, z2_3⟩ := cf4 BK168.out))
  refine bodyPost_ret (results_cell_row rfl _ _ gb168 43 #[.int .i8 0, .int .i8 0, .int .i8 0, .int .i8 0] (0, 0) _ rfl (by (with_reducible repeat (first | refine zb ?_ _ | refine zd ?_ | refine za ?_ _)); refine zp (cs := #[.int .i8 0, .int .i8 0, .int .i8 0, .int .i8 0]) ?_ 3 _ rfl; (with_reducible repeat (first | refine zb ?_ _ | refine zd ?_ | refine za ?_ _)); refine zp (cs := #[.int .i8 0, .int .i8 0, .int .i8 0, .int .i8 0]) ?_ 2 _ rfl; (with_reducible repeat (first | refine zb ?_ _ | refine zd ?_ | refine za ?_ _)); refine zp (cs := #[.int .i8 0, .int .i8 0, .int .i8 0, .int .i8 0]) ?_ 1 _ rfl; (with_reducible repeat (first | refine zb ?_ _ | refine zd ?_ | refine za ?_ _)); refine zp (cs := #[.int .i8 0, .int .i8 0, .int .i8 0, .int .i8 0]) ?_ 0 _ rfl; (with_reducible repeat (first | refine zb ?_ _ | refine zd ?_ | refine za ?_ _)); exact BK168.out) Try.underlying43 rfl (by kernel_rfl)) rfl ?_
  exact ⟨by first | rfl | (simp [zn, zm] <;> rfl) | (simp [*, zn, zm] <;> rfl), by repeat (first | (with_reducible first | exact HB.out | apply zg | apply zc | apply zf | refine zi ?_ GE166.out | refine zi ?_ GE167.out | refine zi ?_ GE168.out) | exact HB.out)⟩
 rw [if_neg c3] at H
 have c3b0 : decide (a1_0 < 0) = false := decide_eq_false c3
 clear c3
 by_cases c12 : a1_1 = true
 ·subst c12
  have H1 : (if 0 ≤ a1_0 then (if a1_0 < (l0_2.length : Int) then (some ((zj l0_2 a1_0).f0, (zj l0_2 a1_0).f1, (zj l0_2 a1_0).f2, (zj l0_2 a1_0).f3)) else (none)) else (none)) = some (r1, r2, r3, r4) := by rw [if_pos rfl] at H; exact H
  clear H
  have H := H1
  clear H1
  by_cases c13 : 0 ≤ a1_0
  ·rw [if_pos c13] at H
   have c13b0 : decide (0 ≤ a1_0) = true := decide_eq_true c13
   clear c13
   by_cases c14 : a1_0 < (l0_2.length : Int)
   ·rw [if_pos c14] at H
    have c14b0 : decide (a1_0 < (l0_2.length : Int)) = true := decide_eq_true c14
    clear c14
    simp only [Option.some.injEq, Prod.mk.injEq] at H
    obtain ⟨rfl, rfl, rfl, rfl⟩ := H
    go_enter Try.func62, Try.ntmps62
    go_wp2_with (first | ((with_reducible refine zu (N := 2) rfl ?_); refine zr ?hg (N := 2) ?hd (cs := #[.int .i8 a0_0, .int .i8 a0_1, .slice A0_2 l0_2.length c0_2]) (t := 28) ?hr ?_; (case hd => rfl); (case hg => rfl); (case hr => first | (go_simp; done) | (go_simp; rfl)); intro gb166 hg w15 hbox hb; obtain ⟨n0_, n2_⟩ := bx (by repeat (first | (with_reducible first | exact HB.out | apply zg | apply zc | apply zf) | exact HB.out)) hb hg; have n1_ := ze.mk (hbox); have n3_ := n2_; clear HB; have HB := n0_; have BK166 := n1_; have GW166 := n2_; have GE166 := n3_; clear n0_ n1_ n2_ n3_; clear hb hbox hg) | ((with_reducible refine zu (N := 3) rfl ?_); refine zr ?hg (N := 3) ?hd (cs := #[.int .i8 a1_0, .bool true]) (t := 38) ?hr ?_; (case hd => rfl); (case hg => rfl); (case hr => first | (go_simp; done) | (go_simp; rfl)); intro gb167 hg w16 hbox hb; have n0_ := ze.mk (zk (by (with_reducible repeat (first | refine zb ?_ _ | refine zd ?_ | refine za ?_ _)); exact BK166.out) hb); obtain ⟨n1_, n3_⟩ := bx (by repeat (first | (with_reducible first | exact HB.out | apply zg | apply zc | apply zf | refine zi ?_ GE166.out) | exact HB.out)) hb hg; have n2_ := ze.mk (hbox); have n4_ := n3_; have n5_ := ze.mk ((by rw [hg]; exact Nat.ne_of_lt (zba (by (with_reducible repeat (first | refine zb ?_ _ | refine zd ?_ | refine za ?_ _)); exact BK166.out)) : gb166 ≠ gb167)); have n6_ := ze.mk n5_.out.symm; clear BK166; clear HB; have BK166 := n0_; have HB := n1_; have BK167 := n2_; have GW167 := n3_; have GE167 := n4_; have NB166_167 := n5_; have NB167_166 := n6_; clear n0_ n1_ n2_ n3_ n4_ n5_ n6_; clear hb hbox hg) | ((with_reducible refine zu (N := 4) rfl ?_); refine zr ?hg (N := 4) ?hd (cs := #[.int .i8 0, .int .i8 0, .int .i8 0, .int .i8 0]) (t := 43) ?hr ?_; (case hd => rfl); (case hg => rfl); (case hr => first | (go_simp; done) | (go_simp; rfl)); intro gb168 hg w17 hbox hb; have n0_ := ze.mk (zk (by (with_reducible repeat (first | refine zb ?_ _ | refine zd ?_ | refine za ?_ _)); exact BK166.out) hb); have n1_ := ze.mk (zk (by (with_reducible repeat (first | refine zb ?_ _ | refine zd ?_ | refine za ?_ _)); exact BK167.out) hb); obtain ⟨n2_, n4_⟩ := bx (by repeat (first | (with_reducible first | exact HB.out | apply zg | apply zc | apply zf | refine zi ?_ GE166.out | refine zi ?_ GE167.out) | exact HB.out)) hb hg; have n3_ := ze.mk (hbox); have n5_ := n4_; have n6_ := ze.mk ((by rw [hg]; exact Nat.ne_of_lt (zba (by (with_reducible repeat (first | refine zb ?_ _ | refine zd ?_ | refine za ?_ _)); exact BK166.out)) : gb166 ≠ gb168)); have n7_ := ze.mk n6_.out.symm; have n8_ := ze.mk ((by rw [hg]; exact Nat.ne_of_lt (zba (by (with_reducible repeat (first | refine zb ?_ _ | refine zd ?_ | refine za ?_ _)); exact BK167.out)) : gb167 ≠ gb168)); have n9_ := ze.mk n8_.out.symm; clear BK166; clear BK167; clear HB; have BK166 := n0_; have BK167 := n1_; have HB := n2_; have BK168 := n3_; have GW168 := n4_; have GE168 := n5_; have NB166_168 := n6_; have NB168_166 := n7_; have NB167_168 := n8_; have NB168_167 := n9_; clear n0_ n1_ n2_ n3_ n4_ n5_ n6_ n7_ n8_ n9_; clear hb hbox hg; have hnb18 := NB167_166.out; have hnc18 := NB166_167.out; have hnb19 := NB167_168.out; have hnc19 := NB168_167.out; obtain ⟨y6_0, y6_1, z6_0, z6_1⟩ := cf2 BK167.out; have hnb21 := NB166_168.out; have hnc21 := NB168_166.out; obtain ⟨y7_0, y7_1, y7_2, z7_0, z7_1, z7_2⟩ := cf3 BK166.out; have p169 : 0 ≤ (a1_0 : Int) := od (by first | (with_reducible assumption) | assumption); have q169 : a1_0 < (l0_2.length : Int) := od (by first | (with_reducible assumption) | assumption); obtain ⟨ad169, e169, u3_0, u3_1, u3_2, u3_3⟩ := zte HR0_2.out a1_0 p169 q169; cases e169; replace u3_0 := bc HB.out u3_0; replace u3_1 := bc HB.out u3_1; replace u3_2 := bc HB.out u3_2; replace u3_3 := bc HB.out u3_3; replace p169 := eq_true p169; replace q169 := eq_true q169; obtain ⟨y8_0, y8_1, y8_2, y8_3, z8_0, z8_1, z8_2, z8_3⟩ := cf4 BK168.out))
    refine bodyPost_ret (results_cell_row rfl _ _ gb168 43 #[.int .i8 ((zj l0_2 a1_0).f0), .int .i8 ((zj l0_2 a1_0).f1), .int .i8 ((zj l0_2 a1_0).f2), .int .i8 ((zj l0_2 a1_0).f3)] (0, 0) _ rfl (by (with_reducible repeat (first | refine zb ?_ _ | refine zd ?_ | refine za ?_ _)); refine zp (cs := #[.int .i8 ((zj l0_2 a1_0).f0), .int .i8 ((zj l0_2 a1_0).f1), .int .i8 ((zj l0_2 a1_0).f2), .int .i8 0]) ?_ 3 _ rfl; (with_reducible repeat (first | refine zb ?_ _ | refine zd ?_ | refine za ?_ _)); refine zp (cs := #[.int .i8 ((zj l0_2 a1_0).f0), .int .i8 ((zj l0_2 a1_0).f1), .int .i8 0, .int .i8 0]) ?_ 2 _ rfl; (with_reducible repeat (first | refine zb ?_ _ | refine zd ?_ | refine za ?_ _)); refine zp (cs := #[.int .i8 ((zj l0_2 a1_0).f0), .int .i8 0, .int .i8 0, .int .i8 0]) ?_ 1 _ rfl; (with_reducible repeat (first | refine zb ?_ _ | refine zd ?_ | refine za ?_ _)); refine zp (cs := #[.int .i8 0, .int .i8 0, .int .i8 0, .int .i8 0]) ?_ 0 _ rfl; (with_reducible repeat (first | refine zb ?_ _ | refine zd ?_ | refine za ?_ _)); exact BK168.out) Try.underlying43 rfl (by kernel_rfl)) rfl ?_
    exact ⟨by first | rfl | (simp [zn, zm] <;> rfl) | (simp [*, zn, zm] <;> rfl), by repeat (first | (with_reducible first | exact HB.out | apply zg | apply zc | apply zf | refine zi ?_ GE166.out | refine zi ?_ GE167.out | refine zi ?_ GE168.out) | exact HB.out)⟩
   rw [if_neg c14] at H
   exact absurd H (by simp)
  rw [if_neg c13] at H
  exact absurd H (by simp)
 replace c12 := Bool.eq_false_iff.mpr c12
 subst c12
 have H1 : (if 0 ≤ a1_0 then (if a1_0 < (l0_2.length : Int) then ((impl_OppositeWord.f k ((zj l0_2 a1_0).f0) ((zj l0_2 a1_0).f1) ((zj l0_2 a1_0).f2) ((zj l0_2 a1_0).f3)).bind fun bt171 => (some (bt171.1, bt171.2.1, bt171.2.2.1, bt171.2.2.2))) else (none)) else (none)) = some (r1, r2, r3, r4) := by rw [if_neg (show ¬ (false = true) by decide)] at H; exact H
 clear H
 have H := H1
 clear H1
 by_cases c24 : 0 ≤ a1_0
 ·rw [if_pos c24] at H
  have c24b0 : decide (0 ≤ a1_0) = true := decide_eq_true c24
  clear c24
  by_cases c25 : a1_0 < (l0_2.length : Int)
  ·rw [if_pos c25] at H
   have c25b0 : decide (a1_0 < (l0_2.length : Int)) = true := decide_eq_true c25
   clear c25
   replace H := Option.bind_eq_some_iff.mp H
   obtain ⟨⟨t171, t172, t173, t174⟩, A260, H⟩ := H
   replace H : (some (t171, t172, t173, t174)) = some (r1, r2, r3, r4) := H
   have A26 := ze.mk A260
   clear A260
   simp only [Option.some.injEq, Prod.mk.injEq] at H
   obtain ⟨rfl, rfl, rfl, rfl⟩ := H
   go_enter Try.func62, Try.ntmps62
   go_wp2_with (first | ((with_reducible refine zu (N := 2) rfl ?_); refine zr ?hg (N := 2) ?hd (cs := #[.int .i8 a0_0, .int .i8 a0_1, .slice A0_2 l0_2.length c0_2]) (t := 28) ?hr ?_; (case hd => rfl); (case hg => rfl); (case hr => first | (go_simp; done) | (go_simp; rfl)); intro gb166 hg w27 hbox hb; obtain ⟨n0_, n2_⟩ := bx (by repeat (first | (with_reducible first | exact HB.out | apply zg | apply zc | apply zf) | exact HB.out)) hb hg; have n1_ := ze.mk (hbox); have n3_ := n2_; clear HB; have HB := n0_; have BK166 := n1_; have GW166 := n2_; have GE166 := n3_; clear n0_ n1_ n2_ n3_; clear hb hbox hg) | ((with_reducible refine zu (N := 3) rfl ?_); refine zr ?hg (N := 3) ?hd (cs := #[.int .i8 a1_0, .bool false]) (t := 38) ?hr ?_; (case hd => rfl); (case hg => rfl); (case hr => first | (go_simp; done) | (go_simp; rfl)); intro gb167 hg w28 hbox hb; have n0_ := ze.mk (zk (by (with_reducible repeat (first | refine zb ?_ _ | refine zd ?_ | refine za ?_ _)); exact BK166.out) hb); obtain ⟨n1_, n3_⟩ := bx (by repeat (first | (with_reducible first | exact HB.out | apply zg | apply zc | apply zf | refine zi ?_ GE166.out) | exact HB.out)) hb hg; have n2_ := ze.mk (hbox); have n4_ := n3_; have n5_ := ze.mk ((by rw [hg]; exact Nat.ne_of_lt (zba (by (with_reducible repeat (first | refine zb ?_ _ | refine zd ?_ | refine za ?_ _)); exact BK166.out)) : gb166 ≠ gb167)); have n6_ := ze.mk n5_.out.symm; clear BK166; clear HB; have BK166 := n0_; have HB := n1_; have BK167 := n2_; have GW167 := n3_; have GE167 := n4_; have NB166_167 := n5_; have NB167_166 := n6_; clear n0_ n1_ n2_ n3_ n4_ n5_ n6_; clear hb hbox hg) | ((with_reducible refine zu (N := 4) rfl ?_); refine zr ?hg (N := 4) ?hd (cs := #[.int .i8 0, .int .i8 0, .int .i8 0, .int .i8 0]) (t := 43) ?hr ?_; (case hd => rfl); (case hg => rfl); (case hr => first | (go_simp; done) | (go_simp; rfl)); intro gb168 hg w29 hbox hb; have n0_ := ze.mk (zk (by (with_reducible repeat (first | refine zb ?_ _ | refine zd ?_ | refine za ?_ _)); exact BK166.out) hb); have n1_ := ze.mk (zk (by (with_reducible repeat (first | refine zb ?_ _ | refine zd ?_ | refine za ?_ _)); exact BK167.out) hb); obtain ⟨n2_, n4_⟩ := bx (by repeat (first | (with_reducible first | exact HB.out | apply zg | apply zc | apply zf | refine zi ?_ GE166.out | refine zi ?_ GE167.out) | exact HB.out)) hb hg; have n3_ := ze.mk (hbox); have n5_ := n4_; have n6_ := ze.mk ((by rw [hg]; exact Nat.ne_of_lt (zba (by (with_reducible repeat (first | refine zb ?_ _ | refine zd ?_ | refine za ?_ _)); exact BK166.out)) : gb166 ≠ gb168)); have n7_ := ze.mk n6_.out.symm; have n8_ := ze.mk ((by rw [hg]; exact Nat.ne_of_lt (zba (by (with_reducible repeat (first | refine zb ?_ _ | refine zd ?_ | refine za ?_ _)); exact BK167.out)) : gb167 ≠ gb168)); have n9_ := ze.mk n8_.out.symm; clear BK166; clear BK167; clear HB; have BK166 := n0_; have BK167 := n1_; have HB := n2_; have BK168 := n3_; have GW168 := n4_; have GE168 := n5_; have NB166_168 := n6_; have NB168_166 := n7_; have NB167_168 := n8_; have NB168_167 := n9_; clear n0_ n1_ n2_ n3_ n4_ n5_ n6_ n7_ n8_ n9_; clear hb hbox hg; have hnb30 := NB167_166.out; have hnc30 := NB166_167.out; have hnb31 := NB167_168.out; have hnc31 := NB168_167.out; obtain ⟨y9_0, y9_1, z9_0, z9_1⟩ := cf2 BK167.out; have hnb33 := NB166_168.out; have hnc33 := NB168_166.out; obtain ⟨y10_0, y10_1, y10_2, z10_0, z10_1, z10_2⟩ := cf3 BK166.out; have p170 : 0 ≤ (a1_0 : Int) := od (by first | (with_reducible assumption) | assumption); have q170 : a1_0 < (l0_2.length : Int) := od (by first | (with_reducible assumption) | assumption); obtain ⟨ad170, e170, u4_0, u4_1, u4_2, u4_3⟩ := zte HR0_2.out a1_0 p170 q170; cases e170; replace u4_0 := bc HB.out u4_0; replace u4_1 := bc HB.out u4_1; replace u4_2 := bc HB.out u4_2; replace u4_3 := bc HB.out u4_3; replace p170 := eq_true p170; replace q170 := eq_true q170) | ((with_reducible refine zs (f := 99) rfl ?_); refine zda (some 25) rfl rfl Try.func99 (by kernel_rfl) rfl #[.agg #[.int .i8 ((zj l0_2 a1_0).f0), .int .i8 ((zj l0_2 a1_0).f1), .int .i8 ((zj l0_2 a1_0).f2), .int .i8 ((zj l0_2 a1_0).f3)]] rfl (by (try simp only [List.map_toArray, List.map_cons, List.map_nil]); first | done | rfl | (simp only [List.length_drop, List.length_take]; rfl)) ?_; (with_reducible refine (impl_OppositeWord.calls k ((zj l0_2 a1_0).f0) ((zj l0_2 a1_0).f1) ((zj l0_2 a1_0).f2) ((zj l0_2 a1_0).f3) t171 t172 t173 t174 _ A26.out).mono ?_); rintro e w35 ⟨rfl, hb⟩; refine ⟨_, rfl, ?_⟩; have n0_ := ze.mk (zk (by (with_reducible repeat (first | refine zb ?_ _ | refine zd ?_ | refine za ?_ _)); exact BK166.out) hb); have n1_ := ze.mk (zk (by (with_reducible repeat (first | refine zb ?_ _ | refine zd ?_ | refine za ?_ _)); exact BK167.out) hb); have n2_ := ze.mk (zk (by (with_reducible repeat (first | refine zb ?_ _ | refine zd ?_ | refine za ?_ _)); exact BK168.out) hb); have n3_ := ze.mk (zt (by repeat (first | (with_reducible first | exact HB.out | apply zg | apply zc | apply zf | refine zi ?_ GE166.out | refine zi ?_ GE167.out | refine zi ?_ GE168.out) | exact HB.out)) hb); clear BK166; clear BK167; clear BK168; clear HB; have BK166 := n0_; have BK167 := n1_; have BK168 := n2_; have HB := n3_; clear n0_ n1_ n2_ n3_; (try clear hb); (try clear hb2); (try clear hk); (try clear hi); obtain ⟨y11_0, y11_1, y11_2, y11_3, z11_0, z11_1, z11_2, z11_3⟩ := cf4 BK168.out))
   refine bodyPost_ret (results_cell_row rfl _ _ gb168 43 #[.int .i8 t171, .int .i8 t172, .int .i8 t173, .int .i8 t174] (0, 0) _ rfl (by (with_reducible repeat (first | refine zb ?_ _ | refine zd ?_ | refine za ?_ _)); refine zp (cs := #[.int .i8 t171, .int .i8 t172, .int .i8 t173, .int .i8 0]) ?_ 3 _ rfl; (with_reducible repeat (first | refine zb ?_ _ | refine zd ?_ | refine za ?_ _)); refine zp (cs := #[.int .i8 t171, .int .i8 t172, .int .i8 0, .int .i8 0]) ?_ 2 _ rfl; (with_reducible repeat (first | refine zb ?_ _ | refine zd ?_ | refine za ?_ _)); refine zp (cs := #[.int .i8 t171, .int .i8 0, .int .i8 0, .int .i8 0]) ?_ 1 _ rfl; (with_reducible repeat (first | refine zb ?_ _ | refine zd ?_ | refine za ?_ _)); refine zp (cs := #[.int .i8 0, .int .i8 0, .int .i8 0, .int .i8 0]) ?_ 0 _ rfl; (with_reducible repeat (first | refine zb ?_ _ | refine zd ?_ | refine za ?_ _)); exact BK168.out) Try.underlying43 rfl (by kernel_rfl)) rfl ?_
   exact ⟨by first | rfl | (simp [zn, zm] <;> rfl) | (simp [*, zn, zm] <;> rfl), by repeat (first | (with_reducible first | exact HB.out | apply zg | apply zc | apply zf | refine zi ?_ GE166.out | refine zi ?_ GE167.out | refine zi ?_ GE168.out) | exact HB.out)⟩
  rw [if_neg c25] at H
  exact absurd H (by simp)
 rw [if_neg c24] at H
 exact absurd H (by simp)
end Go.Proofs.Ytmfbcklaomigaaa.M
