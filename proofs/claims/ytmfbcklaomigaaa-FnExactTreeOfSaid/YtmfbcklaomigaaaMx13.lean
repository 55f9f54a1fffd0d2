-- Written by wip/tools/myprint.py.
import Derived.Test.YtmfbcklaomigaaaMx0
import Derived.Test.YtmfbcklaomigaaaLLoad
namespace Go.Proofs.Ytmfbcklaomigaaa.M
open Go.RowKit Go.Proofs.YtmfbcklaomigaaaW.PrintWords Go.Proofs.YtmfbcklaomigaaaW.PrintLast Go.Proofs.YtmfbcklaomigaaaW.PrintMore
attribute [local go_sem] zrb zqb zkc zhc zlb zkb ztb zub
set_option linter.unusedVariables false
set_option linter.unusedSimpArgs false
def spec_l03Power.l0 : Nat → Int → Int → Option (Int)
 | 0, _, _ => none
 | k + 1, x0, x3 => if x0 > 0 then (spec_l03Power.l0 k (wrap64 (x0 - 1)) (wrap64 (x3 * 3))) else (some x3)
def spec_l03Power.f (k : Nat) (a0 : Int) : Option (Int) := spec_l03Power.l0 k a0 1
set_option maxHeartbeats 8000000 in
set_option maxRecDepth 100000 in
theorem spec_l03Power.calls (k : Nat) (a0 : Int) (r : Int) (w : World) (h : spec_l03Power.f k a0 = some r) :
  Calls Try.prog 52 #[.int .i64 a0] w fun e w' => e = .returned (.int .i64 r) ∧ zca w w' := by
 have H : (spec_l03Power.l0 k a0 1) = some r := h
 clear h
 have H' := ze.mk H
 clear H
 go_enter Try.func52, Try.ntmps52
 go_wp2
 go_loopg [0, 3] k (fun kq v0 v3 w' => ∃ (x0_1 : Int) (x3_1 : Int), v0 = .int .i64 x0_1 ∧ v3 = .int .i64 x3_1 ∧ ze (spec_l03Power.l0 kq x0_1 x3_1 = some r) ∧ ze (kq ≤ k) ∧ zca w w')
 case atStart => exact ⟨(a0), (1), (by first | rfl | (simp; done) | (simp [*]; done)), (by first | rfl | (simp; done) | (simp [*]; done)), H', ⟨Nat.le_refl _⟩, by repeat (first | exact zca.refl _ | apply zca.step)⟩
 case round =>
  clear H'
  obtain ⟨x0_1, x3_1, rfl, rfl, HA, HK1, ⟨m1, rfl⟩⟩ := hrel
  cases gk with
  | zero => exact absurd HA.out (by simp [spec_l03Power.l0])
  | succ k1 =>
   have H := HA.out
   clear HA
   simp only [spec_l03Power.l0] at H
   by_cases c2 : x0_1 > 0
   ·rw [if_pos c2] at H
    have c2b0 : decide (0 < x0_1) = true := decide_eq_true c2
    clear c2
    have H' := ze.mk H
    clear H
    go_wp2
    go_roundg k1
    case measure => have := HK1.out; omega
    case rel => exact ⟨(wrap64 (x0_1 - 1)), (wrap64 (x3_1 * 3)), (by first | rfl | (simp; done) | (simp [*]; done)), (by first | rfl | (simp; done) | (simp [*]; done)), H', ⟨by have := HK1.out; omega⟩, by repeat (first | exact zca.refl _ | apply zca.step)⟩
   rw [if_neg c2] at H
   have c2b0 : decide (0 < x0_1) = false := decide_eq_false c2
   clear c2
   obtain rfl := Option.some.inj H
   go_wp2
   go_ret
   exact ⟨by first | rfl | (simp; done) | (simp [*]; done), by repeat (first | exact zca.refl _ | apply zca.step)⟩
def spec_l04At.l0 : Nat → Int → Int → Int → Int → Int → Int → Option (Int × Int × Int × Int)
 | 0, _, _, _, _, _, _ => none
 | k + 1, x1, x6, x236000, x236001, x236002, x236003 => if x6 ≥ 0 then (if 0 ≤ x6 then (if x6 < 4 then (spec_l04At.l0 k (wrap64 (Int.tdiv x1 3)) (wrap64 (x6 - 1)) (zv x6 0 (IntKind.i8.wrap (wrap64 ((Int.tmod x1 3) - 1))) x236000) (zv x6 1 (IntKind.i8.wrap (wrap64 ((Int.tmod x1 3) - 1))) x236001) (zv x6 2 (IntKind.i8.wrap (wrap64 ((Int.tmod x1 3) - 1))) x236002) (zv x6 3 (IntKind.i8.wrap (wrap64 ((Int.tmod x1 3) - 1))) x236003)) else (none)) else (none)) else (some (x236000, x236001, x236002, x236003))
def spec_l04At.f (k : Nat) (a0 : Int) (a1 : Int) : Option (Int × Int × Int × Int) := spec_l04At.l0 k a1 (wrap64 (a0 - 1)) 0 0 0 0
set_option maxHeartbeats 8000000 in
set_option maxRecDepth 100000 in
theorem spec_l04At.calls (k : Nat) (a0 : Int) (a1 : Int) (r1 : Int) (r2 : Int) (r3 : Int) (r4 : Int) (w : World) (h : spec_l04At.f k a0 a1 = some (r1, r2, r3, r4)) :
  Calls Try.prog 53 #[.int .i64 a0, .int .i64 a1] w fun e w' => e = .returned (.agg #[.int .i8 r1, .int .i8 r2, .int .i8 r3, .int .i8 r4]) ∧ Below w.heap.size w w' := by
 have hu43 := Try.underlying43
 have HB := ze.mk (Below.refl w.heap.size w)
 have H : (spec_l04At.l0 k a1 (wrap64 (a0 - 1)) 0 0 0 0) = some (r1, r2, r3, r4) := h
 clear h
 have H' := ze.mk H
 clear H
 go_enter Try.func53, Try.ntmps53
 go_wp2_with (first | ((with_reducible refine zu (N := 4) rfl ?_); refine zr ?hg (N := 4) ?hd (cs := #[.int .i8 0, .int .i8 0, .int .i8 0, .int .i8 0]) (t := 43) ?hr ?_; (case hd => rfl); (case hg => rfl); (case hr => first | (go_simp; done) | (go_simp; rfl)); intro gb234 hg w3 hbox hb; obtain ⟨n0_, n2_⟩ := bx (by repeat (first | (with_reducible first | exact HB.out | apply zg | apply zc | apply zf) | exact HB.out)) hb hg; have n1_ := ze.mk (hbox); have n3_ := n2_; clear HB; have HB := n0_; have BK234 := n1_; have GW234 := n2_; have GE234 := n3_; clear n0_ n1_ n2_ n3_; clear hb hbox hg) | ((with_reducible refine zu (N := 5) rfl ?_); refine zr ?hg (N := 5) ?hd (cs := #[.int .i8 0, .int .i8 0, .int .i8 0, .int .i8 0]) (t := 43) ?hr ?_; (case hd => rfl); (case hg => rfl); (case hr => first | (go_simp; done) | (go_simp; rfl)); intro gb235 hg w4 hbox hb; have n0_ := ze.mk (zk (by (with_reducible repeat (first | refine zb ?_ _ | refine zd ?_ | refine za ?_ _)); exact BK234.out) hb); obtain ⟨n1_, n3_⟩ := bx (by repeat (first | (with_reducible first | exact HB.out | apply zg | apply zc | apply zf | refine zi ?_ GE234.out) | exact HB.out)) hb hg; have n2_ := ze.mk (hbox); have n4_ := n3_; have n5_ := ze.mk ((by rw [hg]; exact Nat.ne_of_lt (zba (by (with_reducible repeat (first | refine zb ?_ _ | refine zd ?_ | refine za ?_ _)); exact BK234.out)) : gb234 ≠ gb235)); have n6_ := ze.mk n5_.out.symm; clear BK234; clear HB; have BK234 := n0_; have HB := n1_; have BK235 := n2_; have GW235 := n3_; have GE235 := n4_; have NB234_235 := n5_; have NB235_234 := n6_; clear n0_ n1_ n2_ n3_ n4_ n5_ n6_; clear hb hbox hg; have hnb5 := NB235_234.out; have hnc5 := NB234_235.out; obtain ⟨y1_0, y1_1, y1_2, y1_3, z1_0, z1_1, z1_2, z1_3⟩ := cf4 BK235.out))
 go_loopg [1, 6] k (fun kq v1 v6 w' => ∃ (x1_1 : Int) (x6_1 : Int) (x236000_1 : Int) (x236001_1 : Int) (x236002_1 : Int) (x236003_1 : Int), v1 = .int .i64 x1_1 ∧ v6 = .int .i64 x6_1 ∧ ze (spec_l04At.l0 kq x1_1 x6_1 x236000_1 x236001_1 x236002_1 x236003_1 = some (r1, r2, r3, r4)) ∧ ze (kq ≤ k) ∧ ze (w'.heap[gb234]? = some (.cells #[.int .i8 0, .int .i8 0, .int .i8 0, .int .i8 0] 43 (0, 0))) ∧ ze (w'.heap[gb235]? = some (.cells #[.int .i8 x236000_1, .int .i8 x236001_1, .int .i8 x236002_1, .int .i8 x236003_1] 43 (0, 0))) ∧ ze (Below w.heap.size w w'))
 case atStart => exact ⟨(a1), (wrap64 (a0 - 1)), (0), (0), (0), (0), (by first | rfl | (simp; done) | (simp [*]; done)), (by first | rfl | (simp; done) | (simp [*]; done)), H', ⟨Nat.le_refl _⟩, ⟨by (with_reducible repeat (first | refine zb ?_ _ | refine zd ?_ | refine za ?_ _)); refine zq ?_ NB234_235.out _; (with_reducible repeat (first | refine zb ?_ _ | refine zd ?_ | refine za ?_ _)); refine zq ?_ NB234_235.out _; (with_reducible repeat (first | refine zb ?_ _ | refine zd ?_ | refine za ?_ _)); refine zq ?_ NB234_235.out _; (with_reducible repeat (first | refine zb ?_ _ | refine zd ?_ | refine za ?_ _)); refine zq ?_ NB234_235.out _; (with_reducible repeat (first | refine zb ?_ _ | refine zd ?_ | refine za ?_ _)); exact BK234.out⟩, ⟨by (with_reducible repeat (first | refine zb ?_ _ | refine zd ?_ | refine za ?_ _)); refine zp (cs := #[.int .i8 0, .int .i8 0, .int .i8 0, .int .i8 0]) ?_ 3 _ rfl; (with_reducible repeat (first | refine zb ?_ _ | refine zd ?_ | refine za ?_ _)); refine zp (cs := #[.int .i8 0, .int .i8 0, .int .i8 0, .int .i8 0]) ?_ 2 _ rfl; (with_reducible repeat (first | refine zb ?_ _ | refine zd ?_ | refine za ?_ _)); refine zp (cs := #[.int .i8 0, .int .i8 0, .int .i8 0, .int .i8 0]) ?_ 1 _ rfl; (with_reducible repeat (first | refine zb ?_ _ | refine zd ?_ | refine za ?_ _)); refine zp (cs := #[.int .i8 0, .int .i8 0, .int .i8 0, .int .i8 0]) ?_ 0 _ rfl; (with_reducible repeat (first | refine zb ?_ _ | refine zd ?_ | refine za ?_ _)); exact BK235.out⟩, ⟨by repeat (first | (with_reducible first | exact HB.out | apply zg | apply zc | apply zf | refine zi ?_ GE234.out | refine zi ?_ GE235.out) | exact HB.out)⟩⟩
 case round =>
  clear H'
  try clear p2
  try clear c5
  try clear p6
  try clear y1_0 y1_1 y1_2 y1_3
  try clear z1_0 z1_1 z1_2 z1_3
  obtain ⟨x1_1, x6_1, x236000_1, x236001_1, x236002_1, x236003_1, rfl, rfl, HA, HK1, BK234, BK235, HB⟩ := hrel
  cases gk with
  | zero => exact absurd HA.out (by simp [spec_l04At.l0])
  | succ k1 =>
   have H := HA.out
   clear HA
   simp only [spec_l04At.l0] at H
   by_cases c7 : x6_1 ≥ 0
   ·rw [if_pos c7] at H
    have c7b0 : decide (0 ≤ x6_1) = true := decide_eq_true c7
    clear c7
    by_cases c8 : 0 ≤ x6_1
    ·rw [if_pos c8] at H
     have c8b0 : decide (0 ≤ x6_1) = true := decide_eq_true c8
     clear c8
     by_cases c9 : x6_1 < 4
     ·rw [if_pos c9] at H
      have c9b0 : decide (x6_1 < 4) = true := decide_eq_true c9
      clear c9
      have H' := ze.mk H
      clear H
      have p10 : 0 ≤ (x6_1 : Int) := od (by first | (with_reducible assumption) | assumption)
      have q10 : x6_1 < (4 : Int) := od (by first | (with_reducible assumption) | assumption)
      replace p10 := eq_true p10
      replace q10 := eq_true q10
      have hnb11 := NB235_234.out
      have hnc11 := NB234_235.out
      obtain ⟨y2_0, y2_1, y2_2, y2_3, z2_0, z2_1, z2_2, z2_3⟩ := cf4 BK235.out
      go_wp2_with (first | ((with_reducible refine zja (t := 25) (p := 19) rfl ?_); have u1_0 : wr.cell? ⟨gb235, (x6_1).toNat, none⟩ = some (.int .i8 (rd [x236000_1, x236001_1, x236002_1, x236003_1] x6_1)) := (zo BK235.out _).trans (by rcases (show (x6_1 : Int) = 0 ∨ (x6_1 : Int) = 1 ∨ (x6_1 : Int) = 2 ∨ (x6_1 : Int) = 3 by have hp_ : 0 ≤ (x6_1 : Int) := od (by first | (with_reducible assumption) | assumption); have hq_ : x6_1 < (4 : Int) := od (by first | (with_reducible assumption) | assumption); omega) with h_ | h_ | h_ | h_ <;> rw [h_] <;> rfl); have z3_0 := zw BK235.out ((x6_1).toNat); refine zia (t := 25) (p := 19) (v := ?vo_w14) (w1 := (wr.setCell ⟨gb235, (x6_1).toNat, none⟩ (.int .i8 (IntKind.i8.wrap (wrap64 ((Int.tmod x1_1 3) - 1)))))) ?hg ?ho ?hn ?hr ?_; (case ho => rfl); (case hg => rfl); (case hn => rfl); (case hr => first | (go_simp; done) | (go_simp; rfl)); intro w14 hw; have n0_ : ze (w14.heap[gb234]? = some (.cells #[.int .i8 0, .int .i8 0, .int .i8 0, .int .i8 0] 43 (0, 0))) := ⟨(by rw [hw]; exact (by (with_reducible repeat (first | refine zb ?_ _ | refine zd ?_ | refine za ?_ _)); refine zq ?_ NB234_235.out _; (with_reducible repeat (first | refine zb ?_ _ | refine zd ?_ | refine za ?_ _)); exact BK234.out))⟩; have n1_ : ze (w14.heap[gb235]? = some (.cells #[.int .i8 (zv x6_1 0 (IntKind.i8.wrap (wrap64 ((Int.tmod x1_1 3) - 1))) x236000_1), .int .i8 (zv x6_1 1 (IntKind.i8.wrap (wrap64 ((Int.tmod x1_1 3) - 1))) x236001_1), .int .i8 (zv x6_1 2 (IntKind.i8.wrap (wrap64 ((Int.tmod x1_1 3) - 1))) x236002_1), .int .i8 (zv x6_1 3 (IntKind.i8.wrap (wrap64 ((Int.tmod x1_1 3) - 1))) x236003_1)] 43 (0, 0))) := ⟨(by rw [hw]; exact (by (with_reducible repeat (first | refine zb ?_ _ | refine zd ?_ | refine za ?_ _)); refine zp (cs := #[.int .i8 x236000_1, .int .i8 x236001_1, .int .i8 x236002_1, .int .i8 x236003_1]) ?_ ((x6_1).toNat) _ (by rcases (show (x6_1 : Int) = 0 ∨ (x6_1 : Int) = 1 ∨ (x6_1 : Int) = 2 ∨ (x6_1 : Int) = 3 by have hp_ : 0 ≤ (x6_1 : Int) := od (by first | (with_reducible assumption) | assumption); have hq_ : x6_1 < (4 : Int) := od (by first | (with_reducible assumption) | assumption); omega) with h_ | h_ | h_ | h_ <;> rw [h_] <;> rfl); (with_reducible repeat (first | refine zb ?_ _ | refine zd ?_ | refine za ?_ _)); exact BK235.out))⟩; have n2_ : ze (Below w.heap.size w w14) := ⟨(by rw [hw]; exact (by repeat (first | (with_reducible first | exact HB.out | apply zg | apply zc | apply zf | refine zi ?_ GE234.out | refine zi ?_ GE235.out) | exact HB.out)))⟩; clear hw; clear BK234; clear BK235; clear HB; have BK234 := n0_; have BK235 := n1_; have HB := n2_; clear n0_ n1_ n2_))
      go_roundg k1
      case measure => have := HK1.out; omega
      case rel => exact ⟨(wrap64 (Int.tdiv x1_1 3)), (wrap64 (x6_1 - 1)), ((zv x6_1 0 (IntKind.i8.wrap (wrap64 ((Int.tmod x1_1 3) - 1))) x236000_1)), ((zv x6_1 1 (IntKind.i8.wrap (wrap64 ((Int.tmod x1_1 3) - 1))) x236001_1)), ((zv x6_1 2 (IntKind.i8.wrap (wrap64 ((Int.tmod x1_1 3) - 1))) x236002_1)), ((zv x6_1 3 (IntKind.i8.wrap (wrap64 ((Int.tmod x1_1 3) - 1))) x236003_1)), (by first | rfl | (simp; done) | (simp [*]; done)), (by first | rfl | (simp; done) | (simp [*]; done)), H', ⟨by have := HK1.out; omega⟩, ⟨by (with_reducible repeat (first | refine zb ?_ _ | refine zd ?_ | refine za ?_ _)); exact BK234.out⟩, ⟨by (with_reducible repeat (first | refine zb ?_ _ | refine zd ?_ | refine za ?_ _)); exact BK235.out⟩, ⟨by repeat (first | (with_reducible first | exact HB.out | apply zg | apply zc | apply zf | refine zi ?_ GE234.out | refine zi ?_ GE235.out) | exact HB.out)⟩⟩
     rw [if_neg c9] at H
     exact absurd H (by simp)
    rw [if_neg c8] at H
    exact absurd H (by simp)
   rw [if_neg c7] at H
   have c7b0 : decide (0 ≤ x6_1) = false := decide_eq_false c7
   clear c7
   simp only [Option.some.injEq, Prod.mk.injEq] at H
   obtain ⟨rfl, rfl, rfl, rfl⟩ := H
   have hnb15 := NB235_234.out
   have hnc15 := NB234_235.out
   obtain ⟨y3_0, y3_1, y3_2, y3_3, z4_0, z4_1, z4_2, z4_3⟩ := cf4 BK235.out
   obtain ⟨y4_0, y4_1, y4_2, y4_3, z5_0, z5_1, z5_2, z5_3⟩ := cf4 BK234.out
   go_wp2
   refine bodyPost_ret (results_cell_row rfl _ _ gb234 43 #[.int .i8 x236000_1, .int .i8 x236001_1, .int .i8 x236002_1, .int .i8 x236003_1] (0, 0) _ rfl (by (with_reducible repeat (first | refine zb ?_ _ | refine zd ?_ | refine za ?_ _)); refine zp (cs := #[.int .i8 x236000_1, .int .i8 x236001_1, .int .i8 x236002_1, .int .i8 0]) ?_ 3 _ rfl; (with_reducible repeat (first | refine zb ?_ _ | refine zd ?_ | refine za ?_ _)); refine zp (cs := #[.int .i8 x236000_1, .int .i8 x236001_1, .int .i8 0, .int .i8 0]) ?_ 2 _ rfl; (with_reducible repeat (first | refine zb ?_ _ | refine zd ?_ | refine za ?_ _)); refine zp (cs := #[.int .i8 x236000_1, .int .i8 0, .int .i8 0, .int .i8 0]) ?_ 1 _ rfl; (with_reducible repeat (first | refine zb ?_ _ | refine zd ?_ | refine za ?_ _)); refine zp (cs := #[.int .i8 0, .int .i8 0, .int .i8 0, .int .i8 0]) ?_ 0 _ rfl; (with_reducible repeat (first | refine zb ?_ _ | refine zd ?_ | refine za ?_ _)); exact BK234.out) Try.underlying43 rfl (by kernel_rfl)) rfl ?_
   exact ⟨by first | rfl | (simp [zn, zm] <;> rfl) | (simp [*, zn, zm] <;> rfl), by repeat (first | (with_reducible first | exact HB.out | apply zg | apply zc | apply zf | refine zi ?_ GE234.out | refine zi ?_ GE235.out) | exact HB.out)⟩
def spec_l00In.f (a0 : Int) (a1 : Int) (a2 : Int) : Option (Bool) := if a0 ≥ a1 then (some (decide (a0 ≤ a2))) else (some false)
set_option maxHeartbeats 8000000 in
set_option maxRecDepth 100000 in
theorem spec_l00In.calls (a0 : Int) (a1 : Int) (a2 : Int) (r : Bool) (w : World) (h : spec_l00In.f a0 a1 a2 = some r) :
  Calls Try.prog 51 #[.int .i64 a0, .int .i64 a1, .int .i64 a2] w fun e w' => e = .returned (.bool r) ∧ zca w w' := by
 have H : (if a0 ≥ a1 then (some (decide (a0 ≤ a2))) else (some false)) = some r := h
 clear h
 by_cases c4 : a0 ≥ a1
 ·rw [if_pos c4] at H
  have c4b0 : decide (a1 ≤ a0) = true := decide_eq_true c4
  clear c4
  obtain rfl := Option.some.inj H
  go_enter Try.func51, Try.ntmps51
  go_wp2
  go_ret
  exact ⟨by first | rfl | (simp; done) | (simp [*]; done), by repeat (first | exact zca.refl _ | apply zca.step)⟩
 rw [if_neg c4] at H
 have c4b0 : decide (a1 ≤ a0) = false := decide_eq_false c4
 clear c4
 obtain rfl := Option.some.inj H
 go_enter Try.func51, Try.ntmps51
 go_wp2
 go_ret
 exact ⟨by first | rfl | (simp; done) | (simp [*]; done), by repeat (first | exact zca.refl _ | apply zca.step)⟩
def spec_l04Letters.f (a0 : Int) : Option (Bool) := (spec_l00In.f a0 1 4).bind fun t238 => (some t238)
set_option maxHeartbeats 8000000 in
set_option maxRecDepth 100000 in
theorem spec_l04Letters.calls (a0 : Int) (r : Bool) (w : World) (h : spec_l04Letters.f a0 = some r) :
  Calls Try.prog 49 #[.int .i64 a0] w fun e w' => e = .returned (.bool r) ∧ zca w w' := by
 have H : ((spec_l00In.f a0 1 4).bind fun t238 => (some t238)) = some r := h
 clear h
 replace H := Option.bind_eq_some_iff.mp H
 obtain ⟨t238, A20, H⟩ := H
 replace H : (some t238) = some r := H
 have A2 := ze.mk A20
 clear A20
 obtain rfl := Option.some.inj H
 go_enter Try.func49, Try.ntmps49
 go_wp2_with (first | ((with_reducible refine zs (f := 51) rfl ?_); refine zda (some 4) rfl rfl Try.func51 (by kernel_rfl) rfl #[.int .i64 a0, .int .i64 1, .int .i64 4] rfl (by (try simp only [List.map_toArray, List.map_cons, List.map_nil]); first | done | rfl | (simp only [List.length_drop, List.length_take]; rfl)) ?_; (with_reducible refine (spec_l00In.calls a0 1 4 t238 _ A2.out).mono ?_); rintro e w' ⟨rfl, ⟨nd, rfl⟩⟩; refine ⟨_, rfl, ?_⟩))
 go_ret
 exact ⟨by first | rfl | (simp; done) | (simp [*]; done), by repeat (first | exact zca.refl _ | apply zca.step)⟩
def spec_l04Kind.f (a0 : Int) : Option (Bool) := (spec_l00In.f a0 0 2).bind fun t239 => (some t239)
set_option maxHeartbeats 8000000 in
set_option maxRecDepth 100000 in
theorem spec_l04Kind.calls (a0 : Int) (r : Bool) (w : World) (h : spec_l04Kind.f a0 = some r) :
  Calls Try.prog 50 #[.int .i64 a0] w fun e w' => e = .returned (.bool r) ∧ zca w w' := by
 have H : ((spec_l00In.f a0 0 2).bind fun t239 => (some t239)) = some r := h
 clear h
 replace H := Option.bind_eq_some_iff.mp H
 obtain ⟨t239, A20, H⟩ := H
 replace H : (some t239) = some r := H
 have A2 := ze.mk A20
 clear A20
 obtain rfl := Option.some.inj H
 go_enter Try.func50, Try.ntmps50
 go_wp2_with (first | ((with_reducible refine zs (f := 51) rfl ?_); refine zda (some 4) rfl rfl Try.func51 (by kernel_rfl) rfl #[.int .i64 a0, .int .i64 0, .int .i64 2] rfl (by (try simp only [List.map_toArray, List.map_cons, List.map_nil]); first | done | rfl | (simp only [List.length_drop, List.length_take]; rfl)) ?_; (with_reducible refine (spec_l00In.calls a0 0 2 t239 _ A2.out).mono ?_); rintro e w' ⟨rfl, ⟨nd, rfl⟩⟩; refine ⟨_, rfl, ?_⟩))
 go_ret
 exact ⟨by first | rfl | (simp; done) | (simp [*]; done), by repeat (first | exact zca.refl _ | apply zca.step)⟩
def spec_l04Word.l0 : Nat → Int → Int → Int → Int → Int → Int → Option (Bool)
 | 0, _, _, _, _, _, _ => none
 | k + 1, x0, x5, x241000, x241001, x241002, x241003 => if x5 < 4 then (if 0 ≤ x5 then (if (rd [x241000, x241001, x241002, x241003] x5) < (-1) then (some false) else (if (rd [x241000, x241001, x241002, x241003] x5) > 1 then (some false) else (if x5 ≥ x0 then (if (rd [x241000, x241001, x241002, x241003] x5) = 0 then (spec_l04Word.l0 k x0 (wrap64 (x5 + 1)) x241000 x241001 x241002 x241003) else (some false)) else (spec_l04Word.l0 k x0 (wrap64 (x5 + 1)) x241000 x241001 x241002 x241003)))) else (none)) else ((spec_l04Letters.f x0).bind fun t247 => (some t247))
def spec_l04Word.f (k : Nat) (a0 : Int) (a1_0 : Int) (a1_1 : Int) (a1_2 : Int) (a1_3 : Int) : Option (Bool) := spec_l04Word.l0 k a0 0 a1_0 a1_1 a1_2 a1_3
set_option maxHeartbeats 8000000 in
set_option maxRecDepth 100000 in
theorem spec_l04Word.calls (k : Nat) (a0 : Int) (a1_0 : Int) (a1_1 : Int) (a1_2 : Int) (a1_3 : Int) (r : Bool) (w : World) (h : spec_l04Word.f k a0 a1_0 a1_1 a1_2 a1_3 = some r) :
  Calls Try.prog 86 #[.int .i64 a0, .agg #[.int .i8 a1_0, .int .i8 a1_1, .int .i8 a1_2, .int .i8 a1_3]] w fun e w' => e = .returned (.bool r) ∧ Below w.heap.size w w' := by
 have hu43 := Try.underlying43
 have HB := ze.mk (Below.refl w.heap.size w)
 have H : (spec_l04Word.l0 k a0 0 a1_0 a1_1 a1_2 a1_3) = some r := h
 clear h
 have H' := ze.mk H
 clear H
 go_enter Try.func86, Try.ntmps86
 go_wp2_with (first | ((with_reducible refine zu (N := 3) rfl ?_); refine zr ?hg (N := 3) ?hd (cs := #[.int .i8 a1_0, .int .i8 a1_1, .int .i8 a1_2, .int .i8 a1_3]) (t := 43) ?hr ?_; (case hd => rfl); (case hg => rfl); (case hr => first | (go_simp; done) | (go_simp; rfl)); intro gb240 hg w3 hbox hb; obtain ⟨n0_, n2_⟩ := bx (by repeat (first | (with_reducible first | exact HB.out | apply zg | apply zc | apply zf) | exact HB.out)) hb hg; have n1_ := ze.mk (hbox); have n3_ := n2_; clear HB; have HB := n0_; have BK240 := n1_; have GW240 := n2_; have GE240 := n3_; clear n0_ n1_ n2_ n3_; clear hb hbox hg))
 go_loopg [5] k (fun kq v5 w' => ∃ (x5_1 : Int), v5 = .int .i64 x5_1 ∧ ze (spec_l04Word.l0 kq a0 x5_1 a1_0 a1_1 a1_2 a1_3 = some r) ∧ ze (kq ≤ k) ∧ ze (w'.heap[gb240]? = some (.cells #[.int .i8 a1_0, .int .i8 a1_1, .int .i8 a1_2, .int .i8 a1_3] 43 (0, 0))) ∧ ze (Below w.heap.size w w'))
 case atStart => exact ⟨(0), (by first | rfl | (simp; done) | (simp [*]; done)), H', ⟨Nat.le_refl _⟩, ⟨by (with_reducible repeat (first | refine zb ?_ _ | refine zd ?_ | refine za ?_ _)); exact BK240.out⟩, ⟨by repeat (first | (with_reducible first | exact HB.out | apply zg | apply zc | apply zf | refine zi ?_ GE240.out) | exact HB.out)⟩⟩
 case round =>
  clear H'
  try clear p2
  obtain ⟨x5_1, rfl, HA, HK1, BK240, HB⟩ := hrel
  cases gk with
  | zero => exact absurd HA.out (by simp [spec_l04Word.l0])
  | succ k1 =>
   have H := HA.out
   clear HA
   simp only [spec_l04Word.l0] at H
   by_cases c4 : x5_1 < 4
   ·rw [if_pos c4] at H
    have c4b0 : decide (x5_1 < 4) = true := decide_eq_true c4
    clear c4
    by_cases c5 : 0 ≤ x5_1
    ·rw [if_pos c5] at H
     have c5b0 : decide (0 ≤ x5_1) = true := decide_eq_true c5
     clear c5
     by_cases c6 : (rd [a1_0, a1_1, a1_2, a1_3] x5_1) < (-1)
     ·rw [if_pos c6] at H
      have c6b0 : decide ((rd [a1_0, a1_1, a1_2, a1_3] x5_1) < (-1)) = true := decide_eq_true c6
      clear c6
      obtain rfl := Option.some.inj H
      have p7 : 0 ≤ (x5_1 : Int) := od (by first | (with_reducible assumption) | assumption)
      have q7 : x5_1 < (4 : Int) := od (by first | (with_reducible assumption) | assumption)
      replace p7 := eq_true p7
      replace q7 := eq_true q7
      obtain ⟨y1_0, y1_1, y1_2, y1_3, z1_0, z1_1, z1_2, z1_3⟩ := cf4 BK240.out
      have u1_0 : wr.cell? ⟨gb240, (x5_1).toNat, none⟩ = some (.int .i8 (rd [a1_0, a1_1, a1_2, a1_3] x5_1)) := (zo BK240.out _).trans (by rcases (show (x5_1 : Int) = 0 ∨ (x5_1 : Int) = 1 ∨ (x5_1 : Int) = 2 ∨ (x5_1 : Int) = 3 by have hp_ : 0 ≤ (x5_1 : Int) := od (by first | (with_reducible assumption) | assumption); have hq_ : x5_1 < (4 : Int) := od (by first | (with_reducible assumption) | assumption); omega) with h_ | h_ | h_ | h_ <;> rw [h_] <;> rfl)
      go_wp2
      go_ret
      exact ⟨by first | rfl | (simp [zn, zm] <;> rfl) | (simp [*, zn, zm] <;> rfl), by repeat (first | (with_reducible first | exact HB.out | apply zg | apply zc | apply zf | refine zi ?_ GE240.out) | exact HB.out)⟩
     rw [if_neg c6] at H
     have c6b0 : decide ((rd [a1_0, a1_1, a1_2, a1_3] x5_1) < (-1)) = false := decide_eq_false c6
     clear c6
     by_cases c10 : (rd [a1_0, a1_1, a1_2, a1_3] x5_1) > 1
     ·rw [if_pos c10] at H
      have c10b0 : decide (1 < (rd [a1_0, a1_1, a1_2, a1_3] x5_1)) = true := decide_eq_true c10
      clear c10
      obtain rfl := Option.some.inj H
      have p11 : 0 ≤ (x5_1 : Int) := od (by first | (with_reducible assumption) | assumption)
      have q11 : x5_1 < (4 : Int) := od (by first | (with_reducible assumption) | assumption)
      replace p11 := eq_true p11
      replace q11 := eq_true q11
      obtain ⟨y2_0, y2_1, y2_2, y2_3, z2_0, z2_1, z2_2, z2_3⟩ := cf4 BK240.out
      have u2_0 : wr.cell? ⟨gb240, (x5_1).toNat, none⟩ = some (.int .i8 (rd [a1_0, a1_1, a1_2, a1_3] x5_1)) := (zo BK240.out _).trans (by rcases (show (x5_1 : Int) = 0 ∨ (x5_1 : Int) = 1 ∨ (x5_1 : Int) = 2 ∨ (x5_1 : Int) = 3 by have hp_ : 0 ≤ (x5_1 : Int) := od (by first | (with_reducible assumption) | assumption); have hq_ : x5_1 < (4 : Int) := od (by first | (with_reducible assumption) | assumption); omega) with h_ | h_ | h_ | h_ <;> rw [h_] <;> rfl)
      have p14 : 0 ≤ (x5_1 : Int) := od (by first | (with_reducible assumption) | assumption)
      have q14 : x5_1 < (4 : Int) := od (by first | (with_reducible assumption) | assumption)
      replace p14 := eq_true p14
      replace q14 := eq_true q14
      have u3_0 : wr.cell? ⟨gb240, (x5_1).toNat, none⟩ = some (.int .i8 (rd [a1_0, a1_1, a1_2, a1_3] x5_1)) := (zo BK240.out _).trans (by rcases (show (x5_1 : Int) = 0 ∨ (x5_1 : Int) = 1 ∨ (x5_1 : Int) = 2 ∨ (x5_1 : Int) = 3 by have hp_ : 0 ≤ (x5_1 : Int) := od (by first | (with_reducible assumption) | assumption); have hq_ : x5_1 < (4 : Int) := od (by first | (with_reducible assumption) | assumption); omega) with h_ | h_ | h_ | h_ <;> rw [h_] <;> rfl)
      go_wp2
      go_ret
      exact ⟨by first | rfl | (simp [zn, zm] <;> rfl) | (simp [*, zn, zm] <;> rfl), by repeat (first | (with_reducible first | exact HB.out | apply zg | apply zc | apply zf | refine zi ?_ GE240.out) | exact HB.out)⟩
     rw [if_neg c10] at H
     have c10b0 : decide (1 < (rd [a1_0, a1_1, a1_2, a1_3] x5_1)) = false := decide_eq_false c10
     clear c10
     by_cases c16 : x5_1 ≥ a0
     ·rw [if_pos c16] at H
      have c16b0 : decide (a0 ≤ x5_1) = true := decide_eq_true c16
      clear c16
      by_cases c17 : (rd [a1_0, a1_1, a1_2, a1_3] x5_1) = 0
      ·rw [if_pos c17] at H
       have c17b0 : ((rd [a1_0, a1_1, a1_2, a1_3] x5_1) == 0) = true := beq_iff_eq.mpr c17
       have c17b1 : ((rd [a1_0, a1_1, a1_2, a1_3] x5_1) != 0) = false := bne_eq_false_iff_eq.mpr c17
       clear c17
       have H' := ze.mk H
       clear H
       have p18 : 0 ≤ (x5_1 : Int) := od (by first | (with_reducible assumption) | assumption)
       have q18 : x5_1 < (4 : Int) := od (by first | (with_reducible assumption) | assumption)
       replace p18 := eq_true p18
       replace q18 := eq_true q18
       obtain ⟨y3_0, y3_1, y3_2, y3_3, z3_0, z3_1, z3_2, z3_3⟩ := cf4 BK240.out
       have u4_0 : wr.cell? ⟨gb240, (x5_1).toNat, none⟩ = some (.int .i8 (rd [a1_0, a1_1, a1_2, a1_3] x5_1)) := (zo BK240.out _).trans (by rcases (show (x5_1 : Int) = 0 ∨ (x5_1 : Int) = 1 ∨ (x5_1 : Int) = 2 ∨ (x5_1 : Int) = 3 by have hp_ : 0 ≤ (x5_1 : Int) := od (by first | (with_reducible assumption) | assumption); have hq_ : x5_1 < (4 : Int) := od (by first | (with_reducible assumption) | assumption); omega) with h_ | h_ | h_ | h_ <;> rw [h_] <;> rfl)
       have p21 : 0 ≤ (x5_1 : Int) := od (by first | (with_reducible assumption) | assumption)
       have q21 : x5_1 < (4 : Int) := od (by first | (with_reducible assumption) | assumption)
       replace p21 := eq_true p21
       replace q21 := eq_true q21
       have u5_0 : wr.cell? ⟨gb240, (x5_1).toNat, none⟩ = some (.int .i8 (rd [a1_0, a1_1, a1_2, a1_3] x5_1)) := (zo BK240.out _).trans (by rcases (show (x5_1 : Int) = 0 ∨ (x5_1 : Int) = 1 ∨ (x5_1 : Int) = 2 ∨ (x5_1 : Int) = 3 by have hp_ : 0 ≤ (x5_1 : Int) := od (by first | (with_reducible assumption) | assumption); have hq_ : x5_1 < (4 : Int) := od (by first | (with_reducible assumption) | assumption); omega) with h_ | h_ | h_ | h_ <;> rw [h_] <;> rfl)
       have p23 : 0 ≤ (x5_1 : Int) := od (by first | (with_reducible assumption) | assumption)
       have q23 : x5_1 < (4 : Int) := od (by first | (with_reducible assumption) | assumption)
       replace p23 := eq_true p23
       replace q23 := eq_true q23
       have u6_0 : wr.cell? ⟨gb240, (x5_1).toNat, none⟩ = some (.int .i8 (rd [a1_0, a1_1, a1_2, a1_3] x5_1)) := (zo BK240.out _).trans (by rcases (show (x5_1 : Int) = 0 ∨ (x5_1 : Int) = 1 ∨ (x5_1 : Int) = 2 ∨ (x5_1 : Int) = 3 by have hp_ : 0 ≤ (x5_1 : Int) := od (by first | (with_reducible assumption) | assumption); have hq_ : x5_1 < (4 : Int) := od (by first | (with_reducible assumption) | assumption); omega) with h_ | h_ | h_ | h_ <;> rw [h_] <;> rfl)
       go_wp2
       go_roundg k1
       case measure => have := HK1.out; omega
       case rel => exact ⟨(wrap64 (x5_1 + 1)), (by first | rfl | (simp; done) | (simp [*]; done)), H', ⟨by have := HK1.out; omega⟩, ⟨by (with_reducible repeat (first | refine zb ?_ _ | refine zd ?_ | refine za ?_ _)); exact BK240.out⟩, ⟨by repeat (first | (with_reducible first | exact HB.out | apply zg | apply zc | apply zf | refine zi ?_ GE240.out) | exact HB.out)⟩⟩
      rw [if_neg c17] at H
      have c17b0 : ((rd [a1_0, a1_1, a1_2, a1_3] x5_1) == 0) = false := beq_eq_false_iff_ne.mpr c17
      have c17b1 : ((rd [a1_0, a1_1, a1_2, a1_3] x5_1) != 0) = true := bne_iff_ne.mpr c17
      obtain rfl := Option.some.inj H
      have p25 : 0 ≤ (x5_1 : Int) := od (by first | (with_reducible assumption) | assumption)
      have q25 : x5_1 < (4 : Int) := od (by first | (with_reducible assumption) | assumption)
      replace p25 := eq_true p25
      replace q25 := eq_true q25
      obtain ⟨y4_0, y4_1, y4_2, y4_3, z4_0, z4_1, z4_2, z4_3⟩ := cf4 BK240.out
      have u7_0 : wr.cell? ⟨gb240, (x5_1).toNat, none⟩ = some (.int .i8 (rd [a1_0, a1_1, a1_2, a1_3] x5_1)) := (zo BK240.out _).trans (by rcases (show (x5_1 : Int) = 0 ∨ (x5_1 : Int) = 1 ∨ (x5_1 : Int) = 2 ∨ (x5_1 : Int) = 3 by have hp_ : 0 ≤ (x5_1 : Int) := od (by first | (with_reducible assumption) | assumption); have hq_ : x5_1 < (4 : Int) := od (by first | (with_reducible assumption) | assumption); omega) with h_ | h_ | h_ | h_ <;> rw [h_] <;> rfl)
      have p28 : 0 ≤ (x5_1 : Int) := od (by first | (with_reducible assumption) | assumption)
      have q28 : x5_1 < (4 : Int) := od (by first | (with_reducible assumption) | assumption)
      replace p28 := eq_true p28
      replace q28 := eq_true q28
      have u8_0 : wr.cell? ⟨gb240, (x5_1).toNat, none⟩ = some (.int .i8 (rd [a1_0, a1_1, a1_2, a1_3] x5_1)) := (zo BK240.out _).trans (by rcases (show (x5_1 : Int) = 0 ∨ (x5_1 : Int) = 1 ∨ (x5_1 : Int) = 2 ∨ (x5_1 : Int) = 3 by have hp_ : 0 ≤ (x5_1 : Int) := od (by first | (with_reducible assumption) | assumption); have hq_ : x5_1 < (4 : Int) := od (by first | (with_reducible assumption) | assumption); omega) with h_ | h_ | h_ | h_ <;> rw [h_] <;> rfl)
      have p30 : 0 ≤ (x5_1 : Int) := od (by first | (with_reducible assumption) | assumption)
      have q30 : x5_1 < (4 : Int) := od (by first | (with_reducible assumption) | assumption)
      replace p30 := eq_true p30
      replace q30 := eq_true q30
      have u9_0 : wr.cell? ⟨gb240, (x5_1).toNat, none⟩ = some (.int .i8 (rd [a1_0, a1_1, a1_2, a1_3] x5_1)) := (zo BK240.out _).trans (by rcases (show (x5_1 : Int) = 0 ∨ (x5_1 : Int) = 1 ∨ (x5_1 : Int) = 2 ∨ (x5_1 : Int) = 3 by have hp_ : 0 ≤ (x5_1 : Int) := od (by first | (with_reducible assumption) | assumption); have hq_ : x5_1 < (4 : Int) := od (by first | (with_reducible assumption) | assumption); omega) with h_ | h_ | h_ | h_ <;> rw [h_] <;> rfl)
      go_wp2
      go_ret
      exact ⟨by first | rfl | (simp [zn, zm] <;> rfl) | (simp [*, zn, zm] <;> rfl), by repeat (first | (with_reducible first | exact HB.out | apply zg | apply zc | apply zf | refine zi ?_ GE240.out) | exact HB.out)⟩
     rw [if_neg c16] at H
     have c16b0 : decide (a0 ≤ x5_1) = false := decide_eq_false c16
     clear c16
     have H' := ze.mk H
     clear H
     have p32 : 0 ≤ (x5_1 : Int) := od (by first | (with_reducible assumption) | assumption)
     have q32 : x5_1 < (4 : Int) := od (by first | (with_reducible assumption) | assumption)
     replace p32 := eq_true p32
     replace q32 := eq_true q32
     obtain ⟨y5_0, y5_1, y5_2, y5_3, z5_0, z5_1, z5_2, z5_3⟩ := cf4 BK240.out
     have u10_0 : wr.cell? ⟨gb240, (x5_1).toNat, none⟩ = some (.int .i8 (rd [a1_0, a1_1, a1_2, a1_3] x5_1)) := (zo BK240.out _).trans (by rcases (show (x5_1 : Int) = 0 ∨ (x5_1 : Int) = 1 ∨ (x5_1 : Int) = 2 ∨ (x5_1 : Int) = 3 by have hp_ : 0 ≤ (x5_1 : Int) := od (by first | (with_reducible assumption) | assumption); have hq_ : x5_1 < (4 : Int) := od (by first | (with_reducible assumption) | assumption); omega) with h_ | h_ | h_ | h_ <;> rw [h_] <;> rfl)
     have p35 : 0 ≤ (x5_1 : Int) := od (by first | (with_reducible assumption) | assumption)
     have q35 : x5_1 < (4 : Int) := od (by first | (with_reducible assumption) | assumption)
     replace p35 := eq_true p35
     replace q35 := eq_true q35
     have u11_0 : wr.cell? ⟨gb240, (x5_1).toNat, none⟩ = some (.int .i8 (rd [a1_0, a1_1, a1_2, a1_3] x5_1)) := (zo BK240.out _).trans (by rcases (show (x5_1 : Int) = 0 ∨ (x5_1 : Int) = 1 ∨ (x5_1 : Int) = 2 ∨ (x5_1 : Int) = 3 by have hp_ : 0 ≤ (x5_1 : Int) := od (by first | (with_reducible assumption) | assumption); have hq_ : x5_1 < (4 : Int) := od (by first | (with_reducible assumption) | assumption); omega) with h_ | h_ | h_ | h_ <;> rw [h_] <;> rfl)
     go_wp2
     go_roundg k1
     case measure => have := HK1.out; omega
     case rel => exact ⟨(wrap64 (x5_1 + 1)), (by first | rfl | (simp; done) | (simp [*]; done)), H', ⟨by have := HK1.out; omega⟩, ⟨by (with_reducible repeat (first | refine zb ?_ _ | refine zd ?_ | refine za ?_ _)); exact BK240.out⟩, ⟨by repeat (first | (with_reducible first | exact HB.out | apply zg | apply zc | apply zf | refine zi ?_ GE240.out) | exact HB.out)⟩⟩
    rw [if_neg c5] at H
    exact absurd H (by simp)
   rw [if_neg c4] at H
   have c4b0 : decide (x5_1 < 4) = false := decide_eq_false c4
   clear c4
   replace H := Option.bind_eq_some_iff.mp H
   obtain ⟨t247, A370, H⟩ := H
   replace H : (some t247) = some r := H
   have A37 := ze.mk A370
   clear A370
   obtain rfl := Option.some.inj H
   go_wp2_with (first | ((with_reducible refine zs (f := 49) rfl ?_); refine zda (some 32) rfl rfl Try.func49 (by kernel_rfl) rfl #[.int .i64 a0] rfl (by (try simp only [List.map_toArray, List.map_cons, List.map_nil]); first | done | rfl | (simp only [List.length_drop, List.length_take]; rfl)) ?_; (with_reducible refine (spec_l04Letters.calls a0 t247 _ A37.out).mono ?_); rintro e w' ⟨rfl, ⟨nd, rfl⟩⟩; refine ⟨_, rfl, ?_⟩))
   go_ret
   exact ⟨by first | rfl | (simp [zn, zm] <;> rfl) | (simp [*, zn, zm] <;> rfl), by repeat (first | (with_reducible first | exact HB.out | apply zg | apply zc | apply zf | refine zi ?_ GE240.out) | exact HB.out)⟩
mutual
def spec_l04Ok.j0 : Nat → Bool → Int → Int → List (S43) → Option (Bool)
 | 0, _, _, _, _ => none
 | k + 1, x28, x1000, x1001, x1002 => if x28 = true then (some false) else (spec_l04Ok.l0 k 0 x1000 x1001 x1002)
def spec_l04Ok.l0 : Nat → Int → Int → Int → List (S43) → Option (Bool)
 | 0, _, _, _, _ => none
 | k + 1, x3, x1000, x1001, x1002 => if x3 < (x1002.length : Int) then (if 0 ≤ x3 then ((spec_l04Word.f k (wrap64 (x1000)) ((zj x1002 x3).f0) ((zj x1002 x3).f1) ((zj x1002 x3).f2) ((zj x1002 x3).f3)).bind fun t252 => (if t252 = true then (spec_l04Ok.l0 k (wrap64 (x3 + 1)) x1000 x1001 x1002) else (some false))) else (none)) else (some true)
end
def spec_l04Ok.f (k : Nat) (a0_0 : Int) (a0_1 : Int) (l0_2 : List (S43)) : Option (Bool) := (spec_l04Letters.f (wrap64 (a0_0))).bind fun t248 => (if t248 = true then ((spec_l04Kind.f (wrap64 (a0_1))).bind fun t249 => (if t249 = true then ((spec_l00In.f (l0_2.length : Int) 1 80).bind fun t250 => (spec_l04Ok.j0 k (!t250) a0_0 a0_1 l0_2)) else (spec_l04Ok.j0 k true a0_0 a0_1 l0_2))) else (spec_l04Ok.j0 k true a0_0 a0_1 l0_2))
def spec_l04Ok.T6 : Bool × List (List Nat × List Nat) := (true, [([], []), ([0], [0]), ([1], [1]), ([2], [2]), ([3], [3]), ([], []), ([5], [5]), ([6], [6]), ([7], [7]), ([], []), ([8, 9], [8, 9]), ([10], [10]), ([4, 11], [4, 11]), ([12], [12])])
def spec_l04Ok.B6 : List Nat := [0, 1, 3, 7, 15, 0, 32, 96, 224, 0, 992, 2016, 4095, 8191]
theorem spec_l04Ok.tab6 : rtab .any (zqe Try.f59 6) = spec_l04Ok.T6 := by kernel_rfl
theorem spec_l04Ok.bits6 : zgb spec_l04Ok.T6.2 spec_l04Ok.B6 = true := by kernel_rfl
set_option maxHeartbeats 8000000 in
set_option maxRecDepth 100000 in
theorem spec_l04Ok.calls (k : Nat) (g0 : Nat) (a0_0 : Int) (a0_1 : Int) (A0_2 : Option Addr) (c0_2 : Nat) (l0_2 : List (S43)) (r : Bool) (w : World) (hb0 : w.heap[g0]? = some (.cells #[.int .i8 a0_0, .int .i8 a0_1, .slice A0_2 l0_2.length c0_2] 28 (0, 0))) (hr0_2 : Kd.C k43 w A0_2 l0_2.length l0_2) (hc0_2 : l0_2.length ≤ c0_2) (h : spec_l04Ok.f k a0_0 a0_1 l0_2 = some r) :
  Calls Try.prog 59 #[.pointer (some ⟨g0, 0, none⟩)] w fun e w' => e = .returned (.bool r) ∧ Below w.heap.size w w' := by
 have hu43 := Try.underlying43
 have HR0_2 := ze.mk hr0_2
 have HC0_2 := ze.mk hc0_2
 clear hr0_2 hc0_2
 have BK0 := ze.mk hb0
 clear hb0
 have HB := ze.mk (Below.refl w.heap.size w)
 have H : ((spec_l04Letters.f (wrap64 (a0_0))).bind fun t248 => (if t248 = true then ((spec_l04Kind.f (wrap64 (a0_1))).bind fun t249 => (if t249 = true then ((spec_l00In.f (l0_2.length : Int) 1 80).bind fun t250 => (spec_l04Ok.j0 k (!t250) a0_0 a0_1 l0_2)) else (spec_l04Ok.j0 k true a0_0 a0_1 l0_2))) else (spec_l04Ok.j0 k true a0_0 a0_1 l0_2))) = some r := h
 clear h
 have HC2 := ze.mk H
 clear H
 go_enter Try.func59, Try.ntmps59
 go_upto_region 1 with (fail)
 go_cut [28] (fun v28 wc => ∃ (kq : Nat) (x28_1 : Bool), v28 = .bool x28_1 ∧ ze (spec_l04Ok.j0 kq x28_1 a0_0 a0_1 l0_2 = some r) ∧ ze (kq ≤ k) ∧ ze (wc.heap[g0]? = some (.cells #[.int .i8 a0_0, .int .i8 a0_1, (.slice A0_2 l0_2.length c0_2)] 28 (0, 0))) ∧ ze (Below w.heap.size w wc))
 case first =>
  have H := HC2.out
  clear HC2
  replace H := Option.bind_eq_some_iff.mp H
  obtain ⟨t248, A30, H⟩ := H
  replace H : (if t248 = true then ((spec_l04Kind.f (wrap64 (a0_1))).bind fun t249 => (if t249 = true then ((spec_l00In.f (l0_2.length : Int) 1 80).bind fun t250 => (spec_l04Ok.j0 k (!t250) a0_0 a0_1 l0_2)) else (spec_l04Ok.j0 k true a0_0 a0_1 l0_2))) else (spec_l04Ok.j0 k true a0_0 a0_1 l0_2)) = some r := H
  have A3 := ze.mk A30
  clear A30
  by_cases c4 : t248 = true
  ·subst c4
   have H1 : ((spec_l04Kind.f (wrap64 (a0_1))).bind fun t249 => (if t249 = true then ((spec_l00In.f (l0_2.length : Int) 1 80).bind fun t250 => (spec_l04Ok.j0 k (!t250) a0_0 a0_1 l0_2)) else (spec_l04Ok.j0 k true a0_0 a0_1 l0_2))) = some r := by rw [if_pos rfl] at H; exact H
   clear H
   have H := H1
   clear H1
   replace H := Option.bind_eq_some_iff.mp H
   obtain ⟨t249, A50, H⟩ := H
   replace H : (if t249 = true then ((spec_l00In.f (l0_2.length : Int) 1 80).bind fun t250 => (spec_l04Ok.j0 k (!t250) a0_0 a0_1 l0_2)) else (spec_l04Ok.j0 k true a0_0 a0_1 l0_2)) = some r := H
   have A5 := ze.mk A50
   clear A50
   by_cases c6 : t249 = true
   ·subst c6
    have H1 : ((spec_l00In.f (l0_2.length : Int) 1 80).bind fun t250 => (spec_l04Ok.j0 k (!t250) a0_0 a0_1 l0_2)) = some r := by rw [if_pos rfl] at H; exact H
    clear H
    have H := H1
    clear H1
    replace H := Option.bind_eq_some_iff.mp H
    obtain ⟨t250, A70, H⟩ := H
    replace H : (spec_l04Ok.j0 k (!t250) a0_0 a0_1 l0_2) = some r := H
    have A7 := ze.mk A70
    clear A70
    have H' := ze.mk H
    clear H
    obtain ⟨y1_0, y1_1, y1_2, z1_0, z1_1, z1_2⟩ := cf3 BK0.out
    go_wp2_with (first | ((with_reducible refine zs (f := 49) rfl ?_); refine zda (some 9) rfl rfl Try.func49 (by kernel_rfl) rfl #[.int .i64 (wrap64 (a0_0))] rfl (by (try simp only [List.map_toArray, List.map_cons, List.map_nil]); first | done | rfl | (simp only [List.length_drop, List.length_take]; rfl)) ?_; (with_reducible refine (spec_l04Letters.calls (wrap64 (a0_0)) true _ A3.out).mono ?_); rintro e w' ⟨rfl, ⟨nd, rfl⟩⟩; refine ⟨_, rfl, ?_⟩) | (go_at_call 50; (with_reducible refine (spec_l04Kind.calls (wrap64 (a0_1)) true _ A5.out).mono ?_); rintro e w' ⟨rfl, ⟨nd, rfl⟩⟩) | (go_at_call 51; (with_reducible refine (spec_l00In.calls (l0_2.length : Int) 1 80 t250 _ A7.out).mono ?_); rintro e w' ⟨rfl, ⟨nd, rfl⟩⟩))
    go_meet
    case rel => exact ⟨_, (!t250), (by first | rfl | (simp; done) | (simp [*]; done)), H', ⟨by first | omega | exact Nat.le_refl _⟩, ⟨by (with_reducible repeat (first | refine zb ?_ _ | refine zd ?_ | refine za ?_ _)); exact BK0.out⟩, ⟨by repeat (first | (with_reducible first | exact HB.out | apply zg | apply zc | apply zf) | exact HB.out)⟩⟩
   replace c6 := Bool.eq_false_iff.mpr c6
   subst c6
   have H1 : (spec_l04Ok.j0 k true a0_0 a0_1 l0_2) = some r := by rw [if_neg (show ¬ (false = true) by decide)] at H; exact H
   clear H
   have H := H1
   clear H1
   have H' := ze.mk H
   clear H
   obtain ⟨y2_0, y2_1, y2_2, z2_0, z2_1, z2_2⟩ := cf3 BK0.out
   go_wp2_with (first | ((with_reducible refine zs (f := 49) rfl ?_); refine zda (some 9) rfl rfl Try.func49 (by kernel_rfl) rfl #[.int .i64 (wrap64 (a0_0))] rfl (by (try simp only [List.map_toArray, List.map_cons, List.map_nil]); first | done | rfl | (simp only [List.length_drop, List.length_take]; rfl)) ?_; (with_reducible refine (spec_l04Letters.calls (wrap64 (a0_0)) true _ A3.out).mono ?_); rintro e w' ⟨rfl, ⟨nd, rfl⟩⟩; refine ⟨_, rfl, ?_⟩) | (go_at_call 50; (with_reducible refine (spec_l04Kind.calls (wrap64 (a0_1)) false _ A5.out).mono ?_); rintro e w' ⟨rfl, ⟨nd, rfl⟩⟩))
   go_meet
   case rel => exact ⟨_, (true), (by first | rfl | (simp; done) | (simp [*]; done)), H', ⟨by first | omega | exact Nat.le_refl _⟩, ⟨by (with_reducible repeat (first | refine zb ?_ _ | refine zd ?_ | refine za ?_ _)); exact BK0.out⟩, ⟨by repeat (first | (with_reducible first | exact HB.out | apply zg | apply zc | apply zf) | exact HB.out)⟩⟩
  replace c4 := Bool.eq_false_iff.mpr c4
  subst c4
  have H1 : (spec_l04Ok.j0 k true a0_0 a0_1 l0_2) = some r := by rw [if_neg (show ¬ (false = true) by decide)] at H; exact H
  clear H
  have H := H1
  clear H1
  have H' := ze.mk H
  clear H
  obtain ⟨y3_0, y3_1, y3_2, z3_0, z3_1, z3_2⟩ := cf3 BK0.out
  go_wp2_with (first | ((with_reducible refine zs (f := 49) rfl ?_); refine zda (some 9) rfl rfl Try.func49 (by kernel_rfl) rfl #[.int .i64 (wrap64 (a0_0))] rfl (by (try simp only [List.map_toArray, List.map_cons, List.map_nil]); first | done | rfl | (simp only [List.length_drop, List.length_take]; rfl)) ?_; (with_reducible refine (spec_l04Letters.calls (wrap64 (a0_0)) false _ A3.out).mono ?_); rintro e w' ⟨rfl, ⟨nd, rfl⟩⟩; refine ⟨_, rfl, ?_⟩))
  go_meet
  case rel => exact ⟨_, (true), (by first | rfl | (simp; done) | (simp [*]; done)), H', ⟨by first | omega | exact Nat.le_refl _⟩, ⟨by (with_reducible repeat (first | refine zb ?_ _ | refine zd ?_ | refine za ?_ _)); exact BK0.out⟩, ⟨by repeat (first | (with_reducible first | exact HB.out | apply zg | apply zc | apply zf) | exact HB.out)⟩⟩
 case rest =>
  clear HC2
  try clear p2
  try clear c4
  try clear c5
  try clear c6
  try clear p6
  try clear y3_0 y3_1 y3_2
  try clear y1_0 y1_1 y1_2
  try clear y2_0 y2_1 y2_2
  try clear z3_0 z3_1 z3_2
  try clear z1_0 z1_1 z1_2
  try clear z2_0 z2_1 z2_2
  obtain ⟨kq, x28_1, rfl, HA, HJ1, BK0, HB⟩ := hcut
  cases kq with
  | zero => exact absurd HA.out (by simp [spec_l04Ok.j0])
  | succ kj1 =>
   have H := HA.out
   clear HA
   simp only [spec_l04Ok.j0] at H
   by_cases c11 : x28_1 = true
   ·subst c11
    have H1 : (some false) = some r := by rw [if_pos rfl] at H; exact H
    clear H
    have H := H1
    clear H1
    obtain rfl := Option.some.inj H
    go_wp2
    go_ret
    exact ⟨by first | rfl | (simp [zn, zm] <;> rfl) | (simp [*, zn, zm] <;> rfl), by repeat (first | (with_reducible first | exact HB.out | apply zg | apply zc | apply zf) | exact HB.out)⟩
   replace c11 := Bool.eq_false_iff.mpr c11
   subst c11
   have H1 : (spec_l04Ok.l0 kj1 0 a0_0 a0_1 l0_2) = some r := by rw [if_neg (show ¬ (false = true) by decide)] at H; exact H
   clear H
   have H := H1
   clear H1
   have H' := ze.mk H
   clear H
   go_wp2
   go_loopg [3] kj1 (fun kq v3 w' => ∃ (x3_2 : Int), v3 = .int .i64 x3_2 ∧ ze (spec_l04Ok.l0 kq x3_2 a0_0 a0_1 l0_2 = some r) ∧ ze (kq ≤ kj1) ∧ ze (w'.heap[g0]? = some (.cells #[.int .i8 a0_0, .int .i8 a0_1, (.slice A0_2 l0_2.length c0_2)] 28 (0, 0))) ∧ ze (Below w.heap.size w w'))
   case atStart => exact ⟨(0), (by first | rfl | (simp; done) | (simp [*]; done)), H', ⟨Nat.le_refl _⟩, ⟨by (with_reducible repeat (first | refine zb ?_ _ | refine zd ?_ | refine za ?_ _)); exact BK0.out⟩, ⟨by repeat (first | (with_reducible first | exact HB.out | apply zg | apply zc | apply zf) | exact HB.out)⟩⟩
   case round =>
    clear H'
    try clear c1
    try clear p2
    try clear c4
    try clear c5
    try clear c6
    try clear p6
    try clear c11
    try clear y3_0 y3_1 y3_2
    try clear y1_0 y1_1 y1_2
    try clear y2_0 y2_1 y2_2
    try clear z3_0 z3_1 z3_2
    try clear z1_0 z1_1 z1_2
    try clear z2_0 z2_1 z2_2
    try clear p2
    try clear p6
    obtain ⟨x3_2, rfl, HA, HK2, BK0, HB⟩ := hrel
    cases gk with
    | zero => exact absurd HA.out (by simp [spec_l04Ok.l0])
    | succ k2 =>
     have H := HA.out
     clear HA
     simp only [spec_l04Ok.l0] at H
     by_cases c12 : x3_2 < (l0_2.length : Int)
     ·rw [if_pos c12] at H
      have c12b0 : decide (x3_2 < (l0_2.length : Int)) = true := decide_eq_true c12
      clear c12
      by_cases c13 : 0 ≤ x3_2
      ·rw [if_pos c13] at H
       have c13b0 : decide (0 ≤ x3_2) = true := decide_eq_true c13
       clear c13
       replace H := Option.bind_eq_some_iff.mp H
       obtain ⟨t252, A140, H⟩ := H
       replace H : (if t252 = true then (spec_l04Ok.l0 k2 (wrap64 (x3_2 + 1)) a0_0 a0_1 l0_2) else (some false)) = some r := H
       have A14 := ze.mk A140
       clear A140
       by_cases c15 : t252 = true
       ·subst c15
        have H1 : (spec_l04Ok.l0 k2 (wrap64 (x3_2 + 1)) a0_0 a0_1 l0_2) = some r := by rw [if_pos rfl] at H; exact H
        clear H
        have H := H1
        clear H1
        have H' := ze.mk H
        clear H
        obtain ⟨y4_0, y4_1, y4_2, z4_0, z4_1, z4_2⟩ := cf3 BK0.out
        try go_wp2
        have n0_ := ze.mk (zd BK0.out)
        have n1_ := ze.mk (zf HB.out)
        clear BK0
        clear HB
        have BK0 := n0_
        have HB := n1_
        clear n0_ n1_
        have p251 : 0 ≤ (x3_2 : Int) := od (by first | (with_reducible assumption) | assumption)
        have q251 : x3_2 < (l0_2.length : Int) := od (by first | (with_reducible assumption) | assumption)
        obtain ⟨ad251, e251, u1_0, u1_1, u1_2, u1_3, v1_0, v1_1, v1_2, v1_3⟩ := zcd HB.out HR0_2.out x3_2 p251 q251
        cases e251
        replace p251 := eq_true p251
        replace q251 := eq_true q251
        refine zfb (n := 14) (S := fun w' => w'.cell? ⟨g0, 0, none⟩ = some (.int .i8 a0_0) ∧ w'.cell? ⟨g0, 1, none⟩ = some (.int .i8 a0_1) ∧ w'.cell? ⟨g0, 2, none⟩ = some (.slice (some ad251) l0_2.length c0_2) ∧ w'.cell? (ad251.add ((x3_2).toNat * 4)) = some (.int .i8 ((zj l0_2 x3_2).f0)) ∧ w'.cell? ⟨(ad251.add ((x3_2).toNat * 4)).block, (ad251.add ((x3_2).toNat * 4)).off + 1, none⟩ = some (.int .i8 ((zj l0_2 x3_2).f1)) ∧ w'.cell? ⟨(ad251.add ((x3_2).toNat * 4)).block, (ad251.add ((x3_2).toNat * 4)).off + 2, none⟩ = some (.int .i8 ((zj l0_2 x3_2).f2)) ∧ w'.cell? ⟨(ad251.add ((x3_2).toNat * 4)).block, (ad251.add ((x3_2).toNat * 4)).off + 3, none⟩ = some (.int .i8 ((zj l0_2 x3_2).f3))) (ds := []) (fm 14 0) (by kernel_rfl) rfl rfl ⟨(zo BK0.out 0).trans rfl, (zo BK0.out 1).trans rfl, (zo BK0.out 2).trans rfl, (bc HB.out v1_0), (bc HB.out v1_1), (bc HB.out v1_2), (bc HB.out v1_3)⟩ (fun hHeld => ?_); refine zoa spec_l04Ok.tab6 spec_l04Ok.bits6 (fun HT_ HW_ => ?_)
        generalize wr.drew = w17 at BK0 HB u1_0 u1_1 u1_2 u1_3 hHeld ⊢
        refine pb 0 38 (fm 14 1) rfl rfl HT_.out (by kernel_rfl) pq (by rfl) (by intro w'; go_simp; with_reducible rfl) (by simp only [Act.put, ea, eb, ec, zy, zz]; rfl) ?_
        refine pb 1 39 (fm 14 2) rfl rfl HT_.out (by kernel_rfl) pq (by rfl) (by intro w'; go_simp; with_reducible rfl) (by simp only [Act.put, ea, eb, ec, zy, zz]; rfl) ?_
        refine pb 2 40 (fm 14 3) rfl rfl HT_.out (by kernel_rfl) pq (by rfl) (by intro w'; go_simp; with_reducible rfl) (by simp only [Act.put, ea, eb, ec, zy, zz]; rfl) ?_
        refine pb 5 43 #[T, T, T, F, F, T, F, F, F, F, F, F, F, F] rfl rfl HT_.out (by kernel_rfl) pq (by rfl) (by intro w'; go_simp; with_reducible rfl) (by simp only [Act.put, ea, eb, ec, zy, zz]; rfl) ?_
        refine pb 6 44 #[T, T, T, F, F, T, T, F, F, F, F, F, F, F] rfl rfl HT_.out (by kernel_rfl) pq (by rfl) (by intro w'; go_simp; with_reducible rfl) (by simp only [Act.put, ea, eb, ec, zy, zz]; rfl) ?_
        refine pb 7 45 #[T, T, T, F, F, T, T, T, F, F, F, F, F, F] rfl rfl HT_.out (by kernel_rfl) pq (by rfl) (by intro w'; go_simp; with_reducible rfl) (by simp only [Act.put, ea, eb, ec, zy, zz]; rfl) ?_
        refine pb 9 47 #[T, T, T, F, F, T, T, T, F, T, F, F, F, F] rfl rfl HT_.out (by kernel_rfl) pq (by rfl) (by intro w'; go_simp; with_reducible rfl) (by simp only [Act.put, ea, eb, ec, zy, zz]; rfl) ?_
        refine take_ (i := 3) (N := some 41) (v := ?_) (a' := ?_) #[T, T, T, T, F, T, T, T, F, T, F, F, F, F] rfl rfl (zka HT_.out HW_.out (by kernel_rfl)) (fun _ _ _ h => h) (Or.inl ⟨by rfl, ?_⟩) hHeld ?_ ?_
        rotate_left
        ·rintro w' ⟨s0, s1, s2, s3, s4, s5, s6⟩
         go_simp
         with_reducible rfl
        rotate_left
        ·simp only [Act.put, List.setIfInBounds_toArray, List.set_cons_zero, List.set_cons_succ, zy, zz]
         rfl
        refine pb 4 42 #[T, T, T, T, T, T, T, T, F, T, F, F, F, F] rfl rfl HT_.out (by kernel_rfl) pq (by rfl) (by intro w'; go_simp; with_reducible rfl) (by simp only [Act.put, ea, eb, ec, zy, zz]; rfl) ?_
        refine take_ (i := 8) (N := some 46) (v := ?_) (a' := ?_) (fm 14 10) rfl rfl (zka HT_.out HW_.out (by kernel_rfl)) (fun _ _ _ h => h) (Or.inl ⟨by rfl, ?_⟩) hHeld ?_ ?_
        rotate_left
        ·rintro w' ⟨s0, s1, s2, s3, s4, s5, s6⟩
         go_simp
         with_reducible rfl
        rotate_left
        ·simp only [Act.put, List.setIfInBounds_toArray, List.set_cons_zero, List.set_cons_succ, zy, zz]
         rfl
        refine pb 10 48 (fm 14 11) rfl rfl HT_.out (by kernel_rfl) pq (by rfl) (by intro w'; go_simp; with_reducible rfl) (by simp only [Act.put, ea, eb, ec, zy, zz]; rfl) ?_
        refine take_ (i := 11) (N := some 49) (v := ?_) (a' := ?_) (fm 14 12) rfl rfl (zka HT_.out HW_.out (by kernel_rfl)) (fun _ _ _ h => h) (Or.inl ⟨by rfl, ?_⟩) hHeld ?_ ?_
        rotate_left
        ·rintro w' ⟨s0, s1, s2, s3, s4, s5, s6⟩
         go_simp
         with_reducible rfl
        rotate_left
        ·simp only [Act.put, List.setIfInBounds_toArray, List.set_cons_zero, List.set_cons_succ, zy, zz]
         rfl
        refine one_ (i := 12) (N := some 50) (fm 14 13) rfl rfl (zta HT_.out (by kernel_rfl)) (by decide) (fun K hK => ?_)
        refine zdb Try.func86 (by kernel_rfl) rfl #[.int .i64 (wrap64 (a0_0)), .agg #[.int .i8 ((zj l0_2 x3_2).f0), .int .i8 ((zj l0_2 x3_2).f1), .int .i8 ((zj l0_2 x3_2).f2), .int .i8 ((zj l0_2 x3_2).f3)]] (by rfl) rfl rfl (by (try simp only [List.map_toArray, List.map_cons, List.map_nil]); first | done | rfl | (simp only [List.length_drop, List.length_take]; rfl)) ?_
        with_reducible refine (spec_l04Word.calls k2 (wrap64 (a0_0)) ((zj l0_2 x3_2).f0) ((zj l0_2 x3_2).f1) ((zj l0_2 x3_2).f2) ((zj l0_2 x3_2).f3) true _ A14.out).mono ?_
        rintro e w18 ⟨rfl, hb⟩
        refine ⟨_, rfl, ?_⟩
        have n0_ := ze.mk (zk (g := g0) (o := .cells #[.int .i8 a0_0, .int .i8 a0_1, .slice (some ad251) l0_2.length c0_2] 28 (0, 0)) (by (with_reducible repeat (first | refine zb ?_ _ | refine zd ?_ | refine za ?_ _)); exact BK0.out) hb)
        have n1_ := ze.mk (zt (by repeat (first | (with_reducible first | exact HB.out | apply zg | apply zc | apply zf) | exact HB.out)) hb)
        clear BK0
        clear HB
        have BK0 := n0_
        have HB := n1_
        clear n0_ n1_
        (try clear hb)
        (try clear hb2)
        (try clear hk)
        (try clear hi)
        refine hK.out _ _ ⟨(zo BK0.out 0).trans rfl, (zo BK0.out 1).trans rfl, (zo BK0.out 2).trans rfl, (bc HB.out v1_0), (bc HB.out v1_1), (bc HB.out v1_2), (bc HB.out v1_3)⟩ (fun hHeld => ?_)
        clear hK K
        refine zpa (a' := ?_) ?_ ?_
        rotate_left
        ·show Act.put _ (some 50) _ = _
         simp only [Act.put, List.setIfInBounds_toArray, List.set_cons_zero, List.set_cons_succ, zy, zz]
         rfl
        refine pb 13 51 (fm 14 14) rfl rfl HT_.out (by kernel_rfl) pq (by rfl) (by intro w'; go_simp; with_reducible rfl) (by simp only [Act.put, ea, eb, ec, zy, zz]; rfl) ?_
        refine zxb (zcb HT_.out (by kernel_rfl)) ?_
        try go_wp2
        go_roundg k2
        case measure => have := HJ1.out; have := HK2.out; omega
        case rel => exact ⟨(wrap64 (x3_2 + 1)), (by first | rfl | (simp; done) | (simp [*]; done)), H', ⟨by have := HJ1.out; have := HK2.out; omega⟩, ⟨by (with_reducible repeat (first | refine zb ?_ _ | refine zd ?_ | refine za ?_ _)); exact BK0.out⟩, ⟨by repeat (first | (with_reducible first | exact HB.out | apply zg | apply zc | apply zf) | exact HB.out)⟩⟩
       replace c15 := Bool.eq_false_iff.mpr c15
       subst c15
       have H1 : (some false) = some r := by rw [if_neg (show ¬ (false = true) by decide)] at H; exact H
       clear H
       have H := H1
       clear H1
       obtain rfl := Option.some.inj H
       obtain ⟨y5_0, y5_1, y5_2, z5_0, z5_1, z5_2⟩ := cf3 BK0.out
       try go_wp2
       have n0_ := ze.mk (zd BK0.out)
       have n1_ := ze.mk (zf HB.out)
       clear BK0
       clear HB
       have BK0 := n0_
       have HB := n1_
       clear n0_ n1_
       have p251 : 0 ≤ (x3_2 : Int) := od (by first | (with_reducible assumption) | assumption)
       have q251 : x3_2 < (l0_2.length : Int) := od (by first | (with_reducible assumption) | assumption)
       obtain ⟨ad251, e251, u1_0, u1_1, u1_2, u1_3, v1_0, v1_1, v1_2, v1_3⟩ := zcd HB.out HR0_2.out x3_2 p251 q251
       cases e251
       replace p251 := eq_true p251
       replace q251 := eq_true q251
       refine zfb (n := 14) (S := fun w' => w'.cell? ⟨g0, 0, none⟩ = some (.int .i8 a0_0) ∧ w'.cell? ⟨g0, 1, none⟩ = some (.int .i8 a0_1) ∧ w'.cell? ⟨g0, 2, none⟩ = some (.slice (some ad251) l0_2.length c0_2) ∧ w'.cell? (ad251.add ((x3_2).toNat * 4)) = some (.int .i8 ((zj l0_2 x3_2).f0)) ∧ w'.cell? ⟨(ad251.add ((x3_2).toNat * 4)).block, (ad251.add ((x3_2).toNat * 4)).off + 1, none⟩ = some (.int .i8 ((zj l0_2 x3_2).f1)) ∧ w'.cell? ⟨(ad251.add ((x3_2).toNat * 4)).block, (ad251.add ((x3_2).toNat * 4)).off + 2, none⟩ = some (.int .i8 ((zj l0_2 x3_2).f2)) ∧ w'.cell? ⟨(ad251.add ((x3_2).toNat * 4)).block, (ad251.add ((x3_2).toNat * 4)).off + 3, none⟩ = some (.int .i8 ((zj l0_2 x3_2).f3))) (ds := []) (fm 14 0) (by kernel_rfl) rfl rfl ⟨(zo BK0.out 0).trans rfl, (zo BK0.out 1).trans rfl, (zo BK0.out 2).trans rfl, (bc HB.out v1_0), (bc HB.out v1_1), (bc HB.out v1_2), (bc HB.out v1_3)⟩ (fun hHeld => ?_); refine zoa spec_l04Ok.tab6 spec_l04Ok.bits6 (fun HT_ HW_ => ?_)
       generalize wr.drew = w20 at BK0 HB u1_0 u1_1 u1_2 u1_3 hHeld ⊢
       refine pb 0 38 (fm 14 1) rfl rfl HT_.out (by kernel_rfl) pq (by rfl) (by intro w'; go_simp; with_reducible rfl) (by simp only [Act.put, ea, eb, ec, zy, zz]; rfl) ?_
       refine pb 1 39 (fm 14 2) rfl rfl HT_.out (by kernel_rfl) pq (by rfl) (by intro w'; go_simp; with_reducible rfl) (by simp only [Act.put, ea, eb, ec, zy, zz]; rfl) ?_
       refine pb 2 40 (fm 14 3) rfl rfl HT_.out (by kernel_rfl) pq (by rfl) (by intro w'; go_simp; with_reducible rfl) (by simp only [Act.put, ea, eb, ec, zy, zz]; rfl) ?_
       refine pb 5 43 #[T, T, T, F, F, T, F, F, F, F, F, F, F, F] rfl rfl HT_.out (by kernel_rfl) pq (by rfl) (by intro w'; go_simp; with_reducible rfl) (by simp only [Act.put, ea, eb, ec, zy, zz]; rfl) ?_
       refine pb 6 44 #[T, T, T, F, F, T, T, F, F, F, F, F, F, F] rfl rfl HT_.out (by kernel_rfl) pq (by rfl) (by intro w'; go_simp; with_reducible rfl) (by simp only [Act.put, ea, eb, ec, zy, zz]; rfl) ?_
       refine pb 7 45 #[T, T, T, F, F, T, T, T, F, F, F, F, F, F] rfl rfl HT_.out (by kernel_rfl) pq (by rfl) (by intro w'; go_simp; with_reducible rfl) (by simp only [Act.put, ea, eb, ec, zy, zz]; rfl) ?_
       refine pb 9 47 #[T, T, T, F, F, T, T, T, F, T, F, F, F, F] rfl rfl HT_.out (by kernel_rfl) pq (by rfl) (by intro w'; go_simp; with_reducible rfl) (by simp only [Act.put, ea, eb, ec, zy, zz]; rfl) ?_
       refine take_ (i := 3) (N := some 41) (v := ?_) (a' := ?_) #[T, T, T, T, F, T, T, T, F, T, F, F, F, F] rfl rfl (zka HT_.out HW_.out (by kernel_rfl)) (fun _ _ _ h => h) (Or.inl ⟨by rfl, ?_⟩) hHeld ?_ ?_
       rotate_left
       ·rintro w' ⟨s0, s1, s2, s3, s4, s5, s6⟩
        go_simp
        with_reducible rfl
       rotate_left
       ·simp only [Act.put, List.setIfInBounds_toArray, List.set_cons_zero, List.set_cons_succ, zy, zz]
        rfl
       refine pb 4 42 #[T, T, T, T, T, T, T, T, F, T, F, F, F, F] rfl rfl HT_.out (by kernel_rfl) pq (by rfl) (by intro w'; go_simp; with_reducible rfl) (by simp only [Act.put, ea, eb, ec, zy, zz]; rfl) ?_
       refine take_ (i := 8) (N := some 46) (v := ?_) (a' := ?_) (fm 14 10) rfl rfl (zka HT_.out HW_.out (by kernel_rfl)) (fun _ _ _ h => h) (Or.inl ⟨by rfl, ?_⟩) hHeld ?_ ?_
       rotate_left
       ·rintro w' ⟨s0, s1, s2, s3, s4, s5, s6⟩
        go_simp
        with_reducible rfl
       rotate_left
       ·simp only [Act.put, List.setIfInBounds_toArray, List.set_cons_zero, List.set_cons_succ, zy, zz]
        rfl
       refine pb 10 48 (fm 14 11) rfl rfl HT_.out (by kernel_rfl) pq (by rfl) (by intro w'; go_simp; with_reducible rfl) (by simp only [Act.put, ea, eb, ec, zy, zz]; rfl) ?_
       refine take_ (i := 11) (N := some 49) (v := ?_) (a' := ?_) (fm 14 12) rfl rfl (zka HT_.out HW_.out (by kernel_rfl)) (fun _ _ _ h => h) (Or.inl ⟨by rfl, ?_⟩) hHeld ?_ ?_
       rotate_left
       ·rintro w' ⟨s0, s1, s2, s3, s4, s5, s6⟩
        go_simp
        with_reducible rfl
       rotate_left
       ·simp only [Act.put, List.setIfInBounds_toArray, List.set_cons_zero, List.set_cons_succ, zy, zz]
        rfl
       refine one_ (i := 12) (N := some 50) (fm 14 13) rfl rfl (zta HT_.out (by kernel_rfl)) (by decide) (fun K hK => ?_)
       refine zdb Try.func86 (by kernel_rfl) rfl #[.int .i64 (wrap64 (a0_0)), .agg #[.int .i8 ((zj l0_2 x3_2).f0), .int .i8 ((zj l0_2 x3_2).f1), .int .i8 ((zj l0_2 x3_2).f2), .int .i8 ((zj l0_2 x3_2).f3)]] (by rfl) rfl rfl (by (try simp only [List.map_toArray, List.map_cons, List.map_nil]); first | done | rfl | (simp only [List.length_drop, List.length_take]; rfl)) ?_
       with_reducible refine (spec_l04Word.calls k2 (wrap64 (a0_0)) ((zj l0_2 x3_2).f0) ((zj l0_2 x3_2).f1) ((zj l0_2 x3_2).f2) ((zj l0_2 x3_2).f3) false _ A14.out).mono ?_
       rintro e w21 ⟨rfl, hb⟩
       refine ⟨_, rfl, ?_⟩
       have n0_ := ze.mk (zk (g := g0) (o := .cells #[.int .i8 a0_0, .int .i8 a0_1, .slice (some ad251) l0_2.length c0_2] 28 (0, 0)) (by (with_reducible repeat (first | refine zb ?_ _ | refine zd ?_ | refine za ?_ _)); exact BK0.out) hb)
       have n1_ := ze.mk (zt (by repeat (first | (with_reducible first | exact HB.out | apply zg | apply zc | apply zf) | exact HB.out)) hb)
       clear BK0
       clear HB
       have BK0 := n0_
       have HB := n1_
       clear n0_ n1_
       (try clear hb)
       (try clear hb2)
       (try clear hk)
       (try clear hi)
       refine hK.out _ _ ⟨(zo BK0.out 0).trans rfl, (zo BK0.out 1).trans rfl, (zo BK0.out 2).trans rfl, (bc HB.out v1_0), (bc HB.out v1_1), (bc HB.out v1_2), (bc HB.out v1_3)⟩ (fun hHeld => ?_)
       clear hK K
       refine zpa (a' := ?_) ?_ ?_
       rotate_left
       ·show Act.put _ (some 50) _ = _
        simp only [Act.put, List.setIfInBounds_toArray, List.set_cons_zero, List.set_cons_succ, zy, zz]
        rfl
       refine pb 13 51 (fm 14 14) rfl rfl HT_.out (by kernel_rfl) pq (by rfl) (by intro w'; go_simp; with_reducible rfl) (by simp only [Act.put, ea, eb, ec, zy, zz]; rfl) ?_
       refine zxb (zcb HT_.out (by kernel_rfl)) ?_
       try go_wp2
       go_ret
       exact ⟨by first | rfl | (simp [zn, zm] <;> rfl) | (simp [*, zn, zm] <;> rfl), by repeat (first | (with_reducible first | exact HB.out | apply zg | apply zc | apply zf) | exact HB.out)⟩
      rw [if_neg c13] at H
      exact absurd H (by simp)
     rw [if_neg c12] at H
     have c12b0 : decide (x3_2 < (l0_2.length : Int)) = false := decide_eq_false c12
     clear c12
     obtain rfl := Option.some.inj H
     obtain ⟨y6_0, y6_1, y6_2, z6_0, z6_1, z6_2⟩ := cf3 BK0.out
     go_wp2
     go_ret
     exact ⟨by first | rfl | (simp [zn, zm] <;> rfl) | (simp [*, zn, zm] <;> rfl), by repeat (first | (with_reducible first | exact HB.out | apply zg | apply zc | apply zf) | exact HB.out)⟩
mutual
def spec_l04Balanced.l0 : Nat → Int → Int → Int → List (S43) → Option (Bool)
 | 0, _, _, _, _ => none
 | k + 1, x3, x1000, x1001, x1002 => if x3 < x1000 then (spec_l04Balanced.l1 k x3 0 0 x1000 x1001 x1002) else (some true)
def spec_l04Balanced.l1 : Nat → Int → Int → Int → Int → Int → List (S43) → Option (Bool)
 | 0, _, _, _, _, _, _ => none
 | k + 1, x3, x4, x5, x1000, x1001, x1002 => if x5 < (x1002.length : Int) then (if 0 ≤ x5 then (if 0 ≤ x3 then (if x3 < 4 then (spec_l04Balanced.l1 k x3 (wrap64 (x4 + (wrap64 (rd [(zj x1002 x5).f0, (zj x1002 x5).f1, (zj x1002 x5).f2, (zj x1002 x5).f3] x3)))) (wrap64 (x5 + 1)) x1000 x1001 x1002) else (none)) else (none)) else (none)) else (if x4 = 0 then (spec_l04Balanced.l0 k (IntKind.i8.wrap (x3 + 1)) x1000 x1001 x1002) else (some false))
end
def spec_l04Balanced.f (k : Nat) (a0_0 : Int) (a0_1 : Int) (l0_2 : List (S43)) : Option (Bool) := spec_l04Balanced.l0 k 0 a0_0 a0_1 l0_2
set_option maxHeartbeats 8000000 in
set_option maxRecDepth 100000 in
theorem spec_l04Balanced.calls (k : Nat) (g0 : Nat) (a0_0 : Int) (a0_1 : Int) (A0_2 : Option Addr) (c0_2 : Nat) (l0_2 : List (S43)) (r : Bool) (w : World) (hb0 : w.heap[g0]? = some (.cells #[.int .i8 a0_0, .int .i8 a0_1, .slice A0_2 l0_2.length c0_2] 28 (0, 0))) (hr0_2 : Kd.C k43 w A0_2 l0_2.length l0_2) (hc0_2 : l0_2.length ≤ c0_2) (h : spec_l04Balanced.f k a0_0 a0_1 l0_2 = some r) :
  Calls Try.prog 69 #[.pointer (some ⟨g0, 0, none⟩)] w fun e w' => e = .returned (.bool r) ∧ zca w w' := by
 have HR0_2 := ze.mk hr0_2
 have HC0_2 := ze.mk hc0_2
 clear hr0_2 hc0_2
 have BK0 := ze.mk hb0
 clear hb0
 have H : (spec_l04Balanced.l0 k 0 a0_0 a0_1 l0_2) = some r := h
 clear h
 have H' := ze.mk H
 clear H
 go_enter Try.func69, Try.ntmps69
 go_wp2
 go_loopg [3] k (fun kq v3 w' => ∃ (x3_1 : Int), v3 = .int .i8 x3_1 ∧ ze (spec_l04Balanced.l0 kq x3_1 a0_0 a0_1 l0_2 = some r) ∧ ze (kq ≤ k) ∧ ze (w'.heap[g0]? = some (.cells #[.int .i8 a0_0, .int .i8 a0_1, (.slice A0_2 l0_2.length c0_2)] 28 (0, 0))) ∧ zca w w')
 case atStart => exact ⟨(0), (by first | rfl | (simp; done) | (simp [*]; done)), H', ⟨Nat.le_refl _⟩, ⟨by (with_reducible repeat (first | refine zb ?_ _ | refine zd ?_ | refine za ?_ _)); exact BK0.out⟩, by repeat (first | exact zca.refl _ | apply zca.step)⟩
 case round =>
  clear H'
  obtain ⟨x3_1, rfl, HA, HK1, BK0, ⟨m1, rfl⟩⟩ := hrel
  cases gk with
  | zero => exact absurd HA.out (by simp [spec_l04Balanced.l0])
  | succ k1 =>
   have H := HA.out
   clear HA
   simp only [spec_l04Balanced.l0] at H
   by_cases c2 : x3_1 < a0_0
   ·rw [if_pos c2] at H
    have c2b0 : decide (x3_1 < a0_0) = true := decide_eq_true c2
    clear c2
    have H' := ze.mk H
    clear H
    obtain ⟨y1_0, y1_1, y1_2, z1_0, z1_1, z1_2⟩ := cf3 BK0.out
    go_wp2
    go_loopg [4, 5] k1 (fun kq v4 v5 w' => ∃ (x4_2 : Int) (x5_2 : Int), v4 = .int .i64 x4_2 ∧ v5 = .int .i64 x5_2 ∧ ze (spec_l04Balanced.l1 kq x3_1 x4_2 x5_2 a0_0 a0_1 l0_2 = some r) ∧ ze (kq ≤ k1) ∧ ze (w'.heap[g0]? = some (.cells #[.int .i8 a0_0, .int .i8 a0_1, (.slice A0_2 l0_2.length c0_2)] 28 (0, 0))) ∧ zca w w')
    case atStart => exact ⟨(0), (0), (by first | rfl | (simp; done) | (simp [*]; done)), (by first | rfl | (simp; done) | (simp [*]; done)), H', ⟨Nat.le_refl _⟩, ⟨by (with_reducible repeat (first | refine zb ?_ _ | refine zd ?_ | refine za ?_ _)); exact BK0.out⟩, by repeat (first | exact zca.refl _ | apply zca.step)⟩
    case round =>
     clear H'
     try clear c2
     try clear c2b0
     try clear p2
     try clear y1_0 y1_1 y1_2
     try clear z1_0 z1_1 z1_2
     obtain ⟨x4_2, x5_2, rfl, rfl, HA, HK2, BK0, ⟨m2, rfl⟩⟩ := hrel
     cases gk with
     | zero => exact absurd HA.out (by simp [spec_l04Balanced.l1])
     | succ k2 =>
      have H := HA.out
      clear HA
      simp only [spec_l04Balanced.l1] at H
      by_cases c4 : x5_2 < (l0_2.length : Int)
      ·rw [if_pos c4] at H
       have c4b0 : decide (x5_2 < (l0_2.length : Int)) = true := decide_eq_true c4
       clear c4
       by_cases c5 : 0 ≤ x5_2
       ·rw [if_pos c5] at H
        have c5b0 : decide (0 ≤ x5_2) = true := decide_eq_true c5
        clear c5
        by_cases c6 : 0 ≤ x3_1
        ·rw [if_pos c6] at H
         have c6b0 : decide (0 ≤ x3_1) = true := decide_eq_true c6
         clear c6
         by_cases c7 : x3_1 < 4
         ·rw [if_pos c7] at H
          have c7b0 : decide (x3_1 < 4) = true := decide_eq_true c7
          clear c7
          have H' := ze.mk H
          clear H
          obtain ⟨y2_0, y2_1, y2_2, z2_0, z2_1, z2_2⟩ := cf3 BK0.out
          have p253 : 0 ≤ (x5_2 : Int) := od (by first | (with_reducible assumption) | assumption)
          have q253 : x5_2 < (l0_2.length : Int) := od (by first | (with_reducible assumption) | assumption)
          obtain ⟨ad253, e253, u1_0, u1_1, u1_2, u1_3⟩ := zte HR0_2.out x5_2 p253 q253
          cases e253
          replace p253 := eq_true p253
          replace q253 := eq_true q253
          have u2_0 : w.cell? ((ad253.add ((x5_2).toNat * 4)).add (x3_1).toNat) = some (.int .i8 (rd [(zj l0_2 x5_2).f0, (zj l0_2 x5_2).f1, (zj l0_2 x5_2).f2, (zj l0_2 x5_2).f3] x3_1)) := by rcases (show (x3_1 : Int) = 0 ∨ (x3_1 : Int) = 1 ∨ (x3_1 : Int) = 2 ∨ (x3_1 : Int) = 3 by have hp_ : 0 ≤ (x3_1 : Int) := od (by first | (with_reducible assumption) | assumption); have hq_ : x3_1 < (4 : Int) := od (by first | (with_reducible assumption) | assumption); omega) with h_ | h_ | h_ | h_ <;> rw [h_] <;> first | exact u1_0 | exact u1_1 | exact u1_2 | exact u1_3
          have p9 : 0 ≤ (x3_1 : Int) := od (by first | (with_reducible assumption) | assumption)
          have q9 : x3_1 < (4 : Int) := od (by first | (with_reducible assumption) | assumption)
          replace p9 := eq_true p9
          replace q9 := eq_true q9
          go_wp2
          go_roundg k2
          case measure => have := HK1.out; have := HK2.out; omega
          case rel => exact ⟨(wrap64 (x4_2 + (wrap64 (rd [(zj l0_2 x5_2).f0, (zj l0_2 x5_2).f1, (zj l0_2 x5_2).f2, (zj l0_2 x5_2).f3] x3_1)))), (wrap64 (x5_2 + 1)), (by first | rfl | (simp; done) | (simp [*]; done)), (by first | rfl | (simp; done) | (simp [*]; done)), H', ⟨by have := HK1.out; have := HK2.out; omega⟩, ⟨by (with_reducible repeat (first | refine zb ?_ _ | refine zd ?_ | refine za ?_ _)); exact BK0.out⟩, by repeat (first | exact zca.refl _ | apply zca.step)⟩
         rw [if_neg c7] at H
         exact absurd H (by simp)
        rw [if_neg c6] at H
        exact absurd H (by simp)
       rw [if_neg c5] at H
       exact absurd H (by simp)
      rw [if_neg c4] at H
      have c4b0 : decide (x5_2 < (l0_2.length : Int)) = false := decide_eq_false c4
      clear c4
      by_cases c10 : x4_2 = 0
      ·rw [if_pos c10] at H
       have c10b0 : (x4_2 == 0) = true := beq_iff_eq.mpr c10
       have c10b1 : (x4_2 != 0) = false := bne_eq_false_iff_eq.mpr c10
       clear c10
       have H' := ze.mk H
       clear H
       obtain ⟨y3_0, y3_1, y3_2, z3_0, z3_1, z3_2⟩ := cf3 BK0.out
       go_wp2
       go_roundg k2
       case measure => have := HK1.out; have := HK2.out; omega
       case rel => exact ⟨(IntKind.i8.wrap (x3_1 + 1)), (by first | rfl | (simp; done) | (simp [*]; done)), H', ⟨by have := HK1.out; have := HK2.out; omega⟩, ⟨by (with_reducible repeat (first | refine zb ?_ _ | refine zd ?_ | refine za ?_ _)); exact BK0.out⟩, by repeat (first | exact zca.refl _ | apply zca.step)⟩
      rw [if_neg c10] at H
      have c10b0 : (x4_2 == 0) = false := beq_eq_false_iff_ne.mpr c10
      have c10b1 : (x4_2 != 0) = true := bne_iff_ne.mpr c10
      obtain rfl := Option.some.inj H
      obtain ⟨y4_0, y4_1, y4_2, z4_0, z4_1, z4_2⟩ := cf3 BK0.out
      go_wp2
      go_ret
      exact ⟨by first | rfl | (simp; done) | (simp [*]; done), by repeat (first | exact zca.refl _ | apply zca.step)⟩
   rw [if_neg c2] at H
   have c2b0 : decide (x3_1 < a0_0) = false := decide_eq_false c2
   clear c2
   obtain rfl := Option.some.inj H
   obtain ⟨y5_0, y5_1, y5_2, z5_0, z5_1, z5_2⟩ := cf3 BK0.out
   go_wp2
   go_ret
   exact ⟨by first | rfl | (simp; done) | (simp [*]; done), by repeat (first | exact zca.refl _ | apply zca.step)⟩
def spec_l04Pans.l0 : Nat → Int → Int → Int → Int → List (S43) → Int → Int → Int → Int → Int → Int → Int → Int → Int → Int → Int → Int → Int → Int → Option (Int × Int × Int × Int × Int × Int × Int × Int × Int × Int × Int × Int × Int × Int)
 | 0, _, _, _, _, _, _, _, _, _, _, _, _, _, _, _, _, _, _, _ => none
 | k + 1, x1, x6, x1000, x1001, x1002, x257000, x257001, x257002, x257003, x257004, x257005, x257006, x257007, x257008, x257009, x257010, x257011, x257012, x257013 => if x6 < (x1002.length : Int) then (if 0 ≤ x6 then (if 0 ≤ x1 then (if x1 < 4 then (if x6 < 14 then (spec_l04Pans.l0 k x1 (wrap64 (x6 + 1)) x1000 x1001 x1002 (zv x6 0 (rd [(zj x1002 x6).f0, (zj x1002 x6).f1, (zj x1002 x6).f2, (zj x1002 x6).f3] x1) x257000) (zv x6 1 (rd [(zj x1002 x6).f0, (zj x1002 x6).f1, (zj x1002 x6).f2, (zj x1002 x6).f3] x1) x257001) (zv x6 2 (rd [(zj x1002 x6).f0, (zj x1002 x6).f1, (zj x1002 x6).f2, (zj x1002 x6).f3] x1) x257002) (zv x6 3 (rd [(zj x1002 x6).f0, (zj x1002 x6).f1, (zj x1002 x6).f2, (zj x1002 x6).f3] x1) x257003) (zv x6 4 (rd [(zj x1002 x6).f0, (zj x1002 x6).f1, (zj x1002 x6).f2, (zj x1002 x6).f3] x1) x257004) (zv x6 5 (rd [(zj x1002 x6).f0, (zj x1002 x6).f1, (zj x1002 x6).f2, (zj x1002 x6).f3] x1) x257005) (zv x6 6 (rd [(zj x1002 x6).f0, (zj x1002 x6).f1, (zj x1002 x6).f2, (zj x1002 x6).f3] x1) x257006) (zv x6 7 (rd [(zj x1002 x6).f0, (zj x1002 x6).f1, (zj x1002 x6).f2, (zj x1002 x6).f3] x1) x257007) (zv x6 8 (rd [(zj x1002 x6).f0, (zj x1002 x6).f1, (zj x1002 x6).f2, (zj x1002 x6).f3] x1) x257008) (zv x6 9 (rd [(zj x1002 x6).f0, (zj x1002 x6).f1, (zj x1002 x6).f2, (zj x1002 x6).f3] x1) x257009) (zv x6 10 (rd [(zj x1002 x6).f0, (zj x1002 x6).f1, (zj x1002 x6).f2, (zj x1002 x6).f3] x1) x257010) (zv x6 11 (rd [(zj x1002 x6).f0, (zj x1002 x6).f1, (zj x1002 x6).f2, (zj x1002 x6).f3] x1) x257011) (zv x6 12 (rd [(zj x1002 x6).f0, (zj x1002 x6).f1, (zj x1002 x6).f2, (zj x1002 x6).f3] x1) x257012) (zv x6 13 (rd [(zj x1002 x6).f0, (zj x1002 x6).f1, (zj x1002 x6).f2, (zj x1002 x6).f3] x1) x257013)) else (none)) else (none)) else (none)) else (none)) else (some (x257000, x257001, x257002, x257003, x257004, x257005, x257006, x257007, x257008, x257009, x257010, x257011, x257012, x257013))
def spec_l04Pans.f (k : Nat) (a0_0 : Int) (a0_1 : Int) (l0_2 : List (S43)) (a1 : Int) : Option (Int × Int × Int × Int × Int × Int × Int × Int × Int × Int × Int × Int × Int × Int) := spec_l04Pans.l0 k a1 0 a0_0 a0_1 l0_2 0 0 0 0 0 0 0 0 0 0 0 0 0 0
set_option maxHeartbeats 8000000 in
set_option maxRecDepth 100000 in
theorem spec_l04Pans.calls (k : Nat) (g0 : Nat) (a0_0 : Int) (a0_1 : Int) (A0_2 : Option Addr) (c0_2 : Nat) (l0_2 : List (S43)) (a1 : Int) (r1 : Int) (r2 : Int) (r3 : Int) (r4 : Int) (r5 : Int) (r6 : Int) (r7 : Int) (r8 : Int) (r9 : Int) (r10 : Int) (r11 : Int) (r12 : Int) (r13 : Int) (r14 : Int) (w : World) (hb0 : w.heap[g0]? = some (.cells #[.int .i8 a0_0, .int .i8 a0_1, .slice A0_2 l0_2.length c0_2] 28 (0, 0))) (hr0_2 : Kd.C k43 w A0_2 l0_2.length l0_2) (hc0_2 : l0_2.length ≤ c0_2) (h : spec_l04Pans.f k a0_0 a0_1 l0_2 a1 = some (r1, r2, r3, r4, r5, r6, r7, r8, r9, r10, r11, r12, r13, r14)) :
  Calls Try.prog 70 #[.pointer (some ⟨g0, 0, none⟩), .int .i64 a1] w fun e w' => e = .returned (.agg #[.int .i8 r1, .int .i8 r2, .int .i8 r3, .int .i8 r4, .int .i8 r5, .int .i8 r6, .int .i8 r7, .int .i8 r8, .int .i8 r9, .int .i8 r10, .int .i8 r11, .int .i8 r12, .int .i8 r13, .int .i8 r14]) ∧ Below w.heap.size w w' := by
 have hu96 := Try.underlying96
 have HR0_2 := ze.mk hr0_2
 have HC0_2 := ze.mk hc0_2
 clear hr0_2 hc0_2
 have BK0 := ze.mk hb0
 clear hb0
 have HB := ze.mk (Below.refl w.heap.size w)
 have H : (spec_l04Pans.l0 k a1 0 a0_0 a0_1 l0_2 0 0 0 0 0 0 0 0 0 0 0 0 0 0) = some (r1, r2, r3, r4, r5, r6, r7, r8, r9, r10, r11, r12, r13, r14) := h
 clear h
 have H' := ze.mk H
 clear H
 go_enter Try.func70, Try.ntmps70
 go_wp2_with (first | ((with_reducible refine zu (N := 4) rfl ?_); refine zr ?hg (N := 4) ?hd (cs := #[.int .i8 0, .int .i8 0, .int .i8 0, .int .i8 0, .int .i8 0, .int .i8 0, .int .i8 0, .int .i8 0, .int .i8 0, .int .i8 0, .int .i8 0, .int .i8 0, .int .i8 0, .int .i8 0]) (t := 96) ?hr ?_; (case hd => rfl); (case hg => rfl); (case hr => first | (go_simp; done) | (go_simp; rfl)); intro gb255 hg w3 hbox hb; have n0_ := ze.mk (zk (g := g0) (o := .cells #[.int .i8 a0_0, .int .i8 a0_1, .slice A0_2 l0_2.length c0_2] 28 (0, 0)) (by (with_reducible repeat (first | refine zb ?_ _ | refine zd ?_ | refine za ?_ _)); exact BK0.out) hb); obtain ⟨n1_, n3_⟩ := bx (by repeat (first | (with_reducible first | exact HB.out | apply zg | apply zc | apply zf) | exact HB.out)) hb hg; have n2_ := ze.mk (hbox); have n4_ := n3_; have n5_ := ze.mk ((by rw [hg]; exact Nat.ne_of_lt (zba (g := g0) (o := .cells #[.int .i8 a0_0, .int .i8 a0_1, .slice A0_2 l0_2.length c0_2] 28 (0, 0)) (by (with_reducible repeat (first | refine zb ?_ _ | refine zd ?_ | refine za ?_ _)); exact BK0.out)) : g0 ≠ gb255)); have n6_ := ze.mk ((by rw [hg]; exact Nat.ne_of_gt (zba (g := g0) (o := .cells #[.int .i8 a0_0, .int .i8 a0_1, .slice A0_2 l0_2.length c0_2] 28 (0, 0)) (by (with_reducible repeat (first | refine zb ?_ _ | refine zd ?_ | refine za ?_ _)); exact BK0.out)) : gb255 ≠ g0)); clear BK0; clear HB; have BK0 := n0_; have HB := n1_; have BK255 := n2_; have GW255 := n3_; have GE255 := n4_; have NB0_255 := n5_; have NB255_0 := n6_; clear n0_ n1_ n2_ n3_ n4_ n5_ n6_; clear hb hbox hg) | ((with_reducible refine zu (N := 5) rfl ?_); refine zr ?hg (N := 5) ?hd (cs := #[.int .i8 0, .int .i8 0, .int .i8 0, .int .i8 0, .int .i8 0, .int .i8 0, .int .i8 0, .int .i8 0, .int .i8 0, .int .i8 0, .int .i8 0, .int .i8 0, .int .i8 0, .int .i8 0]) (t := 96) ?hr ?_; (case hd => rfl); (case hg => rfl); (case hr => first | (go_simp; done) | (go_simp; rfl)); intro gb256 hg w4 hbox hb; have n0_ := ze.mk (zk (g := g0) (o := .cells #[.int .i8 a0_0, .int .i8 a0_1, .slice A0_2 l0_2.length c0_2] 28 (0, 0)) (by (with_reducible repeat (first | refine zb ?_ _ | refine zd ?_ | refine za ?_ _)); exact BK0.out) hb); have n1_ := ze.mk (zk (by (with_reducible repeat (first | refine zb ?_ _ | refine zd ?_ | refine za ?_ _)); exact BK255.out) hb); obtain ⟨n2_, n4_⟩ := bx (by repeat (first | (with_reducible first | exact HB.out | apply zg | apply zc | apply zf | refine zi ?_ GE255.out) | exact HB.out)) hb hg; have n3_ := ze.mk (hbox); have n5_ := n4_; have n6_ := ze.mk ((by rw [hg]; exact Nat.ne_of_lt (zba (g := g0) (o := .cells #[.int .i8 a0_0, .int .i8 a0_1, .slice A0_2 l0_2.length c0_2] 28 (0, 0)) (by (with_reducible repeat (first | refine zb ?_ _ | refine zd ?_ | refine za ?_ _)); exact BK0.out)) : g0 ≠ gb256)); have n7_ := ze.mk ((by rw [hg]; exact Nat.ne_of_gt (zba (g := g0) (o := .cells #[.int .i8 a0_0, .int .i8 a0_1, .slice A0_2 l0_2.length c0_2] 28 (0, 0)) (by (with_reducible repeat (first | refine zb ?_ _ | refine zd ?_ | refine za ?_ _)); exact BK0.out)) : gb256 ≠ g0)); have n8_ := ze.mk ((by rw [hg]; exact Nat.ne_of_lt (zba (by (with_reducible repeat (first | refine zb ?_ _ | refine zd ?_ | refine za ?_ _)); exact BK255.out)) : gb255 ≠ gb256)); have n9_ := ze.mk n8_.out.symm; clear BK0; clear BK255; clear HB; have BK0 := n0_; have BK255 := n1_; have HB := n2_; have BK256 := n3_; have GW256 := n4_; have GE256 := n5_; have NB0_256 := n6_; have NB256_0 := n7_; have NB255_256 := n8_; have NB256_255 := n9_; clear n0_ n1_ n2_ n3_ n4_ n5_ n6_ n7_ n8_ n9_; clear hb hbox hg; have hnb5 := NB256_0.out; have hnc5 := NB0_256.out; have hnb6 := NB256_255.out; have hnc6 := NB255_256.out; obtain ⟨y1_0, y1_1, y1_2, y1_3, y1_4, y1_5, y1_6, y1_7, y1_8, y1_9, y1_10, y1_11, y1_12, y1_13, z1_0, z1_1, z1_2, z1_3, z1_4, z1_5, z1_6, z1_7, z1_8, z1_9, z1_10, z1_11, z1_12, z1_13⟩ := cf14 BK256.out))
 go_loopg [6] k (fun kq v6 w' => ∃ (x6_1 : Int) (x257000_1 : Int) (x257001_1 : Int) (x257002_1 : Int) (x257003_1 : Int) (x257004_1 : Int) (x257005_1 : Int) (x257006_1 : Int) (x257007_1 : Int) (x257008_1 : Int) (x257009_1 : Int) (x257010_1 : Int) (x257011_1 : Int) (x257012_1 : Int) (x257013_1 : Int), v6 = .int .i64 x6_1 ∧ ze (spec_l04Pans.l0 kq a1 x6_1 a0_0 a0_1 l0_2 x257000_1 x257001_1 x257002_1 x257003_1 x257004_1 x257005_1 x257006_1 x257007_1 x257008_1 x257009_1 x257010_1 x257011_1 x257012_1 x257013_1 = some (r1, r2, r3, r4, r5, r6, r7, r8, r9, r10, r11, r12, r13, r14)) ∧ ze (kq ≤ k) ∧ ze (w'.heap[g0]? = some (.cells #[.int .i8 a0_0, .int .i8 a0_1, (.slice A0_2 l0_2.length c0_2)] 28 (0, 0))) ∧ ze (w'.heap[gb255]? = some (.cells #[.int .i8 0, .int .i8 0, .int .i8 0, .int .i8 0, .int .i8 0, .int .i8 0, .int .i8 0, .int .i8 0, .int .i8 0, .int .i8 0, .int .i8 0, .int .i8 0, .int .i8 0, .int .i8 0] 96 (0, 0))) ∧ ze (w'.heap[gb256]? = some (.cells #[.int .i8 x257000_1, .int .i8 x257001_1, .int .i8 x257002_1, .int .i8 x257003_1, .int .i8 x257004_1, .int .i8 x257005_1, .int .i8 x257006_1, .int .i8 x257007_1, .int .i8 x257008_1, .int .i8 x257009_1, .int .i8 x257010_1, .int .i8 x257011_1, .int .i8 x257012_1, .int .i8 x257013_1] 96 (0, 0))) ∧ ze (Below w.heap.size w w'))
 case atStart => exact ⟨(0), (0), (0), (0), (0), (0), (0), (0), (0), (0), (0), (0), (0), (0), (0), (by first | rfl | (simp; done) | (simp [*]; done)), H', ⟨Nat.le_refl _⟩, ⟨by (with_reducible repeat (first | refine zb ?_ _ | refine zd ?_ | refine za ?_ _)); refine zq ?_ NB0_256.out _; (with_reducible repeat (first | refine zb ?_ _ | refine zd ?_ | refine za ?_ _)); refine zq ?_ NB0_256.out _; (with_reducible repeat (first | refine zb ?_ _ | refine zd ?_ | refine za ?_ _)); refine zq ?_ NB0_256.out _; (with_reducible repeat (first | refine zb ?_ _ | refine zd ?_ | refine za ?_ _)); refine zq ?_ NB0_256.out _; (with_reducible repeat (first | refine zb ?_ _ | refine zd ?_ | refine za ?_ _)); refine zq ?_ NB0_256.out _; (with_reducible repeat (first | refine zb ?_ _ | refine zd ?_ | refine za ?_ _)); refine zq ?_ NB0_256.out _; (with_reducible repeat (first | refine zb ?_ _ | refine zd ?_ | refine za ?_ _)); refine zq ?_ NB0_256.out _; (with_reducible repeat (first | refine zb ?_ _ | refine zd ?_ | refine za ?_ _)); refine zq ?_ NB0_256.out _; (with_reducible repeat (first | refine zb ?_ _ | refine zd ?_ | refine za ?_ _)); refine zq ?_ NB0_256.out _; (with_reducible repeat (first | refine zb ?_ _ | refine zd ?_ | refine za ?_ _)); refine zq ?_ NB0_256.out _; (with_reducible repeat (first | refine zb ?_ _ | refine zd ?_ | refine za ?_ _)); refine zq ?_ NB0_256.out _; (with_reducible repeat (first | refine zb ?_ _ | refine zd ?_ | refine za ?_ _)); refine zq ?_ NB0_256.out _; (with_reducible repeat (first | refine zb ?_ _ | refine zd ?_ | refine za ?_ _)); refine zq ?_ NB0_256.out _; (with_reducible repeat (first | refine zb ?_ _ | refine zd ?_ | refine za ?_ _)); refine zq ?_ NB0_256.out _; (with_reducible repeat (first | refine zb ?_ _ | refine zd ?_ | refine za ?_ _)); exact BK0.out⟩, ⟨by (with_reducible repeat (first | refine zb ?_ _ | refine zd ?_ | refine za ?_ _)); refine zq ?_ NB255_256.out _; (with_reducible repeat (first | refine zb ?_ _ | refine zd ?_ | refine za ?_ _)); refine zq ?_ NB255_256.out _; (with_reducible repeat (first | refine zb ?_ _ | refine zd ?_ | refine za ?_ _)); refine zq ?_ NB255_256.out _; (with_reducible repeat (first | refine zb ?_ _ | refine zd ?_ | refine za ?_ _)); refine zq ?_ NB255_256.out _; (with_reducible repeat (first | refine zb ?_ _ | refine zd ?_ | refine za ?_ _)); refine zq ?_ NB255_256.out _; (with_reducible repeat (first | refine zb ?_ _ | refine zd ?_ | refine za ?_ _)); refine zq ?_ NB255_256.out _; (with_reducible repeat (first | refine zb ?_ _ | refine zd ?_ | refine za ?_ _)); refine zq ?_ NB255_256.out _; (with_reducible repeat (first | refine zb ?_ _ | refine zd ?_ | refine za ?_ _)); refine zq ?_ NB255_256.out _; (with_reducible repeat (first | refine zb ?_ _ | refine zd ?_ | refine za ?_ _)); refine zq ?_ NB255_256.out _; (with_reducible repeat (first | refine zb ?_ _ | refine zd ?_ | refine za ?_ _)); refine zq ?_ NB255_256.out _; (with_reducible repeat (first | refine zb ?_ _ | refine zd ?_ | refine za ?_ _)); refine zq ?_ NB255_256.out _; (with_reducible repeat (first | refine zb ?_ _ | refine zd ?_ | refine za ?_ _)); refine zq ?_ NB255_256.out _; (with_reducible repeat (first | refine zb ?_ _ | refine zd ?_ | refine za ?_ _)); refine zq ?_ NB255_256.out _; (with_reducible repeat (first | refine zb ?_ _ | refine zd ?_ | refine za ?_ _)); refine zq ?_ NB255_256.out _; (with_reducible repeat (first | refine zb ?_ _ | refine zd ?_ | refine za ?_ _)); exact BK255.out⟩, ⟨by (with_reducible repeat (first | refine zb ?_ _ | refine zd ?_ | refine za ?_ _)); refine zp (cs := #[.int .i8 0, .int .i8 0, .int .i8 0, .int .i8 0, .int .i8 0, .int .i8 0, .int .i8 0, .int .i8 0, .int .i8 0, .int .i8 0, .int .i8 0, .int .i8 0, .int .i8 0, .int .i8 0]) ?_ 13 _ rfl; (with_reducible repeat (first | refine zb ?_ _ | refine zd ?_ | refine za ?_ _)); refine zp (cs := #[.int .i8 0, .int .i8 0, .int .i8 0, .int .i8 0, .int .i8 0, .int .i8 0, .int .i8 0, .int .i8 0, .int .i8 0, .int .i8 0, .int .i8 0, .int .i8 0, .int .i8 0, .int .i8 0]) ?_ 12 _ rfl; (with_reducible repeat (first | refine zb ?_ _ | refine zd ?_ | refine za ?_ _)); refine zp (cs := #[.int .i8 0, .int .i8 0, .int .i8 0, .int .i8 0, .int .i8 0, .int .i8 0, .int .i8 0, .int .i8 0, .int .i8 0, .int .i8 0, .int .i8 0, .int .i8 0, .int .i8 0, .int .i8 0]) ?_ 11 _ rfl; (with_reducible repeat (first | refine zb ?_ _ | refine zd ?_ | refine za ?_ _)); refine zp (cs := #[.int .i8 0, .int .i8 0, .int .i8 0, .int .i8 0, .int .i8 0, .int .i8 0, .int .i8 0, .int .i8 0, .int .i8 0, .int .i8 0, .int .i8 0, .int .i8 0, .int .i8 0, .int .i8 0]) ?_ 10 _ rfl; (with_reducible repeat (first | refine zb ?_ _ | refine zd ?_ | refine za ?_ _)); refine zp (cs := #[.int .i8 0, .int .i8 0, .int .i8 0, .int .i8 0, .int .i8 0, .int .i8 0, .int .i8 0, .int .i8 0, .int .i8 0, .int .i8 0, .int .i8 0, .int .i8 0, .int .i8 0, .int .i8 0]) ?_ 9 _ rfl; (with_reducible repeat (first | refine zb ?_ _ | refine zd ?_ | refine za ?_ _)); refine zp (cs := #[.int .i8 0, .int .i8 0, .int .i8 0, .int .i8 0, .int .i8 0, .int .i8 0, .int .i8 0, .int .i8 0, .int .i8 0, .int .i8 0, .int .i8 0, .int .i8 0, .int .i8 0, .int .i8 0]) ?_ 8 _ rfl; (with_reducible repeat (first | refine zb ?_ _ | refine zd ?_ | refine za ?_ _)); refine zp (cs := #[.int .i8 0, .int .i8 0, .int .i8 0, .int .i8 0, .int .i8 0, .int .i8 0, .int .i8 0, .int .i8 0, .int .i8 0, .int .i8 0, .int .i8 0, .int .i8 0, .int .i8 0, .int .i8 0]) ?_ 7 _ rfl; (with_reducible repeat (first | refine zb ?_ _ | refine zd ?_ | refine za ?_ _)); refine zp (cs := #[.int .i8 0, .int .i8 0, .int .i8 0, .int .i8 0, .int .i8 0, .int .i8 0, .int .i8 0, .int .i8 0, .int .i8 0, .int .i8 0, .int .i8 0, .int .i8 0, .int .i8 0, .int .i8 0]) ?_ 6 _ rfl; (with_reducible repeat (first | refine zb ?_ _ | refine zd ?_ | refine za ?_ _)); refine zp (cs := #[.int .i8 0, .int .i8 0, .int .i8 0, .int .i8 0, .int .i8 0, .int .i8 0, .int .i8 0, .int .i8 0, .int .i8 0, .int .i8 0, .int .i8 0, .int .i8 0, .int .i8 0, .int .i8 0]) ?_ 5 _ rfl; (with_reducible repeat (first | refine zb ?_ _ | refine zd ?_ | refine za ?_ _)); refine zp (cs := #[.int .i8 0, .int .i8 0, .int .i8 0, .int .i8 0, .int .i8 0, .int .i8 0, .int .i8 0, .int .i8 0, .int .i8 0, .int .i8 0, .int .i8 0, .int .i8 0, .int .i8 0, .int .i8 0]) ?_ 4 _ rfl; (with_reducible repeat (first | refine zb ?_ _ | refine zd ?_ | refine za ?_ _)); refine zp (cs := #[.int .i8 0, .int .i8 0, .int .i8 0, .int .i8 0, .int .i8 0, .int .i8 0, .int .i8 0, .int .i8 0, .int .i8 0, .int .i8 0, .int .i8 0, .int .i8 0, .int .i8 0, .int .i8 0]) ?_ 3 _ rfl; (with_reducible repeat (first | refine zb ?_ _ | refine zd ?_ | refine za ?_ _)); refine zp (cs := #[.int .i8 0, .int .i8 0, .int .i8 0, .int .i8 0, .int .i8 0, .int .i8 0, .int .i8 0, .int .i8 0, .int .i8 0, .int .i8 0, .int .i8 0, .int .i8 0, .int .i8 0, .int .i8 0]) ?_ 2 _ rfl; (with_reducible repeat (first | refine zb ?_ _ | refine zd ?_ | refine za ?_ _)); refine zp (cs := #[.int .i8 0, .int .i8 0, .int .i8 0, .int .i8 0, .int .i8 0, .int .i8 0, .int .i8 0, .int .i8 0, .int .i8 0, .int .i8 0, .int .i8 0, .int .i8 0, .int .i8 0, .int .i8 0]) ?_ 1 _ rfl; (with_reducible repeat (first | refine zb ?_ _ | refine zd ?_ | refine za ?_ _)); refine zp (cs := #[.int .i8 0, .int .i8 0, .int .i8 0, .int .i8 0, .int .i8 0, .int .i8 0, .int .i8 0, .int .i8 0, .int .i8 0, .int .i8 0, .int .i8 0, .int .i8 0, .int .i8 0, .int .i8 0]) ?_ 0 _ rfl; (with_reducible repeat (first | refine zb ?_ _ | refine zd ?_ | refine za ?_ _)); exact BK256.out⟩, ⟨by repeat (first | (with_reducible first | exact HB.out | apply zg | apply zc | apply zf | refine zi ?_ GE255.out | refine zi ?_ GE256.out) | exact HB.out)⟩⟩
 case round =>
  clear H'
  try clear p2
  try clear c5
  try clear c6
  try clear c7
  try clear y1_0 y1_1 y1_10 y1_11 y1_12 y1_13 y1_2 y1_3 y1_4 y1_5 y1_6 y1_7 y1_8 y1_9
  try clear z1_0 z1_1 z1_10 z1_11 z1_12 z1_13 z1_2 z1_3 z1_4 z1_5 z1_6 z1_7 z1_8 z1_9
  obtain ⟨x6_1, x257000_1, x257001_1, x257002_1, x257003_1, x257004_1, x257005_1, x257006_1, x257007_1, x257008_1, x257009_1, x257010_1, x257011_1, x257012_1, x257013_1, rfl, HA, HK1, BK0, BK255, BK256, HB⟩ := hrel
  cases gk with
  | zero => exact absurd HA.out (by simp [spec_l04Pans.l0])
  | succ k1 =>
   have H := HA.out
   clear HA
   simp only [spec_l04Pans.l0] at H
   by_cases c8 : x6_1 < (l0_2.length : Int)
   ·rw [if_pos c8] at H
    have c8b0 : decide (x6_1 < (l0_2.length : Int)) = true := decide_eq_true c8
    clear c8
    by_cases c9 : 0 ≤ x6_1
    ·rw [if_pos c9] at H
     have c9b0 : decide (0 ≤ x6_1) = true := decide_eq_true c9
     clear c9
     by_cases c10 : 0 ≤ a1
     ·rw [if_pos c10] at H
      have c10b0 : decide (0 ≤ a1) = true := decide_eq_true c10
      clear c10
      by_cases c11 : a1 < 4
      ·rw [if_pos c11] at H
       have c11b0 : decide (a1 < 4) = true := decide_eq_true c11
       clear c11
       by_cases c12 : x6_1 < 14
       ·rw [if_pos c12] at H
        have c12b0 : decide (x6_1 < 14) = true := decide_eq_true c12
        clear c12
        have H' := ze.mk H
        clear H
        have hnb13 := NB0_255.out
        have hnc13 := NB255_0.out
        have hnb14 := NB0_256.out
        have hnc14 := NB256_0.out
        obtain ⟨y2_0, y2_1, y2_2, z2_0, z2_1, z2_2⟩ := cf3 BK0.out
        have p257 : 0 ≤ (x6_1 : Int) := od (by first | (with_reducible assumption) | assumption)
        have q257 : x6_1 < (l0_2.length : Int) := od (by first | (with_reducible assumption) | assumption)
        obtain ⟨ad257, e257, u1_0, u1_1, u1_2, u1_3⟩ := zoe HB.out HR0_2.out x6_1 p257 q257
        cases e257
        replace p257 := eq_true p257
        replace q257 := eq_true q257
        have u2_0 : wr.cell? ((ad257.add ((x6_1).toNat * 4)).add (a1).toNat) = some (.int .i8 (rd [(zj l0_2 x6_1).f0, (zj l0_2 x6_1).f1, (zj l0_2 x6_1).f2, (zj l0_2 x6_1).f3] a1)) := by rcases (show (a1 : Int) = 0 ∨ (a1 : Int) = 1 ∨ (a1 : Int) = 2 ∨ (a1 : Int) = 3 by have hp_ : 0 ≤ (a1 : Int) := od (by first | (with_reducible assumption) | assumption); have hq_ : a1 < (4 : Int) := od (by first | (with_reducible assumption) | assumption); omega) with h_ | h_ | h_ | h_ <;> rw [h_] <;> first | exact u1_0 | exact u1_1 | exact u1_2 | exact u1_3
        have p16 : 0 ≤ (a1 : Int) := od (by first | (with_reducible assumption) | assumption)
        have q16 : a1 < (4 : Int) := od (by first | (with_reducible assumption) | assumption)
        replace p16 := eq_true p16
        replace q16 := eq_true q16
        have p17 : 0 ≤ (x6_1 : Int) := od (by first | (with_reducible assumption) | assumption)
        have q17 : x6_1 < (14 : Int) := od (by first | (with_reducible assumption) | assumption)
        replace p17 := eq_true p17
        replace q17 := eq_true q17
        have hnb18 := NB256_255.out
        have hnc18 := NB255_256.out
        obtain ⟨y3_0, y3_1, y3_2, y3_3, y3_4, y3_5, y3_6, y3_7, y3_8, y3_9, y3_10, y3_11, y3_12, y3_13, z3_0, z3_1, z3_2, z3_3, z3_4, z3_5, z3_6, z3_7, z3_8, z3_9, z3_10, z3_11, z3_12, z3_13⟩ := cf14 BK256.out
        go_wp2_with (first | ((with_reducible refine zja (t := 25) (p := 27) rfl ?_); have u3_0 : wr.cell? ⟨gb256, (x6_1).toNat, none⟩ = some (.int .i8 (rd [x257000_1, x257001_1, x257002_1, x257003_1, x257004_1, x257005_1, x257006_1, x257007_1, x257008_1, x257009_1, x257010_1, x257011_1, x257012_1, x257013_1] x6_1)) := (zo BK256.out _).trans (by rcases (is14 (j := x6_1) (od (by first | (with_reducible assumption) | assumption)) (od (by first | (with_reducible assumption) | assumption))) with h_ | h_ | h_ | h_ | h_ | h_ | h_ | h_ | h_ | h_ | h_ | h_ | h_ | h_ <;> rw [h_] <;> rfl); have z4_0 := zw BK256.out ((x6_1).toNat); refine zia (t := 25) (p := 27) (v := ?vo_w21) (w1 := (wr.setCell ⟨gb256, (x6_1).toNat, none⟩ (.int .i8 (rd [(zj l0_2 x6_1).f0, (zj l0_2 x6_1).f1, (zj l0_2 x6_1).f2, (zj l0_2 x6_1).f3] a1)))) ?hg ?ho ?hn ?hr ?_; (case ho => rfl); (case hg => rfl); (case hn => rfl); (case hr => first | (go_simp; done) | (go_simp; rfl)); intro w21 hw; have n0_ : ze (w21.heap[g0]? = some (.cells #[.int .i8 a0_0, .int .i8 a0_1, .slice (some ad257) l0_2.length c0_2] 28 (0, 0))) := ⟨(by rw [hw]; exact (by (with_reducible repeat (first | refine zb ?_ _ | refine zd ?_ | refine za ?_ _)); refine zq ?_ NB0_256.out _; (with_reducible repeat (first | refine zb ?_ _ | refine zd ?_ | refine za ?_ _)); exact BK0.out))⟩; have n1_ : ze (w21.heap[gb255]? = some (.cells #[.int .i8 0, .int .i8 0, .int .i8 0, .int .i8 0, .int .i8 0, .int .i8 0, .int .i8 0, .int .i8 0, .int .i8 0, .int .i8 0, .int .i8 0, .int .i8 0, .int .i8 0, .int .i8 0] 96 (0, 0))) := ⟨(by rw [hw]; exact (by (with_reducible repeat (first | refine zb ?_ _ | refine zd ?_ | refine za ?_ _)); refine zq ?_ NB255_256.out _; (with_reducible repeat (first | refine zb ?_ _ | refine zd ?_ | refine za ?_ _)); exact BK255.out))⟩; have n2_ : ze (w21.heap[gb256]? = some (.cells #[.int .i8 (zv x6_1 0 (rd [(zj l0_2 x6_1).f0, (zj l0_2 x6_1).f1, (zj l0_2 x6_1).f2, (zj l0_2 x6_1).f3] a1) x257000_1), .int .i8 (zv x6_1 1 (rd [(zj l0_2 x6_1).f0, (zj l0_2 x6_1).f1, (zj l0_2 x6_1).f2, (zj l0_2 x6_1).f3] a1) x257001_1), .int .i8 (zv x6_1 2 (rd [(zj l0_2 x6_1).f0, (zj l0_2 x6_1).f1, (zj l0_2 x6_1).f2, (zj l0_2 x6_1).f3] a1) x257002_1), .int .i8 (zv x6_1 3 (rd [(zj l0_2 x6_1).f0, (zj l0_2 x6_1).f1, (zj l0_2 x6_1).f2, (zj l0_2 x6_1).f3] a1) x257003_1), .int .i8 (zv x6_1 4 (rd [(zj l0_2 x6_1).f0, (zj l0_2 x6_1).f1, (zj l0_2 x6_1).f2, (zj l0_2 x6_1).f3] a1) x257004_1), .int .i8 (zv x6_1 5 (rd [(zj l0_2 x6_1).f0, (zj l0_2 x6_1).f1, (zj l0_2 x6_1).f2, (zj l0_2 x6_1).f3] a1) x257005_1), .int .i8 (zv x6_1 6 (rd [(zj l0_2 x6_1).f0, (zj l0_2 x6_1).f1, (zj l0_2 x6_1).f2, (zj l0_2 x6_1).f3] a1) x257006_1), .int .i8 (zv x6_1 7 (rd [(zj l0_2 x6_1).f0, (zj l0_2 x6_1).f1, (zj l0_2 x6_1).f2, (zj l0_2 x6_1).f3] a1) x257007_1), .int .i8 (zv x6_1 8 (rd [(zj l0_2 x6_1).f0, (zj l0_2 x6_1).f1, (zj l0_2 x6_1).f2, (zj l0_2 x6_1).f3] a1) x257008_1), .int .i8 (zv x6_1 9 (rd [(zj l0_2 x6_1).f0, (zj l0_2 x6_1).f1, (zj l0_2 x6_1).f2, (zj l0_2 x6_1).f3] a1) x257009_1), .int .i8 (zv x6_1 10 (rd [(zj l0_2 x6_1).f0, (zj l0_2 x6_1).f1, (zj l0_2 x6_1).f2, (zj l0_2 x6_1).f3] a1) x257010_1), .int .i8 (zv x6_1 11 (rd [(zj l0_2 x6_1).f0, (zj l0_2 x6_1).f1, (zj l0_2 x6_1).f2, (zj l0_2 x6_1).f3] a1) x257011_1), .int .i8 (zv x6_1 12 (rd [(zj l0_2 x6_1).f0, (zj l0_2 x6_1).f1, (zj l0_2 x6_1).f2, (zj l0_2 x6_1).f3] a1) x257012_1), .int .i8 (zv x6_1 13 (rd [(zj l0_2 x6_1).f0, (zj l0_2 x6_1).f1, (zj l0_2 x6_1).f2, (zj l0_2 x6_1).f3] a1) x257013_1)] 96 (0, 0))) := ⟨(by rw [hw]; exact (by (with_reducible repeat (first | refine zb ?_ _ | refine zd ?_ | refine za ?_ _)); refine zp (cs := #[.int .i8 x257000_1, .int .i8 x257001_1, .int .i8 x257002_1, .int .i8 x257003_1, .int .i8 x257004_1, .int .i8 x257005_1, .int .i8 x257006_1, .int .i8 x257007_1, .int .i8 x257008_1, .int .i8 x257009_1, .int .i8 x257010_1, .int .i8 x257011_1, .int .i8 x257012_1, .int .i8 x257013_1]) ?_ ((x6_1).toNat) _ (by rcases (is14 (j := x6_1) (od (by first | (with_reducible assumption) | assumption)) (od (by first | (with_reducible assumption) | assumption))) with h_ | h_ | h_ | h_ | h_ | h_ | h_ | h_ | h_ | h_ | h_ | h_ | h_ | h_ <;> rw [h_] <;> rfl); (with_reducible repeat (first | refine zb ?_ _ | refine zd ?_ | refine za ?_ _)); exact BK256.out))⟩; have n3_ : ze (Below w.heap.size w w21) := ⟨(by rw [hw]; exact (by repeat (first | (with_reducible first | exact HB.out | apply zg | apply zc | apply zf | refine zi ?_ GE255.out | refine zi ?_ GE256.out) | exact HB.out)))⟩; clear hw; clear BK0; clear BK255; clear BK256; clear HB; have BK0 := n0_; have BK255 := n1_; have BK256 := n2_; have HB := n3_; clear n0_ n1_ n2_ n3_))
        go_roundg k1
        case measure => have := HK1.out; omega
        case rel => exact ⟨(wrap64 (x6_1 + 1)), ((zv x6_1 0 (rd [(zj l0_2 x6_1).f0, (zj l0_2 x6_1).f1, (zj l0_2 x6_1).f2, (zj l0_2 x6_1).f3] a1) x257000_1)), ((zv x6_1 1 (rd [(zj l0_2 x6_1).f0, (zj l0_2 x6_1).f1, (zj l0_2 x6_1).f2, (zj l0_2 x6_1).f3] a1) x257001_1)), ((zv x6_1 2 (rd [(zj l0_2 x6_1).f0, (zj l0_2 x6_1).f1, (zj l0_2 x6_1).f2, (zj l0_2 x6_1).f3] a1) x257002_1)), ((zv x6_1 3 (rd [(zj l0_2 x6_1).f0, (zj l0_2 x6_1).f1, (zj l0_2 x6_1).f2, (zj l0_2 x6_1).f3] a1) x257003_1)), ((zv x6_1 4 (rd [(zj l0_2 x6_1).f0, (zj l0_2 x6_1).f1, (zj l0_2 x6_1).f2, (zj l0_2 x6_1).f3] a1) x257004_1)), ((zv x6_1 5 (rd [(zj l0_2 x6_1).f0, (zj l0_2 x6_1).f1, (zj l0_2 x6_1).f2, (zj l0_2 x6_1).f3] a1) x257005_1)), ((zv x6_1 6 (rd [(zj l0_2 x6_1).f0, (zj l0_2 x6_1).f1, (zj l0_2 x6_1).f2, (zj l0_2 x6_1).f3] a1) x257006_1)), ((zv x6_1 7 (rd [(zj l0_2 x6_1).f0, (zj l0_2 x6_1).f1, (zj l0_2 x6_1).f2, (zj l0_2 x6_1).f3] a1) x257007_1)), ((zv x6_1 8 (rd [(zj l0_2 x6_1).f0, (zj l0_2 x6_1).f1, (zj l0_2 x6_1).f2, (zj l0_2 x6_1).f3] a1) x257008_1)), ((zv x6_1 9 (rd [(zj l0_2 x6_1).f0, (zj l0_2 x6_1).f1, (zj l0_2 x6_1).f2, (zj l0_2 x6_1).f3] a1) x257009_1)), ((zv x6_1 10 (rd [(zj l0_2 x6_1).f0, (zj l0_2 x6_1).f1, (zj l0_2 x6_1).f2, (zj l0_2 x6_1).f3] a1) x257010_1)), ((zv x6_1 11 (rd [(zj l0_2 x6_1).f0, (zj l0_2 x6_1).f1, (zj l0_2 x6_1).f2, (zj l0_2 x6_1).f3] a1) x257011_1)), ((zv x6_1 12 (rd [(zj l0_2 x6_1).f0, (zj l0_2 x6_1).f1, (zj l0_2 x6_1).f2, (zj l0_2 x6_1).f3] a1) x257012_1)), ((zv x6_1 13 (rd [(zj l0_2 x6_1).f0, (zj l0_2 x6_1).f1, (zj l0_2 x6_1).f2, (zj l0_2 x6_1).f3] a1) x257013_1)), (by first | rfl | (simp; done) | (simp [*]; done)), H', ⟨by have := HK1.out; omega⟩, ⟨by (with_reducible repeat (first | refine zb ?_ _ | refine zd ?_ | refine za ?_ _)); exact BK0.out⟩, ⟨by (with_reducible repeat (first | refine zb ?_ _ | refine zd ?_ | refine za ?_ _)); exact BK255.out⟩, ⟨by (with_reducible repeat (first | refine zb ?_ _ | refine zd ?_ | refine za ?_ _)); exact BK256.out⟩, ⟨by repeat (first | (with_reducible first | exact HB.out | apply zg | apply zc | apply zf | refine zi ?_ GE255.out | refine zi ?_ GE256.out) | exact HB.out)⟩⟩
       rw [if_neg c12] at H
       exact absurd H (by simp)
      rw [if_neg c11] at H
      exact absurd H (by simp)
     rw [if_neg c10] at H
     exact absurd H (by simp)
    rw [if_neg c9] at H
    exact absurd H (by simp)
   rw [if_neg c8] at H
   have c8b0 : decide (x6_1 < (l0_2.length : Int)) = false := decide_eq_false c8
   clear c8
   simp only [Option.some.injEq, Prod.mk.injEq] at H
   obtain ⟨rfl, rfl, rfl, rfl, rfl, rfl, rfl, rfl, rfl, rfl, rfl, rfl, rfl, rfl⟩ := H
   have hnb22 := NB0_255.out
   have hnc22 := NB255_0.out
   have hnb23 := NB0_256.out
   have hnc23 := NB256_0.out
   obtain ⟨y4_0, y4_1, y4_2, z5_0, z5_1, z5_2⟩ := cf3 BK0.out
   have hnb25 := NB256_255.out
   have hnc25 := NB255_256.out
   obtain ⟨y5_0, y5_1, y5_2, y5_3, y5_4, y5_5, y5_6, y5_7, y5_8, y5_9, y5_10, y5_11, y5_12, y5_13, z6_0, z6_1, z6_2, z6_3, z6_4, z6_5, z6_6, z6_7, z6_8, z6_9, z6_10, z6_11, z6_12, z6_13⟩ := cf14 BK256.out
   obtain ⟨y6_0, y6_1, y6_2, y6_3, y6_4, y6_5, y6_6, y6_7, y6_8, y6_9, y6_10, y6_11, y6_12, y6_13, z7_0, z7_1, z7_2, z7_3, z7_4, z7_5, z7_6, z7_7, z7_8, z7_9, z7_10, z7_11, z7_12, z7_13⟩ := cf14 BK255.out
   go_wp2
   refine bodyPost_ret (results_cell_row rfl _ _ gb255 96 #[.int .i8 x257000_1, .int .i8 x257001_1, .int .i8 x257002_1, .int .i8 x257003_1, .int .i8 x257004_1, .int .i8 x257005_1, .int .i8 x257006_1, .int .i8 x257007_1, .int .i8 x257008_1, .int .i8 x257009_1, .int .i8 x257010_1, .int .i8 x257011_1, .int .i8 x257012_1, .int .i8 x257013_1] (0, 0) _ rfl (by (with_reducible repeat (first | refine zb ?_ _ | refine zd ?_ | refine za ?_ _)); refine zp (cs := #[.int .i8 x257000_1, .int .i8 x257001_1, .int .i8 x257002_1, .int .i8 x257003_1, .int .i8 x257004_1, .int .i8 x257005_1, .int .i8 x257006_1, .int .i8 x257007_1, .int .i8 x257008_1, .int .i8 x257009_1, .int .i8 x257010_1, .int .i8 x257011_1, .int .i8 x257012_1, .int .i8 0]) ?_ 13 _ rfl; (with_reducible repeat (first | refine zb ?_ _ | refine zd ?_ | refine za ?_ _)); refine zp (cs := #[.int .i8 x257000_1, .int .i8 x257001_1, .int .i8 x257002_1, .int .i8 x257003_1, .int .i8 x257004_1, .int .i8 x257005_1, .int .i8 x257006_1, .int .i8 x257007_1, .int .i8 x257008_1, .int .i8 x257009_1, .int .i8 x257010_1, .int .i8 x257011_1, .int .i8 0, .int .i8 0]) ?_ 12 _ rfl; (with_reducible repeat (first | refine zb ?_ _ | refine zd ?_ | refine za ?_ _)); refine zp (cs := #[.int .i8 x257000_1, .int .i8 x257001_1, .int .i8 x257002_1, .int .i8 x257003_1, .int .i8 x257004_1, .int .i8 x257005_1, .int .i8 x257006_1, .int .i8 x257007_1, .int .i8 x257008_1, .int .i8 x257009_1, .int .i8 x257010_1, .int .i8 0, .int .i8 0, .int .i8 0]) ?_ 11 _ rfl; (with_reducible repeat (first | refine zb ?_ _ | refine zd ?_ | refine za ?_ _)); refine zp (cs := #[.int .i8 x257000_1, .int .i8 x257001_1, .int .i8 x257002_1, .int .i8 x257003_1, .int .i8 x257004_1, .int .i8 x257005_1, .int .i8 x257006_1, .int .i8 x257007_1, .int .i8 x257008_1, .int .i8 x257009_1, .int .i8 0, .int .i8 0, .int .i8 0, .int .i8 0]) ?_ 10 _ rfl; (with_reducible repeat (first | refine zb ?_ _ | refine zd ?_ | refine za ?_ _)); refine zp (cs := #[.int .i8 x257000_1, .int .i8 x257001_1, .int .i8 x257002_1, .int .i8 x257003_1, .int .i8 x257004_1, .int .i8 x257005_1, .int .i8 x257006_1, .int .i8 x257007_1, .int .i8 x257008_1, .int .i8 0, .int .i8 0, .int .i8 0, .int .i8 0, .int .i8 0]) ?_ 9 _ rfl; (with_reducible repeat (first | refine zb ?_ _ | refine zd ?_ | refine za ?_ _)); refine zp (cs := #[.int .i8 x257000_1, .int .i8 x257001_1, .int .i8 x257002_1, .int .i8 x257003_1, .int .i8 x257004_1, .int .i8 x257005_1, .int .i8 x257006_1, .int .i8 x257007_1, .int .i8 0, .int .i8 0, .int .i8 0, .int .i8 0, .int .i8 0, .int .i8 0]) ?_ 8 _ rfl; (with_reducible repeat (first | refine zb ?_ _ | refine zd ?_ | refine za ?_ _)); refine zp (cs := #[.int .i8 x257000_1, .int .i8 x257001_1, .int .i8 x257002_1, .int .i8 x257003_1, .int .i8 x257004_1, .int .i8 x257005_1, .int .i8 x257006_1, .int .i8 0, .int .i8 0, .int .i8 0, .int .i8 0, .int .i8 0, .int .i8 0, .int .i8 0]) ?_ 7 _ rfl; (with_reducible repeat (first | refine zb ?_ _ | refine zd ?_ | refine za ?_ _)); refine zp (cs := #[.int .i8 x257000_1, .int .i8 x257001_1, .int .i8 x257002_1, .int .i8 x257003_1, .int .i8 x257004_1, .int .i8 x257005_1, .int .i8 0, .int .i8 0, .int .i8 0, .int .i8 0, .int .i8 0, .int .i8 0, .int .i8 0, .int .i8 0]) ?_ 6 _ rfl; (with_reducible repeat (first | refine zb ?_ _ | refine zd ?_ | refine za ?_ _)); refine zp (cs := #[.int .i8 x257000_1, .int .i8 x257001_1, .int .i8 x257002_1, .int .i8 x257003_1, .int .i8 x257004_1, .int .i8 0, .int .i8 0, .int .i8 0, .int .i8 0, .int .i8 0, .int .i8 0, .int .i8 0, .int .i8 0, .int .i8 0]) ?_ 5 _ rfl; (with_reducible repeat (first | refine zb ?_ _ | refine zd ?_ | refine za ?_ _)); refine zp (cs := #[.int .i8 x257000_1, .int .i8 x257001_1, .int .i8 x257002_1, .int .i8 x257003_1, .int .i8 0, .int .i8 0, .int .i8 0, .int .i8 0, .int .i8 0, .int .i8 0, .int .i8 0, .int .i8 0, .int .i8 0, .int .i8 0]) ?_ 4 _ rfl; (with_reducible repeat (first | refine zb ?_ _ | refine zd ?_ | refine za ?_ _)); refine zp (cs := #[.int .i8 x257000_1, .int .i8 x257001_1, .int .i8 x257002_1, .int .i8 0, .int .i8 0, .int .i8 0, .int .i8 0, .int .i8 0, .int .i8 0, .int .i8 0, .int .i8 0, .int .i8 0, .int .i8 0, .int .i8 0]) ?_ 3 _ rfl; (with_reducible repeat (first | refine zb ?_ _ | refine zd ?_ | refine za ?_ _)); refine zp (cs := #[.int .i8 x257000_1, .int .i8 x257001_1, .int .i8 0, .int .i8 0, .int .i8 0, .int .i8 0, .int .i8 0, .int .i8 0, .int .i8 0, .int .i8 0, .int .i8 0, .int .i8 0, .int .i8 0, .int .i8 0]) ?_ 2 _ rfl; (with_reducible repeat (first | refine zb ?_ _ | refine zd ?_ | refine za ?_ _)); refine zp (cs := #[.int .i8 x257000_1, .int .i8 0, .int .i8 0, .int .i8 0, .int .i8 0, .int .i8 0, .int .i8 0, .int .i8 0, .int .i8 0, .int .i8 0, .int .i8 0, .int .i8 0, .int .i8 0, .int .i8 0]) ?_ 1 _ rfl; (with_reducible repeat (first | refine zb ?_ _ | refine zd ?_ | refine za ?_ _)); refine zp (cs := #[.int .i8 0, .int .i8 0, .int .i8 0, .int .i8 0, .int .i8 0, .int .i8 0, .int .i8 0, .int .i8 0, .int .i8 0, .int .i8 0, .int .i8 0, .int .i8 0, .int .i8 0, .int .i8 0]) ?_ 0 _ rfl; (with_reducible repeat (first | refine zb ?_ _ | refine zd ?_ | refine za ?_ _)); exact BK255.out) Try.underlying96 rfl (by kernel_rfl)) rfl ?_
   exact ⟨by first | rfl | (simp [zn, zm] <;> rfl) | (simp [*, zn, zm] <;> rfl), by repeat (first | (with_reducible first | exact HB.out | apply zg | apply zc | apply zf | refine zi ?_ GE255.out | refine zi ?_ GE256.out) | exact HB.out)⟩
def spec_l04Opposite.l0 : Nat → Int → Int → Int → Int → Int → Option (Int × Int × Int × Int)
 | 0, _, _, _, _, _ => none
 | k + 1, x3, x262000, x262001, x262002, x262003 => if x3 < 4 then (if 0 ≤ x3 then (spec_l04Opposite.l0 k (wrap64 (x3 + 1)) (zv x3 0 (IntKind.i8.wrap (-(rd [x262000, x262001, x262002, x262003] x3))) x262000) (zv x3 1 (IntKind.i8.wrap (-(rd [x262000, x262001, x262002, x262003] x3))) x262001) (zv x3 2 (IntKind.i8.wrap (-(rd [x262000, x262001, x262002, x262003] x3))) x262002) (zv x3 3 (IntKind.i8.wrap (-(rd [x262000, x262001, x262002, x262003] x3))) x262003)) else (none)) else (some (x262000, x262001, x262002, x262003))
def spec_l04Opposite.f (k : Nat) (a0_0 : Int) (a0_1 : Int) (a0_2 : Int) (a0_3 : Int) : Option (Int × Int × Int × Int) := spec_l04Opposite.l0 k 0 a0_0 a0_1 a0_2 a0_3
set_option maxHeartbeats 8000000 in
set_option maxRecDepth 100000 in
theorem spec_l04Opposite.calls (k : Nat) (a0_0 : Int) (a0_1 : Int) (a0_2 : Int) (a0_3 : Int) (r1 : Int) (r2 : Int) (r3 : Int) (r4 : Int) (w : World) (h : spec_l04Opposite.f k a0_0 a0_1 a0_2 a0_3 = some (r1, r2, r3, r4)) :
  Calls Try.prog 105 #[.agg #[.int .i8 a0_0, .int .i8 a0_1, .int .i8 a0_2, .int .i8 a0_3]] w fun e w' => e = .returned (.agg #[.int .i8 r1, .int .i8 r2, .int .i8 r3, .int .i8 r4]) ∧ Below w.heap.size w w' := by
 have hu43 := Try.underlying43
 have HB := ze.mk (Below.refl w.heap.size w)
 have H : (spec_l04Opposite.l0 k 0 a0_0 a0_1 a0_2 a0_3) = some (r1, r2, r3, r4) := h
 clear h
 have H' := ze.mk H
 clear H
 go_enter Try.func105, Try.ntmps105
 go_wp2_with (first | ((with_reducible refine zu (N := 1) rfl ?_); refine zr ?hg (N := 1) ?hd (cs := #[.int .i8 a0_0, .int .i8 a0_1, .int .i8 a0_2, .int .i8 a0_3]) (t := 43) ?hr ?_; (case hd => rfl); (case hg => rfl); (case hr => first | (go_simp; done) | (go_simp; rfl)); intro gb261 hg w2 hbox hb; obtain ⟨n0_, n2_⟩ := bx (by repeat (first | (with_reducible first | exact HB.out | apply zg | apply zc | apply zf) | exact HB.out)) hb hg; have n1_ := ze.mk (hbox); have n3_ := n2_; clear HB; have HB := n0_; have BK261 := n1_; have GW261 := n2_; have GE261 := n3_; clear n0_ n1_ n2_ n3_; clear hb hbox hg) | ((with_reducible refine zu (N := 2) rfl ?_); refine zr ?hg (N := 2) ?hd (cs := #[.int .i8 0, .int .i8 0, .int .i8 0, .int .i8 0]) (t := 43) ?hr ?_; (case hd => rfl); (case hg => rfl); (case hr => first | (go_simp; done) | (go_simp; rfl)); intro gb262 hg w3 hbox hb; have n0_ := ze.mk (zk (by (with_reducible repeat (first | refine zb ?_ _ | refine zd ?_ | refine za ?_ _)); exact BK261.out) hb); obtain ⟨n1_, n3_⟩ := bx (by repeat (first | (with_reducible first | exact HB.out | apply zg | apply zc | apply zf | refine zi ?_ GE261.out) | exact HB.out)) hb hg; have n2_ := ze.mk (hbox); have n4_ := n3_; have n5_ := ze.mk ((by rw [hg]; exact Nat.ne_of_lt (zba (by (with_reducible repeat (first | refine zb ?_ _ | refine zd ?_ | refine za ?_ _)); exact BK261.out)) : gb261 ≠ gb262)); have n6_ := ze.mk n5_.out.symm; clear BK261; clear HB; have BK261 := n0_; have HB := n1_; have BK262 := n2_; have GW262 := n3_; have GE262 := n4_; have NB261_262 := n5_; have NB262_261 := n6_; clear n0_ n1_ n2_ n3_ n4_ n5_ n6_; clear hb hbox hg))
 go_loopg [3] k (fun kq v3 w' => ∃ (x3_1 : Int) (x262000_1 : Int) (x262001_1 : Int) (x262002_1 : Int) (x262003_1 : Int), v3 = .int .i64 x3_1 ∧ ze (spec_l04Opposite.l0 kq x3_1 x262000_1 x262001_1 x262002_1 x262003_1 = some (r1, r2, r3, r4)) ∧ ze (kq ≤ k) ∧ ze (w'.heap[gb261]? = some (.cells #[.int .i8 x262000_1, .int .i8 x262001_1, .int .i8 x262002_1, .int .i8 x262003_1] 43 (0, 0))) ∧ ze (w'.heap[gb262]? = some (.cells #[.int .i8 0, .int .i8 0, .int .i8 0, .int .i8 0] 43 (0, 0))) ∧ ze (Below w.heap.size w w'))
 case atStart => exact ⟨(0), (a0_0), (a0_1), (a0_2), (a0_3), (by first | rfl | (simp; done) | (simp [*]; done)), H', ⟨Nat.le_refl _⟩, ⟨by (with_reducible repeat (first | refine zb ?_ _ | refine zd ?_ | refine za ?_ _)); exact BK261.out⟩, ⟨by (with_reducible repeat (first | refine zb ?_ _ | refine zd ?_ | refine za ?_ _)); exact BK262.out⟩, ⟨by repeat (first | (with_reducible first | exact HB.out | apply zg | apply zc | apply zf | refine zi ?_ GE261.out | refine zi ?_ GE262.out) | exact HB.out)⟩⟩
 case round =>
  clear H'
  try clear c1
  try clear p2
  obtain ⟨x3_1, x262000_1, x262001_1, x262002_1, x262003_1, rfl, HA, HK1, BK261, BK262, HB⟩ := hrel
  cases gk with
  | zero => exact absurd HA.out (by simp [spec_l04Opposite.l0])
  | succ k1 =>
   have H := HA.out
   clear HA
   simp only [spec_l04Opposite.l0] at H
   by_cases c4 : x3_1 < 4
   ·rw [if_pos c4] at H
    have c4b0 : decide (x3_1 < 4) = true := decide_eq_true c4
    clear c4
    by_cases c5 : 0 ≤ x3_1
    ·rw [if_pos c5] at H
     have c5b0 : decide (0 ≤ x3_1) = true := decide_eq_true c5
     clear c5
     have H' := ze.mk H
     clear H
     have p6 : 0 ≤ (x3_1 : Int) := od (by first | (with_reducible assumption) | assumption)
     have q6 : x3_1 < (4 : Int) := od (by first | (with_reducible assumption) | assumption)
     replace p6 := eq_true p6
     replace q6 := eq_true q6
     have hnb7 := NB261_262.out
     have hnc7 := NB262_261.out
     obtain ⟨y1_0, y1_1, y1_2, y1_3, z1_0, z1_1, z1_2, z1_3⟩ := cf4 BK261.out
     have u1_0 : wr.cell? ⟨gb261, (x3_1).toNat, none⟩ = some (.int .i8 (rd [x262000_1, x262001_1, x262002_1, x262003_1] x3_1)) := (zo BK261.out _).trans (by rcases (show (x3_1 : Int) = 0 ∨ (x3_1 : Int) = 1 ∨ (x3_1 : Int) = 2 ∨ (x3_1 : Int) = 3 by have hp_ : 0 ≤ (x3_1 : Int) := od (by first | (with_reducible assumption) | assumption); have hq_ : x3_1 < (4 : Int) := od (by first | (with_reducible assumption) | assumption); omega) with h_ | h_ | h_ | h_ <;> rw [h_] <;> rfl)
     have p10 : 0 ≤ (x3_1 : Int) := od (by first | (with_reducible assumption) | assumption)
     have q10 : x3_1 < (4 : Int) := od (by first | (with_reducible assumption) | assumption)
     replace p10 := eq_true p10
     replace q10 := eq_true q10
     go_wp2_with (first | ((with_reducible refine zja (t := 25) (p := 13) rfl ?_); have u2_0 : wr.cell? ⟨gb261, (x3_1).toNat, none⟩ = some (.int .i8 (rd [x262000_1, x262001_1, x262002_1, x262003_1] x3_1)) := (zo BK261.out _).trans (by rcases (show (x3_1 : Int) = 0 ∨ (x3_1 : Int) = 1 ∨ (x3_1 : Int) = 2 ∨ (x3_1 : Int) = 3 by have hp_ : 0 ≤ (x3_1 : Int) := od (by first | (with_reducible assumption) | assumption); have hq_ : x3_1 < (4 : Int) := od (by first | (with_reducible assumption) | assumption); omega) with h_ | h_ | h_ | h_ <;> rw [h_] <;> rfl); have z2_0 := zw BK261.out ((x3_1).toNat); refine zia (t := 25) (p := 13) (v := ?vo_w12) (w1 := (wr.setCell ⟨gb261, (x3_1).toNat, none⟩ (.int .i8 (IntKind.i8.wrap (-(rd [x262000_1, x262001_1, x262002_1, x262003_1] x3_1)))))) ?hg ?ho ?hn ?hr ?_; (case ho => rfl); (case hg => rfl); (case hn => rfl); (case hr => first | (go_simp; done) | (go_simp; rfl)); intro w12 hw; have n0_ : ze (w12.heap[gb261]? = some (.cells #[.int .i8 (zv x3_1 0 (IntKind.i8.wrap (-(rd [x262000_1, x262001_1, x262002_1, x262003_1] x3_1))) x262000_1), .int .i8 (zv x3_1 1 (IntKind.i8.wrap (-(rd [x262000_1, x262001_1, x262002_1, x262003_1] x3_1))) x262001_1), .int .i8 (zv x3_1 2 (IntKind.i8.wrap (-(rd [x262000_1, x262001_1, x262002_1, x262003_1] x3_1))) x262002_1), .int .i8 (zv x3_1 3 (IntKind.i8.wrap (-(rd [x262000_1, x262001_1, x262002_1, x262003_1] x3_1))) x262003_1)] 43 (0, 0))) := ⟨(by rw [hw]; exact (by (with_reducible repeat (first | refine zb ?_ _ | refine zd ?_ | refine za ?_ _)); refine zp (cs := #[.int .i8 x262000_1, .int .i8 x262001_1, .int .i8 x262002_1, .int .i8 x262003_1]) ?_ ((x3_1).toNat) _ (by rcases (show (x3_1 : Int) = 0 ∨ (x3_1 : Int) = 1 ∨ (x3_1 : Int) = 2 ∨ (x3_1 : Int) = 3 by have hp_ : 0 ≤ (x3_1 : Int) := od (by first | (with_reducible assumption) | assumption); have hq_ : x3_1 < (4 : Int) := od (by first | (with_reducible assumption) | assumption); omega) with h_ | h_ | h_ | h_ <;> rw [h_] <;> rfl); (with_reducible repeat (first | refine zb ?_ _ | refine zd ?_ | refine za ?_ _)); exact BK261.out))⟩; have n1_ : ze (w12.heap[gb262]? = some (.cells #[.int .i8 0, .int .i8 0, .int .i8 0, .int .i8 0] 43 (0, 0))) := ⟨(by rw [hw]; exact (by (with_reducible repeat (first | refine zb ?_ _ | refine zd ?_ | refine za ?_ _)); refine zq ?_ NB262_261.out _; (with_reducible repeat (first | refine zb ?_ _ | refine zd ?_ | refine za ?_ _)); exact BK262.out))⟩; have n2_ : ze (Below w.heap.size w w12) := ⟨(by rw [hw]; exact (by repeat (first | (with_reducible first | exact HB.out | apply zg | apply zc | apply zf | refine zi ?_ GE261.out | refine zi ?_ GE262.out) | exact HB.out)))⟩; clear hw; clear BK261; clear BK262; clear HB; have BK261 := n0_; have BK262 := n1_; have HB := n2_; clear n0_ n1_ n2_))
     go_roundg k1
     case measure => have := HK1.out; omega
     case rel => exact ⟨(wrap64 (x3_1 + 1)), ((zv x3_1 0 (IntKind.i8.wrap (-(rd [x262000_1, x262001_1, x262002_1, x262003_1] x3_1))) x262000_1)), ((zv x3_1 1 (IntKind.i8.wrap (-(rd [x262000_1, x262001_1, x262002_1, x262003_1] x3_1))) x262001_1)), ((zv x3_1 2 (IntKind.i8.wrap (-(rd [x262000_1, x262001_1, x262002_1, x262003_1] x3_1))) x262002_1)), ((zv x3_1 3 (IntKind.i8.wrap (-(rd [x262000_1, x262001_1, x262002_1, x262003_1] x3_1))) x262003_1)), (by first | rfl | (simp; done) | (simp [*]; done)), H', ⟨by have := HK1.out; omega⟩, ⟨by (with_reducible repeat (first | refine zb ?_ _ | refine zd ?_ | refine za ?_ _)); exact BK261.out⟩, ⟨by (with_reducible repeat (first | refine zb ?_ _ | refine zd ?_ | refine za ?_ _)); exact BK262.out⟩, ⟨by repeat (first | (with_reducible first | exact HB.out | apply zg | apply zc | apply zf | refine zi ?_ GE261.out | refine zi ?_ GE262.out) | exact HB.out)⟩⟩
    rw [if_neg c5] at H
    exact absurd H (by simp)
   rw [if_neg c4] at H
   have c4b0 : decide (x3_1 < 4) = false := decide_eq_false c4
   clear c4
   simp only [Option.some.injEq, Prod.mk.injEq] at H
   obtain ⟨rfl, rfl, rfl, rfl⟩ := H
   have hnb13 := NB261_262.out
   have hnc13 := NB262_261.out
   obtain ⟨y2_0, y2_1, y2_2, y2_3, z3_0, z3_1, z3_2, z3_3⟩ := cf4 BK261.out
   obtain ⟨y3_0, y3_1, y3_2, y3_3, z4_0, z4_1, z4_2, z4_3⟩ := cf4 BK262.out
   go_wp2
   refine bodyPost_ret (results_cell_row rfl _ _ gb262 43 #[.int .i8 x262000_1, .int .i8 x262001_1, .int .i8 x262002_1, .int .i8 x262003_1] (0, 0) _ rfl (by (with_reducible repeat (first | refine zb ?_ _ | refine zd ?_ | refine za ?_ _)); refine zp (cs := #[.int .i8 x262000_1, .int .i8 x262001_1, .int .i8 x262002_1, .int .i8 0]) ?_ 3 _ rfl; (with_reducible repeat (first | refine zb ?_ _ | refine zd ?_ | refine za ?_ _)); refine zp (cs := #[.int .i8 x262000_1, .int .i8 x262001_1, .int .i8 0, .int .i8 0]) ?_ 2 _ rfl; (with_reducible repeat (first | refine zb ?_ _ | refine zd ?_ | refine za ?_ _)); refine zp (cs := #[.int .i8 x262000_1, .int .i8 0, .int .i8 0, .int .i8 0]) ?_ 1 _ rfl; (with_reducible repeat (first | refine zb ?_ _ | refine zd ?_ | refine za ?_ _)); refine zp (cs := #[.int .i8 0, .int .i8 0, .int .i8 0, .int .i8 0]) ?_ 0 _ rfl; (with_reducible repeat (first | refine zb ?_ _ | refine zd ?_ | refine za ?_ _)); exact BK262.out) Try.underlying43 rfl (by kernel_rfl)) rfl ?_
   exact ⟨by first | rfl | (simp [zn, zm] <;> rfl) | (simp [*, zn, zm] <;> rfl), by repeat (first | (with_reducible first | exact HB.out | apply zg | apply zc | apply zf | refine zi ?_ GE261.out | refine zi ?_ GE262.out) | exact HB.out)⟩
def spec_l04Seen.f (k : Nat) (a0_0 : Int) (a0_1 : Int) (l0_2 : List (S43)) (a1_0 : Int) (a1_1 : Bool) : Option (Int × Int × Int × Int) := if a1_0 < 0 then (some (0, 0, 0, 0)) else (if a1_1 = true then (if 0 ≤ a1_0 then (if a1_0 < (l0_2.length : Int) then (some ((zj l0_2 a1_0).f0, (zj l0_2 a1_0).f1, (zj l0_2 a1_0).f2, (zj l0_2 a1_0).f3)) else (none)) else (none)) else (if 0 ≤ a1_0 then (if a1_0 < (l0_2.length : Int) then ((spec_l04Opposite.f k ((zj l0_2 a1_0).f0) ((zj l0_2 a1_0).f1) ((zj l0_2 a1_0).f2) ((zj l0_2 a1_0).f3)).bind fun bt271 => (some (bt271.1, bt271.2.1, bt271.2.2.1, bt271.2.2.2))) else (none)) else (none)))
def spec_l04Seen.T4 : Bool × List (List Nat × List Nat) := (true, [([], []), ([0], [0]), ([1], [1]), ([2], [2]), ([], []), ([4], [4]), ([3, 5], [3, 5]), ([6], [6]), ([7, 0, 1, 2, 3, 4, 5, 6, 7], [7])])
def spec_l04Seen.B4 : List Nat := [0, 1, 3, 7, 0, 16, 63, 127, 255]
theorem spec_l04Seen.tab4 : rtab .any (zqe Try.f77 4) = spec_l04Seen.T4 := by kernel_rfl
theorem spec_l04Seen.bits4 : zgb spec_l04Seen.T4.2 spec_l04Seen.B4 = true := by kernel_rfl
def spec_l04Seen.T5 : Bool × List (List Nat × List Nat) := (true, [([], []), ([0], [0]), ([1], [1]), ([2], [2]), ([], []), ([4], [4]), ([3, 5], [3, 5]), ([6], [6]), ([7], [7]), ([8, 8, 0, 1, 2, 3, 4, 5, 6, 7, 8], [8])])
def spec_l04Seen.B5 : List Nat := [0, 1, 3, 7, 0, 16, 63, 127, 255, 511]
theorem spec_l04Seen.tab5 : rtab .any (zqe Try.f77 5) = spec_l04Seen.T5 := by kernel_rfl
theorem spec_l04Seen.bits5 : zgb spec_l04Seen.T5.2 spec_l04Seen.B5 = true := by kernel_rfl
set_option maxHeartbeats 8000000 in
set_option maxRecDepth 100000 in
theorem spec_l04Seen.calls (k : Nat) (g0 : Nat) (a0_0 : Int) (a0_1 : Int) (A0_2 : Option Addr) (c0_2 : Nat) (l0_2 : List (S43)) (a1_0 : Int) (a1_1 : Bool) (r1 : Int) (r2 : Int) (r3 : Int) (r4 : Int) (w : World) (hb0 : w.heap[g0]? = some (.cells #[.int .i8 a0_0, .int .i8 a0_1, .slice A0_2 l0_2.length c0_2] 28 (0, 0))) (hr0_2 : Kd.C k43 w A0_2 l0_2.length l0_2) (hc0_2 : l0_2.length ≤ c0_2) (h : spec_l04Seen.f k a0_0 a0_1 l0_2 a1_0 a1_1 = some (r1, r2, r3, r4)) :
  Calls Try.prog 77 #[.pointer (some ⟨g0, 0, none⟩), .agg #[.int .i8 a1_0, .bool a1_1]] w fun e w' => e = .returned (.agg #[.int .i8 r1, .int .i8 r2, .int .i8 r3, .int .i8 r4]) ∧ Below w.heap.size w w' := by
 have hu38 := Try.underlying38
 have hu43 := Try.underlying43
 have HR0_2 := ze.mk hr0_2
 have HC0_2 := ze.mk hc0_2
 clear hr0_2 hc0_2
 have BK0 := ze.mk hb0
 clear hb0
 have HB := ze.mk (Below.refl w.heap.size w)
 have H : (if a1_0 < 0 then (some (0, 0, 0, 0)) else (if a1_1 = true then (if 0 ≤ a1_0 then (if a1_0 < (l0_2.length : Int) then (some ((zj l0_2 a1_0).f0, (zj l0_2 a1_0).f1, (zj l0_2 a1_0).f2, (zj l0_2 a1_0).f3)) else (none)) else (none)) else (if 0 ≤ a1_0 then (if a1_0 < (l0_2.length : Int) then ((spec_l04Opposite.f k ((zj l0_2 a1_0).f0) ((zj l0_2 a1_0).f1) ((zj l0_2 a1_0).f2) ((zj l0_2 a1_0).f3)).bind fun bt271 => (some (bt271.1, bt271.2.1, bt271.2.2.1, bt271.2.2.2))) else (none)) else (none)))) = some (r1, r2, r3, r4) := h
 clear h
 by_cases c3 : a1_0 < 0
 ·rw [if_pos c3] at H
  have c3b0 : decide (a1_0 < 0) = true := decide_eq_true c3
  clear c3
  simp only [Option.some.injEq, Prod.mk.injEq] at H
  obtain ⟨rfl, rfl, rfl, rfl⟩ := H
  go_enter Try.func77, Try.ntmps77
  go_wp2_with (first | ((with_reducible refine zu (N := 3) rfl ?_); refine zr ?hg (N := 3) ?hd (cs := #[.int .i8 a1_0, .bool a1_1]) (t := 38) ?hr ?_; (case hd => rfl); (case hg => rfl); (case hr => first | (go_simp; done) | (go_simp; rfl)); intro gb267 hg w4 hbox hb; have n0_ := ze.mk (zk (g := g0) (o := .cells #[.int .i8 a0_0, .int .i8 a0_1, .slice A0_2 l0_2.length c0_2] 28 (0, 0)) (by (with_reducible repeat (first | refine zb ?_ _ | refine zd ?_ | refine za ?_ _)); exact BK0.out) hb); obtain ⟨n1_, n3_⟩ := bx (by repeat (first | (with_reducible first | exact HB.out | apply zg | apply zc | apply zf) | exact HB.out)) hb hg; have n2_ := ze.mk (hbox); have n4_ := n3_; have n5_ := ze.mk ((by rw [hg]; exact Nat.ne_of_lt (zba (g := g0) (o := .cells #[.int .i8 a0_0, .int .i8 a0_1, .slice A0_2 l0_2.length c0_2] 28 (0, 0)) (by (with_reducible repeat (first | refine zb ?_ _ | refine zd ?_ | refine za ?_ _)); exact BK0.out)) : g0 ≠ gb267)); have n6_ := ze.mk ((by rw [hg]; exact Nat.ne_of_gt (zba (g := g0) (o := .cells #[.int .i8 a0_0, .int .i8 a0_1, .slice A0_2 l0_2.length c0_2] 28 (0, 0)) (by (with_reducible repeat (first | refine zb ?_ _ | refine zd ?_ | refine za ?_ _)); exact BK0.out)) : gb267 ≠ g0)); clear BK0; clear HB; have BK0 := n0_; have HB := n1_; have BK267 := n2_; have GW267 := n3_; have GE267 := n4_; have NB0_267 := n5_; have NB267_0 := n6_; clear n0_ n1_ n2_ n3_ n4_ n5_ n6_; clear hb hbox hg) | ((with_reducible refine zu (N := 4) rfl ?_); refine zr ?hg (N := 4) ?hd (cs := #[.int .i8 0, .int .i8 0, .int .i8 0, .int .i8 0]) (t := 43) ?hr ?_; (case hd => rfl); (case hg => rfl); (case hr => first | (go_simp; done) | (go_simp; rfl)); intro gb268 hg w5 hbox hb; have n0_ := ze.mk (zk (g := g0) (o := .cells #[.int .i8 a0_0, .int .i8 a0_1, .slice A0_2 l0_2.length c0_2] 28 (0, 0)) (by (with_reducible repeat (first | refine zb ?_ _ | refine zd ?_ | refine za ?_ _)); exact BK0.out) hb); have n1_ := ze.mk (zk (by (with_reducible repeat (first | refine zb ?_ _ | refine zd ?_ | refine za ?_ _)); exact BK267.out) hb); obtain ⟨n2_, n4_⟩ := bx (by repeat (first | (with_reducible first | exact HB.out | apply zg | apply zc | apply zf | refine zi ?_ GE267.out) | exact HB.out)) hb hg; have n3_ := ze.mk (hbox); have n5_ := n4_; have n6_ := ze.mk ((by rw [hg]; exact Nat.ne_of_lt (zba (g := g0) (o := .cells #[.int .i8 a0_0, .int .i8 a0_1, .slice A0_2 l0_2.length c0_2] 28 (0, 0)) (by (with_reducible repeat (first | refine zb ?_ _ | refine zd ?_ | refine za ?_ _)); exact BK0.out)) : g0 ≠ gb268)); have n7_ := ze.mk ((by rw [hg]; exact Nat.ne_of_gt (zba (g := g0) (o := .cells #[.int .i8 a0_0, .int .i8 a0_1, .slice A0_2 l0_2.length c0_2] 28 (0, 0)) (by (with_reducible repeat (first | refine zb ?_ _ | refine zd ?_ | refine za ?_ _)); exact BK0.out)) : gb268 ≠ g0)); have n8_ := ze.mk ((by rw [hg]; exact Nat.ne_of_lt (zba (by (with_reducible repeat (first | refine zb ?_ _ | refine zd ?_ | refine za ?_ _)); exact BK267.out)) : gb267 ≠ gb268)); have n9_ := ze.mk n8_.out.symm; clear BK0; clear BK267; clear HB; have BK0 := n0_; have BK267 := n1_; have HB := n2_; have BK268 := n3_; have GW268 := n4_; have GE268 := n5_; have NB0_268 := n6_; have NB268_0 := n7_; have NB267_268 := n8_; have NB268_267 := n9_; clear n0_ n1_ n2_ n3_ n4_ n5_ n6_ n7_ n8_ n9_; clear hb hbox hg; have hnb6 := NB267_0.out; have hnc6 := NB0_267.out; have hnb7 := NB267_268.out; have hnc7 := NB268_267.out; obtain ⟨y1_0, y1_1, z1_0, z1_1⟩ := cf2 BK267.out; have hnb9 := NB268_0.out; have hnc9 := NB0_268.out; obtain ⟨y2_0, y2_1, y2_2, y2_3, z2_0, z2_1, z2_2, z2_3⟩ := cf4 BK268.out))
  refine bodyPost_ret (results_cell_row rfl _ _ gb268 43 #[.int .i8 0, .int .i8 0, .int .i8 0, .int .i8 0] (0, 0) _ rfl (by (with_reducible repeat (first | refine zb ?_ _ | refine zd ?_ | refine za ?_ _)); refine zp (cs := #[.int .i8 0, .int .i8 0, .int .i8 0, .int .i8 0]) ?_ 3 _ rfl; (with_reducible repeat (first | refine zb ?_ _ | refine zd ?_ | refine za ?_ _)); refine zp (cs := #[.int .i8 0, .int .i8 0, .int .i8 0, .int .i8 0]) ?_ 2 _ rfl; (with_reducible repeat (first | refine zb ?_ _ | refine zd ?_ | refine za ?_ _)); refine zp (cs := #[.int .i8 0, .int .i8 0, .int .i8 0, .int .i8 0]) ?_ 1 _ rfl; (with_reducible repeat (first | refine zb ?_ _ | refine zd ?_ | refine za ?_ _)); refine zp (cs := #[.int .i8 0, .int .i8 0, .int .i8 0, .int .i8 0]) ?_ 0 _ rfl; (with_reducible repeat (first | refine zb ?_ _ | refine zd ?_ | refine za ?_ _)); exact BK268.out) Try.underlying43 rfl (by kernel_rfl)) rfl ?_
  exact ⟨by first | rfl | (simp [zn, zm] <;> rfl) | (simp [*, zn, zm] <;> rfl), by repeat (first | (with_reducible first | exact HB.out | apply zg | apply zc | apply zf | refine zi ?_ GE267.out | refine zi ?_ GE268.out) | exact HB.out)⟩
 rw [if_neg c3] at H
 have c3b0 : decide (a1_0 < 0) = false := decide_eq_false c3
 clear c3
 by_cases c11 : a1_1 = true
 ·subst c11
  have H1 : (if 0 ≤ a1_0 then (if a1_0 < (l0_2.length : Int) then (some ((zj l0_2 a1_0).f0, (zj l0_2 a1_0).f1, (zj l0_2 a1_0).f2, (zj l0_2 a1_0).f3)) else (none)) else (none)) = some (r1, r2, r3, r4) := by rw [if_pos rfl] at H; exact H
  clear H
  have H := H1
  clear H1
  by_cases c12 : 0 ≤ a1_0
  ·rw [if_pos c12] at H
   have c12b0 : decide (0 ≤ a1_0) = true := decide_eq_true c12
   clear c12
   by_cases c13 : a1_0 < (l0_2.length : Int)
   ·rw [if_pos c13] at H
    have c13b0 : decide (a1_0 < (l0_2.length : Int)) = true := decide_eq_true c13
    clear c13
    simp only [Option.some.injEq, Prod.mk.injEq] at H
    obtain ⟨rfl, rfl, rfl, rfl⟩ := H
    go_enter Try.func77, Try.ntmps77
    try go_wp2_with (first | ((with_reducible refine zu (N := 3) rfl ?_); refine zr ?hg (N := 3) ?hd (cs := #[.int .i8 a1_0, .bool true]) (t := 38) ?hr ?_; (case hd => rfl); (case hg => rfl); (case hr => first | (go_simp; done) | (go_simp; rfl)); intro gb267 hg w14 hbox hb; have n0_ := ze.mk (zk (g := g0) (o := .cells #[.int .i8 a0_0, .int .i8 a0_1, .slice A0_2 l0_2.length c0_2] 28 (0, 0)) (by (with_reducible repeat (first | refine zb ?_ _ | refine zd ?_ | refine za ?_ _)); exact BK0.out) hb); obtain ⟨n1_, n3_⟩ := bx (by repeat (first | (with_reducible first | exact HB.out | apply zg | apply zc | apply zf) | exact HB.out)) hb hg; have n2_ := ze.mk (hbox); have n4_ := n3_; have n5_ := ze.mk ((by rw [hg]; exact Nat.ne_of_lt (zba (g := g0) (o := .cells #[.int .i8 a0_0, .int .i8 a0_1, .slice A0_2 l0_2.length c0_2] 28 (0, 0)) (by (with_reducible repeat (first | refine zb ?_ _ | refine zd ?_ | refine za ?_ _)); exact BK0.out)) : g0 ≠ gb267)); have n6_ := ze.mk ((by rw [hg]; exact Nat.ne_of_gt (zba (g := g0) (o := .cells #[.int .i8 a0_0, .int .i8 a0_1, .slice A0_2 l0_2.length c0_2] 28 (0, 0)) (by (with_reducible repeat (first | refine zb ?_ _ | refine zd ?_ | refine za ?_ _)); exact BK0.out)) : gb267 ≠ g0)); clear BK0; clear HB; have BK0 := n0_; have HB := n1_; have BK267 := n2_; have GW267 := n3_; have GE267 := n4_; have NB0_267 := n5_; have NB267_0 := n6_; clear n0_ n1_ n2_ n3_ n4_ n5_ n6_; clear hb hbox hg) | ((with_reducible refine zu (N := 4) rfl ?_); refine zr ?hg (N := 4) ?hd (cs := #[.int .i8 0, .int .i8 0, .int .i8 0, .int .i8 0]) (t := 43) ?hr ?_; (case hd => rfl); (case hg => rfl); (case hr => first | (go_simp; done) | (go_simp; rfl)); intro gb268 hg w15 hbox hb; have n0_ := ze.mk (zk (g := g0) (o := .cells #[.int .i8 a0_0, .int .i8 a0_1, .slice A0_2 l0_2.length c0_2] 28 (0, 0)) (by (with_reducible repeat (first | refine zb ?_ _ | refine zd ?_ | refine za ?_ _)); exact BK0.out) hb); have n1_ := ze.mk (zk (by (with_reducible repeat (first | refine zb ?_ _ | refine zd ?_ | refine za ?_ _)); exact BK267.out) hb); obtain ⟨n2_, n4_⟩ := bx (by repeat (first | (with_reducible first | exact HB.out | apply zg | apply zc | apply zf | refine zi ?_ GE267.out) | exact HB.out)) hb hg; have n3_ := ze.mk (hbox); have n5_ := n4_; have n6_ := ze.mk ((by rw [hg]; exact Nat.ne_of_lt (zba (g := g0) (o := .cells #[.int .i8 a0_0, .int .i8 a0_1, .slice A0_2 l0_2.length c0_2] 28 (0, 0)) (by (with_reducible repeat (first | refine zb ?_ _ | refine zd ?_ | refine za ?_ _)); exact BK0.out)) : g0 ≠ gb268)); have n7_ := ze.mk ((by rw [hg]; exact Nat.ne_of_gt (zba (g := g0) (o := .cells #[.int .i8 a0_0, .int .i8 a0_1, .slice A0_2 l0_2.length c0_2] 28 (0, 0)) (by (with_reducible repeat (first | refine zb ?_ _ | refine zd ?_ | refine za ?_ _)); exact BK0.out)) : gb268 ≠ g0)); have n8_ := ze.mk ((by rw [hg]; exact Nat.ne_of_lt (zba (by (with_reducible repeat (first | refine zb ?_ _ | refine zd ?_ | refine za ?_ _)); exact BK267.out)) : gb267 ≠ gb268)); have n9_ := ze.mk n8_.out.symm; clear BK0; clear BK267; clear HB; have BK0 := n0_; have BK267 := n1_; have HB := n2_; have BK268 := n3_; have GW268 := n4_; have GE268 := n5_; have NB0_268 := n6_; have NB268_0 := n7_; have NB267_268 := n8_; have NB268_267 := n9_; clear n0_ n1_ n2_ n3_ n4_ n5_ n6_ n7_ n8_ n9_; clear hb hbox hg; have hnb16 := NB267_0.out; have hnc16 := NB0_267.out; have hnb17 := NB267_268.out; have hnc17 := NB268_267.out; obtain ⟨y3_0, y3_1, z3_0, z3_1⟩ := cf2 BK267.out))
    have n0_ := ze.mk (zd BK0.out)
    have n1_ := ze.mk (zd BK267.out)
    have n2_ := ze.mk (zd BK268.out)
    have n3_ := ze.mk (zf HB.out)
    clear BK0
    clear BK267
    clear BK268
    clear HB
    have BK0 := n0_
    have BK267 := n1_
    have BK268 := n2_
    have HB := n3_
    clear n0_ n1_ n2_ n3_
    have p269 : 0 ≤ (a1_0 : Int) := od (by first | (with_reducible assumption) | assumption)
    have q269 : a1_0 < (l0_2.length : Int) := od (by first | (with_reducible assumption) | assumption)
    obtain ⟨ad269, e269, u1_0, u1_1, u1_2, u1_3, v1_0, v1_1, v1_2, v1_3⟩ := zcd HB.out HR0_2.out a1_0 p269 q269
    cases e269
    replace p269 := eq_true p269
    replace q269 := eq_true q269
    refine zfb (n := 9) (S := fun w' => w'.cell? ⟨g0, 0, none⟩ = some (.int .i8 a0_0) ∧ w'.cell? ⟨g0, 1, none⟩ = some (.int .i8 a0_1) ∧ w'.cell? ⟨g0, 2, none⟩ = some (.slice (some ad269) l0_2.length c0_2) ∧ w'.cell? ⟨gb267, 0, none⟩ = some (.int .i8 a1_0) ∧ w'.cell? ⟨gb267, 1, none⟩ = some (.bool true) ∧ w'.cell? (ad269.add ((a1_0).toNat * 4)) = some (.int .i8 ((zj l0_2 a1_0).f0)) ∧ w'.cell? ⟨(ad269.add ((a1_0).toNat * 4)).block, (ad269.add ((a1_0).toNat * 4)).off + 1, none⟩ = some (.int .i8 ((zj l0_2 a1_0).f1)) ∧ w'.cell? ⟨(ad269.add ((a1_0).toNat * 4)).block, (ad269.add ((a1_0).toNat * 4)).off + 2, none⟩ = some (.int .i8 ((zj l0_2 a1_0).f2)) ∧ w'.cell? ⟨(ad269.add ((a1_0).toNat * 4)).block, (ad269.add ((a1_0).toNat * 4)).off + 3, none⟩ = some (.int .i8 ((zj l0_2 a1_0).f3))) (ds := []) (fm 9 0) (by kernel_rfl) rfl rfl ⟨(zo BK0.out 0).trans rfl, (zo BK0.out 1).trans rfl, (zo BK0.out 2).trans rfl, (zo BK267.out 0).trans rfl, (zo BK267.out 1).trans rfl, (bc HB.out v1_0), (bc HB.out v1_1), (bc HB.out v1_2), (bc HB.out v1_3)⟩ (fun hHeld => ?_); refine zoa spec_l04Seen.tab4 spec_l04Seen.bits4 (fun HT_ HW_ => ?_)
    generalize w15.drew = w19 at BK0 BK267 BK268 HB u1_0 u1_1 u1_2 u1_3 hHeld ⊢
    refine pb 0 11 (fm 9 1) rfl rfl HT_.out (by kernel_rfl) pq (by rfl) (by intro w'; go_simp; with_reducible rfl) (by simp only [Act.put, ea, eb, ec, zy, zz]; rfl) ?_
    refine pb 1 12 (fm 9 2) rfl rfl HT_.out (by kernel_rfl) pq (by rfl) (by intro w'; go_simp; with_reducible rfl) (by simp only [Act.put, ea, eb, ec, zy, zz]; rfl) ?_
    refine pb 2 13 (fm 9 3) rfl rfl HT_.out (by kernel_rfl) pq (by rfl) (by intro w'; go_simp; with_reducible rfl) (by simp only [Act.put, ea, eb, ec, zy, zz]; rfl) ?_
    refine pb 4 15 #[T, T, T, F, T, F, F, F, F] rfl rfl HT_.out (by kernel_rfl) pq (by rfl) (by intro w'; go_simp; with_reducible rfl) (by simp only [Act.put, ea, eb, ec, zy, zz]; rfl) ?_
    refine take_ (i := 3) (N := some 14) (v := ?_) (a' := ?_) (fm 9 5) rfl rfl (zka HT_.out HW_.out (by kernel_rfl)) (fun _ _ _ h => h) (Or.inl ⟨by rfl, ?_⟩) hHeld ?_ ?_
    rotate_left
    ·rintro w' ⟨s0, s1, s2, s3, s4, s5, s6, s7, s8⟩
     go_simp
     with_reducible rfl
    rotate_left
    ·simp only [Act.put, List.setIfInBounds_toArray, List.set_cons_zero, List.set_cons_succ, zy, zz]
     rfl
    refine take_ (i := 5) (N := some 16) (v := ?_) (a' := ?_) (fm 9 6) rfl rfl (zka HT_.out HW_.out (by kernel_rfl)) (fun _ _ _ h => h) (Or.inl ⟨by rfl, ?_⟩) hHeld ?_ ?_
    rotate_left
    ·rintro w' ⟨s0, s1, s2, s3, s4, s5, s6, s7, s8⟩
     go_simp
     with_reducible rfl
    rotate_left
    ·simp only [Act.put, List.setIfInBounds_toArray, List.set_cons_zero, List.set_cons_succ, zy, zz]
     rfl
    refine pb 6 17 (fm 9 7) rfl rfl HT_.out (by kernel_rfl) pq (by rfl) (by intro w'; go_simp; with_reducible rfl) (by simp only [Act.put, ea, eb, ec, zy, zz]; rfl) ?_
    refine take_ (i := 7) (N := some 18) (v := ?_) (a' := ?_) (fm 9 8) rfl rfl (zka HT_.out HW_.out (by kernel_rfl)) (fun _ _ _ h => h) (Or.inl ⟨by rfl, ?_⟩) hHeld ?_ ?_
    rotate_left
    ·rintro w' ⟨s0, s1, s2, s3, s4, s5, s6, s7, s8⟩
     go_simp
     with_reducible rfl
    rotate_left
    ·simp only [Act.put, List.setIfInBounds_toArray, List.set_cons_zero, List.set_cons_succ, zy, zz]
     rfl
    refine one_ (i := 8) (N := none) (fm 9 9) rfl rfl (zta HT_.out (by kernel_rfl)) (by decide) (fun K hK => ?_)
    have hs20 : w19.cell? ⟨gb268, 0, none⟩ = some (.int .i8 0) := (zo BK268.out 0).trans rfl
    have hfs20 := zw BK268.out 0
    have hns20_0 := NB0_268.out
    have hns20_1 := NB267_268.out
    have hms20_0 := NB268_0.out
    have hms20_1 := NB268_267.out
    have hs21 : w19.cell? ⟨gb268, 1, none⟩ = some (.int .i8 0) := (zo BK268.out 1).trans rfl
    have hfs21 := zw BK268.out 1
    have hns21_0 := NB0_268.out
    have hns21_1 := NB267_268.out
    have hms21_0 := NB268_0.out
    have hms21_1 := NB268_267.out
    have hs22 : w19.cell? ⟨gb268, 2, none⟩ = some (.int .i8 0) := (zo BK268.out 2).trans rfl
    have hfs22 := zw BK268.out 2
    have hns22_0 := NB0_268.out
    have hns22_1 := NB267_268.out
    have hms22_0 := NB268_0.out
    have hms22_1 := NB268_267.out
    have hs23 : w19.cell? ⟨gb268, 3, none⟩ = some (.int .i8 0) := (zo BK268.out 3).trans rfl
    have hfs23 := zw BK268.out 3
    have hns23_0 := NB0_268.out
    have hns23_1 := NB267_268.out
    have hms23_0 := NB268_0.out
    have hms23_1 := NB268_267.out
    refine skip_ (w1 := ?_) (by rfl) rfl ?_ ?_
    rotate_left
    ·go_simp
     rfl
    refine hK.out _ _ ⟨((zx (p := ⟨gb268, _, none⟩) NB0_268.out _).trans (((zx (p := ⟨gb268, _, none⟩) NB0_268.out _).trans (((zx (p := ⟨gb268, _, none⟩) NB0_268.out _).trans (((zx (p := ⟨gb268, _, none⟩) NB0_268.out _).trans (hHeld.1)))))))), ((zx (p := ⟨gb268, _, none⟩) NB0_268.out _).trans (((zx (p := ⟨gb268, _, none⟩) NB0_268.out _).trans (((zx (p := ⟨gb268, _, none⟩) NB0_268.out _).trans (((zx (p := ⟨gb268, _, none⟩) NB0_268.out _).trans (hHeld.2.1)))))))), ((zx (p := ⟨gb268, _, none⟩) NB0_268.out _).trans (((zx (p := ⟨gb268, _, none⟩) NB0_268.out _).trans (((zx (p := ⟨gb268, _, none⟩) NB0_268.out _).trans (((zx (p := ⟨gb268, _, none⟩) NB0_268.out _).trans (hHeld.2.2.1)))))))), ((zx (p := ⟨gb268, _, none⟩) NB267_268.out _).trans (((zx (p := ⟨gb268, _, none⟩) NB267_268.out _).trans (((zx (p := ⟨gb268, _, none⟩) NB267_268.out _).trans (((zx (p := ⟨gb268, _, none⟩) NB267_268.out _).trans (hHeld.2.2.2.1)))))))), ((zx (p := ⟨gb268, _, none⟩) NB267_268.out _).trans (((zx (p := ⟨gb268, _, none⟩) NB267_268.out _).trans (((zx (p := ⟨gb268, _, none⟩) NB267_268.out _).trans (((zx (p := ⟨gb268, _, none⟩) NB267_268.out _).trans (hHeld.2.2.2.2.1)))))))), ((zx (p := ⟨gb268, _, none⟩) (by first | exact Nat.ne_of_lt (Nat.lt_of_lt_of_le (by have := World.block_lt_of_cell? _ _ v1_0; first | rwa [zl] at this | exact this) GW268.out) | (rw [zl]; exact Nat.ne_of_lt (Nat.lt_of_lt_of_le (by have := World.block_lt_of_cell? _ _ v1_0; first | rwa [zl] at this | exact this) GW268.out)) | (show (Addr.add _ _).block ≠ _; rw [zl]; exact Nat.ne_of_lt (Nat.lt_of_lt_of_le (by have := World.block_lt_of_cell? _ _ v1_0; first | rwa [zl] at this | exact this) GW268.out)) | (dsimp only; exact Nat.ne_of_lt (Nat.lt_of_lt_of_le (by have := World.block_lt_of_cell? _ _ v1_0; first | rwa [zl] at this | exact this) GW268.out))) _).trans (((zx (p := ⟨gb268, _, none⟩) (by first | exact Nat.ne_of_lt (Nat.lt_of_lt_of_le (by have := World.block_lt_of_cell? _ _ v1_0; first | rwa [zl] at this | exact this) GW268.out) | (rw [zl]; exact Nat.ne_of_lt (Nat.lt_of_lt_of_le (by have := World.block_lt_of_cell? _ _ v1_0; first | rwa [zl] at this | exact this) GW268.out)) | (show (Addr.add _ _).block ≠ _; rw [zl]; exact Nat.ne_of_lt (Nat.lt_of_lt_of_le (by have := World.block_lt_of_cell? _ _ v1_0; first | rwa [zl] at this | exact this) GW268.out)) | (dsimp only; exact Nat.ne_of_lt (Nat.lt_of_lt_of_le (by have := World.block_lt_of_cell? _ _ v1_0; first | rwa [zl] at this | exact this) GW268.out))) _).trans (((zx (p := ⟨gb268, _, none⟩) (by first | exact Nat.ne_of_lt (Nat.lt_of_lt_of_le (by have := World.block_lt_of_cell? _ _ v1_0; first | rwa [zl] at this | exact this) GW268.out) | (rw [zl]; exact Nat.ne_of_lt (Nat.lt_of_lt_of_le (by have := World.block_lt_of_cell? _ _ v1_0; first | rwa [zl] at this | exact this) GW268.out)) | (show (Addr.add _ _).block ≠ _; rw [zl]; exact Nat.ne_of_lt (Nat.lt_of_lt_of_le (by have := World.block_lt_of_cell? _ _ v1_0; first | rwa [zl] at this | exact this) GW268.out)) | (dsimp only; exact Nat.ne_of_lt (Nat.lt_of_lt_of_le (by have := World.block_lt_of_cell? _ _ v1_0; first | rwa [zl] at this | exact this) GW268.out))) _).trans (((zx (p := ⟨gb268, _, none⟩) (by first | exact Nat.ne_of_lt (Nat.lt_of_lt_of_le (by have := World.block_lt_of_cell? _ _ v1_0; first | rwa [zl] at this | exact this) GW268.out) | (rw [zl]; exact Nat.ne_of_lt (Nat.lt_of_lt_of_le (by have := World.block_lt_of_cell? _ _ v1_0; first | rwa [zl] at this | exact this) GW268.out)) | (show (Addr.add _ _).block ≠ _; rw [zl]; exact Nat.ne_of_lt (Nat.lt_of_lt_of_le (by have := World.block_lt_of_cell? _ _ v1_0; first | rwa [zl] at this | exact this) GW268.out)) | (dsimp only; exact Nat.ne_of_lt (Nat.lt_of_lt_of_le (by have := World.block_lt_of_cell? _ _ v1_0; first | rwa [zl] at this | exact this) GW268.out))) _).trans (hHeld.2.2.2.2.2.1)))))))), ((zx (p := ⟨gb268, _, none⟩) (by first | exact Nat.ne_of_lt (Nat.lt_of_lt_of_le (by have := World.block_lt_of_cell? _ _ v1_1; first | rwa [zl] at this | exact this) GW268.out) | (rw [zl]; exact Nat.ne_of_lt (Nat.lt_of_lt_of_le (by have := World.block_lt_of_cell? _ _ v1_1; first | rwa [zl] at this | exact this) GW268.out)) | (show (Addr.add _ _).block ≠ _; rw [zl]; exact Nat.ne_of_lt (Nat.lt_of_lt_of_le (by have := World.block_lt_of_cell? _ _ v1_1; first | rwa [zl] at this | exact this) GW268.out)) | (dsimp only; exact Nat.ne_of_lt (Nat.lt_of_lt_of_le (by have := World.block_lt_of_cell? _ _ v1_1; first | rwa [zl] at this | exact this) GW268.out))) _).trans (((zx (p := ⟨gb268, _, none⟩) (by first | exact Nat.ne_of_lt (Nat.lt_of_lt_of_le (by have := World.block_lt_of_cell? _ _ v1_1; first | rwa [zl] at this | exact this) GW268.out) | (rw [zl]; exact Nat.ne_of_lt (Nat.lt_of_lt_of_le (by have := World.block_lt_of_cell? _ _ v1_1; first | rwa [zl] at this | exact this) GW268.out)) | (show (Addr.add _ _).block ≠ _; rw [zl]; exact Nat.ne_of_lt (Nat.lt_of_lt_of_le (by have := World.block_lt_of_cell? _ _ v1_1; first | rwa [zl] at this | exact this) GW268.out)) | (dsimp only; exact Nat.ne_of_lt (Nat.lt_of_lt_of_le (by have := World.block_lt_of_cell? _ _ v1_1; first | rwa [zl] at this | exact this) GW268.out))) _).trans (((zx (p := ⟨gb268, _, none⟩) (by first | exact Nat.ne_of_lt (Nat.lt_of_lt_of_le (by have := World.block_lt_of_cell? _ _ v1_1; first | rwa [zl] at this | exact this) GW268.out) | (rw [zl]; exact Nat.ne_of_lt (Nat.lt_of_lt_of_le (by have := World.block_lt_of_cell? _ _ v1_1; first | rwa [zl] at this | exact this) GW268.out)) | (show (Addr.add _ _).block ≠ _; rw [zl]; exact Nat.ne_of_lt (Nat.lt_of_lt_of_le (by have := World.block_lt_of_cell? _ _ v1_1; first | rwa [zl] at this | exact this) GW268.out)) | (dsimp only; exact Nat.ne_of_lt (Nat.lt_of_lt_of_le (by have := World.block_lt_of_cell? _ _ v1_1; first | rwa [zl] at this | exact this) GW268.out))) _).trans (((zx (p := ⟨gb268, _, none⟩) (by first | exact Nat.ne_of_lt (Nat.lt_of_lt_of_le (by have := World.block_lt_of_cell? _ _ v1_1; first | rwa [zl] at this | exact this) GW268.out) | (rw [zl]; exact Nat.ne_of_lt (Nat.lt_of_lt_of_le (by have := World.block_lt_of_cell? _ _ v1_1; first | rwa [zl] at this | exact this) GW268.out)) | (show (Addr.add _ _).block ≠ _; rw [zl]; exact Nat.ne_of_lt (Nat.lt_of_lt_of_le (by have := World.block_lt_of_cell? _ _ v1_1; first | rwa [zl] at this | exact this) GW268.out)) | (dsimp only; exact Nat.ne_of_lt (Nat.lt_of_lt_of_le (by have := World.block_lt_of_cell? _ _ v1_1; first | rwa [zl] at this | exact this) GW268.out))) _).trans (hHeld.2.2.2.2.2.2.1)))))))), ((zx (p := ⟨gb268, _, none⟩) (by first | exact Nat.ne_of_lt (Nat.lt_of_lt_of_le (by have := World.block_lt_of_cell? _ _ v1_2; first | rwa [zl] at this | exact this) GW268.out) | (rw [zl]; exact Nat.ne_of_lt (Nat.lt_of_lt_of_le (by have := World.block_lt_of_cell? _ _ v1_2; first | rwa [zl] at this | exact this) GW268.out)) | (show (Addr.add _ _).block ≠ _; rw [zl]; exact Nat.ne_of_lt (Nat.lt_of_lt_of_le (by have := World.block_lt_of_cell? _ _ v1_2; first | rwa [zl] at this | exact this) GW268.out)) | (dsimp only; exact Nat.ne_of_lt (Nat.lt_of_lt_of_le (by have := World.block_lt_of_cell? _ _ v1_2; first | rwa [zl] at this | exact this) GW268.out))) _).trans (((zx (p := ⟨gb268, _, none⟩) (by first | exact Nat.ne_of_lt (Nat.lt_of_lt_of_le (by have := World.block_lt_of_cell? _ _ v1_2; first | rwa [zl] at this | exact this) GW268.out) | (rw [zl]; exact Nat.ne_of_lt (Nat.lt_of_lt_of_le (by have := World.block_lt_of_cell? _ _ v1_2; first | rwa [zl] at this | exact this) GW268.out)) | (show (Addr.add _ _).block ≠ _; rw [zl]; exact Nat.ne_of_lt (Nat.lt_of_lt_of_le (by have := World.block_lt_of_cell? _ _ v1_2; first | rwa [zl] at this | exact this) GW268.out)) | (dsimp only; exact Nat.ne_of_lt (Nat.lt_of_lt_of_le (by have := World.block_lt_of_cell? _ _ v1_2; first | rwa [zl] at this | exact this) GW268.out))) _).trans (((zx (p := ⟨gb268, _, none⟩) (by first | exact Nat.ne_of_lt (Nat.lt_of_lt_of_le (by have := World.block_lt_of_cell? _ _ v1_2; first | rwa [zl] at this | exact this) GW268.out) | (rw [zl]; exact Nat.ne_of_lt (Nat.lt_of_lt_of_le (by have := World.block_lt_of_cell? _ _ v1_2; first | rwa [zl] at this | exact this) GW268.out)) | (show (Addr.add _ _).block ≠ _; rw [zl]; exact Nat.ne_of_lt (Nat.lt_of_lt_of_le (by have := World.block_lt_of_cell? _ _ v1_2; first | rwa [zl] at this | exact this) GW268.out)) | (dsimp only; exact Nat.ne_of_lt (Nat.lt_of_lt_of_le (by have := World.block_lt_of_cell? _ _ v1_2; first | rwa [zl] at this | exact this) GW268.out))) _).trans (((zx (p := ⟨gb268, _, none⟩) (by first | exact Nat.ne_of_lt (Nat.lt_of_lt_of_le (by have := World.block_lt_of_cell? _ _ v1_2; first | rwa [zl] at this | exact this) GW268.out) | (rw [zl]; exact Nat.ne_of_lt (Nat.lt_of_lt_of_le (by have := World.block_lt_of_cell? _ _ v1_2; first | rwa [zl] at this | exact this) GW268.out)) | (show (Addr.add _ _).block ≠ _; rw [zl]; exact Nat.ne_of_lt (Nat.lt_of_lt_of_le (by have := World.block_lt_of_cell? _ _ v1_2; first | rwa [zl] at this | exact this) GW268.out)) | (dsimp only; exact Nat.ne_of_lt (Nat.lt_of_lt_of_le (by have := World.block_lt_of_cell? _ _ v1_2; first | rwa [zl] at this | exact this) GW268.out))) _).trans (hHeld.2.2.2.2.2.2.2.1)))))))), ((zx (p := ⟨gb268, _, none⟩) (by first | exact Nat.ne_of_lt (Nat.lt_of_lt_of_le (by have := World.block_lt_of_cell? _ _ v1_3; first | rwa [zl] at this | exact this) GW268.out) | (rw [zl]; exact Nat.ne_of_lt (Nat.lt_of_lt_of_le (by have := World.block_lt_of_cell? _ _ v1_3; first | rwa [zl] at this | exact this) GW268.out)) | (show (Addr.add _ _).block ≠ _; rw [zl]; exact Nat.ne_of_lt (Nat.lt_of_lt_of_le (by have := World.block_lt_of_cell? _ _ v1_3; first | rwa [zl] at this | exact this) GW268.out)) | (dsimp only; exact Nat.ne_of_lt (Nat.lt_of_lt_of_le (by have := World.block_lt_of_cell? _ _ v1_3; first | rwa [zl] at this | exact this) GW268.out))) _).trans (((zx (p := ⟨gb268, _, none⟩) (by first | exact Nat.ne_of_lt (Nat.lt_of_lt_of_le (by have := World.block_lt_of_cell? _ _ v1_3; first | rwa [zl] at this | exact this) GW268.out) | (rw [zl]; exact Nat.ne_of_lt (Nat.lt_of_lt_of_le (by have := World.block_lt_of_cell? _ _ v1_3; first | rwa [zl] at this | exact this) GW268.out)) | (show (Addr.add _ _).block ≠ _; rw [zl]; exact Nat.ne_of_lt (Nat.lt_of_lt_of_le (by have := World.block_lt_of_cell? _ _ v1_3; first | rwa [zl] at this | exact this) GW268.out)) | (dsimp only; exact Nat.ne_of_lt (Nat.lt_of_lt_of_le (by have := World.block_lt_of_cell? _ _ v1_3; first | rwa [zl] at this | exact this) GW268.out))) _).trans (((zx (p := ⟨gb268, _, none⟩) (by first | exact Nat.ne_of_lt (Nat.lt_of_lt_of_le (by have := World.block_lt_of_cell? _ _ v1_3; first | rwa [zl] at this | exact this) GW268.out) | (rw [zl]; exact Nat.ne_of_lt (Nat.lt_of_lt_of_le (by have := World.block_lt_of_cell? _ _ v1_3; first | rwa [zl] at this | exact this) GW268.out)) | (show (Addr.add _ _).block ≠ _; rw [zl]; exact Nat.ne_of_lt (Nat.lt_of_lt_of_le (by have := World.block_lt_of_cell? _ _ v1_3; first | rwa [zl] at this | exact this) GW268.out)) | (dsimp only; exact Nat.ne_of_lt (Nat.lt_of_lt_of_le (by have := World.block_lt_of_cell? _ _ v1_3; first | rwa [zl] at this | exact this) GW268.out))) _).trans (((zx (p := ⟨gb268, _, none⟩) (by first | exact Nat.ne_of_lt (Nat.lt_of_lt_of_le (by have := World.block_lt_of_cell? _ _ v1_3; first | rwa [zl] at this | exact this) GW268.out) | (rw [zl]; exact Nat.ne_of_lt (Nat.lt_of_lt_of_le (by have := World.block_lt_of_cell? _ _ v1_3; first | rwa [zl] at this | exact this) GW268.out)) | (show (Addr.add _ _).block ≠ _; rw [zl]; exact Nat.ne_of_lt (Nat.lt_of_lt_of_le (by have := World.block_lt_of_cell? _ _ v1_3; first | rwa [zl] at this | exact this) GW268.out)) | (dsimp only; exact Nat.ne_of_lt (Nat.lt_of_lt_of_le (by have := World.block_lt_of_cell? _ _ v1_3; first | rwa [zl] at this | exact this) GW268.out))) _).trans (hHeld.2.2.2.2.2.2.2.2))))))))⟩ (fun hHeld => ?_)
    clear hK K
    refine zxb (zcb HT_.out (by kernel_rfl)) ?_
    try go_wp2
    refine bodyPost_ret (results_cell_row rfl _ _ gb268 43 #[.int .i8 ((zj l0_2 a1_0).f0), .int .i8 ((zj l0_2 a1_0).f1), .int .i8 ((zj l0_2 a1_0).f2), .int .i8 ((zj l0_2 a1_0).f3)] (0, 0) _ rfl (by (with_reducible repeat (first | refine zb ?_ _ | refine zd ?_ | refine za ?_ _)); refine zp (cs := #[.int .i8 ((zj l0_2 a1_0).f0), .int .i8 ((zj l0_2 a1_0).f1), .int .i8 ((zj l0_2 a1_0).f2), .int .i8 0]) ?_ 3 _ rfl; (with_reducible repeat (first | refine zb ?_ _ | refine zd ?_ | refine za ?_ _)); refine zp (cs := #[.int .i8 ((zj l0_2 a1_0).f0), .int .i8 ((zj l0_2 a1_0).f1), .int .i8 0, .int .i8 0]) ?_ 2 _ rfl; (with_reducible repeat (first | refine zb ?_ _ | refine zd ?_ | refine za ?_ _)); refine zp (cs := #[.int .i8 ((zj l0_2 a1_0).f0), .int .i8 0, .int .i8 0, .int .i8 0]) ?_ 1 _ rfl; (with_reducible repeat (first | refine zb ?_ _ | refine zd ?_ | refine za ?_ _)); refine zp (cs := #[.int .i8 0, .int .i8 0, .int .i8 0, .int .i8 0]) ?_ 0 _ rfl; (with_reducible repeat (first | refine zb ?_ _ | refine zd ?_ | refine za ?_ _)); exact BK268.out) Try.underlying43 rfl (by kernel_rfl)) rfl ?_
    exact ⟨by first | rfl | (simp [zn, zm] <;> rfl) | (simp [*, zn, zm] <;> rfl), by repeat (first | (with_reducible first | exact HB.out | apply zg | apply zc | apply zf | refine zi ?_ GE267.out | refine zi ?_ GE268.out) | exact HB.out)⟩
   rw [if_neg c13] at H
   exact absurd H (by simp)
  rw [if_neg c12] at H
  exact absurd H (by simp)
 replace c11 := Bool.eq_false_iff.mpr c11
 subst c11
 have H1 : (if 0 ≤ a1_0 then (if a1_0 < (l0_2.length : Int) then ((spec_l04Opposite.f k ((zj l0_2 a1_0).f0) ((zj l0_2 a1_0).f1) ((zj l0_2 a1_0).f2) ((zj l0_2 a1_0).f3)).bind fun bt271 => (some (bt271.1, bt271.2.1, bt271.2.2.1, bt271.2.2.2))) else (none)) else (none)) = some (r1, r2, r3, r4) := by rw [if_neg (show ¬ (false = true) by decide)] at H; exact H
 clear H
 have H := H1
 clear H1
 by_cases c24 : 0 ≤ a1_0
 ·rw [if_pos c24] at H
  have c24b0 : decide (0 ≤ a1_0) = true := decide_eq_true c24
  clear c24
  by_cases c25 : a1_0 < (l0_2.length : Int)
  ·rw [if_pos c25] at H
   have c25b0 : decide (a1_0 < (l0_2.length : Int)) = true := decide_eq_true c25
   clear c25
   replace H := Option.bind_eq_some_iff.mp H
   obtain ⟨⟨t271, t272, t273, t274⟩, A260, H⟩ := H
   replace H : (some (t271, t272, t273, t274)) = some (r1, r2, r3, r4) := H
   have A26 := ze.mk A260
   clear A260
   simp only [Option.some.injEq, Prod.mk.injEq] at H
   obtain ⟨rfl, rfl, rfl, rfl⟩ := H
   go_enter Try.func77, Try.ntmps77
   try go_wp2_with (first | ((with_reducible refine zu (N := 3) rfl ?_); refine zr ?hg (N := 3) ?hd (cs := #[.int .i8 a1_0, .bool false]) (t := 38) ?hr ?_; (case hd => rfl); (case hg => rfl); (case hr => first | (go_simp; done) | (go_simp; rfl)); intro gb267 hg w27 hbox hb; have n0_ := ze.mk (zk (g := g0) (o := .cells #[.int .i8 a0_0, .int .i8 a0_1, .slice A0_2 l0_2.length c0_2] 28 (0, 0)) (by (with_reducible repeat (first | refine zb ?_ _ | refine zd ?_ | refine za ?_ _)); exact BK0.out) hb); obtain ⟨n1_, n3_⟩ := bx (by repeat (first | (with_reducible first | exact HB.out | apply zg | apply zc | apply zf) | exact HB.out)) hb hg; have n2_ := ze.mk (hbox); have n4_ := n3_; have n5_ := ze.mk ((by rw [hg]; exact Nat.ne_of_lt (zba (g := g0) (o := .cells #[.int .i8 a0_0, .int .i8 a0_1, .slice A0_2 l0_2.length c0_2] 28 (0, 0)) (by (with_reducible repeat (first | refine zb ?_ _ | refine zd ?_ | refine za ?_ _)); exact BK0.out)) : g0 ≠ gb267)); have n6_ := ze.mk ((by rw [hg]; exact Nat.ne_of_gt (zba (g := g0) (o := .cells #[.int .i8 a0_0, .int .i8 a0_1, .slice A0_2 l0_2.length c0_2] 28 (0, 0)) (by (with_reducible repeat (first | refine zb ?_ _ | refine zd ?_ | refine za ?_ _)); exact BK0.out)) : gb267 ≠ g0)); clear BK0; clear HB; have BK0 := n0_; have HB := n1_; have BK267 := n2_; have GW267 := n3_; have GE267 := n4_; have NB0_267 := n5_; have NB267_0 := n6_; clear n0_ n1_ n2_ n3_ n4_ n5_ n6_; clear hb hbox hg) | ((with_reducible refine zu (N := 4) rfl ?_); refine zr ?hg (N := 4) ?hd (cs := #[.int .i8 0, .int .i8 0, .int .i8 0, .int .i8 0]) (t := 43) ?hr ?_; (case hd => rfl); (case hg => rfl); (case hr => first | (go_simp; done) | (go_simp; rfl)); intro gb268 hg w28 hbox hb; have n0_ := ze.mk (zk (g := g0) (o := .cells #[.int .i8 a0_0, .int .i8 a0_1, .slice A0_2 l0_2.length c0_2] 28 (0, 0)) (by (with_reducible repeat (first | refine zb ?_ _ | refine zd ?_ | refine za ?_ _)); exact BK0.out) hb); have n1_ := ze.mk (zk (by (with_reducible repeat (first | refine zb ?_ _ | refine zd ?_ | refine za ?_ _)); exact BK267.out) hb); obtain ⟨n2_, n4_⟩ := bx (by repeat (first | (with_reducible first | exact HB.out | apply zg | apply zc | apply zf | refine zi ?_ GE267.out) | exact HB.out)) hb hg; have n3_ := ze.mk (hbox); have n5_ := n4_; have n6_ := ze.mk ((by rw [hg]; exact Nat.ne_of_lt (zba (g := g0) (o := .cells #[.int .i8 a0_0, .int .i8 a0_1, .slice A0_2 l0_2.length c0_2] 28 (0, 0)) (by (with_reducible repeat (first | refine zb ?_ _ | refine zd ?_ | refine za ?_ _)); exact BK0.out)) : g0 ≠ gb268)); have n7_ := ze.mk ((by rw [hg]; exact Nat.ne_of_gt (zba (g := g0) (o := .cells #[.int .i8 a0_0, .int .i8 a0_1, .slice A0_2 l0_2.length c0_2] 28 (0, 0)) (by (with_reducible repeat (first | refine zb ?_ _ | refine zd ?_ | refine za ?_ _)); exact BK0.out)) : gb268 ≠ g0)); have n8_ := ze.mk ((by rw [hg]; exact Nat.ne_of_lt (zba (by (with_reducible repeat (first | refine zb ?_ _ | refine zd ?_ | refine za ?_ _)); exact BK267.out)) : gb267 ≠ gb268)); have n9_ := ze.mk n8_.out.symm; clear BK0; clear BK267; clear HB; have BK0 := n0_; have BK267 := n1_; have HB := n2_; have BK268 := n3_; have GW268 := n4_; have GE268 := n5_; have NB0_268 := n6_; have NB268_0 := n7_; have NB267_268 := n8_; have NB268_267 := n9_; clear n0_ n1_ n2_ n3_ n4_ n5_ n6_ n7_ n8_ n9_; clear hb hbox hg; have hnb29 := NB267_0.out; have hnc29 := NB0_267.out; have hnb30 := NB267_268.out; have hnc30 := NB268_267.out; obtain ⟨y4_0, y4_1, z4_0, z4_1⟩ := cf2 BK267.out))
   have n0_ := ze.mk (zd BK0.out)
   have n1_ := ze.mk (zd BK267.out)
   have n2_ := ze.mk (zd BK268.out)
   have n3_ := ze.mk (zf HB.out)
   clear BK0
   clear BK267
   clear BK268
   clear HB
   have BK0 := n0_
   have BK267 := n1_
   have BK268 := n2_
   have HB := n3_
   clear n0_ n1_ n2_ n3_
   have p270 : 0 ≤ (a1_0 : Int) := od (by first | (with_reducible assumption) | assumption)
   have q270 : a1_0 < (l0_2.length : Int) := od (by first | (with_reducible assumption) | assumption)
   obtain ⟨ad270, e270, u2_0, u2_1, u2_2, u2_3, v2_0, v2_1, v2_2, v2_3⟩ := zcd HB.out HR0_2.out a1_0 p270 q270
   cases e270
   replace p270 := eq_true p270
   replace q270 := eq_true q270
   refine zfb (n := 10) (S := fun w' => w'.cell? ⟨g0, 0, none⟩ = some (.int .i8 a0_0) ∧ w'.cell? ⟨g0, 1, none⟩ = some (.int .i8 a0_1) ∧ w'.cell? ⟨g0, 2, none⟩ = some (.slice (some ad270) l0_2.length c0_2) ∧ w'.cell? ⟨gb267, 0, none⟩ = some (.int .i8 a1_0) ∧ w'.cell? ⟨gb267, 1, none⟩ = some (.bool false) ∧ w'.cell? (ad270.add ((a1_0).toNat * 4)) = some (.int .i8 ((zj l0_2 a1_0).f0)) ∧ w'.cell? ⟨(ad270.add ((a1_0).toNat * 4)).block, (ad270.add ((a1_0).toNat * 4)).off + 1, none⟩ = some (.int .i8 ((zj l0_2 a1_0).f1)) ∧ w'.cell? ⟨(ad270.add ((a1_0).toNat * 4)).block, (ad270.add ((a1_0).toNat * 4)).off + 2, none⟩ = some (.int .i8 ((zj l0_2 a1_0).f2)) ∧ w'.cell? ⟨(ad270.add ((a1_0).toNat * 4)).block, (ad270.add ((a1_0).toNat * 4)).off + 3, none⟩ = some (.int .i8 ((zj l0_2 a1_0).f3))) (ds := []) (fm 10 0) (by kernel_rfl) rfl rfl ⟨(zo BK0.out 0).trans rfl, (zo BK0.out 1).trans rfl, (zo BK0.out 2).trans rfl, (zo BK267.out 0).trans rfl, (zo BK267.out 1).trans rfl, (bc HB.out v2_0), (bc HB.out v2_1), (bc HB.out v2_2), (bc HB.out v2_3)⟩ (fun hHeld => ?_); refine zoa spec_l04Seen.tab5 spec_l04Seen.bits5 (fun HT_ HW_ => ?_)
   generalize w28.drew = w32 at BK0 BK267 BK268 HB u2_0 u2_1 u2_2 u2_3 hHeld ⊢
   refine pb 0 19 (fm 10 1) rfl rfl HT_.out (by kernel_rfl) pq (by rfl) (by intro w'; go_simp; with_reducible rfl) (by simp only [Act.put, ea, eb, ec, zy, zz]; rfl) ?_
   refine pb 1 20 (fm 10 2) rfl rfl HT_.out (by kernel_rfl) pq (by rfl) (by intro w'; go_simp; with_reducible rfl) (by simp only [Act.put, ea, eb, ec, zy, zz]; rfl) ?_
   refine pb 2 21 (fm 10 3) rfl rfl HT_.out (by kernel_rfl) pq (by rfl) (by intro w'; go_simp; with_reducible rfl) (by simp only [Act.put, ea, eb, ec, zy, zz]; rfl) ?_
   refine pb 4 23 #[T, T, T, F, T, F, F, F, F, F] rfl rfl HT_.out (by kernel_rfl) pq (by rfl) (by intro w'; go_simp; with_reducible rfl) (by simp only [Act.put, ea, eb, ec, zy, zz]; rfl) ?_
   refine take_ (i := 3) (N := some 22) (v := ?_) (a' := ?_) (fm 10 5) rfl rfl (zka HT_.out HW_.out (by kernel_rfl)) (fun _ _ _ h => h) (Or.inl ⟨by rfl, ?_⟩) hHeld ?_ ?_
   rotate_left
   ·rintro w' ⟨s0, s1, s2, s3, s4, s5, s6, s7, s8⟩
    go_simp
    with_reducible rfl
   rotate_left
   ·simp only [Act.put, List.setIfInBounds_toArray, List.set_cons_zero, List.set_cons_succ, zy, zz]
    rfl
   refine take_ (i := 5) (N := some 24) (v := ?_) (a' := ?_) (fm 10 6) rfl rfl (zka HT_.out HW_.out (by kernel_rfl)) (fun _ _ _ h => h) (Or.inl ⟨by rfl, ?_⟩) hHeld ?_ ?_
   rotate_left
   ·rintro w' ⟨s0, s1, s2, s3, s4, s5, s6, s7, s8⟩
    go_simp
    with_reducible rfl
   rotate_left
   ·simp only [Act.put, List.setIfInBounds_toArray, List.set_cons_zero, List.set_cons_succ, zy, zz]
    rfl
   refine pb 6 25 (fm 10 7) rfl rfl HT_.out (by kernel_rfl) pq (by rfl) (by intro w'; go_simp; with_reducible rfl) (by simp only [Act.put, ea, eb, ec, zy, zz]; rfl) ?_
   refine take_ (i := 7) (N := some 26) (v := ?_) (a' := ?_) (fm 10 8) rfl rfl (zka HT_.out HW_.out (by kernel_rfl)) (fun _ _ _ h => h) (Or.inl ⟨by rfl, ?_⟩) hHeld ?_ ?_
   rotate_left
   ·rintro w' ⟨s0, s1, s2, s3, s4, s5, s6, s7, s8⟩
    go_simp
    with_reducible rfl
   rotate_left
   ·simp only [Act.put, List.setIfInBounds_toArray, List.set_cons_zero, List.set_cons_succ, zy, zz]
    rfl
   refine one_ (i := 8) (N := some 27) (fm 10 9) rfl rfl (zta HT_.out (by kernel_rfl)) (by decide) (fun K hK => ?_)
   refine zdb Try.func105 (by kernel_rfl) rfl #[.agg #[.int .i8 ((zj l0_2 a1_0).f0), .int .i8 ((zj l0_2 a1_0).f1), .int .i8 ((zj l0_2 a1_0).f2), .int .i8 ((zj l0_2 a1_0).f3)]] (by rfl) rfl rfl (by (try simp only [List.map_toArray, List.map_cons, List.map_nil]); first | done | rfl | (simp only [List.length_drop, List.length_take]; rfl)) ?_
   with_reducible refine (spec_l04Opposite.calls k ((zj l0_2 a1_0).f0) ((zj l0_2 a1_0).f1) ((zj l0_2 a1_0).f2) ((zj l0_2 a1_0).f3) t271 t272 t273 t274 _ A26.out).mono ?_
   rintro e w33 ⟨rfl, hb⟩
   refine ⟨_, rfl, ?_⟩
   have n0_ := ze.mk (zk (g := g0) (o := .cells #[.int .i8 a0_0, .int .i8 a0_1, .slice (some ad270) l0_2.length c0_2] 28 (0, 0)) (by (with_reducible repeat (first | refine zb ?_ _ | refine zd ?_ | refine za ?_ _)); exact BK0.out) hb)
   have n1_ := ze.mk (zk (by (with_reducible repeat (first | refine zb ?_ _ | refine zd ?_ | refine za ?_ _)); exact BK267.out) hb)
   have n2_ := ze.mk (zk (by (with_reducible repeat (first | refine zb ?_ _ | refine zd ?_ | refine za ?_ _)); exact BK268.out) hb)
   have n3_ := ze.mk (zt (by repeat (first | (with_reducible first | exact HB.out | apply zg | apply zc | apply zf | refine zi ?_ GE267.out | refine zi ?_ GE268.out) | exact HB.out)) hb)
   clear BK0
   clear BK267
   clear BK268
   clear HB
   have BK0 := n0_
   have BK267 := n1_
   have BK268 := n2_
   have HB := n3_
   clear n0_ n1_ n2_ n3_
   (try clear hb)
   (try clear hb2)
   (try clear hk)
   (try clear hi)
   refine hK.out _ _ ⟨(zo BK0.out 0).trans rfl, (zo BK0.out 1).trans rfl, (zo BK0.out 2).trans rfl, (zo BK267.out 0).trans rfl, (zo BK267.out 1).trans rfl, (bc HB.out v2_0), (bc HB.out v2_1), (bc HB.out v2_2), (bc HB.out v2_3)⟩ (fun hHeld => ?_)
   clear hK K
   refine zpa (a' := ?_) ?_ ?_
   rotate_left
   ·show Act.put _ (some 27) _ = _
    simp only [Act.put, List.setIfInBounds_toArray, List.set_cons_zero, List.set_cons_succ, zy, zz]
    rfl
   refine one_ (i := 9) (N := none) (fm 10 10) rfl rfl (zta HT_.out (by kernel_rfl)) (by decide) (fun K hK => ?_)
   have hs34 : w33.cell? ⟨gb268, 0, none⟩ = some (.int .i8 0) := (zo BK268.out 0).trans rfl
   have hfs34 := zw BK268.out 0
   have hns34_0 := NB0_268.out
   have hns34_1 := NB267_268.out
   have hms34_0 := NB268_0.out
   have hms34_1 := NB268_267.out
   have hs35 : w33.cell? ⟨gb268, 1, none⟩ = some (.int .i8 0) := (zo BK268.out 1).trans rfl
   have hfs35 := zw BK268.out 1
   have hns35_0 := NB0_268.out
   have hns35_1 := NB267_268.out
   have hms35_0 := NB268_0.out
   have hms35_1 := NB268_267.out
   have hs36 : w33.cell? ⟨gb268, 2, none⟩ = some (.int .i8 0) := (zo BK268.out 2).trans rfl
   have hfs36 := zw BK268.out 2
   have hns36_0 := NB0_268.out
   have hns36_1 := NB267_268.out
   have hms36_0 := NB268_0.out
   have hms36_1 := NB268_267.out
   have hs37 : w33.cell? ⟨gb268, 3, none⟩ = some (.int .i8 0) := (zo BK268.out 3).trans rfl
   have hfs37 := zw BK268.out 3
   have hns37_0 := NB0_268.out
   have hns37_1 := NB267_268.out
   have hms37_0 := NB268_0.out
   have hms37_1 := NB268_267.out
   refine skip_ (w1 := ?_) (by rfl) rfl ?_ ?_
   rotate_left
   ·go_simp
    rfl
   refine hK.out _ _ ⟨((zx (p := ⟨gb268, _, none⟩) NB0_268.out _).trans (((zx (p := ⟨gb268, _, none⟩) NB0_268.out _).trans (((zx (p := ⟨gb268, _, none⟩) NB0_268.out _).trans (((zx (p := ⟨gb268, _, none⟩) NB0_268.out _).trans (hHeld.1)))))))), ((zx (p := ⟨gb268, _, none⟩) NB0_268.out _).trans (((zx (p := ⟨gb268, _, none⟩) NB0_268.out _).trans (((zx (p := ⟨gb268, _, none⟩) NB0_268.out _).trans (((zx (p := ⟨gb268, _, none⟩) NB0_268.out _).trans (hHeld.2.1)))))))), ((zx (p := ⟨gb268, _, none⟩) NB0_268.out _).trans (((zx (p := ⟨gb268, _, none⟩) NB0_268.out _).trans (((zx (p := ⟨gb268, _, none⟩) NB0_268.out _).trans (((zx (p := ⟨gb268, _, none⟩) NB0_268.out _).trans (hHeld.2.2.1)))))))), ((zx (p := ⟨gb268, _, none⟩) NB267_268.out _).trans (((zx (p := ⟨gb268, _, none⟩) NB267_268.out _).trans (((zx (p := ⟨gb268, _, none⟩) NB267_268.out _).trans (((zx (p := ⟨gb268, _, none⟩) NB267_268.out _).trans (hHeld.2.2.2.1)))))))), ((zx (p := ⟨gb268, _, none⟩) NB267_268.out _).trans (((zx (p := ⟨gb268, _, none⟩) NB267_268.out _).trans (((zx (p := ⟨gb268, _, none⟩) NB267_268.out _).trans (((zx (p := ⟨gb268, _, none⟩) NB267_268.out _).trans (hHeld.2.2.2.2.1)))))))), ((zx (p := ⟨gb268, _, none⟩) (by first | exact Nat.ne_of_lt (Nat.lt_of_lt_of_le (by have := World.block_lt_of_cell? _ _ v2_0; first | rwa [zl] at this | exact this) GW268.out) | (rw [zl]; exact Nat.ne_of_lt (Nat.lt_of_lt_of_le (by have := World.block_lt_of_cell? _ _ v2_0; first | rwa [zl] at this | exact this) GW268.out)) | (show (Addr.add _ _).block ≠ _; rw [zl]; exact Nat.ne_of_lt (Nat.lt_of_lt_of_le (by have := World.block_lt_of_cell? _ _ v2_0; first | rwa [zl] at this | exact this) GW268.out)) | (dsimp only; exact Nat.ne_of_lt (Nat.lt_of_lt_of_le (by have := World.block_lt_of_cell? _ _ v2_0; first | rwa [zl] at this | exact this) GW268.out))) _).trans (((zx (p := ⟨gb268, _, none⟩) (by first | exact Nat.ne_of_lt (Nat.lt_of_lt_of_le (by have := World.block_lt_of_cell? _ _ v2_0; first | rwa [zl] at this | exact this) GW268.out) | (rw [zl]; exact Nat.ne_of_lt (Nat.lt_of_lt_of_le (by have := World.block_lt_of_cell? _ _ v2_0; first | rwa [zl] at this | exact this) GW268.out)) | (show (Addr.add _ _).block ≠ _; rw [zl]; exact Nat.ne_of_lt (Nat.lt_of_lt_of_le (by have := World.block_lt_of_cell? _ _ v2_0; first | rwa [zl] at this | exact this) GW268.out)) | (dsimp only; exact Nat.ne_of_lt (Nat.lt_of_lt_of_le (by have := World.block_lt_of_cell? _ _ v2_0; first | rwa [zl] at this | exact this) GW268.out))) _).trans (((zx (p := ⟨gb268, _, none⟩) (by first | exact Nat.ne_of_lt (Nat.lt_of_lt_of_le (by have := World.block_lt_of_cell? _ _ v2_0; first | rwa [zl] at this | exact this) GW268.out) | (rw [zl]; exact Nat.ne_of_lt (Nat.lt_of_lt_of_le (by have := World.block_lt_of_cell? _ _ v2_0; first | rwa [zl] at this | exact this) GW268.out)) | (show (Addr.add _ _).block ≠ _; rw [zl]; exact Nat.ne_of_lt (Nat.lt_of_lt_of_le (by have := World.block_lt_of_cell? _ _ v2_0; first | rwa [zl] at this | exact this) GW268.out)) | (dsimp only; exact Nat.ne_of_lt (Nat.lt_of_lt_of_le (by have := World.block_lt_of_cell? _ _ v2_0; first | rwa [zl] at this | exact this) GW268.out))) _).trans (((zx (p := ⟨gb268, _, none⟩) (by first | exact Nat.ne_of_lt (Nat.lt_of_lt_of_le (by have := World.block_lt_of_cell? _ _ v2_0; first | rwa [zl] at this | exact this) GW268.out) | (rw [zl]; exact Nat.ne_of_lt (Nat.lt_of_lt_of_le (by have := World.block_lt_of_cell? _ _ v2_0; first | rwa [zl] at this | exact this) GW268.out)) | (show (Addr.add _ _).block ≠ _; rw [zl]; exact Nat.ne_of_lt (Nat.lt_of_lt_of_le (by have := World.block_lt_of_cell? _ _ v2_0; first | rwa [zl] at this | exact this) GW268.out)) | (dsimp only; exact Nat.ne_of_lt (Nat.lt_of_lt_of_le (by have := World.block_lt_of_cell? _ _ v2_0; first | rwa [zl] at this | exact this) GW268.out))) _).trans (hHeld.2.2.2.2.2.1)))))))), ((zx (p := ⟨gb268, _, none⟩) (by first | exact Nat.ne_of_lt (Nat.lt_of_lt_of_le (by have := World.block_lt_of_cell? _ _ v2_1; first | rwa [zl] at this | exact this) GW268.out) | (rw [zl]; exact Nat.ne_of_lt (Nat.lt_of_lt_of_le (by have := World.block_lt_of_cell? _ _ v2_1; first | rwa [zl] at this | exact this) GW268.out)) | (show (Addr.add _ _).block ≠ _; rw [zl]; exact Nat.ne_of_lt (Nat.lt_of_lt_of_le (by have := World.block_lt_of_cell? _ _ v2_1; first | rwa [zl] at this | exact this) GW268.out)) | (dsimp only; exact Nat.ne_of_lt (Nat.lt_of_lt_of_le (by have := World.block_lt_of_cell? _ _ v2_1; first | rwa [zl] at this | exact this) GW268.out))) _).trans (((zx (p := ⟨gb268, _, none⟩) (by first | exact Nat.ne_of_lt (Nat.lt_of_lt_of_le (by have := World.block_lt_of_cell? _ _ v2_1; first | rwa [zl] at this | exact this) GW268.out) | (rw [zl]; exact Nat.ne_of_lt (Nat.lt_of_lt_of_le (by have := World.block_lt_of_cell? _ _ v2_1; first | rwa [zl] at this | exact this) GW268.out)) | (show (Addr.add _ _).block ≠ _; rw [zl]; exact Nat.ne_of_lt (Nat.lt_of_lt_of_le (by have := World.block_lt_of_cell? _ _ v2_1; first | rwa [zl] at this | exact this) GW268.out)) | (dsimp only; exact Nat.ne_of_lt (Nat.lt_of_lt_of_le (by have := World.block_lt_of_cell? _ _ v2_1; first | rwa [zl] at this | exact this) GW268.out))) _).trans (((zx (p := ⟨gb268, _, none⟩) (by first | exact Nat.ne_of_lt (Nat.lt_of_lt_of_le (by have := World.block_lt_of_cell? _ _ v2_1; first | rwa [zl] at this | exact this) GW268.out) | (rw [zl]; exact Nat.ne_of_lt (Nat.lt_of_lt_of_le (by have := World.block_lt_of_cell? _ _ v2_1; first | rwa [zl] at this | exact this) GW268.out)) | (show (Addr.add _ _).block ≠ _; rw [zl]; exact Nat.ne_of_lt (Nat.lt_of_lt_of_le (by have := World.block_lt_of_cell? _ _ v2_1; first | rwa [zl] at this | exact this) GW268.out)) | (dsimp only; exact Nat.ne_of_lt (Nat.lt_of_lt_of_le (by have := World.block_lt_of_cell? _ _ v2_1; first | rwa [zl] at this | exact this) GW268.out))) _).trans (((zx (p := ⟨gb268, _, none⟩) (by first | exact Nat.ne_of_lt (Nat.lt_of_lt_of_le (by have := World.block_lt_of_cell? _ _ v2_1; first | rwa [zl] at this | exact this) GW268.out) | (rw [zl]; exact Nat.ne_of_lt (Nat.lt_of_lt_of_le (by have := World.block_lt_of_cell? _ _ v2_1; first | rwa [zl] at this | exact this) GW268.out)) | (show (Addr.add _ _).block ≠ _; rw [zl]; exact Nat.ne_of_lt (Nat.lt_of_lt_of_le (by have := World.block_lt_of_cell? _ _ v2_1; first | rwa [zl] at this | exact this) GW268.out)) | (dsimp only; exact Nat.ne_of_lt (Nat.lt_of_lt_of_le (by have := World.block_lt_of_cell? _ _ v2_1; first | rwa [zl] at this | exact this) GW268.out))) _).trans (hHeld.2.2.2.2.2.2.1)))))))), ((zx (p := ⟨gb268, _, none⟩) (by first | exact Nat.ne_of_lt (Nat.lt_of_lt_of_le (by have := World.block_lt_of_cell? _ _ v2_2; first | rwa [zl] at this | exact this) GW268.out) | (rw [zl]; exact Nat.ne_of_lt (Nat.lt_of_lt_of_le (by have := World.block_lt_of_cell? _ _ v2_2; first | rwa [zl] at this | exact this) GW268.out)) | (show (Addr.add _ _).block ≠ _; rw [zl]; exact Nat.ne_of_lt (Nat.lt_of_lt_of_le (by have := World.block_lt_of_cell? _ _ v2_2; first | rwa [zl] at this | exact this) GW268.out)) | (dsimp only; exact Nat.ne_of_lt (Nat.lt_of_lt_of_le (by have := World.block_lt_of_cell? _ _ v2_2; first | rwa [zl] at this | exact this) GW268.out))) _).trans (((zx (p := ⟨gb268, _, none⟩) (by first | exact Nat.ne_of_lt (Nat.lt_of_lt_of_le (by have := World.block_lt_of_cell? _ _ v2_2; first | rwa [zl] at this | exact this) GW268.out) | (rw [zl]; exact Nat.ne_of_lt (Nat.lt_of_lt_of_le (by have := World.block_lt_of_cell? _ _ v2_2; first | rwa [zl] at this | exact this) GW268.out)) | (show (Addr.add _ _).block ≠ _; rw [zl]; exact Nat.ne_of_lt (Nat.lt_of_lt_of_le (by have := World.block_lt_of_cell? _ _ v2_2; first | rwa [zl] at this | exact this) GW268.out)) | (dsimp only; exact Nat.ne_of_lt (Nat.lt_of_lt_of_le (by have := World.block_lt_of_cell? _ _ v2_2; first | rwa [zl] at this | exact this) GW268.out))) _).trans (((zx (p := ⟨gb268, _, none⟩) (by first | exact Nat.ne_of_lt (Nat.lt_of_lt_of_le (by have := World.block_lt_of_cell? _ _ v2_2; first | rwa [zl] at this | exact this) GW268.out) | (rw [zl]; exact Nat.ne_of_lt (Nat.lt_of_lt_of_le (by have := World.block_lt_of_cell? _ _ v2_2; first | rwa [zl] at this | exact this) GW268.out)) | (show (Addr.add _ _).block ≠ _; rw [zl]; exact Nat.ne_of_lt (Nat.lt_of_lt_of_le (by have := World.block_lt_of_cell? _ _ v2_2; first | rwa [zl] at this | exact this) GW268.out)) | (dsimp only; exact Nat.ne_of_lt (Nat.lt_of_lt_of_le (by have := World.block_lt_of_cell? _ _ v2_2; first | rwa [zl] at this | exact this) GW268.out))) _).trans (((zx (p := ⟨gb268, _, none⟩) (by first | exact Nat.ne_of_lt (Nat.lt_of_lt_of_le (by have := World.block_lt_of_cell? _ _ v2_2; first | rwa [zl] at this | exact this) GW268.out) | (rw [zl]; exact Nat.ne_of_lt (Nat.lt_of_lt_of_le (by have := World.block_lt_of_cell? _ _ v2_2; first | rwa [zl] at this | exact this) GW268.out)) | (show (Addr.add _ _).block ≠ _; rw [zl]; exact Nat.ne_of_lt (Nat.lt_of_lt_of_le (by have := World.block_lt_of_cell? _ _ v2_2; first | rwa [zl] at this | exact this) GW268.out)) | (dsimp only; exact Nat.ne_of_lt (Nat.lt_of_lt_of_le (by have := World.block_lt_of_cell? _ _ v2_2; first | rwa [zl] at this | exact this) GW268.out))) _).trans (hHeld.2.2.2.2.2.2.2.1)))))))), ((zx (p := ⟨gb268, _, none⟩) (by first | exact Nat.ne_of_lt (Nat.lt_of_lt_of_le (by have := World.block_lt_of_cell? _ _ v2_3; first | rwa [zl] at this | exact this) GW268.out) | (rw [zl]; exact Nat.ne_of_lt (Nat.lt_of_lt_of_le (by have := World.block_lt_of_cell? _ _ v2_3; first | rwa [zl] at this | exact this) GW268.out)) | (show (Addr.add _ _).block ≠ _; rw [zl]; exact Nat.ne_of_lt (Nat.lt_of_lt_of_le (by have := World.block_lt_of_cell? _ _ v2_3; first | rwa [zl] at this | exact this) GW268.out)) | (dsimp only; exact Nat.ne_of_lt (Nat.lt_of_lt_of_le (by have := World.block_lt_of_cell? _ _ v2_3; first | rwa [zl] at this | exact this) GW268.out))) _).trans (((zx (p := ⟨gb268, _, none⟩) (by first | exact Nat.ne_of_lt (Nat.lt_of_lt_of_le (by have := World.block_lt_of_cell? _ _ v2_3; first | rwa [zl] at this | exact this) GW268.out) | (rw [zl]; exact Nat.ne_of_lt (Nat.lt_of_lt_of_le (by have := World.block_lt_of_cell? _ _ v2_3; first | rwa [zl] at this | exact this) GW268.out)) | (show (Addr.add _ _).block ≠ _; rw [zl]; exact Nat.ne_of_lt (Nat.lt_of_lt_of_le (by have := World.block_lt_of_cell? _ _ v2_3; first | rwa [zl] at this | exact this) GW268.out)) | (dsimp only; exact Nat.ne_of_lt (Nat.lt_of_lt_of_le (by have := World.block_lt_of_cell? _ _ v2_3; first | rwa [zl] at this | exact this) GW268.out))) _).trans (((zx (p := ⟨gb268, _, none⟩) (by first | exact Nat.ne_of_lt (Nat.lt_of_lt_of_le (by have := World.block_lt_of_cell? _ _ v2_3; first | rwa [zl] at this | exact this) GW268.out) | (rw [zl]; exact Nat.ne_of_lt (Nat.lt_of_lt_of_le (by have := World.block_lt_of_cell? _ _ v2_3; first | rwa [zl] at this | exact this) GW268.out)) | (show (Addr.add _ _).block ≠ _; rw [zl]; exact Nat.ne_of_lt (Nat.lt_of_lt_of_le (by have := World.block_lt_of_cell? _ _ v2_3; first | rwa [zl] at this | exact this) GW268.out)) | (dsimp only; exact Nat.ne_of_lt (Nat.lt_of_lt_of_le (by have := World.block_lt_of_cell? _ _ v2_3; first | rwa [zl] at this | exact this) GW268.out))) _).trans (((zx (p := ⟨gb268, _, none⟩) (by first | exact Nat.ne_of_lt (Nat.lt_of_lt_of_le (by have := World.block_lt_of_cell? _ _ v2_3; first | rwa [zl] at this | exact this) GW268.out) | (rw [zl]; exact Nat.ne_of_lt (Nat.lt_of_lt_of_le (by have := World.block_lt_of_cell? _ _ v2_3; first | rwa [zl] at this | exact this) GW268.out)) | (show (Addr.add _ _).block ≠ _; rw [zl]; exact Nat.ne_of_lt (Nat.lt_of_lt_of_le (by have := World.block_lt_of_cell? _ _ v2_3; first | rwa [zl] at this | exact this) GW268.out)) | (dsimp only; exact Nat.ne_of_lt (Nat.lt_of_lt_of_le (by have := World.block_lt_of_cell? _ _ v2_3; first | rwa [zl] at this | exact this) GW268.out))) _).trans (hHeld.2.2.2.2.2.2.2.2))))))))⟩ (fun hHeld => ?_)
   clear hK K
   refine zxb (zcb HT_.out (by kernel_rfl)) ?_
   try go_wp2
   refine bodyPost_ret (results_cell_row rfl _ _ gb268 43 #[.int .i8 t271, .int .i8 t272, .int .i8 t273, .int .i8 t274] (0, 0) _ rfl (by (with_reducible repeat (first | refine zb ?_ _ | refine zd ?_ | refine za ?_ _)); refine zp (cs := #[.int .i8 t271, .int .i8 t272, .int .i8 t273, .int .i8 0]) ?_ 3 _ rfl; (with_reducible repeat (first | refine zb ?_ _ | refine zd ?_ | refine za ?_ _)); refine zp (cs := #[.int .i8 t271, .int .i8 t272, .int .i8 0, .int .i8 0]) ?_ 2 _ rfl; (with_reducible repeat (first | refine zb ?_ _ | refine zd ?_ | refine za ?_ _)); refine zp (cs := #[.int .i8 t271, .int .i8 0, .int .i8 0, .int .i8 0]) ?_ 1 _ rfl; (with_reducible repeat (first | refine zb ?_ _ | refine zd ?_ | refine za ?_ _)); refine zp (cs := #[.int .i8 0, .int .i8 0, .int .i8 0, .int .i8 0]) ?_ 0 _ rfl; (with_reducible repeat (first | refine zb ?_ _ | refine zd ?_ | refine za ?_ _)); exact BK268.out) Try.underlying43 rfl (by kernel_rfl)) rfl ?_
   exact ⟨by first | rfl | (simp [zn, zm] <;> rfl) | (simp [*, zn, zm] <;> rfl), by repeat (first | (with_reducible first | exact HB.out | apply zg | apply zc | apply zf | refine zi ?_ GE267.out | refine zi ?_ GE268.out) | exact HB.out)⟩
  rw [if_neg c25] at H
  exact absurd H (by simp)
 rw [if_neg c24] at H
 exact absurd H (by simp)
mutual
def spec_l03Cases.j0 : Nat → List (S38) → Int → Int → Bool → Bool → Option ((List (S38)))
 | 0, _, _, _, _, _ => none
 | k + 1, x3, x276000, x276001, x276002, x276003 => spec_l03Cases.l0 k x3 0 x276000 x276001 x276002 x276003
def spec_l03Cases.l0 : Nat → List (S38) → Int → Int → Int → Bool → Bool → Option ((List (S38)))
 | 0, _, _, _, _, _, _ => none
 | k + 1, x3, x4, x276000, x276001, x276002, x276003 => if x4 < x276000 then (if x276001 = 1 then (if x276001 = 0 then (spec_l03Cases.l0 k x3 (IntKind.i8.wrap (x4 + 1)) x276000 x276001 x276002 x276003) else (if x3.length < 70368744177664 then (spec_l03Cases.l0 k (x3 ++ [(⟨x4, false⟩ : S38)]) (IntKind.i8.wrap (x4 + 1)) x276000 x276001 x276002 x276003) else (none))) else (if x3.length < 70368744177664 then ((some (x3 ++ [(⟨x4, true⟩ : S38)] : List (S38))).bind fun y285 => (if x276001 = 0 then (spec_l03Cases.l0 k y285 (IntKind.i8.wrap (x4 + 1)) x276000 x276001 x276002 x276003) else (if y285.length < 70368744177664 then (spec_l03Cases.l0 k (y285 ++ [(⟨x4, false⟩ : S38)]) (IntKind.i8.wrap (x4 + 1)) x276000 x276001 x276002 x276003) else (none)))) else (none))) else (some x3)
end
def spec_l03Cases.f (k : Nat) (a0_0 : Int) (a0_1 : Int) (a0_2 : Bool) (a0_3 : Bool) : Option ((List (S38))) := (some (([] : List (S38)) : List (S38))).bind fun y276 => (if a0_2 = true then (if y276.length < 70368744177664 then (spec_l03Cases.j0 k (y276 ++ [(⟨(-1), false⟩ : S38)]) a0_0 a0_1 a0_2 a0_3) else (none)) else (spec_l03Cases.j0 k y276 a0_0 a0_1 a0_2 a0_3))
set_option maxHeartbeats 8000000 in
set_option maxRecDepth 100000 in
theorem spec_l03Cases.calls (k : Nat) (a0_0 : Int) (a0_1 : Int) (a0_2 : Bool) (a0_3 : Bool) (r : List (S38)) (w : World) (h : spec_l03Cases.f k a0_0 a0_1 a0_2 a0_3 = some r) :
  Calls Try.prog 73 #[.agg #[.int .i8 a0_0, .int .i8 a0_1, .bool a0_2, .bool a0_3]] w fun e w' => ∃ v0_ : Value, e = .returned (v0_) ∧ Kd.R k38 38 w' w.heap.size (fun _ => True) v0_ r ∧ Below w.heap.size w w' := by
 have hu50 := Try.underlying50
 have hu38 := Try.underlying38
 have HB := ze.mk (Below.refl w.heap.size w)
 have H : ((some (([] : List (S38)) : List (S38))).bind fun y276 => (if a0_2 = true then (if y276.length < 70368744177664 then (spec_l03Cases.j0 k (y276 ++ [(⟨(-1), false⟩ : S38)]) a0_0 a0_1 a0_2 a0_3) else (none)) else (spec_l03Cases.j0 k y276 a0_0 a0_1 a0_2 a0_3))) = some r := h
 clear h
 obtain ⟨y276, hy276⟩ : ∃ y_ : List (S38), y_ = (([] : List (S38))) := ⟨_, rfl⟩
 replace H : (if a0_2 = true then (if y276.length < 70368744177664 then (spec_l03Cases.j0 k (y276 ++ [(⟨(-1), false⟩ : S38)]) a0_0 a0_1 a0_2 a0_3) else (none)) else (spec_l03Cases.j0 k y276 a0_0 a0_1 a0_2 a0_3)) = some r := by first | (rw [hy276]; with_reducible exact H) | (have H2_ := (Option.bind_some _ _).symm.trans H; rw [hy276]; with_reducible exact H2_) | (have H2_ := (Option.bind_some _ _).symm.trans H; with_reducible exact H2_) | with_reducible exact H | (rw [hy276]; exact H) | exact H
 have Ny276 := ze.mk hy276
 clear hy276
 have HC2 := ze.mk H
 clear H
 go_enter Try.func73, Try.ntmps73
 go_upto_if 7 with (first | ((with_reducible refine zu (N := 1) rfl ?_); refine zr ?hg (N := 1) ?hd (cs := #[.int .i8 a0_0, .int .i8 a0_1, .bool a0_2, .bool a0_3]) (t := 50) ?hr ?_; (case hd => rfl); (case hg => rfl); (case hr => first | (go_simp; done) | (go_simp; rfl)); intro gb275 hg w3 hbox hb; obtain ⟨n0_, n2_⟩ := bx (by repeat (first | (with_reducible first | exact HB.out | apply zg | apply zc | apply zf) | exact HB.out)) hb hg; have n1_ := ze.mk (hbox); have n3_ := n2_; clear HB; have HB := n0_; have BK275 := n1_; have GW275 := n2_; have GE275 := n3_; clear n0_ n1_ n2_ n3_; clear hb hbox hg) | ((with_reducible refine zu (N := 5) rfl ?_); refine Kd.R_lit k38 _ 38 ?hg (N := 5) ?hd (xs := ([] : List (S38))) (inner := []) (ok := fun _ => True) (okp := fun _ => True) ?hr ?hp (fun _ hk => hk) trivial (Below.refl _ _) (Nat.le_refl _) (by simp) ?_; (case hd => rfl); (case hg => rfl); (case hr => first | (go_simp; done) | (go_simp; rfl)); (case hp => exact (Reps.none _ _)); intro v277 w4 ho5 hb hg_ hnew_; clear hg_ hnew_; (first | rw [← Ny276.out] at ho5 | (simp only [Int.reduceToNat] at ho5; rw [← Ny276.out] at ho5)); have n0_ := ze.mk (Kd.R_lower ho5 (zaa (by repeat (first | (with_reducible first | exact HB.out | apply zg | apply zc | apply zf | refine zi ?_ GE275.out) | exact HB.out)))); have n1_ := ze.mk (zk (by (with_reducible repeat (first | refine zb ?_ _ | refine zd ?_ | refine za ?_ _)); exact BK275.out) hb); have n2_ := ze.mk (zt (by repeat (first | (with_reducible first | exact HB.out | apply zg | apply zc | apply zf | refine zi ?_ GE275.out) | exact HB.out)) hb); clear BK275; clear HB; have HO278 := n0_; have BK275 := n1_; have HB := n2_; clear n0_ n1_ n2_; clear hb ho5; obtain ⟨y1_0, y1_1, y1_2, y1_3, z1_0, z1_1, z1_2, z1_3⟩ := cf4 BK275.out))
 (try simp only [Act.put, List.setIfInBounds_toArray, List.set_cons_zero, List.set_cons_succ])
 go_cut [3] (fun v3 wc => ∃ (kq : Nat) (x3_1 : List (S38)), ze (spec_l03Cases.j0 kq x3_1 a0_0 a0_1 a0_2 a0_3 = some r) ∧ ze (kq ≤ k) ∧ ze (Kd.R k38 38 wc w.heap.size (fun _ => True) v3 x3_1) ∧ ze (wc.heap[gb275]? = some (.cells #[.int .i8 a0_0, .int .i8 a0_1, .bool a0_2, .bool a0_3] 50 (0, 0))) ∧ ze (Below w.heap.size w wc))
 case first =>
  have H := HC2.out
  clear HC2
  by_cases c7 : a0_2 = true
  ·subst c7
   have H1 : (if y276.length < 70368744177664 then (spec_l03Cases.j0 k (y276 ++ [(⟨(-1), false⟩ : S38)]) a0_0 a0_1 true a0_3) else (none)) = some r := by rw [if_pos rfl] at H; exact H
   clear H
   have H := H1
   clear H1
   by_cases c8 : y276.length < 70368744177664
   ·rw [if_pos c8] at H
    have LMc8 := ze.mk c8
    clear c8
    obtain ⟨y279, hy279⟩ : ∃ y_ : List (S38), y_ = (y276 ++ [(⟨(-1), false⟩ : S38)]) := ⟨_, rfl⟩
    replace H : (spec_l03Cases.j0 k y279 a0_0 a0_1 true a0_3) = some r := by first | (rw [hy279]; with_reducible exact H) | (have H2_ := (Option.bind_some _ _).symm.trans H; rw [hy279]; with_reducible exact H2_) | (have H2_ := (Option.bind_some _ _).symm.trans H; with_reducible exact H2_) | with_reducible exact H | (rw [hy279]; exact H) | exact H
    have Ny279 := ze.mk hy279
    clear hy279
    have H' := ze.mk H
    clear H
    go_wp2_with (first | ((with_reducible refine zga (b := .append) (xs := #[.tmp 8, .tmp 10]) rfl ?_); at_builtin; refine Kd.R_append k38 (w0 := w) w.heap.size rfl (.tmp 8) (.tmp 10) 55 38 (.agg #[(.int .i8 0), (.bool false)]) 2 rfl Try.underlying55 zgc rfl (by decide) (by omega) v277 y276 (⟨(-1), false⟩ : S38) [.int .i8 (-1), .bool false] (fun _ => True) (fun _ => False) rfl rfl ?aP (fun _ hk => hk.elim) ?aF ?aO ?aB ?aS ?aL ?_; (case aP => exact zib _ _ _ (⟨(-1), false⟩ : S38)); (case aB => exact (by repeat (first | (with_reducible first | exact HB.out | apply zg | apply zc | apply zf | refine zi ?_ GE275.out) | exact HB.out))); (case aF => exact (fun _ _ => trivial)); (case aO => exact (by (with_reducible repeat (first | apply Kd.R_alloc | apply Kd.R_drewN | apply Kd.R_drew)); exact HO278.out)); (case aS => exact (zaa (by repeat (first | (with_reducible first | exact HB.out | apply zg | apply zc | apply zf | refine zi ?_ GE275.out) | exact HB.out)))); (case aL => have := LMc8.out; omega); intro v280 w9 ho hb hg hat; rw [← Ny279.out] at ho; have n0_ := ze.mk (zla (g := gb275) (o := .cells #[.int .i8 a0_0, .int .i8 a0_1, .bool true, .bool a0_3] 50 (0, 0)) (by (with_reducible repeat (first | refine zb ?_ _ | refine zd ?_ | refine za ?_ _)); exact BK275.out) hg (Kd.R_ne HO278.out BK275.out (by decide))); have n1_ := ze.mk (hb); have n2_ := ze.mk (ho); clear BK275; clear HB; clear HO278; have BK275 := n0_; have HB := n1_; have HO281 := n2_; clear n0_ n1_ n2_; clear ho hb hg hat))
    go_meet
    case rel => exact ⟨_, (y279), H', ⟨by first | omega | exact Nat.le_refl _⟩, ⟨by (with_reducible repeat (first | apply Kd.R_alloc | apply Kd.R_drewN | apply Kd.R_drew)); exact HO281.out⟩, ⟨by (with_reducible repeat (first | refine zb ?_ _ | refine zd ?_ | refine za ?_ _)); exact BK275.out⟩, ⟨by repeat (first | (with_reducible first | exact HB.out | apply zg | apply zc | apply zf | refine zi ?_ GE275.out) | exact HB.out)⟩⟩
   rw [if_neg c8] at H
   exact absurd H (by simp)
  replace c7 := Bool.eq_false_iff.mpr c7
  subst c7
  have H1 : (spec_l03Cases.j0 k y276 a0_0 a0_1 false a0_3) = some r := by rw [if_neg (show ¬ (false = true) by decide)] at H; exact H
  clear H
  have H := H1
  clear H1
  have H' := ze.mk H
  clear H
  go_wp2
  go_meet
  case rel => exact ⟨_, (y276), H', ⟨by first | omega | exact Nat.le_refl _⟩, ⟨by (with_reducible repeat (first | apply Kd.R_alloc | apply Kd.R_drewN | apply Kd.R_drew)); exact HO278.out⟩, ⟨by (with_reducible repeat (first | refine zb ?_ _ | refine zd ?_ | refine za ?_ _)); exact BK275.out⟩, ⟨by repeat (first | (with_reducible first | exact HB.out | apply zg | apply zc | apply zf | refine zi ?_ GE275.out) | exact HB.out)⟩⟩
 case rest =>
  clear HC2
  try clear p2
  try clear c7
  try clear c8
  try clear y1_0 y1_1 y1_2 y1_3
  try clear z1_0 z1_1 z1_2 z1_3
  obtain ⟨kq, x3_1, HA, HJ1, HO_3, BK275, HB⟩ := hcut
  cases kq with
  | zero => exact absurd HA.out (by simp [spec_l03Cases.j0])
  | succ kj1 =>
   have H := HA.out
   clear HA
   simp only [spec_l03Cases.j0] at H
   have H' := ze.mk H
   clear H
   go_wp2
   go_loopg [3, 4] kj1 (fun kq v3 v4 w' => ∃ (x3_2 : List (S38)) (x4_2 : Int), v4 = .int .i8 x4_2 ∧ ze (spec_l03Cases.l0 kq x3_2 x4_2 a0_0 a0_1 a0_2 a0_3 = some r) ∧ ze (kq ≤ kj1) ∧ ze (Kd.R k38 38 w' w.heap.size (fun _ => True) v3 x3_2) ∧ ze (w'.heap[gb275]? = some (.cells #[.int .i8 a0_0, .int .i8 a0_1, .bool a0_2, .bool a0_3] 50 (0, 0))) ∧ ze (Below w.heap.size w w'))
   case atStart => exact ⟨(x3_1), (0), (by first | rfl | (simp; done) | (simp [*]; done)), H', ⟨Nat.le_refl _⟩, ⟨by (with_reducible repeat (first | apply Kd.R_alloc | apply Kd.R_drewN | apply Kd.R_drew)); exact HO_3.out⟩, ⟨by (with_reducible repeat (first | refine zb ?_ _ | refine zd ?_ | refine za ?_ _)); exact BK275.out⟩, ⟨by repeat (first | (with_reducible first | exact HB.out | apply zg | apply zc | apply zf | refine zi ?_ GE275.out) | exact HB.out)⟩⟩
   case round =>
    clear H'
    try clear p2
    try clear c7
    try clear c8
    try clear y1_0 y1_1 y1_2 y1_3
    try clear z1_0 z1_1 z1_2 z1_3
    try clear p2
    obtain ⟨x3_2, x4_2, rfl, HA, HK2, HO_3, BK275, HB⟩ := hrel
    cases gk with
    | zero => exact absurd HA.out (by simp [spec_l03Cases.l0])
    | succ k2 =>
     have H := HA.out
     clear HA
     simp only [spec_l03Cases.l0] at H
     by_cases c10 : x4_2 < a0_0
     ·rw [if_pos c10] at H
      have c10b0 : decide (x4_2 < a0_0) = true := decide_eq_true c10
      clear c10
      by_cases c11 : a0_1 = 1
      ·rw [if_pos c11] at H
       have c11b0 : (a0_1 == 1) = true := beq_iff_eq.mpr c11
       have c11b1 : (a0_1 != 1) = false := bne_eq_false_iff_eq.mpr c11
       clear c11
       by_cases c12 : a0_1 = 0
       ·rw [if_pos c12] at H
        have c12b0 : (a0_1 == 0) = true := beq_iff_eq.mpr c12
        have c12b1 : (a0_1 != 0) = false := bne_eq_false_iff_eq.mpr c12
        clear c12
        have H' := ze.mk H
        clear H
        obtain ⟨y2_0, y2_1, y2_2, y2_3, z2_0, z2_1, z2_2, z2_3⟩ := cf4 BK275.out
        go_wp2
        go_roundg k2
        case measure => have := HJ1.out; have := HK2.out; omega
        case rel => exact ⟨(x3_2), (IntKind.i8.wrap (x4_2 + 1)), (by first | rfl | (simp; done) | (simp [*]; done)), H', ⟨by have := HJ1.out; have := HK2.out; omega⟩, ⟨by (with_reducible repeat (first | apply Kd.R_alloc | apply Kd.R_drewN | apply Kd.R_drew)); exact HO_3.out⟩, ⟨by (with_reducible repeat (first | refine zb ?_ _ | refine zd ?_ | refine za ?_ _)); exact BK275.out⟩, ⟨by repeat (first | (with_reducible first | exact HB.out | apply zg | apply zc | apply zf | refine zi ?_ GE275.out) | exact HB.out)⟩⟩
       rw [if_neg c12] at H
       have c12b0 : (a0_1 == 0) = false := beq_eq_false_iff_ne.mpr c12
       have c12b1 : (a0_1 != 0) = true := bne_iff_ne.mpr c12
       by_cases c14 : x3_2.length < 70368744177664
       ·rw [if_pos c14] at H
        have LMc14 := ze.mk c14
        clear c14
        obtain ⟨y282, hy282⟩ : ∃ y_ : List (S38), y_ = (x3_2 ++ [(⟨x4_2, false⟩ : S38)]) := ⟨_, rfl⟩
        replace H : (spec_l03Cases.l0 k2 y282 (IntKind.i8.wrap (x4_2 + 1)) a0_0 a0_1 a0_2 a0_3) = some r := by first | (rw [hy282]; with_reducible exact H) | (have H2_ := (Option.bind_some _ _).symm.trans H; rw [hy282]; with_reducible exact H2_) | (have H2_ := (Option.bind_some _ _).symm.trans H; with_reducible exact H2_) | with_reducible exact H | (rw [hy282]; exact H) | exact H
        have Ny282 := ze.mk hy282
        clear hy282
        have H' := ze.mk H
        clear H
        obtain ⟨y3_0, y3_1, y3_2, y3_3, z3_0, z3_1, z3_2, z3_3⟩ := cf4 BK275.out
        go_wp2_with (first | ((with_reducible refine zga (b := .append) (xs := #[.tmp 29, .tmp 32]) rfl ?_); at_builtin; refine Kd.R_append k38 (w0 := w) w.heap.size rfl (.tmp 29) (.tmp 32) 55 38 (.agg #[(.int .i8 0), (.bool false)]) 2 rfl Try.underlying55 zgc rfl (by decide) (by omega) u3 x3_2 (⟨x4_2, false⟩ : S38) [.int .i8 x4_2, .bool false] (fun _ => True) (fun _ => False) rfl rfl ?aP (fun _ hk => hk.elim) ?aF ?aO ?aB ?aS ?aL ?_; (case aP => exact zib _ _ _ (⟨x4_2, false⟩ : S38)); (case aB => exact (by repeat (first | (with_reducible first | exact HB.out | apply zg | apply zc | apply zf | refine zi ?_ GE275.out) | exact HB.out))); (case aF => exact (fun _ _ => trivial)); (case aO => exact (by (with_reducible repeat (first | apply Kd.R_alloc | apply Kd.R_drewN | apply Kd.R_drew)); exact HO_3.out)); (case aS => exact (zaa (by repeat (first | (with_reducible first | exact HB.out | apply zg | apply zc | apply zf | refine zi ?_ GE275.out) | exact HB.out)))); (case aL => have := LMc14.out; omega); intro v283 w16 ho hb hg hat; rw [← Ny282.out] at ho; have n0_ := ze.mk (zla (g := gb275) (o := .cells #[.int .i8 a0_0, .int .i8 a0_1, .bool a0_2, .bool a0_3] 50 (0, 0)) (by (with_reducible repeat (first | refine zb ?_ _ | refine zd ?_ | refine za ?_ _)); exact BK275.out) hg (Kd.R_ne HO_3.out BK275.out (by decide))); have n1_ := ze.mk (hb); have n2_ := ze.mk (ho); clear BK275; clear HB; clear HO_3; have BK275 := n0_; have HB := n1_; have HO284 := n2_; clear n0_ n1_ n2_; clear ho hb hg hat))
        go_roundg k2
        case measure => have := HJ1.out; have := HK2.out; omega
        case rel => exact ⟨(y282), (IntKind.i8.wrap (x4_2 + 1)), (by first | rfl | (simp; done) | (simp [*]; done)), H', ⟨by have := HJ1.out; have := HK2.out; omega⟩, ⟨by (with_reducible repeat (first | apply Kd.R_alloc | apply Kd.R_drewN | apply Kd.R_drew)); exact HO284.out⟩, ⟨by (with_reducible repeat (first | refine zb ?_ _ | refine zd ?_ | refine za ?_ _)); exact BK275.out⟩, ⟨by repeat (first | (with_reducible first | exact HB.out | apply zg | apply zc | apply zf | refine zi ?_ GE275.out) | exact HB.out)⟩⟩
       rw [if_neg c14] at H
       exact absurd H (by simp)
      rw [if_neg c11] at H
      have c11b0 : (a0_1 == 1) = false := beq_eq_false_iff_ne.mpr c11
      have c11b1 : (a0_1 != 1) = true := bne_iff_ne.mpr c11
      by_cases c17 : x3_2.length < 70368744177664
      ·rw [if_pos c17] at H
       have LMc17 := ze.mk c17
       clear c17
       obtain ⟨y285, hy285⟩ : ∃ y_ : List (S38), y_ = (x3_2 ++ [(⟨x4_2, true⟩ : S38)]) := ⟨_, rfl⟩
       replace H : (if a0_1 = 0 then (spec_l03Cases.l0 k2 y285 (IntKind.i8.wrap (x4_2 + 1)) a0_0 a0_1 a0_2 a0_3) else (if y285.length < 70368744177664 then (spec_l03Cases.l0 k2 (y285 ++ [(⟨x4_2, false⟩ : S38)]) (IntKind.i8.wrap (x4_2 + 1)) a0_0 a0_1 a0_2 a0_3) else (none))) = some r := by first | (rw [hy285]; with_reducible exact H) | (have H2_ := (Option.bind_some _ _).symm.trans H; rw [hy285]; with_reducible exact H2_) | (have H2_ := (Option.bind_some _ _).symm.trans H; with_reducible exact H2_) | with_reducible exact H | (rw [hy285]; exact H) | exact H
       have Ny285 := ze.mk hy285
       clear hy285
       by_cases c18 : a0_1 = 0
       ·rw [if_pos c18] at H
        have c18b0 : (a0_1 == 0) = true := beq_iff_eq.mpr c18
        have c18b1 : (a0_1 != 0) = false := bne_eq_false_iff_eq.mpr c18
        clear c18
        have H' := ze.mk H
        clear H
        obtain ⟨y4_0, y4_1, y4_2, y4_3, z4_0, z4_1, z4_2, z4_3⟩ := cf4 BK275.out
        go_wp2_with (first | ((with_reducible refine zga (b := .append) (xs := #[.tmp 21, .tmp 24]) rfl ?_); at_builtin; refine Kd.R_append k38 (w0 := w) w.heap.size rfl (.tmp 21) (.tmp 24) 55 38 (.agg #[(.int .i8 0), (.bool false)]) 2 rfl Try.underlying55 zgc rfl (by decide) (by omega) u3 x3_2 (⟨x4_2, true⟩ : S38) [.int .i8 x4_2, .bool true] (fun _ => True) (fun _ => False) rfl rfl ?aP (fun _ hk => hk.elim) ?aF ?aO ?aB ?aS ?aL ?_; (case aP => exact zib _ _ _ (⟨x4_2, true⟩ : S38)); (case aB => exact (by repeat (first | (with_reducible first | exact HB.out | apply zg | apply zc | apply zf | refine zi ?_ GE275.out) | exact HB.out))); (case aF => exact (fun _ _ => trivial)); (case aO => exact (by (with_reducible repeat (first | apply Kd.R_alloc | apply Kd.R_drewN | apply Kd.R_drew)); exact HO_3.out)); (case aS => exact (zaa (by repeat (first | (with_reducible first | exact HB.out | apply zg | apply zc | apply zf | refine zi ?_ GE275.out) | exact HB.out)))); (case aL => have := LMc17.out; omega); intro v286 w20 ho hb hg hat; rw [← Ny285.out] at ho; have n0_ := ze.mk (zla (g := gb275) (o := .cells #[.int .i8 a0_0, .int .i8 a0_1, .bool a0_2, .bool a0_3] 50 (0, 0)) (by (with_reducible repeat (first | refine zb ?_ _ | refine zd ?_ | refine za ?_ _)); exact BK275.out) hg (Kd.R_ne HO_3.out BK275.out (by decide))); have n1_ := ze.mk (hb); have n2_ := ze.mk (ho); clear BK275; clear HB; clear HO_3; have BK275 := n0_; have HB := n1_; have HO287 := n2_; clear n0_ n1_ n2_; clear ho hb hg hat; obtain ⟨y5_0, y5_1, y5_2, y5_3, z5_0, z5_1, z5_2, z5_3⟩ := cf4 BK275.out))
        go_roundg k2
        case measure => have := HJ1.out; have := HK2.out; omega
        case rel => exact ⟨(y285), (IntKind.i8.wrap (x4_2 + 1)), (by first | rfl | (simp; done) | (simp [*]; done)), H', ⟨by have := HJ1.out; have := HK2.out; omega⟩, ⟨by (with_reducible repeat (first | apply Kd.R_alloc | apply Kd.R_drewN | apply Kd.R_drew)); exact HO287.out⟩, ⟨by (with_reducible repeat (first | refine zb ?_ _ | refine zd ?_ | refine za ?_ _)); exact BK275.out⟩, ⟨by repeat (first | (with_reducible first | exact HB.out | apply zg | apply zc | apply zf | refine zi ?_ GE275.out) | exact HB.out)⟩⟩
       rw [if_neg c18] at H
       have c18b0 : (a0_1 == 0) = false := beq_eq_false_iff_ne.mpr c18
       have c18b1 : (a0_1 != 0) = true := bne_iff_ne.mpr c18
       by_cases c22 : y285.length < 70368744177664
       ·rw [if_pos c22] at H
        have LMc22 := ze.mk c22
        clear c22
        obtain ⟨y288, hy288⟩ : ∃ y_ : List (S38), y_ = (y285 ++ [(⟨x4_2, false⟩ : S38)]) := ⟨_, rfl⟩
        replace H : (spec_l03Cases.l0 k2 y288 (IntKind.i8.wrap (x4_2 + 1)) a0_0 a0_1 a0_2 a0_3) = some r := by first | (rw [hy288]; with_reducible exact H) | (have H2_ := (Option.bind_some _ _).symm.trans H; rw [hy288]; with_reducible exact H2_) | (have H2_ := (Option.bind_some _ _).symm.trans H; with_reducible exact H2_) | with_reducible exact H | (rw [hy288]; exact H) | exact H
        have Ny288 := ze.mk hy288
        clear hy288
        have H' := ze.mk H
        clear H
        obtain ⟨y6_0, y6_1, y6_2, y6_3, z6_0, z6_1, z6_2, z6_3⟩ := cf4 BK275.out
        go_wp2_with (first | ((with_reducible refine zga (b := .append) (xs := #[.tmp 21, .tmp 24]) rfl ?_); at_builtin; refine Kd.R_append k38 (w0 := w) w.heap.size rfl (.tmp 21) (.tmp 24) 55 38 (.agg #[(.int .i8 0), (.bool false)]) 2 rfl Try.underlying55 zgc rfl (by decide) (by omega) u3 x3_2 (⟨x4_2, true⟩ : S38) [.int .i8 x4_2, .bool true] (fun _ => True) (fun _ => False) rfl rfl ?aP (fun _ hk => hk.elim) ?aF ?aO ?aB ?aS ?aL ?_; (case aP => exact zib _ _ _ (⟨x4_2, true⟩ : S38)); (case aB => exact (by repeat (first | (with_reducible first | exact HB.out | apply zg | apply zc | apply zf | refine zi ?_ GE275.out) | exact HB.out))); (case aF => exact (fun _ _ => trivial)); (case aO => exact (by (with_reducible repeat (first | apply Kd.R_alloc | apply Kd.R_drewN | apply Kd.R_drew)); exact HO_3.out)); (case aS => exact (zaa (by repeat (first | (with_reducible first | exact HB.out | apply zg | apply zc | apply zf | refine zi ?_ GE275.out) | exact HB.out)))); (case aL => have := LMc17.out; omega); intro v286 w24 ho hb hg hat; rw [← Ny285.out] at ho; have n0_ := ze.mk (zla (g := gb275) (o := .cells #[.int .i8 a0_0, .int .i8 a0_1, .bool a0_2, .bool a0_3] 50 (0, 0)) (by (with_reducible repeat (first | refine zb ?_ _ | refine zd ?_ | refine za ?_ _)); exact BK275.out) hg (Kd.R_ne HO_3.out BK275.out (by decide))); have n1_ := ze.mk (hb); have n2_ := ze.mk (ho); clear BK275; clear HB; clear HO_3; have BK275 := n0_; have HB := n1_; have HO287 := n2_; clear n0_ n1_ n2_; clear ho hb hg hat; obtain ⟨y7_0, y7_1, y7_2, y7_3, z7_0, z7_1, z7_2, z7_3⟩ := cf4 BK275.out) | ((with_reducible refine zga (b := .append) (xs := #[.tmp 29, .tmp 32]) rfl ?_); at_builtin; refine Kd.R_append k38 (w0 := w) w.heap.size rfl (.tmp 29) (.tmp 32) 55 38 (.agg #[(.int .i8 0), (.bool false)]) 2 rfl Try.underlying55 zgc rfl (by decide) (by omega) v286 y285 (⟨x4_2, false⟩ : S38) [.int .i8 x4_2, .bool false] (fun _ => True) (fun _ => False) rfl rfl ?aP (fun _ hk => hk.elim) ?aF ?aO ?aB ?aS ?aL ?_; (case aP => exact zib _ _ _ (⟨x4_2, false⟩ : S38)); (case aB => exact (by repeat (first | (with_reducible first | exact HB.out | apply zg | apply zc | apply zf | refine zi ?_ GE275.out) | exact HB.out))); (case aF => exact (fun _ _ => trivial)); (case aO => exact (by (with_reducible repeat (first | apply Kd.R_alloc | apply Kd.R_drewN | apply Kd.R_drew)); exact HO287.out)); (case aS => exact (zaa (by repeat (first | (with_reducible first | exact HB.out | apply zg | apply zc | apply zf | refine zi ?_ GE275.out) | exact HB.out)))); (case aL => have := LMc22.out; omega); intro v289 w26 ho hb hg hat; rw [← Ny288.out] at ho; have n0_ := ze.mk (zla (g := gb275) (o := .cells #[.int .i8 a0_0, .int .i8 a0_1, .bool a0_2, .bool a0_3] 50 (0, 0)) (by (with_reducible repeat (first | refine zb ?_ _ | refine zd ?_ | refine za ?_ _)); exact BK275.out) hg (Kd.R_ne HO287.out BK275.out (by decide))); have n1_ := ze.mk (hb); have n2_ := ze.mk (ho); clear BK275; clear HB; clear HO287; have BK275 := n0_; have HB := n1_; have HO290 := n2_; clear n0_ n1_ n2_; clear ho hb hg hat))
        go_roundg k2
        case measure => have := HJ1.out; have := HK2.out; omega
        case rel => exact ⟨(y288), (IntKind.i8.wrap (x4_2 + 1)), (by first | rfl | (simp; done) | (simp [*]; done)), H', ⟨by have := HJ1.out; have := HK2.out; omega⟩, ⟨by (with_reducible repeat (first | apply Kd.R_alloc | apply Kd.R_drewN | apply Kd.R_drew)); exact HO290.out⟩, ⟨by (with_reducible repeat (first | refine zb ?_ _ | refine zd ?_ | refine za ?_ _)); exact BK275.out⟩, ⟨by repeat (first | (with_reducible first | exact HB.out | apply zg | apply zc | apply zf | refine zi ?_ GE275.out) | exact HB.out)⟩⟩
       rw [if_neg c22] at H
       exact absurd H (by simp)
      rw [if_neg c17] at H
      exact absurd H (by simp)
     rw [if_neg c10] at H
     have c10b0 : decide (x4_2 < a0_0) = false := decide_eq_false c10
     clear c10
     obtain rfl := Option.some.inj H
     obtain ⟨y8_0, y8_1, y8_2, y8_3, z8_0, z8_1, z8_2, z8_3⟩ := cf4 BK275.out
     go_wp2
     go_ret
     exact ⟨_, by first | rfl | (simp [zn, zm] <;> rfl) | (simp [*, zn, zm] <;> rfl), by (with_reducible repeat (first | apply Kd.R_alloc | apply Kd.R_drewN | apply Kd.R_drew)); exact HO_3.out, by repeat (first | (with_reducible first | exact HB.out | apply zg | apply zc | apply zf | refine zi ?_ GE275.out) | exact HB.out)⟩
def spec_l04Cases.f (k : Nat) (a0_0 : Int) (a0_1 : Int) (l0_2 : List (S43)) : Option ((List (S38))) := (spec_l03Cases.f k (IntKind.i8.wrap ((l0_2.length : Int))) a0_1 true false).bind fun t291 => (some t291)
def spec_l04Cases.T1 : Bool × List (List Nat × List Nat) := (true, [([], []), ([0], [0]), ([1], [1]), ([2], [2]), ([3], [3]), ([4], [4]), ([], []), ([6], [6]), ([7], [7]), ([8], [8]), ([5, 9], [5, 9]), ([10], [10]), ([11, 11, 0, 1, 2, 3, 4, 5, 6, 7, 8, 9, 10, 11], [11])])
def spec_l04Cases.B1 : List Nat := [0, 1, 3, 7, 15, 31, 0, 64, 192, 448, 1023, 2047, 4095]
theorem spec_l04Cases.tab1 : rtab .any (zqe Try.f81 1) = spec_l04Cases.T1 := by kernel_rfl
theorem spec_l04Cases.bits1 : zgb spec_l04Cases.T1.2 spec_l04Cases.B1 = true := by kernel_rfl
set_option maxHeartbeats 8000000 in
set_option maxRecDepth 100000 in
theorem spec_l04Cases.calls (k : Nat) (g0 : Nat) (a0_0 : Int) (a0_1 : Int) (A0_2 : Option Addr) (c0_2 : Nat) (l0_2 : List (S43)) (r : List (S38)) (w : World) (hb0 : w.heap[g0]? = some (.cells #[.int .i8 a0_0, .int .i8 a0_1, .slice A0_2 l0_2.length c0_2] 28 (0, 0))) (hr0_2 : Kd.C k43 w A0_2 l0_2.length l0_2) (hc0_2 : l0_2.length ≤ c0_2) (h : spec_l04Cases.f k a0_0 a0_1 l0_2 = some r) :
  Calls Try.prog 81 #[.pointer (some ⟨g0, 0, none⟩)] w fun e w' => ∃ v0_ : Value, e = .returned (v0_) ∧ Kd.R k38 38 w' w.heap.size (fun _ => True) v0_ r ∧ Below w.heap.size w w' := by
 have hu50 := Try.underlying50
 have HR0_2 := ze.mk hr0_2
 have HC0_2 := ze.mk hc0_2
 clear hr0_2 hc0_2
 have BK0 := ze.mk hb0
 clear hb0
 have HB := ze.mk (Below.refl w.heap.size w)
 have H : ((spec_l03Cases.f k (IntKind.i8.wrap ((l0_2.length : Int))) a0_1 true false).bind fun t291 => (some t291)) = some r := h
 clear h
 replace H := Option.bind_eq_some_iff.mp H
 obtain ⟨t291, A20, H⟩ := H
 replace H : (some t291) = some r := H
 have A2 := ze.mk A20
 clear A20
 obtain rfl := Option.some.inj H
 go_enter Try.func81, Try.ntmps81
 try go_wp2
 have n0_ := ze.mk (zd BK0.out)
 have n1_ := ze.mk (zf HB.out)
 clear BK0
 clear HB
 have BK0 := n0_
 have HB := n1_
 clear n0_ n1_
 refine zfb (n := 13) (S := fun w' => w'.cell? ⟨g0, 0, none⟩ = some (.int .i8 a0_0) ∧ w'.cell? ⟨g0, 1, none⟩ = some (.int .i8 a0_1) ∧ w'.cell? ⟨g0, 2, none⟩ = some (.slice A0_2 l0_2.length c0_2)) (ds := []) (fm 13 0) (by kernel_rfl) rfl rfl ⟨(zo BK0.out 0).trans rfl, (zo BK0.out 1).trans rfl, (zo BK0.out 2).trans rfl⟩ (fun hHeld => ?_); refine zoa spec_l04Cases.tab1 spec_l04Cases.bits1 (fun HT_ HW_ => ?_)
 generalize w.drew = w3 at BK0 HB hHeld ⊢
 refine pb 0 3 (fm 13 1) rfl rfl HT_.out (by kernel_rfl) pq (by rfl) (by intro w'; go_simp; with_reducible rfl) (by simp only [Act.put, ea, eb, ec, zy, zz]; rfl) ?_
 refine pb 1 4 (fm 13 2) rfl rfl HT_.out (by kernel_rfl) pq (by rfl) (by intro w'; go_simp; with_reducible rfl) (by simp only [Act.put, ea, eb, ec, zy, zz]; rfl) ?_
 refine pb 2 5 (fm 13 3) rfl rfl HT_.out (by kernel_rfl) pq (by rfl) (by intro w'; go_simp; with_reducible rfl) (by simp only [Act.put, ea, eb, ec, zy, zz]; rfl) ?_
 refine pb 6 9 #[T, T, T, F, F, F, T, F, F, F, F, F, F] rfl rfl HT_.out (by kernel_rfl) pq (by rfl) (by intro w'; go_simp; with_reducible rfl) (by simp only [Act.put, ea, eb, ec, zy, zz]; rfl) ?_
 refine pb 7 10 #[T, T, T, F, F, F, T, T, F, F, F, F, F] rfl rfl HT_.out (by kernel_rfl) pq (by rfl) (by intro w'; go_simp; with_reducible rfl) (by simp only [Act.put, ea, eb, ec, zy, zz]; rfl) ?_
 refine pb 8 11 #[T, T, T, F, F, F, T, T, T, F, F, F, F] rfl rfl HT_.out (by kernel_rfl) pq (by rfl) (by intro w'; go_simp; with_reducible rfl) (by simp only [Act.put, ea, eb, ec, zy, zz]; rfl) ?_
 refine take_ (i := 3) (N := some 6) (v := ?_) (a' := ?_) #[T, T, T, T, F, F, T, T, T, F, F, F, F] rfl rfl (zka HT_.out HW_.out (by kernel_rfl)) (fun _ _ _ h => h) (Or.inl ⟨by rfl, ?_⟩) hHeld ?_ ?_
 rotate_left
 ·rintro w' ⟨s0, s1, s2⟩
  go_simp
  with_reducible rfl
 rotate_left
 ·simp only [Act.put, List.setIfInBounds_toArray, List.set_cons_zero, List.set_cons_succ, zy, zz]
  rfl
 refine pb 4 7 #[T, T, T, T, T, F, T, T, T, F, F, F, F] rfl rfl HT_.out (by kernel_rfl) pq (by rfl) (by intro w'; go_simp; with_reducible rfl) (by simp only [Act.put, ea, eb, ec, zy, zz]; rfl) ?_
 refine pb 5 8 (fm 13 9) rfl rfl HT_.out (by kernel_rfl) pq (by rfl) (by intro w'; go_simp; with_reducible rfl) (by simp only [Act.put, ea, eb, ec, zy, zz]; rfl) ?_
 refine take_ (i := 9) (N := some 12) (v := ?_) (a' := ?_) (fm 13 10) rfl rfl (zka HT_.out HW_.out (by kernel_rfl)) (fun _ _ _ h => h) (Or.inl ⟨by rfl, ?_⟩) hHeld ?_ ?_
 rotate_left
 ·rintro w' ⟨s0, s1, s2⟩
  go_simp
  with_reducible rfl
 rotate_left
 ·simp only [Act.put, List.setIfInBounds_toArray, List.set_cons_zero, List.set_cons_succ, zy, zz]
  rfl
 refine pb 10 13 (fm 13 11) rfl rfl HT_.out (by kernel_rfl) pq (by rfl) (by intro w'; go_simp; with_reducible rfl) (by simp only [Act.put, ea, eb, ec, zy, zz]; rfl) ?_
 refine one_ (i := 11) (N := some 14) (fm 13 12) rfl rfl (zta HT_.out (by kernel_rfl)) (by decide) (fun K hK => ?_)
 refine zdb Try.func73 (by kernel_rfl) rfl #[.agg #[.int .i8 (IntKind.i8.wrap ((l0_2.length : Int))), .int .i8 a0_1, .bool true, .bool false]] (by rfl) rfl rfl (by (try simp only [List.map_toArray, List.map_cons, List.map_nil]); first | done | rfl | (simp only [List.length_drop, List.length_take]; rfl)) ?_
 with_reducible refine (spec_l03Cases.calls k (IntKind.i8.wrap ((l0_2.length : Int))) a0_1 true false t291 _ A2.out).mono ?_
 rintro e w4 ⟨v292, rfl, ho0, hb⟩
 refine ⟨_, rfl, ?_⟩
 have n0_ := ze.mk (Kd.R_lower ho0 (zaa (by repeat (first | (with_reducible first | exact HB.out | apply zg | apply zc | apply zf) | exact HB.out))))
 have n1_ := ze.mk (zk (g := g0) (o := .cells #[.int .i8 a0_0, .int .i8 a0_1, .slice A0_2 l0_2.length c0_2] 28 (0, 0)) (by (with_reducible repeat (first | refine zb ?_ _ | refine zd ?_ | refine za ?_ _)); exact BK0.out) hb)
 have n2_ := ze.mk (zt (by repeat (first | (with_reducible first | exact HB.out | apply zg | apply zc | apply zf) | exact HB.out)) hb)
 clear BK0
 clear HB
 have HO293 := n0_
 have BK0 := n1_
 have HB := n2_
 clear n0_ n1_ n2_
 (try clear hb)
 (try clear hb2)
 (try clear hk)
 (try clear hi)
 (try clear ho0)
 refine hK.out _ _ ⟨(zo BK0.out 0).trans rfl, (zo BK0.out 1).trans rfl, (zo BK0.out 2).trans rfl⟩ (fun hHeld => ?_)
 clear hK K
 refine zpa (a' := ?_) ?_ ?_
 rotate_left
 ·show Act.put _ (some 14) _ = _
  simp only [Act.put, List.setIfInBounds_toArray, List.set_cons_zero, List.set_cons_succ, zy, zz]
  rfl
 refine pb 12 2 (fm 13 13) rfl rfl HT_.out (by kernel_rfl) pq (by rfl) (by intro w'; go_simp; with_reducible rfl) (by simp only [Act.put, ea, eb, ec, zy, zz]; rfl) ?_
 refine zxb (zcb HT_.out (by kernel_rfl)) ?_
 try go_wp2
 go_ret
 exact ⟨_, by first | rfl | (simp [zn, zm] <;> rfl) | (simp [*, zn, zm] <;> rfl), by (with_reducible repeat (first | apply Kd.R_alloc | apply Kd.R_drewN | apply Kd.R_drew)); exact HO293.out, by repeat (first | (with_reducible first | exact HB.out | apply zg | apply zc | apply zf) | exact HB.out)⟩
end Go.Proofs.Ytmfbcklaomigaaa.M
