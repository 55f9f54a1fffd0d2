-- Written by wip/tools/myprint.py, a program of this session, by way of the kit's print.
import Derived.Test.YtmfbcklaomigaaaNx0
import Derived.Test.YtmfbcklaomigaaaNx2
import Derived.Test.YtmfbcklaomigaaaLPrN
namespace Go.Proofs.Ytmfbcklaomigaaa.N
open Go.RowKit Go.Proofs.YtmfbcklaomigaaaW.PrintWords Go.Proofs.YtmfbcklaomigaaaW.PrintLast Go.Proofs.YtmfbcklaomigaaaW.PrintMore
attribute [local go_sem] zqa zpa zwa zxa zla zka zra zta   -- for this text's walks alone
set_option linter.unusedVariables false
set_option linter.unusedSimpArgs false

/-! ### spec_l04Letters: function 49 -/
def spec_l04Letters.f (a0 : Int) : Option (Bool) := (spec_l00In.f a0 1 4).bind fun t116 => (some t116)
set_option maxHeartbeats 8000000 in
set_option maxRecDepth 100000 in
theorem spec_l04Letters.calls (a0 : Int) (r : Bool) (w : World) (h : spec_l04Letters.f a0 = some r) :
  Calls Try.prog 49 #[.int .i64 a0] w fun e w' => e = .returned (.bool r) ∧ zna w w' := by
 have H : ((spec_l00In.f a0 1 4).bind fun t116 => (some t116)) = some r := h
 clear h
 replace H := Option.bind_eq_some_iff.mp H
 obtain ⟨t116, A20, H⟩ := H
 replace H : (some t116) = some r := H
 have A2 := za.mk A20
 clear A20
 obtain rfl := Option.some.inj H
 go_enter Try.func49, Try.ntmps49
 go_wp2_with (first | ((with_reducible refine zo (f := 51) rfl ?_); refine gz (some 4) Try.func51 #[.int .i64 a0, .int .i64 1, .int .i64 4] rfl rfl ?_; (with_reducible refine (spec_l00In.calls a0 1 4 t116 _ A2.out).mono ?_); rintro e w' ⟨rfl, ⟨nd, rfl⟩⟩; refine ⟨_, rfl, ?_⟩))
 go_ret
 exact ⟨by first | rfl | (simp; done) | (simp [*]; done), by repeat (first | exact zna.refl _ | apply zna.step)⟩

/-! ### spec_l04Kind: function 50 -/
def spec_l04Kind.f (a0 : Int) : Option (Bool) := (spec_l00In.f a0 0 2).bind fun t117 => (some t117)
set_option maxHeartbeats 8000000 in
set_option maxRecDepth 100000 in
theorem spec_l04Kind.calls (a0 : Int) (r : Bool) (w : World) (h : spec_l04Kind.f a0 = some r) :
  Calls Try.prog 50 #[.int .i64 a0] w fun e w' => e = .returned (.bool r) ∧ zna w w' := by
 have H : ((spec_l00In.f a0 0 2).bind fun t117 => (some t117)) = some r := h
 clear h
 replace H := Option.bind_eq_some_iff.mp H
 obtain ⟨t117, A20, H⟩ := H
 replace H : (some t117) = some r := H
 have A2 := za.mk A20
 clear A20
 obtain rfl := Option.some.inj H
 go_enter Try.func50, Try.ntmps50
 go_wp2_with (first | ((with_reducible refine zo (f := 51) rfl ?_); refine gz (some 4) Try.func51 #[.int .i64 a0, .int .i64 0, .int .i64 2] rfl rfl ?_; (with_reducible refine (spec_l00In.calls a0 0 2 t117 _ A2.out).mono ?_); rintro e w' ⟨rfl, ⟨nd, rfl⟩⟩; refine ⟨_, rfl, ?_⟩))
 go_ret
 exact ⟨by first | rfl | (simp; done) | (simp [*]; done), by repeat (first | exact zna.refl _ | apply zna.step)⟩

/-! ### spec_l03Power: function 52 -/
def spec_l03Power.l0 : Nat → Int → Int → Option (Int)
 | 0, _, _ => none
 | k + 1, x0, x3 => if x0 > 0 then (spec_l03Power.l0 k (wrap64 (x0 - 1)) (wrap64 (x3 * 3))) else (some x3)
def spec_l03Power.f (k : Nat) (a0 : Int) : Option (Int) := spec_l03Power.l0 k a0 1
set_option maxHeartbeats 8000000 in
set_option maxRecDepth 100000 in
theorem spec_l03Power.calls (k : Nat) (a0 : Int) (r : Int) (w : World) (h : spec_l03Power.f k a0 = some r) :
  Calls Try.prog 52 #[.int .i64 a0] w fun e w' => e = .returned (.int .i64 r) ∧ zna w w' := by
 have H : (spec_l03Power.l0 k a0 1) = some r := h
 clear h
 have H' := za.mk H
 clear H
 go_enter Try.func52, Try.ntmps52
 go_wp2
 go_loopg [0, 3] k (fun kq v0 v3 w' => ∃ (x0_1 : Int) (x3_1 : Int), v0 = .int .i64 x0_1 ∧ v3 = .int .i64 x3_1 ∧ za (spec_l03Power.l0 kq x0_1 x3_1 = some r) ∧ za (kq ≤ k) ∧ zna w w')
 case atStart => exact ⟨(a0), (1), (by first | rfl | (simp; done) | (simp [*]; done)), (by first | rfl | (simp; done) | (simp [*]; done)), H', ⟨Nat.le_refl _⟩, by repeat (first | exact zna.refl _ | apply zna.step)⟩
 case round =>
  clear H'
  obtain ⟨x0_1, x3_1, rfl, rfl, HA, HK1, ⟨m1, rfl⟩⟩ := hrel
  cases gk with
  | zero => exact absurd HA.out (by simp [spec_l03Power.l0])
  | succ k1 =>
   have H := HA.out
   clear HA
   simp only [spec_l03Power.l0] at H
   by_cases c2 : x0_1 > 0
   ·rw [if_pos c2] at H
    have c2b0 : decide (0 < x0_1) = true := decide_eq_true c2
    clear c2
    have H' := za.mk H
    clear H
    go_wp2
    go_roundg k1
    case measure => have := HK1.out; omega
    case rel => exact ⟨(wrap64 (x0_1 - 1)), (wrap64 (x3_1 * 3)), (by first | rfl | (simp; done) | (simp [*]; done)), (by first | rfl | (simp; done) | (simp [*]; done)), H', ⟨by have := HK1.out; omega⟩, by repeat (first | exact zna.refl _ | apply zna.step)⟩
   rw [if_neg c2] at H
   have c2b0 : decide (0 < x0_1) = false := decide_eq_false c2
   clear c2
   obtain rfl := Option.some.inj H
   go_wp2
   go_ret
   exact ⟨by first | rfl | (simp; done) | (simp [*]; done), by repeat (first | exact zna.refl _ | apply zna.step)⟩

/-! ### spec_l04At: function 53 -/
def spec_l04At.l0 : Nat → Int → Int → Int → Int → Int → Int → Option (Int × Int × Int × Int)
 | 0, _, _, _, _, _, _ => none
 | k + 1, x1, x6, x120000, x120001, x120002, x120003 => if x6 ≥ 0 then (if 0 ≤ x6 then (if x6 < 4 then (spec_l04At.l0 k (wrap64 (Int.tdiv x1 3)) (wrap64 (x6 - 1)) (zu x6 0 (IntKind.i8.wrap (wrap64 ((Int.tmod x1 3) - 1))) x120000) (zu x6 1 (IntKind.i8.wrap (wrap64 ((Int.tmod x1 3) - 1))) x120001) (zu x6 2 (IntKind.i8.wrap (wrap64 ((Int.tmod x1 3) - 1))) x120002) (zu x6 3 (IntKind.i8.wrap (wrap64 ((Int.tmod x1 3) - 1))) x120003)) else (none)) else (none)) else (some (x120000, x120001, x120002, x120003))
def spec_l04At.f (k : Nat) (a0 : Int) (a1 : Int) : Option (Int × Int × Int × Int) := spec_l04At.l0 k a1 (wrap64 (a0 - 1)) 0 0 0 0
set_option maxHeartbeats 8000000 in
set_option maxRecDepth 100000 in
theorem spec_l04At.calls (k : Nat) (a0 : Int) (a1 : Int) (r1 : Int) (r2 : Int) (r3 : Int) (r4 : Int) (w : World) (h : spec_l04At.f k a0 a1 = some (r1, r2, r3, r4)) :
  Calls Try.prog 53 #[.int .i64 a0, .int .i64 a1] w fun e w' => e = .returned (.agg #[.int .i8 r1, .int .i8 r2, .int .i8 r3, .int .i8 r4]) ∧ Below w.heap.size w w' := by
 have hu43 := Try.underlying43
 have HB := za.mk (Below.refl w.heap.size w)
 have H : (spec_l04At.l0 k a1 (wrap64 (a0 - 1)) 0 0 0 0) = some (r1, r2, r3, r4) := h
 clear h
 have H' := za.mk H
 clear H
 go_enter Try.func53, Try.ntmps53
 go_wp2_with (first | ((with_reducible refine zn (N := 4) rfl ?_); refine bx (N := 4) #[.int .i8 0, .int .i8 0, .int .i8 0, .int .i8 0] 43 rfl ?_; intro gb118 hg w3 hbox hb; have BK118 := za.mk hbox; have GW118 := gB hg; have GE118 := GW118; replace HB := za.mk (ze sB hb); clear hb hbox hg) | ((with_reducible refine zn (N := 5) rfl ?_); refine bx (N := 5) #[.int .i8 0, .int .i8 0, .int .i8 0, .int .i8 0] 43 rfl ?_; intro gb119 hg w4 hbox hb; have BK119 := za.mk hbox; have GW119 := gB hg; have GE119 := GW119; have NB118_119 := nK hg BK118; have NB119_118 := za.mk NB118_119.out.symm; replace BK118 := dK BK118 hb; replace HB := za.mk (ze sB hb); clear hb hbox hg; have hnb5 := NB119_118.out; have hnc5 := NB118_119.out; obtain ⟨hcz6_0, hcz6_1, hcz6_2, hcz6_3⟩ := xc4 BK119; obtain ⟨hfz6_0, hfz6_1, hfz6_2, hfz6_3⟩ := xf4 BK119))
 go_loopg [1, 6] k (fun kq v1 v6 w' => ∃ (x1_1 : Int) (x6_1 : Int) (x120000_1 : Int) (x120001_1 : Int) (x120002_1 : Int) (x120003_1 : Int), v1 = .int .i64 x1_1 ∧ v6 = .int .i64 x6_1 ∧ za (spec_l04At.l0 kq x1_1 x6_1 x120000_1 x120001_1 x120002_1 x120003_1 = some (r1, r2, r3, r4)) ∧ za (kq ≤ k) ∧ za (w'.heap[gb118]? = some (.cells #[.int .i8 0, .int .i8 0, .int .i8 0, .int .i8 0] 43 (0, 0))) ∧ za (w'.heap[gb119]? = some (.cells #[.int .i8 x120000_1, .int .i8 x120001_1, .int .i8 x120002_1, .int .i8 x120003_1] 43 (0, 0))) ∧ za (Below w.heap.size w w'))
 case atStart => exact ⟨(a1), (wrap64 (a0 - 1)), (0), (0), (0), (0), (by first | rfl | (simp; done) | (simp [*]; done)), (by first | rfl | (simp; done) | (simp [*]; done)), H', ⟨Nat.le_refl _⟩, ⟨by (with_reducible repeat (first | refine zc ?_ _ | refine zd ?_ | refine zb ?_ _)); refine zm ?_ NB118_119.out _; (with_reducible repeat (first | refine zc ?_ _ | refine zd ?_ | refine zb ?_ _)); refine zm ?_ NB118_119.out _; (with_reducible repeat (first | refine zc ?_ _ | refine zd ?_ | refine zb ?_ _)); refine zm ?_ NB118_119.out _; (with_reducible repeat (first | refine zc ?_ _ | refine zd ?_ | refine zb ?_ _)); refine zm ?_ NB118_119.out _; (with_reducible repeat (first | refine zc ?_ _ | refine zd ?_ | refine zb ?_ _)); exact BK118.out⟩, ⟨by (with_reducible repeat (first | refine zc ?_ _ | refine zd ?_ | refine zb ?_ _)); refine zl (cs := #[.int .i8 0, .int .i8 0, .int .i8 0, .int .i8 0]) ?_ 3 _ rfl; (with_reducible repeat (first | refine zc ?_ _ | refine zd ?_ | refine zb ?_ _)); refine zl (cs := #[.int .i8 0, .int .i8 0, .int .i8 0, .int .i8 0]) ?_ 2 _ rfl; (with_reducible repeat (first | refine zc ?_ _ | refine zd ?_ | refine zb ?_ _)); refine zl (cs := #[.int .i8 0, .int .i8 0, .int .i8 0, .int .i8 0]) ?_ 1 _ rfl; (with_reducible repeat (first | refine zc ?_ _ | refine zd ?_ | refine zb ?_ _)); refine zl (cs := #[.int .i8 0, .int .i8 0, .int .i8 0, .int .i8 0]) ?_ 0 _ rfl; (with_reducible repeat (first | refine zc ?_ _ | refine zd ?_ | refine zb ?_ _)); exact BK119.out⟩, ⟨sB⟩⟩
 case round =>
  clear H'
  try clear p2
  try clear c5
  try clear p6
  try clear hcz6_0 hcz6_1 hcz6_2 hcz6_3
  try clear hfz6_0 hfz6_1 hfz6_2 hfz6_3
  obtain ⟨x1_1, x6_1, x120000_1, x120001_1, x120002_1, x120003_1, rfl, rfl, HA, HK1, BK118, BK119, HB⟩ := hrel
  cases gk with
  | zero => exact absurd HA.out (by simp [spec_l04At.l0])
  | succ k1 =>
   have H := HA.out
   clear HA
   simp only [spec_l04At.l0] at H
   by_cases c7 : x6_1 ≥ 0
   ·rw [if_pos c7] at H
    have c7b0 : decide (0 ≤ x6_1) = true := decide_eq_true c7
    clear c7
    by_cases c8 : 0 ≤ x6_1
    ·rw [if_pos c8] at H
     have c8b0 : decide (0 ≤ x6_1) = true := decide_eq_true c8
     clear c8
     by_cases c9 : x6_1 < 4
     ·rw [if_pos c9] at H
      have c9b0 : decide (x6_1 < 4) = true := decide_eq_true c9
      clear c9
      have H' := za.mk H
      clear H
      have p10 : 0 ≤ (x6_1 : Int) := of_decide_eq_true (by first | (with_reducible assumption) | assumption)
      have q10 : x6_1 < (4 : Int) := of_decide_eq_true (by first | (with_reducible assumption) | assumption)
      replace p10 := eq_true p10
      replace q10 := eq_true q10
      have hnb11 := NB119_118.out
      have hnc11 := NB118_119.out
      obtain ⟨hcz12_0, hcz12_1, hcz12_2, hcz12_3⟩ := xc4 BK119
      obtain ⟨hfz12_0, hfz12_1, hfz12_2, hfz12_3⟩ := xf4 BK119
      go_wp2_with (first | ((with_reducible refine zbb (t := 25) (p := 19) rfl ?_); have hx13_0 : wr.cell? ⟨gb119, (x6_1).toNat, none⟩ = some (.int .i8 (rd [x120000_1, x120001_1, x120002_1, x120003_1] x6_1)) := (zh BK119.out _).trans (by rcases (show (x6_1 : Int) = 0 ∨ (x6_1 : Int) = 1 ∨ (x6_1 : Int) = 2 ∨ (x6_1 : Int) = 3 by have hp_ : 0 ≤ (x6_1 : Int) := of_decide_eq_true (by first | (with_reducible assumption) | assumption); have hq_ : x6_1 < (4 : Int) := of_decide_eq_true (by first | (with_reducible assumption) | assumption); omega) with h_ | h_ | h_ | h_ <;> rw [h_] <;> rfl); have hfz13_0 := zaa BK119.out ((x6_1).toNat); refine zza (t := 25) (p := 19) (v := ?vo_w14) (w1 := (wr.setCell ⟨gb119, (x6_1).toNat, none⟩ (.int .i8 (IntKind.i8.wrap (wrap64 ((Int.tmod x1_1 3) - 1)))))) ?hg ?ho ?hn ?hr ?_; (case ho => rfl); (case hg => rfl); (case hn => rfl); (case hr => first | (go_simp; done) | (go_simp; rfl)); intro w14 hw; have n0_ : za (w14.heap[gb118]? = some (.cells #[.int .i8 0, .int .i8 0, .int .i8 0, .int .i8 0] 43 (0, 0))) := ⟨(by rw [hw]; exact (by (with_reducible repeat (first | refine zc ?_ _ | refine zd ?_ | refine zb ?_ _)); refine zm ?_ NB118_119.out _; (with_reducible repeat (first | refine zc ?_ _ | refine zd ?_ | refine zb ?_ _)); exact BK118.out))⟩; have n1_ : za (w14.heap[gb119]? = some (.cells #[.int .i8 (zu x6_1 0 (IntKind.i8.wrap (wrap64 ((Int.tmod x1_1 3) - 1))) x120000_1), .int .i8 (zu x6_1 1 (IntKind.i8.wrap (wrap64 ((Int.tmod x1_1 3) - 1))) x120001_1), .int .i8 (zu x6_1 2 (IntKind.i8.wrap (wrap64 ((Int.tmod x1_1 3) - 1))) x120002_1), .int .i8 (zu x6_1 3 (IntKind.i8.wrap (wrap64 ((Int.tmod x1_1 3) - 1))) x120003_1)] 43 (0, 0))) := ⟨(by rw [hw]; exact (by (with_reducible repeat (first | refine zc ?_ _ | refine zd ?_ | refine zb ?_ _)); refine zl (cs := #[.int .i8 x120000_1, .int .i8 x120001_1, .int .i8 x120002_1, .int .i8 x120003_1]) ?_ ((x6_1).toNat) _ (by rcases (show (x6_1 : Int) = 0 ∨ (x6_1 : Int) = 1 ∨ (x6_1 : Int) = 2 ∨ (x6_1 : Int) = 3 by have hp_ : 0 ≤ (x6_1 : Int) := of_decide_eq_true (by first | (with_reducible assumption) | assumption); have hq_ : x6_1 < (4 : Int) := of_decide_eq_true (by first | (with_reducible assumption) | assumption); omega) with h_ | h_ | h_ | h_ <;> rw [h_] <;> rfl); (with_reducible repeat (first | refine zc ?_ _ | refine zd ?_ | refine zb ?_ _)); exact BK119.out))⟩; have n2_ : za (Below w.heap.size w w14) := ⟨(by rw [hw]; exact sB)⟩; clear hw; clear BK118; clear BK119; clear HB; have BK118 := n0_; have BK119 := n1_; have HB := n2_; clear n0_ n1_ n2_))
      go_roundg k1
      case measure => have := HK1.out; omega
      case rel => exact ⟨(wrap64 (Int.tdiv x1_1 3)), (wrap64 (x6_1 - 1)), ((zu x6_1 0 (IntKind.i8.wrap (wrap64 ((Int.tmod x1_1 3) - 1))) x120000_1)), ((zu x6_1 1 (IntKind.i8.wrap (wrap64 ((Int.tmod x1_1 3) - 1))) x120001_1)), ((zu x6_1 2 (IntKind.i8.wrap (wrap64 ((Int.tmod x1_1 3) - 1))) x120002_1)), ((zu x6_1 3 (IntKind.i8.wrap (wrap64 ((Int.tmod x1_1 3) - 1))) x120003_1)), (by first | rfl | (simp; done) | (simp [*]; done)), (by first | rfl | (simp; done) | (simp [*]; done)), H', ⟨by have := HK1.out; omega⟩, ⟨uK BK118⟩, ⟨uK BK119⟩, ⟨sB⟩⟩
     rw [if_neg c9] at H
     exact absurd H (by simp)
    rw [if_neg c8] at H
    exact absurd H (by simp)
   rw [if_neg c7] at H
   have c7b0 : decide (0 ≤ x6_1) = false := decide_eq_false c7
   clear c7
   simp only [Option.some.injEq, Prod.mk.injEq] at H
   obtain ⟨rfl, rfl, rfl, rfl⟩ := H
   have hnb15 := NB119_118.out
   have hnc15 := NB118_119.out
   obtain ⟨hcz16_0, hcz16_1, hcz16_2, hcz16_3⟩ := xc4 BK119
   obtain ⟨hfz16_0, hfz16_1, hfz16_2, hfz16_3⟩ := xf4 BK119
   obtain ⟨hcz17_0, hcz17_1, hcz17_2, hcz17_3⟩ := xc4 BK118
   obtain ⟨hfz17_0, hfz17_1, hfz17_2, hfz17_3⟩ := xf4 BK118
   go_wp2
   refine bodyPost_ret (results_cell_row rfl _ _ gb118 43 #[.int .i8 x120000_1, .int .i8 x120001_1, .int .i8 x120002_1, .int .i8 x120003_1] (0, 0) _ rfl (by (with_reducible repeat (first | refine zc ?_ _ | refine zd ?_ | refine zb ?_ _)); refine zl (cs := #[.int .i8 x120000_1, .int .i8 x120001_1, .int .i8 x120002_1, .int .i8 0]) ?_ 3 _ rfl; (with_reducible repeat (first | refine zc ?_ _ | refine zd ?_ | refine zb ?_ _)); refine zl (cs := #[.int .i8 x120000_1, .int .i8 x120001_1, .int .i8 0, .int .i8 0]) ?_ 2 _ rfl; (with_reducible repeat (first | refine zc ?_ _ | refine zd ?_ | refine zb ?_ _)); refine zl (cs := #[.int .i8 x120000_1, .int .i8 0, .int .i8 0, .int .i8 0]) ?_ 1 _ rfl; (with_reducible repeat (first | refine zc ?_ _ | refine zd ?_ | refine zb ?_ _)); refine zl (cs := #[.int .i8 0, .int .i8 0, .int .i8 0, .int .i8 0]) ?_ 0 _ rfl; (with_reducible repeat (first | refine zc ?_ _ | refine zd ?_ | refine zb ?_ _)); exact BK118.out) Try.underlying43 rfl (by kernel_rfl)) rfl ?_
   exact ⟨by first | rfl | (simp [zk, zj] <;> rfl) | (simp [*, zk, zj] <;> rfl), sB⟩

/-! ### spec_l04Next: function 93 -/
def spec_l04Next.f (a0 : Int) : Option (Int) := if a0 = 1 then (some (-1)) else (some (IntKind.i8.wrap (a0 + 1)))
set_option maxHeartbeats 8000000 in
set_option maxRecDepth 100000 in
theorem spec_l04Next.calls (a0 : Int) (r : Int) (w : World) (h : spec_l04Next.f a0 = some r) :
  Calls Try.prog 93 #[.int .i8 a0] w fun e w' => e = .returned (.int .i8 r) ∧ zna w w' := by
 have H : (if a0 = 1 then (some (-1)) else (some (IntKind.i8.wrap (a0 + 1)))) = some r := h
 clear h
 by_cases c2 : a0 = 1
 ·rw [if_pos c2] at H
  have c2b0 : (a0 == 1) = true := beq_iff_eq.mpr c2
  have c2b1 : (a0 != 1) = false := bne_eq_false_iff_eq.mpr c2
  clear c2
  obtain rfl := Option.some.inj H
  go_enter Try.func93, Try.ntmps93
  go_wp2
  go_ret
  exact ⟨by first | rfl | (simp; done) | (simp [*]; done), by repeat (first | exact zna.refl _ | apply zna.step)⟩
 rw [if_neg c2] at H
 have c2b0 : (a0 == 1) = false := beq_eq_false_iff_ne.mpr c2
 have c2b1 : (a0 != 1) = true := bne_iff_ne.mpr c2
 obtain rfl := Option.some.inj H
 go_enter Try.func93, Try.ntmps93
 go_wp2
 go_ret
 exact ⟨by first | rfl | (simp; done) | (simp [*]; done), by repeat (first | exact zna.refl _ | apply zna.step)⟩

end Go.Proofs.Ytmfbcklaomigaaa.N
