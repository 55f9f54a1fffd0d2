-- Written by wip/tools/myprint.py, a program of this session, by way of the kit's print.
import Derived.Test.YteciomagemjjaaaJx0
import Derived.Test.YteciomagemjjaaaLPrJ
namespace Go.Proofs.Yteciomagemjjaaa.J
open Go.RowKit Go.Proofs.YteciomagemjjaaaW.PrintWords Go.Proofs.YteciomagemjjaaaW.PrintLast Go.Proofs.YteciomagemjjaaaW.PrintMore
attribute [local go_sem] zna zpa zua zva zia zja zqa zoa   -- for this text's walks alone
set_option linter.unusedVariables false
set_option linter.unusedSimpArgs false

/-! ### spec_l02Index: function 63 -/
def spec_l02Index.l0 : Nat → Int → Int → List Int → Int → Int → Int → Int → Bool → Int → Int → Int → Int → Option (Int)
 | 0, _, _, _, _, _, _, _, _, _, _, _, _ => none
 | k + 1, x5, x6, x1000, x1001, x1002, x1003, x1004, x1005, x174000, x174001, x174002, x174003 => if x6 ≥ 0 then (if 0 ≤ x6 then (if x6 < (x1000.length : Int) then (if x6 < 4 then (spec_l02Index.l0 k (wrap64 ((wrap64 (x5 * (wrap64 ((wrap64 (rd x1000 x6)) + 1)))) + (wrap64 (rd [x174000, x174001, x174002, x174003] x6)))) (wrap64 (x6 - 1)) x1000 x1001 x1002 x1003 x1004 x1005 x174000 x174001 x174002 x174003) else (none)) else (none)) else (none)) else (some x5)
def spec_l02Index.f (k : Nat) (l0_0 : List Int) (a0_1 : Int) (a0_2 : Int) (a0_3 : Int) (a0_4 : Int) (a0_5 : Bool) (a1_0 : Int) (a1_1 : Int) (a1_2 : Int) (a1_3 : Int) : Option (Int) := spec_l02Index.l0 k 0 (wrap64 ((l0_0.length : Int) - 1)) l0_0 a0_1 a0_2 a0_3 a0_4 a0_5 a1_0 a1_1 a1_2 a1_3
set_option maxHeartbeats 8000000 in
set_option maxRecDepth 100000 in
theorem spec_l02Index.calls (k : Nat) (g0 : Nat) (A0_0 : Option Addr) (c0_0 : Nat) (l0_0 : List Int) (a0_1 : Int) (a0_2 : Int) (a0_3 : Int) (a0_4 : Int) (a0_5 : Bool) (a1_0 : Int) (a1_1 : Int) (a1_2 : Int) (a1_3 : Int) (r : Int) (w : World) (hb0 : w.heap[g0]? = some (.cells #[.slice A0_0 l0_0.length c0_0, .int .i16 a0_1, .int .i16 a0_2, .int .i16 a0_3, .int .i16 a0_4, .bool a0_5] 29 (0, 0))) (hr0_0 : Kd.C (Kd.int .i16) w A0_0 l0_0.length l0_0) (hc0_0 : l0_0.length ≤ c0_0) (h : spec_l02Index.f k l0_0 a0_1 a0_2 a0_3 a0_4 a0_5 a1_0 a1_1 a1_2 a1_3 = some r) :
  Calls Try.prog 63 #[.pointer (some ⟨g0, 0, none⟩), .agg #[.int .i16 a1_0, .int .i16 a1_1, .int .i16 a1_2, .int .i16 a1_3]] w fun e w' => e = .returned (.int .i64 r) ∧ Below w.heap.size w w' := by
 have hu27 := Try.underlying27
 have HR0_0 := za.mk hr0_0
 have HC0_0 := za.mk hc0_0
 clear hr0_0 hc0_0
 have BK0 := za.mk hb0
 clear hb0
 have HB := za.mk (Below.refl w.heap.size w)
 have H : (spec_l02Index.l0 k 0 (wrap64 ((l0_0.length : Int) - 1)) l0_0 a0_1 a0_2 a0_3 a0_4 a0_5 a1_0 a1_1 a1_2 a1_3) = some r := h
 clear h
 have H' := za.mk H
 clear H
 go_enter Try.func63, Try.ntmps63
 go_wp2_with (first | ((with_reducible refine zu (N := 3) rfl ?_); refine bx (N := 3) #[.int .i16 a1_0, .int .i16 a1_1, .int .i16 a1_2, .int .i16 a1_3] 27 rfl ?_; intro gb173 hg w3 hbox hb; have BK173 := za.mk hbox; have GW173 := gB hg; have GE173 := GW173; have NB0_173 := nK hg BK0; have NB173_0 := za.mk (nK hg BK0).out.symm; replace BK0 := dK BK0 hb; replace HB := za.mk (zh sB hb); clear hb hbox hg; have hnb4 := NB0_173.out; have hnc4 := NB173_0.out; obtain ⟨hcz5_0, hcz5_1, hcz5_2, hcz5_3, hcz5_4, hcz5_5⟩ := xc6 BK0; obtain ⟨hfz5_0, hfz5_1, hfz5_2, hfz5_3, hfz5_4, hfz5_5⟩ := xf6 BK0))
 repeat (go_quiet (first | ((with_reducible refine zu (N := 3) rfl ?_); refine bx (N := 3) #[.int .i16 a1_0, .int .i16 a1_1, .int .i16 a1_2, .int .i16 a1_3] 27 rfl ?_; intro gb173 hg w3 hbox hb; have BK173 := za.mk hbox; have GW173 := gB hg; have GE173 := GW173; have NB0_173 := nK hg BK0; have NB173_0 := za.mk (nK hg BK0).out.symm; replace BK0 := dK BK0 hb; replace HB := za.mk (zh sB hb); clear hb hbox hg; have hnb4 := NB0_173.out; have hnc4 := NB173_0.out; obtain ⟨hcz5_0, hcz5_1, hcz5_2, hcz5_3, hcz5_4, hcz5_5⟩ := xc6 BK0; obtain ⟨hfz5_0, hfz5_1, hfz5_2, hfz5_3, hfz5_4, hfz5_5⟩ := xf6 BK0)); try go_wp2_with (first | ((with_reducible refine zu (N := 3) rfl ?_); refine bx (N := 3) #[.int .i16 a1_0, .int .i16 a1_1, .int .i16 a1_2, .int .i16 a1_3] 27 rfl ?_; intro gb173 hg w3 hbox hb; have BK173 := za.mk hbox; have GW173 := gB hg; have GE173 := GW173; have NB0_173 := nK hg BK0; have NB173_0 := za.mk (nK hg BK0).out.symm; replace BK0 := dK BK0 hb; replace HB := za.mk (zh sB hb); clear hb hbox hg; have hnb4 := NB0_173.out; have hnc4 := NB173_0.out; obtain ⟨hcz5_0, hcz5_1, hcz5_2, hcz5_3, hcz5_4, hcz5_5⟩ := xc6 BK0; obtain ⟨hfz5_0, hfz5_1, hfz5_2, hfz5_3, hfz5_4, hfz5_5⟩ := xf6 BK0)))
 go_loopg [5, 6] k (fun kq v5 v6 w' => ∃ (x5_1 : Int) (x6_1 : Int), v5 = .int .i64 x5_1 ∧ v6 = .int .i64 x6_1 ∧ za (spec_l02Index.l0 kq x5_1 x6_1 l0_0 a0_1 a0_2 a0_3 a0_4 a0_5 a1_0 a1_1 a1_2 a1_3 = some r) ∧ za (kq ≤ k) ∧ za (w'.heap[g0]? = some (.cells #[(.slice A0_0 l0_0.length c0_0), .int .i16 a0_1, .int .i16 a0_2, .int .i16 a0_3, .int .i16 a0_4, .bool a0_5] 29 (0, 0))) ∧ za (w'.heap[gb173]? = some (.cells #[.int .i16 a1_0, .int .i16 a1_1, .int .i16 a1_2, .int .i16 a1_3] 27 (0, 0))) ∧ za (Below w.heap.size w w'))
 case atStart => exact ⟨(0), (wrap64 ((l0_0.length : Int) - 1)), (by first | rfl | (simp; done) | (simp [*]; done)), (by first | rfl | (simp; done) | (simp [*]; done)), H', ⟨Nat.le_refl _⟩, ⟨uK BK0⟩, ⟨uK BK173⟩, ⟨sB⟩⟩
 case round =>
  clear H'
  try clear p2
  try clear c4
  try clear hcz5_0 hcz5_1 hcz5_2 hcz5_3 hcz5_4 hcz5_5
  try clear hfz5_0 hfz5_1 hfz5_2 hfz5_3 hfz5_4 hfz5_5
  obtain ⟨x5_1, x6_1, rfl, rfl, HA, HK1, BK0, BK173, HB⟩ := hrel
  cases gk with
  | zero => exact absurd HA.out (by simp [spec_l02Index.l0])
  | succ k1 =>
   have H := HA.out
   clear HA
   simp only [spec_l02Index.l0] at H
   by_cases c6 : x6_1 ≥ 0
   ·rw [if_pos c6] at H
    have c6b0 : decide (0 ≤ x6_1) = true := decide_eq_true c6
    clear c6
    by_cases c7 : 0 ≤ x6_1
    ·rw [if_pos c7] at H
     have c7b0 : decide (0 ≤ x6_1) = true := decide_eq_true c7
     clear c7
     by_cases c8 : x6_1 < (l0_0.length : Int)
     ·rw [if_pos c8] at H
      have c8b0 : decide (x6_1 < (l0_0.length : Int)) = true := decide_eq_true c8
      clear c8
      by_cases c9 : x6_1 < 4
      ·rw [if_pos c9] at H
       have c9b0 : decide (x6_1 < 4) = true := decide_eq_true c9
       clear c9
       have H' := za.mk H
       clear H
       have hnb10 := NB0_173.out
       have hnc10 := NB173_0.out
       obtain ⟨hcz11_0, hcz11_1, hcz11_2, hcz11_3, hcz11_4, hcz11_5⟩ := xc6 BK0
       obtain ⟨hfz11_0, hfz11_1, hfz11_2, hfz11_3, hfz11_4, hfz11_5⟩ := xf6 BK0
       have p174 : 0 ≤ (x6_1 : Int) := of_decide_eq_true (by first | (with_reducible assumption) | assumption)
       have q174 : x6_1 < (l0_0.length : Int) := of_decide_eq_true (by first | (with_reducible assumption) | assumption)
       obtain ⟨ad174, e174, hx174_0⟩ := Kd.at_int HR0_0.out x6_1 p174 q174
       cases e174
       replace hx174_0 := (HB.out.cell (World.block_lt_of_cell? w _ hx174_0)).trans hx174_0
       replace p174 := eq_true p174
       replace q174 := eq_true q174
       have p12 : 0 ≤ (x6_1 : Int) := of_decide_eq_true (by first | (with_reducible assumption) | assumption)
       have q12 : x6_1 < (4 : Int) := of_decide_eq_true (by first | (with_reducible assumption) | assumption)
       replace p12 := eq_true p12
       replace q12 := eq_true q12
       obtain ⟨hcz13_0, hcz13_1, hcz13_2, hcz13_3⟩ := xc4 BK173
       obtain ⟨hfz13_0, hfz13_1, hfz13_2, hfz13_3⟩ := xf4 BK173
       have hx14_0 : wr.cell? ⟨gb173, (x6_1).toNat, none⟩ = some (.int .i16 (rd [a1_0, a1_1, a1_2, a1_3] x6_1)) := (zb BK173.out _).trans (by rcases (show (x6_1 : Int) = 0 ∨ (x6_1 : Int) = 1 ∨ (x6_1 : Int) = 2 ∨ (x6_1 : Int) = 3 by have hp_ : 0 ≤ (x6_1 : Int) := of_decide_eq_true (by first | (with_reducible assumption) | assumption); have hq_ : x6_1 < (4 : Int) := of_decide_eq_true (by first | (with_reducible assumption) | assumption); omega) with h_ | h_ | h_ | h_ <;> rw [h_] <;> rfl)
       go_wp2
       repeat (go_quiet (fail); try go_wp2)
       go_roundg k1
       case measure => have := HK1.out; omega
       case rel => exact ⟨(wrap64 ((wrap64 (x5_1 * (wrap64 ((wrap64 (rd l0_0 x6_1)) + 1)))) + (wrap64 (rd [a1_0, a1_1, a1_2, a1_3] x6_1)))), (wrap64 (x6_1 - 1)), (by first | rfl | (simp; done) | (simp [*]; done)), (by first | rfl | (simp; done) | (simp [*]; done)), H', ⟨by have := HK1.out; omega⟩, ⟨uK BK0⟩, ⟨uK BK173⟩, ⟨sB⟩⟩
      rw [if_neg c9] at H
      exact absurd H (by simp)
     rw [if_neg c8] at H
     exact absurd H (by simp)
    rw [if_neg c7] at H
    exact absurd H (by simp)
   rw [if_neg c6] at H
   have c6b0 : decide (0 ≤ x6_1) = false := decide_eq_false c6
   clear c6
   obtain rfl := Option.some.inj H
   go_wp2
   repeat (go_quiet (fail); try go_wp2)
   go_ret
   exact ⟨by first | rfl | (simp [zj, zk] <;> rfl) | (simp [*, zj, zk] <;> rfl), sB⟩

/-! ### spec_l02At: function 74 -/
def spec_l02At.l0 : Nat → Int → Int → List Int → Int → Int → Int → Int → Bool → Int → Int → Int → Int → Option (Int × Int × Int × Int)
 | 0, _, _, _, _, _, _, _, _, _, _, _, _ => none
 | k + 1, x1, x6, x1000, x1001, x1002, x1003, x1004, x1005, x179000, x179001, x179002, x179003 => if x6 < (x1000.length : Int) then (if 0 ≤ x6 then (if (wrap64 ((wrap64 (rd x1000 x6)) + 1)) = 0 then (none) else (if x6 < 4 then (spec_l02At.l0 k (wrap64 (Int.tdiv x1 (wrap64 ((wrap64 (rd x1000 x6)) + 1)))) (wrap64 (x6 + 1)) x1000 x1001 x1002 x1003 x1004 x1005 (zlb x6 0 (IntKind.i16.wrap (Int.tmod x1 (wrap64 ((wrap64 (rd x1000 x6)) + 1)))) x179000) (zlb x6 1 (IntKind.i16.wrap (Int.tmod x1 (wrap64 ((wrap64 (rd x1000 x6)) + 1)))) x179001) (zlb x6 2 (IntKind.i16.wrap (Int.tmod x1 (wrap64 ((wrap64 (rd x1000 x6)) + 1)))) x179002) (zlb x6 3 (IntKind.i16.wrap (Int.tmod x1 (wrap64 ((wrap64 (rd x1000 x6)) + 1)))) x179003)) else (none))) else (none)) else (some (x179000, x179001, x179002, x179003))
def spec_l02At.f (k : Nat) (l0_0 : List Int) (a0_1 : Int) (a0_2 : Int) (a0_3 : Int) (a0_4 : Int) (a0_5 : Bool) (a1 : Int) : Option (Int × Int × Int × Int) := spec_l02At.l0 k a1 0 l0_0 a0_1 a0_2 a0_3 a0_4 a0_5 0 0 0 0
set_option maxHeartbeats 8000000 in
set_option maxRecDepth 100000 in
theorem spec_l02At.calls (k : Nat) (g0 : Nat) (A0_0 : Option Addr) (c0_0 : Nat) (l0_0 : List Int) (a0_1 : Int) (a0_2 : Int) (a0_3 : Int) (a0_4 : Int) (a0_5 : Bool) (a1 : Int) (r1 : Int) (r2 : Int) (r3 : Int) (r4 : Int) (w : World) (hb0 : w.heap[g0]? = some (.cells #[.slice A0_0 l0_0.length c0_0, .int .i16 a0_1, .int .i16 a0_2, .int .i16 a0_3, .int .i16 a0_4, .bool a0_5] 29 (0, 0))) (hr0_0 : Kd.C (Kd.int .i16) w A0_0 l0_0.length l0_0) (hc0_0 : l0_0.length ≤ c0_0) (h : spec_l02At.f k l0_0 a0_1 a0_2 a0_3 a0_4 a0_5 a1 = some (r1, r2, r3, r4)) :
  Calls Try.prog 74 #[.pointer (some ⟨g0, 0, none⟩), .int .i64 a1] w fun e w' => e = .returned (.agg #[.int .i16 r1, .int .i16 r2, .int .i16 r3, .int .i16 r4]) ∧ Below w.heap.size w w' := by
 have hu27 := Try.underlying27
 have HR0_0 := za.mk hr0_0
 have HC0_0 := za.mk hc0_0
 clear hr0_0 hc0_0
 have BK0 := za.mk hb0
 clear hb0
 have HB := za.mk (Below.refl w.heap.size w)
 have H : (spec_l02At.l0 k a1 0 l0_0 a0_1 a0_2 a0_3 a0_4 a0_5 0 0 0 0) = some (r1, r2, r3, r4) := h
 clear h
 have H' := za.mk H
 clear H
 go_enter Try.func74, Try.ntmps74
 go_wp2_with (first | ((with_reducible refine zu (N := 4) rfl ?_); refine bx (N := 4) #[.int .i16 0, .int .i16 0, .int .i16 0, .int .i16 0] 27 rfl ?_; intro gb177 hg w3 hbox hb; have BK177 := za.mk hbox; have GW177 := gB hg; have GE177 := GW177; have NB0_177 := nK hg BK0; have NB177_0 := za.mk (nK hg BK0).out.symm; replace BK0 := dK BK0 hb; replace HB := za.mk (zh sB hb); clear hb hbox hg) | ((with_reducible refine zu (N := 5) rfl ?_); refine bx (N := 5) #[.int .i16 0, .int .i16 0, .int .i16 0, .int .i16 0] 27 rfl ?_; intro gb178 hg w4 hbox hb; have BK178 := za.mk hbox; have GW178 := gB hg; have GE178 := GW178; have NB0_178 := nK hg BK0; have NB178_0 := za.mk (nK hg BK0).out.symm; have NB177_178 := nK hg BK177; have NB178_177 := za.mk NB177_178.out.symm; replace BK0 := dK BK0 hb; replace BK177 := dK BK177 hb; replace HB := za.mk (zh sB hb); clear hb hbox hg; have hnb5 := NB178_0.out; have hnc5 := NB0_178.out; have hnb6 := NB178_177.out; have hnc6 := NB177_178.out; obtain ⟨hcz7_0, hcz7_1, hcz7_2, hcz7_3⟩ := xc4 BK178; obtain ⟨hfz7_0, hfz7_1, hfz7_2, hfz7_3⟩ := xf4 BK178))
 go_loopg [1, 6] k (fun kq v1 v6 w' => ∃ (x1_1 : Int) (x6_1 : Int) (x179000_1 : Int) (x179001_1 : Int) (x179002_1 : Int) (x179003_1 : Int), v1 = .int .i64 x1_1 ∧ v6 = .int .i64 x6_1 ∧ za (spec_l02At.l0 kq x1_1 x6_1 l0_0 a0_1 a0_2 a0_3 a0_4 a0_5 x179000_1 x179001_1 x179002_1 x179003_1 = some (r1, r2, r3, r4)) ∧ za (kq ≤ k) ∧ za (w'.heap[g0]? = some (.cells #[(.slice A0_0 l0_0.length c0_0), .int .i16 a0_1, .int .i16 a0_2, .int .i16 a0_3, .int .i16 a0_4, .bool a0_5] 29 (0, 0))) ∧ za (w'.heap[gb177]? = some (.cells #[.int .i16 0, .int .i16 0, .int .i16 0, .int .i16 0] 27 (0, 0))) ∧ za (w'.heap[gb178]? = some (.cells #[.int .i16 x179000_1, .int .i16 x179001_1, .int .i16 x179002_1, .int .i16 x179003_1] 27 (0, 0))) ∧ za (Below w.heap.size w w'))
 case atStart => exact ⟨(a1), (0), (0), (0), (0), (0), (by first | rfl | (simp; done) | (simp [*]; done)), (by first | rfl | (simp; done) | (simp [*]; done)), H', ⟨Nat.le_refl _⟩, ⟨by (with_reducible repeat (first | refine ze ?_ _ | refine zf ?_ | refine zc ?_ _)); refine zm ?_ NB0_178.out _; (with_reducible repeat (first | refine ze ?_ _ | refine zf ?_ | refine zc ?_ _)); refine zm ?_ NB0_178.out _; (with_reducible repeat (first | refine ze ?_ _ | refine zf ?_ | refine zc ?_ _)); refine zm ?_ NB0_178.out _; (with_reducible repeat (first | refine ze ?_ _ | refine zf ?_ | refine zc ?_ _)); refine zm ?_ NB0_178.out _; (with_reducible repeat (first | refine ze ?_ _ | refine zf ?_ | refine zc ?_ _)); exact BK0.out⟩, ⟨by (with_reducible repeat (first | refine ze ?_ _ | refine zf ?_ | refine zc ?_ _)); refine zm ?_ NB177_178.out _; (with_reducible repeat (first | refine ze ?_ _ | refine zf ?_ | refine zc ?_ _)); refine zm ?_ NB177_178.out _; (with_reducible repeat (first | refine ze ?_ _ | refine zf ?_ | refine zc ?_ _)); refine zm ?_ NB177_178.out _; (with_reducible repeat (first | refine ze ?_ _ | refine zf ?_ | refine zc ?_ _)); refine zm ?_ NB177_178.out _; (with_reducible repeat (first | refine ze ?_ _ | refine zf ?_ | refine zc ?_ _)); exact BK177.out⟩, ⟨by (with_reducible repeat (first | refine ze ?_ _ | refine zf ?_ | refine zc ?_ _)); refine zx (cs := #[.int .i16 0, .int .i16 0, .int .i16 0, .int .i16 0]) ?_ 3 _ rfl; (with_reducible repeat (first | refine ze ?_ _ | refine zf ?_ | refine zc ?_ _)); refine zx (cs := #[.int .i16 0, .int .i16 0, .int .i16 0, .int .i16 0]) ?_ 2 _ rfl; (with_reducible repeat (first | refine ze ?_ _ | refine zf ?_ | refine zc ?_ _)); refine zx (cs := #[.int .i16 0, .int .i16 0, .int .i16 0, .int .i16 0]) ?_ 1 _ rfl; (with_reducible repeat (first | refine ze ?_ _ | refine zf ?_ | refine zc ?_ _)); refine zx (cs := #[.int .i16 0, .int .i16 0, .int .i16 0, .int .i16 0]) ?_ 0 _ rfl; (with_reducible repeat (first | refine ze ?_ _ | refine zf ?_ | refine zc ?_ _)); exact BK178.out⟩, ⟨sB⟩⟩
 case round =>
  clear H'
  try clear p2
  try clear c5
  try clear c6
  try clear c7
  try clear hcz7_0 hcz7_1 hcz7_2 hcz7_3
  try clear hfz7_0 hfz7_1 hfz7_2 hfz7_3
  obtain ⟨x1_1, x6_1, x179000_1, x179001_1, x179002_1, x179003_1, rfl, rfl, HA, HK1, BK0, BK177, BK178, HB⟩ := hrel
  cases gk with
  | zero => exact absurd HA.out (by simp [spec_l02At.l0])
  | succ k1 =>
   have H := HA.out
   clear HA
   simp only [spec_l02At.l0] at H
   by_cases c8 : x6_1 < (l0_0.length : Int)
   ·rw [if_pos c8] at H
    have c8b0 : decide (x6_1 < (l0_0.length : Int)) = true := decide_eq_true c8
    clear c8
    by_cases c9 : 0 ≤ x6_1
    ·rw [if_pos c9] at H
     have c9b0 : decide (0 ≤ x6_1) = true := decide_eq_true c9
     clear c9
     by_cases c10 : (wrap64 ((wrap64 (rd l0_0 x6_1)) + 1)) = 0
     ·rw [if_pos c10] at H
      exact absurd H (by simp)
     rw [if_neg c10] at H
     have c10b0 : ((wrap64 ((wrap64 (rd l0_0 x6_1)) + 1)) == 0) = false := beq_eq_false_iff_ne.mpr c10
     have c10b1 : ((wrap64 ((wrap64 (rd l0_0 x6_1)) + 1)) != 0) = true := bne_iff_ne.mpr c10
     (try (have c10b2 : ((IntKind.i64.wrap ((IntKind.i64.wrap (rd l0_0 x6_1)) + 1)) == 0) = false := by have h_ : ((wrap64 ((wrap64 (rd l0_0 x6_1)) + 1)) == 0) = false := beq_eq_false_iff_ne.mpr c10; simpa only [zz, zy] using h_))
     (try (have c10b3 : ((IntKind.i64.wrap ((IntKind.i64.wrap (rd l0_0 x6_1)) + 1)) != 0) = true := by have h_ : ((wrap64 ((wrap64 (rd l0_0 x6_1)) + 1)) != 0) = true := bne_iff_ne.mpr c10; simpa only [zz, zy] using h_))
     by_cases c11 : x6_1 < 4
     ·rw [if_pos c11] at H
      have c11b0 : decide (x6_1 < 4) = true := decide_eq_true c11
      clear c11
      have H' := za.mk H
      clear H
      have hnb12 := NB0_177.out
      have hnc12 := NB177_0.out
      have hnb13 := NB0_178.out
      have hnc13 := NB178_0.out
      obtain ⟨hcz14_0, hcz14_1, hcz14_2, hcz14_3, hcz14_4, hcz14_5⟩ := xc6 BK0
      obtain ⟨hfz14_0, hfz14_1, hfz14_2, hfz14_3, hfz14_4, hfz14_5⟩ := xf6 BK0
      have p179 : 0 ≤ (x6_1 : Int) := of_decide_eq_true (by first | (with_reducible assumption) | assumption)
      have q179 : x6_1 < (l0_0.length : Int) := of_decide_eq_true (by first | (with_reducible assumption) | assumption)
      obtain ⟨ad179, e179, hx179_0⟩ := Kd.at_int HR0_0.out x6_1 p179 q179
      cases e179
      replace hx179_0 := (HB.out.cell (World.block_lt_of_cell? w _ hx179_0)).trans hx179_0
      replace p179 := eq_true p179
      replace q179 := eq_true q179
      have p15 : 0 ≤ (x6_1 : Int) := of_decide_eq_true (by first | (with_reducible assumption) | assumption)
      have q15 : x6_1 < (4 : Int) := of_decide_eq_true (by first | (with_reducible assumption) | assumption)
      replace p15 := eq_true p15
      replace q15 := eq_true q15
      have hnb16 := NB178_177.out
      have hnc16 := NB177_178.out
      obtain ⟨hcz17_0, hcz17_1, hcz17_2, hcz17_3⟩ := xc4 BK178
      obtain ⟨hfz17_0, hfz17_1, hfz17_2, hfz17_3⟩ := xf4 BK178
      go_wp2_with (first | ((with_reducible refine zza (t := 25) (p := 32) rfl ?_); have hx18_0 : wr.cell? ⟨gb178, (x6_1).toNat, none⟩ = some (.int .i16 (rd [x179000_1, x179001_1, x179002_1, x179003_1] x6_1)) := (zb BK178.out _).trans (by rcases (show (x6_1 : Int) = 0 ∨ (x6_1 : Int) = 1 ∨ (x6_1 : Int) = 2 ∨ (x6_1 : Int) = 3 by have hp_ : 0 ≤ (x6_1 : Int) := of_decide_eq_true (by first | (with_reducible assumption) | assumption); have hq_ : x6_1 < (4 : Int) := of_decide_eq_true (by first | (with_reducible assumption) | assumption); omega) with h_ | h_ | h_ | h_ <;> rw [h_] <;> rfl); have hfz18_0 := zg BK178.out ((x6_1).toNat); refine zya (t := 25) (p := 32) (v := ?vo_w19) (w1 := (wr.setCell ⟨gb178, (x6_1).toNat, none⟩ (.int .i16 (IntKind.i16.wrap (Int.tmod x1_1 (wrap64 ((wrap64 (rd l0_0 x6_1)) + 1))))))) ?hg ?ho ?hn ?hr ?_; (case ho => rfl); (case hg => rfl); (case hn => rfl); (case hr => first | (go_simp; done) | (go_simp; rfl)); intro w19 hw; have n0_ : za (w19.heap[g0]? = some (.cells #[.slice (some ad179) l0_0.length c0_0, .int .i16 a0_1, .int .i16 a0_2, .int .i16 a0_3, .int .i16 a0_4, .bool a0_5] 29 (0, 0))) := ⟨(by rw [hw]; exact (by (with_reducible repeat (first | refine ze ?_ _ | refine zf ?_ | refine zc ?_ _)); refine zm ?_ NB0_178.out _; (with_reducible repeat (first | refine ze ?_ _ | refine zf ?_ | refine zc ?_ _)); exact BK0.out))⟩; have n1_ : za (w19.heap[gb177]? = some (.cells #[.int .i16 0, .int .i16 0, .int .i16 0, .int .i16 0] 27 (0, 0))) := ⟨(by rw [hw]; exact (by (with_reducible repeat (first | refine ze ?_ _ | refine zf ?_ | refine zc ?_ _)); refine zm ?_ NB177_178.out _; (with_reducible repeat (first | refine ze ?_ _ | refine zf ?_ | refine zc ?_ _)); exact BK177.out))⟩; have n2_ : za (w19.heap[gb178]? = some (.cells #[.int .i16 (zlb x6_1 0 (IntKind.i16.wrap (Int.tmod x1_1 (wrap64 ((wrap64 (rd l0_0 x6_1)) + 1)))) x179000_1), .int .i16 (zlb x6_1 1 (IntKind.i16.wrap (Int.tmod x1_1 (wrap64 ((wrap64 (rd l0_0 x6_1)) + 1)))) x179001_1), .int .i16 (zlb x6_1 2 (IntKind.i16.wrap (Int.tmod x1_1 (wrap64 ((wrap64 (rd l0_0 x6_1)) + 1)))) x179002_1), .int .i16 (zlb x6_1 3 (IntKind.i16.wrap (Int.tmod x1_1 (wrap64 ((wrap64 (rd l0_0 x6_1)) + 1)))) x179003_1)] 27 (0, 0))) := ⟨(by rw [hw]; exact (by (with_reducible repeat (first | refine ze ?_ _ | refine zf ?_ | refine zc ?_ _)); refine zx (cs := #[.int .i16 x179000_1, .int .i16 x179001_1, .int .i16 x179002_1, .int .i16 x179003_1]) ?_ ((x6_1).toNat) _ (by rcases (show (x6_1 : Int) = 0 ∨ (x6_1 : Int) = 1 ∨ (x6_1 : Int) = 2 ∨ (x6_1 : Int) = 3 by have hp_ : 0 ≤ (x6_1 : Int) := of_decide_eq_true (by first | (with_reducible assumption) | assumption); have hq_ : x6_1 < (4 : Int) := of_decide_eq_true (by first | (with_reducible assumption) | assumption); omega) with h_ | h_ | h_ | h_ <;> rw [h_] <;> rfl); (with_reducible repeat (first | refine ze ?_ _ | refine zf ?_ | refine zc ?_ _)); exact BK178.out))⟩; have n3_ : za (Below w.heap.size w w19) := ⟨(by rw [hw]; exact sB)⟩; clear hw; clear BK0; clear BK177; clear BK178; clear HB; have BK0 := n0_; have BK177 := n1_; have BK178 := n2_; have HB := n3_; clear n0_ n1_ n2_ n3_))
      go_roundg k1
      case measure => have := HK1.out; omega
      case rel => exact ⟨(wrap64 (Int.tdiv x1_1 (wrap64 ((wrap64 (rd l0_0 x6_1)) + 1)))), (wrap64 (x6_1 + 1)), ((zlb x6_1 0 (IntKind.i16.wrap (Int.tmod x1_1 (wrap64 ((wrap64 (rd l0_0 x6_1)) + 1)))) x179000_1)), ((zlb x6_1 1 (IntKind.i16.wrap (Int.tmod x1_1 (wrap64 ((wrap64 (rd l0_0 x6_1)) + 1)))) x179001_1)), ((zlb x6_1 2 (IntKind.i16.wrap (Int.tmod x1_1 (wrap64 ((wrap64 (rd l0_0 x6_1)) + 1)))) x179002_1)), ((zlb x6_1 3 (IntKind.i16.wrap (Int.tmod x1_1 (wrap64 ((wrap64 (rd l0_0 x6_1)) + 1)))) x179003_1)), (by first | rfl | (simp; done) | (simp [*]; done)), (by first | rfl | (simp; done) | (simp [*]; done)), H', ⟨by have := HK1.out; omega⟩, ⟨uK BK0⟩, ⟨uK BK177⟩, ⟨uK BK178⟩, ⟨sB⟩⟩
     rw [if_neg c11] at H
     exact absurd H (by simp)
    rw [if_neg c9] at H
    exact absurd H (by simp)
   rw [if_neg c8] at H
   have c8b0 : decide (x6_1 < (l0_0.length : Int)) = false := decide_eq_false c8
   clear c8
   simp only [Option.some.injEq, Prod.mk.injEq] at H
   obtain ⟨rfl, rfl, rfl, rfl⟩ := H
   have hnb20 := NB0_177.out
   have hnc20 := NB177_0.out
   have hnb21 := NB0_178.out
   have hnc21 := NB178_0.out
   obtain ⟨hcz22_0, hcz22_1, hcz22_2, hcz22_3, hcz22_4, hcz22_5⟩ := xc6 BK0
   obtain ⟨hfz22_0, hfz22_1, hfz22_2, hfz22_3, hfz22_4, hfz22_5⟩ := xf6 BK0
   have hnb23 := NB178_177.out
   have hnc23 := NB177_178.out
   obtain ⟨hcz24_0, hcz24_1, hcz24_2, hcz24_3⟩ := xc4 BK178
   obtain ⟨hfz24_0, hfz24_1, hfz24_2, hfz24_3⟩ := xf4 BK178
   obtain ⟨hcz25_0, hcz25_1, hcz25_2, hcz25_3⟩ := xc4 BK177
   obtain ⟨hfz25_0, hfz25_1, hfz25_2, hfz25_3⟩ := xf4 BK177
   go_wp2
   refine bodyPost_ret (results_cell_row rfl _ _ gb177 27 #[.int .i16 x179000_1, .int .i16 x179001_1, .int .i16 x179002_1, .int .i16 x179003_1] (0, 0) _ rfl (by (with_reducible repeat (first | refine ze ?_ _ | refine zf ?_ | refine zc ?_ _)); refine zx (cs := #[.int .i16 x179000_1, .int .i16 x179001_1, .int .i16 x179002_1, .int .i16 0]) ?_ 3 _ rfl; (with_reducible repeat (first | refine ze ?_ _ | refine zf ?_ | refine zc ?_ _)); refine zx (cs := #[.int .i16 x179000_1, .int .i16 x179001_1, .int .i16 0, .int .i16 0]) ?_ 2 _ rfl; (with_reducible repeat (first | refine ze ?_ _ | refine zf ?_ | refine zc ?_ _)); refine zx (cs := #[.int .i16 x179000_1, .int .i16 0, .int .i16 0, .int .i16 0]) ?_ 1 _ rfl; (with_reducible repeat (first | refine ze ?_ _ | refine zf ?_ | refine zc ?_ _)); refine zx (cs := #[.int .i16 0, .int .i16 0, .int .i16 0, .int .i16 0]) ?_ 0 _ rfl; (with_reducible repeat (first | refine ze ?_ _ | refine zf ?_ | refine zc ?_ _)); exact BK177.out) Try.underlying27 rfl (by kernel_rfl)) rfl ?_
   exact ⟨by first | rfl | (simp [zj, zk] <;> rfl) | (simp [*, zj, zk] <;> rfl), sB⟩

end Go.Proofs.Yteciomagemjjaaa.J
