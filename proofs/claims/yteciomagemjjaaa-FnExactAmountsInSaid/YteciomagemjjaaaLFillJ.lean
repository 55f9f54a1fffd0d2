/- The reference's l02Move: a jug filled or emptied, and moves that are none. -/
import Derived.Test.YteciomagemjjaaaLStepJ
namespace Go.Proofs.Yteciomagemjjaaa.J
open Go.RowKit Go.Proofs.YteciomagemjjaaaW.PrintWords Go.Proofs.YteciomagemjjaaaW.PrintLast Go.Proofs.YteciomagemjjaaaW.PrintMore
attribute [local go_sem] zna zpa zua zva zia zja zqa zoa   -- for this text's walks alone
attribute [local go_sem high] eqA27
set_option linter.unusedVariables false
set_option linter.unusedSimpArgs false
theorem k6_5 {W : World} {g t : Nat} {a b c d e f : Value} (h : W.heap[g]? = some (.cells #[a, b, c, d, e, f] t (0, 0))) : W.cell? ⟨g, 5, none⟩ = some f := (zb h 5).trans rfl
theorem zmd {W1 : World} {g6 : Nat} {z : Value} (H6 : W1.heap[g6]? = some (.cells #[z, z, z, z] 27 (0, 0))) (x0 x1 x2 x3 : Value) :
    ((((W1.setCell ⟨g6, 0, none⟩ x0).setCell ⟨g6, 1, none⟩ x1).setCell ⟨g6, 2, none⟩ x2).setCell ⟨g6, 3, none⟩ x3).heap[g6]? = some (.cells #[x0, x1, x2, x3] 27 (0, 0)) :=
  zx (zx (zx (zx H6 0 _ rfl) 1 _ rfl) 2 _ rfl) 3 _ rfl
theorem after_onef {W1 : World} {g6 g8 : Nat} {z : Value} (H6 : W1.heap[g6]? = some (.cells #[z, z, z, z] 27 (0, 0))) (hne : g6 ≠ g8) (i : Nat) (u x0 x1 x2 x3 : Value) :
    (((((W1.setCell ⟨g8, i, none⟩ u).setCell ⟨g6, 0, none⟩ x0).setCell ⟨g6, 1, none⟩ x1).setCell ⟨g6, 2, none⟩ x2).setCell ⟨g6, 3, none⟩ x3).heap[g6]? = some (.cells #[x0, x1, x2, x3] 27 (0, 0)) :=
  zx (zx (zx (zx (zm H6 hne _) 0 _ rfl) 1 _ rfl) 2 _ rfl) 3 _ rfl
theorem after_oned {W1 : World} {g6 g8 : Nat} {z : Value} (H6 : W1.heap[g6]? = some (.cells #[z, z, z, z] 27 (0, 0))) (hne : g6 ≠ g8) (i : Nat) (u x0 x1 x2 x3 : Value) :
    (((((W1.setCell ⟨g8, i, none⟩ u).drew.setCell ⟨g6, 0, none⟩ x0).setCell ⟨g6, 1, none⟩ x1).setCell ⟨g6, 2, none⟩ x2).setCell ⟨g6, 3, none⟩ x3).heap[g6]? = some (.cells #[x0, x1, x2, x3] 27 (0, 0)) :=
  zx (zx (zx (zx (zf (zm H6 hne _)) 0 _ rfl) 1 _ rfl) 2 _ rfl) 3 _ rfl
set_option maxHeartbeats 8000000 in
set_option maxRecDepth 100000 in
theorem step_self (g0 : Nat) (A : Option Addr) (c0 : Nat) (l : List Int) (s0 s1 s2 s3 : Int) (tap : Bool) (w0 w1 w2 w3 fr : Int) (w : World) (hb0 : w.heap[g0]? = some (.cells #[.slice A l.length c0, .int .i16 s0, .int .i16 s1, .int .i16 s2, .int .i16 s3, .bool tap] 29 (0, 0))) (hr0 : Kd.C (Kd.int .i16) w A l.length l) (hc0 : l.length ≤ c0) (hf : 0 ≤ fr ∧ fr < 4) (hlf : fr < l.length) (hL : l.length ≤ 4) :
    Calls Try.prog 76 #[.pointer (some ⟨g0, 0, none⟩), .agg #[.int .i16 w0, .int .i16 w1, .int .i16 w2, .int .i16 w3], .agg #[.int .i8 0, .int .i8 fr, .int .i8 fr]] w
      fun e w' => e = .returned (.tuple #[.agg #[.int .i16 0, .int .i16 0, .int .i16 0, .int .i16 0], .int .i64 4]) ∧ Below w.heap.size w w' := by
  have hu29 := Try.underlying29
  have hu27 := Try.underlying27
  have hu80 := Try.underlying80
  have hlt := zfb hb0
  have HI1 := za.mk (zwb hf.1 hlf hL)
  have HI2 := za.mk (zwb (Int.le_refl 0) (Int.lt_of_le_of_lt hf.1 hlf) hL)
  clear hL
  rcases (show fr = 0 ∨ fr = 1 ∨ fr = 2 ∨ fr = 3 by omega) with rfl | rfl | rfl | rfl
  all_goals
    go_enter Try.func76, Try.ntmps76
    go_upto_region 1 with (fail)
    generalize hW1 : World.alloc _ _ = W1
    have H4 := thr4e hW1
    have H5 := thr5e hW1
    have H6 := thr6e hW1
    have HB := zdf hW1
    have HZ := zye hW1
    clear hW1
    have H0 := zca hb0 HB
    have a00 := k6_0 H0
    obtain ⟨a40, a41, a42, a43⟩ := k4_c H4
    obtain ⟨a50, a51, a52⟩ := k3_c H5
    obtain ⟨a60, a61, a62, a63⟩ := k4_c H6; obtain ⟨f60, f61, f62, f63⟩ := kf_c H6
    have HA := za.mk (And.intro H0 (And.intro H4 (And.intro H5 (And.intro H6 (And.intro HB HZ)))))
    clear H0 H4 H5 H6 HB HZ hb0 hr0
    go_wp2_with (first
      | (go_at_call 103
         (with_reducible refine (spec_l00In.calls _ _ _ true _ ?hh).mono ?_)
         (case hh => first | exact HI1.out | exact HI2.out | exact zxc (by decide) (by decide))
         rintro e w' ⟨rfl, ⟨nd, rfl⟩⟩)
      | go_in)
    have L6 := HA.out.2.2.2.1
    have LB := HA.out.2.2.2.2.1
    refine bodyPost_ret (zha rfl _ _ (w.heap.size + 1 + 1) 27 #[.int .i16 0, .int .i16 0, .int .i16 0, .int .i16 0] (0, 0) _ rfl (zmd (ze L6 _) _ _ _ _) Try.underlying27 rfl (zeb _ _ _ _)) rfl ?_
    exact ⟨rfl, by with_reducible repeat (first | refine zt ?_ (le2 _) | exact zo LB _)⟩
set_option maxHeartbeats 8000000 in
set_option maxRecDepth 100000 in
theorem step_dry1 (g0 : Nat) (A : Option Addr) (c0 : Nat) (l : List Int) (s0 s1 s2 s3 : Int) (w0 w1 w2 w3 fr : Int) (w : World) (hb0 : w.heap[g0]? = some (.cells #[.slice A l.length c0, .int .i16 s0, .int .i16 s1, .int .i16 s2, .int .i16 s3, .bool false] 29 (0, 0))) (hr0 : Kd.C (Kd.int .i16) w A l.length l) (hc0 : l.length ≤ c0) (hf : 0 ≤ fr ∧ fr < 4) (hlf : fr < l.length) (hL : l.length ≤ 4) :
    Calls Try.prog 76 #[.pointer (some ⟨g0, 0, none⟩), .agg #[.int .i16 w0, .int .i16 w1, .int .i16 w2, .int .i16 w3], .agg #[.int .i8 1, .int .i8 fr, .int .i8 0]] w
      fun e w' => e = .returned (.tuple #[.agg #[.int .i16 0, .int .i16 0, .int .i16 0, .int .i16 0], .int .i64 4]) ∧ Below w.heap.size w w' := by
  have hu29 := Try.underlying29
  have hu27 := Try.underlying27
  have hu80 := Try.underlying80
  have hlt := zfb hb0
  have HI1 := za.mk (zwb hf.1 hlf hL)
  have HI2 := za.mk (zwb (Int.le_refl 0) (Int.lt_of_le_of_lt hf.1 hlf) hL)
  clear hL
  have HLN : za (fr.toNat < l.length) := ⟨by omega⟩
  rcases (show fr = 0 ∨ fr = 1 ∨ fr = 2 ∨ fr = 3 by omega) with rfl | rfl | rfl | rfl
  all_goals
    go_enter Try.func76, Try.ntmps76
    go_upto_region 1 with (fail)
    generalize hW1 : World.alloc _ _ = W1
    have H4 := thr4e hW1
    have H5 := thr5e hW1
    have H6 := thr6e hW1
    have HB := zdf hW1
    have HZ := zye hW1
    clear hW1
    have H0 := zca hb0 HB
    have a00 := k6_0 H0
    have a05 := k6_5 H0
    obtain ⟨a40, a41, a42, a43⟩ := k4_c H4
    obtain ⟨a50, a51, a52⟩ := k3_c H5
    obtain ⟨a60, a61, a62, a63⟩ := k4_c H6; obtain ⟨f60, f61, f62, f63⟩ := kf_c H6
    have HA := za.mk (And.intro H0 (And.intro H4 (And.intro H5 (And.intro H6 (And.intro HB HZ)))))
    clear H0 H4 H5 H6 HB HZ hb0 hr0
    go_wp2_with (first
      | (go_at_call 103
         (with_reducible refine (spec_l00In.calls _ _ _ true _ ?hh).mono ?_)
         (case hh => first | exact HI1.out | exact HI2.out | exact zxc (by decide) (by decide))
         rintro e w' ⟨rfl, ⟨nd, rfl⟩⟩)
      | go_in)
    have L6 := HA.out.2.2.2.1
    have LB := HA.out.2.2.2.2.1
    refine bodyPost_ret (zha rfl _ _ (w.heap.size + 1 + 1) 27 #[.int .i16 0, .int .i16 0, .int .i16 0, .int .i16 0] (0, 0) _ rfl (zmd (ze L6 _) _ _ _ _) Try.underlying27 rfl (zeb _ _ _ _)) rfl ?_
    exact ⟨rfl, by with_reducible repeat (first | refine zt ?_ (le2 _) | exact zo LB _)⟩
set_option maxHeartbeats 8000000 in
set_option maxRecDepth 100000 in
theorem step_dry2 (g0 : Nat) (A : Option Addr) (c0 : Nat) (l : List Int) (s0 s1 s2 s3 : Int) (w0 w1 w2 w3 fr : Int) (w : World) (hb0 : w.heap[g0]? = some (.cells #[.slice A l.length c0, .int .i16 s0, .int .i16 s1, .int .i16 s2, .int .i16 s3, .bool false] 29 (0, 0))) (hr0 : Kd.C (Kd.int .i16) w A l.length l) (hc0 : l.length ≤ c0) (hf : 0 ≤ fr ∧ fr < 4) (hlf : fr < l.length) (hL : l.length ≤ 4) :
    Calls Try.prog 76 #[.pointer (some ⟨g0, 0, none⟩), .agg #[.int .i16 w0, .int .i16 w1, .int .i16 w2, .int .i16 w3], .agg #[.int .i8 2, .int .i8 fr, .int .i8 0]] w
      fun e w' => e = .returned (.tuple #[.agg #[.int .i16 0, .int .i16 0, .int .i16 0, .int .i16 0], .int .i64 4]) ∧ Below w.heap.size w w' := by
  have hu29 := Try.underlying29
  have hu27 := Try.underlying27
  have hu80 := Try.underlying80
  have hlt := zfb hb0
  have HI1 := za.mk (zwb hf.1 hlf hL)
  have HI2 := za.mk (zwb (Int.le_refl 0) (Int.lt_of_le_of_lt hf.1 hlf) hL)
  clear hL
  rcases (show fr = 0 ∨ fr = 1 ∨ fr = 2 ∨ fr = 3 by omega) with rfl | rfl | rfl | rfl
  all_goals
    go_enter Try.func76, Try.ntmps76
    go_upto_region 1 with (fail)
    generalize hW1 : World.alloc _ _ = W1
    have H4 := thr4e hW1
    have H5 := thr5e hW1
    have H6 := thr6e hW1
    have HB := zdf hW1
    have HZ := zye hW1
    clear hW1
    have H0 := zca hb0 HB
    have a00 := k6_0 H0
    have a05 := k6_5 H0
    obtain ⟨a40, a41, a42, a43⟩ := k4_c H4
    obtain ⟨a50, a51, a52⟩ := k3_c H5
    obtain ⟨a60, a61, a62, a63⟩ := k4_c H6; obtain ⟨f60, f61, f62, f63⟩ := kf_c H6
    have HA := za.mk (And.intro H0 (And.intro H4 (And.intro H5 (And.intro H6 (And.intro HB HZ)))))
    clear H0 H4 H5 H6 HB HZ hb0 hr0
    go_wp2_with (first
      | (go_at_call 103
         (with_reducible refine (spec_l00In.calls _ _ _ true _ ?hh).mono ?_)
         (case hh => first | exact HI1.out | exact HI2.out | exact zxc (by decide) (by decide))
         rintro e w' ⟨rfl, ⟨nd, rfl⟩⟩)
      | go_in)
    have L6 := HA.out.2.2.2.1
    have LB := HA.out.2.2.2.2.1
    refine bodyPost_ret (zha rfl _ _ (w.heap.size + 1 + 1) 27 #[.int .i16 0, .int .i16 0, .int .i16 0, .int .i16 0] (0, 0) _ rfl (zmd (ze L6 _) _ _ _ _) Try.underlying27 rfl (zeb _ _ _ _)) rfl ?_
    exact ⟨rfl, by with_reducible repeat (first | refine zt ?_ (le2 _) | exact zo LB _)⟩
set_option maxHeartbeats 8000000 in
set_option maxRecDepth 100000 in
theorem step_fill (g0 : Nat) (A : Option Addr) (c0 : Nat) (l : List Int) (s0 s1 s2 s3 : Int) (w0 w1 w2 w3 fr : Int) (w : World) (hb0 : w.heap[g0]? = some (.cells #[.slice A l.length c0, .int .i16 s0, .int .i16 s1, .int .i16 s2, .int .i16 s3, .bool true] 29 (0, 0))) (hr0 : Kd.C (Kd.int .i16) w A l.length l) (hc0 : l.length ≤ c0) (hf : 0 ≤ fr ∧ fr < 4) (hlf : fr < l.length) (hL : l.length ≤ 4) :
    Calls Try.prog 76 #[.pointer (some ⟨g0, 0, none⟩), .agg #[.int .i16 w0, .int .i16 w1, .int .i16 w2, .int .i16 w3], .agg #[.int .i8 1, .int .i8 fr, .int .i8 0]] w
      fun e w' => e = .returned (.tuple #[.agg #[.int .i16 (stR (st4 w0 w1 w2 w3 fr (rd l fr)) w0 w1 w2 w3).1, .int .i16 (stR (st4 w0 w1 w2 w3 fr (rd l fr)) w0 w1 w2 w3).2.1, .int .i16 (stR (st4 w0 w1 w2 w3 fr (rd l fr)) w0 w1 w2 w3).2.2.1, .int .i16 (stR (st4 w0 w1 w2 w3 fr (rd l fr)) w0 w1 w2 w3).2.2.2.1], .int .i64 (stR (st4 w0 w1 w2 w3 fr (rd l fr)) w0 w1 w2 w3).2.2.2.2]) ∧ Below w.heap.size w w' := by
  have hu29 := Try.underlying29
  have hu27 := Try.underlying27
  have hu80 := Try.underlying80
  obtain ⟨ad, eA, hx⟩ := Kd.at_int hr0 fr hf.1 hlf
  cases eA
  have hlt := zfb hb0
  have HI1 := za.mk (zwb hf.1 hlf hL)
  have HI2 := za.mk (zwb (Int.le_refl 0) (Int.lt_of_le_of_lt hf.1 hlf) hL)
  clear hL
  have HLN : za (fr.toNat < l.length) := ⟨by omega⟩
  rcases (show fr = 0 ∨ fr = 1 ∨ fr = 2 ∨ fr = 3 by omega) with rfl | rfl | rfl | rfl
  all_goals
    go_enter Try.func76, Try.ntmps76
    go_upto_region 1 with (fail)
    generalize hW1 : World.alloc _ _ = W1
    have H4 := thr4e hW1
    have H5 := thr5e hW1
    have H6 := thr6e hW1
    have HB := zdf hW1
    have HZ := zye hW1
    clear hW1
    have H0 := zca hb0 HB
    have hx1 := (HB.cell (World.block_lt_of_cell? w _ hx)).trans hx
    simp [Addr.add] at hx1
    clear hx
    have a00 := k6_0 H0
    have a05 := k6_5 H0
    obtain ⟨a40, a41, a42, a43⟩ := k4_c H4
    obtain ⟨a50, a51, a52⟩ := k3_c H5
    obtain ⟨a60, a61, a62, a63⟩ := k4_c H6; obtain ⟨f60, f61, f62, f63⟩ := kf_c H6
    have HA := za.mk (And.intro H0 (And.intro H4 (And.intro H5 (And.intro H6 (And.intro HB HZ)))))
    clear H0 H4 H5 H6 HB HZ hb0
    go_upto_region 6 with (first
      | (go_at_call 103
         (with_reducible refine (spec_l00In.calls _ _ _ true _ ?hh).mono ?_)
         (case hh => first | exact HI1.out | exact HI2.out | exact zxc (by decide) (by decide))
         rintro e w' ⟨rfl, ⟨nd, rfl⟩⟩)
      | go_in)
    generalize hW2 : World.drewN _ _ = W2
    have G0 := zyb hW2 HA.out.1
    have G4 := zyb hW2 HA.out.2.1
    have G5 := zyb hW2 HA.out.2.2.1
    have G6 := zyb hW2 HA.out.2.2.2.1
    have GB := zde hW2 HA.out.2.2.2.2.1
    have GZ := dr_size hW2 HA.out.2.2.2.2.2
    have hx2 := dr_cell hW2 hx1
    clear hx1
    clear hW2 a00 a05 a40 a41 a42 a43 a50 a51 a52 a60 a61 a62 a63 f60 f61 f62 f63
    obtain ⟨a40, a41, a42, a43⟩ := k4_c G4
    obtain ⟨a50, a51, a52⟩ := k3_c G5
    have GA := za.mk (And.intro G0 (And.intro G4 (And.intro G5 (And.intro G6 (And.intro GB GZ)))))
    clear G0 G4 G5 G6 GB GZ HA
    go_upto_region 7 with (fail)
    generalize hW3 : World.alloc _ _ = W3
    rw [GA.out.2.2.2.2.2]
    have K0 := zjc hW3 GA.out.1
    have K4 := zjc hW3 GA.out.2.1
    have K5 := zjc hW3 GA.out.2.2.1
    have K6 := zjc hW3 GA.out.2.2.2.1
    have K9 := al_new hW3 GA.out.2.2.2.2.2
    have KB := al_below hW3 GA.out.2.2.2.2.1
    have hx3 := al_cell hW3 hx2
    clear hx2
    clear hW3 a40 a41 a42 a43 a50 a51 a52
    have a00 := k6_0 K0
    obtain ⟨a40, a41, a42, a43⟩ := k4_c K4
    obtain ⟨a50, a51, a52⟩ := k3_c K5
    obtain ⟨a60, a61, a62, a63⟩ := k4_c K6; obtain ⟨f60, f61, f62, f63⟩ := kf_c K6
    obtain ⟨a90, a91, a92, a93⟩ := k4_c K9; obtain ⟨f90, f91, f92, f93⟩ := kf_c K9
    have KA := za.mk (And.intro K6 (And.intro KB K4))
    clear K0 K4 K5 K6 K9 KB GA
    go_wp2
    have hln := HLN.out
    simp at hln
    clear a40 a41 a42 a43 a60 f60 a61 f61 a62 f62 a63 f63
    go_region
    obtain ⟨a40, a41, a42, a43⟩ := k4_c KA.out.2.2
    obtain ⟨a60, a61, a62, a63⟩ := k4_c KA.out.1; obtain ⟨f60, f61, f62, f63⟩ := kf_c KA.out.1
    go_wp2
    all_goals
      rename_i h
      have L6 := KA.out.1
      have LB := KA.out.2.1
      refine bodyPost_ret (zha rfl _ _ (w.heap.size + 1 + 1) 27 _ (0, 0) _ rfl (after_oned L6 (ne23 _) _ _ _ _ _ _) Try.underlying27 rfl (zeb _ _ _ _)) rfl ?_
      refine ⟨ends5 ?_, by with_reducible repeat (first | refine zt ?_ (le3 _) | refine zt ?_ (le2 _) | apply zv | exact LB)⟩
      first | exact stR_diff rfl (by simp [h]) | exact stR_same rfl (by simp [h])
set_option maxHeartbeats 8000000 in
set_option maxRecDepth 100000 in
theorem step_empty (g0 : Nat) (A : Option Addr) (c0 : Nat) (l : List Int) (s0 s1 s2 s3 : Int) (w0 w1 w2 w3 fr : Int) (w : World) (hb0 : w.heap[g0]? = some (.cells #[.slice A l.length c0, .int .i16 s0, .int .i16 s1, .int .i16 s2, .int .i16 s3, .bool true] 29 (0, 0))) (hr0 : Kd.C (Kd.int .i16) w A l.length l) (hc0 : l.length ≤ c0) (hf : 0 ≤ fr ∧ fr < 4) (hlf : fr < l.length) (hL : l.length ≤ 4) :
    Calls Try.prog 76 #[.pointer (some ⟨g0, 0, none⟩), .agg #[.int .i16 w0, .int .i16 w1, .int .i16 w2, .int .i16 w3], .agg #[.int .i8 2, .int .i8 fr, .int .i8 0]] w
      fun e w' => e = .returned (.tuple #[.agg #[.int .i16 (stR (st4 w0 w1 w2 w3 fr 0) w0 w1 w2 w3).1, .int .i16 (stR (st4 w0 w1 w2 w3 fr 0) w0 w1 w2 w3).2.1, .int .i16 (stR (st4 w0 w1 w2 w3 fr 0) w0 w1 w2 w3).2.2.1, .int .i16 (stR (st4 w0 w1 w2 w3 fr 0) w0 w1 w2 w3).2.2.2.1], .int .i64 (stR (st4 w0 w1 w2 w3 fr 0) w0 w1 w2 w3).2.2.2.2]) ∧ Below w.heap.size w w' := by
  have hu29 := Try.underlying29
  have hu27 := Try.underlying27
  have hu80 := Try.underlying80
  have hlt := zfb hb0
  have HI1 := za.mk (zwb hf.1 hlf hL)
  have HI2 := za.mk (zwb (Int.le_refl 0) (Int.lt_of_le_of_lt hf.1 hlf) hL)
  clear hL
  rcases (show fr = 0 ∨ fr = 1 ∨ fr = 2 ∨ fr = 3 by omega) with rfl | rfl | rfl | rfl
  all_goals
    go_enter Try.func76, Try.ntmps76
    go_upto_region 1 with (fail)
    generalize hW1 : World.alloc _ _ = W1
    have H4 := thr4e hW1
    have H5 := thr5e hW1
    have H6 := thr6e hW1
    have HB := zdf hW1
    have HZ := zye hW1
    clear hW1
    have H0 := zca hb0 HB
    have a00 := k6_0 H0
    have a05 := k6_5 H0
    obtain ⟨a40, a41, a42, a43⟩ := k4_c H4
    obtain ⟨a50, a51, a52⟩ := k3_c H5
    obtain ⟨a60, a61, a62, a63⟩ := k4_c H6; obtain ⟨f60, f61, f62, f63⟩ := kf_c H6
    have HA := za.mk (And.intro H0 (And.intro H4 (And.intro H5 (And.intro H6 (And.intro HB HZ)))))
    clear H0 H4 H5 H6 HB HZ hb0 hr0
    go_upto_region 6 with (first
      | (go_at_call 103
         (with_reducible refine (spec_l00In.calls _ _ _ true _ ?hh).mono ?_)
         (case hh => first | exact HI1.out | exact HI2.out | exact zxc (by decide) (by decide))
         rintro e w' ⟨rfl, ⟨nd, rfl⟩⟩)
      | go_in)
    generalize hW2 : World.drewN _ _ = W2
    have G0 := zyb hW2 HA.out.1
    have G4 := zyb hW2 HA.out.2.1
    have G5 := zyb hW2 HA.out.2.2.1
    have G6 := zyb hW2 HA.out.2.2.2.1
    have GB := zde hW2 HA.out.2.2.2.2.1
    have GZ := dr_size hW2 HA.out.2.2.2.2.2
    clear hW2 a00 a05 a40 a41 a42 a43 a50 a51 a52 a60 a61 a62 a63 f60 f61 f62 f63
    obtain ⟨a40, a41, a42, a43⟩ := k4_c G4
    obtain ⟨a50, a51, a52⟩ := k3_c G5
    have GA := za.mk (And.intro G0 (And.intro G4 (And.intro G5 (And.intro G6 (And.intro GB GZ)))))
    clear G0 G4 G5 G6 GB GZ HA
    go_upto_region 7 with (fail)
    generalize hW3 : World.alloc _ _ = W3
    rw [GA.out.2.2.2.2.2]
    have K0 := zjc hW3 GA.out.1
    have K4 := zjc hW3 GA.out.2.1
    have K5 := zjc hW3 GA.out.2.2.1
    have K6 := zjc hW3 GA.out.2.2.2.1
    have K9 := al_new hW3 GA.out.2.2.2.2.2
    have KB := al_below hW3 GA.out.2.2.2.2.1
    clear hW3 a40 a41 a42 a43 a50 a51 a52
    have a00 := k6_0 K0
    obtain ⟨a40, a41, a42, a43⟩ := k4_c K4
    obtain ⟨a50, a51, a52⟩ := k3_c K5
    obtain ⟨a60, a61, a62, a63⟩ := k4_c K6; obtain ⟨f60, f61, f62, f63⟩ := kf_c K6
    obtain ⟨a90, a91, a92, a93⟩ := k4_c K9; obtain ⟨f90, f91, f92, f93⟩ := kf_c K9
    have KA := za.mk (And.intro K6 (And.intro KB K4))
    clear K0 K4 K5 K6 K9 KB GA
    go_wp2
    all_goals
      rename_i h
      have L6 := KA.out.1
      have LB := KA.out.2.1
      refine bodyPost_ret (zha rfl _ _ (w.heap.size + 1 + 1) 27 _ (0, 0) _ rfl (after_onef L6 (ne23 _) _ _ _ _ _ _) Try.underlying27 rfl (zeb _ _ _ _)) rfl ?_
      refine ⟨ends5 ?_, by with_reducible repeat (first | refine zt ?_ (le3 _) | refine zt ?_ (le2 _) | apply zv | exact LB)⟩
      first | exact stR_diff rfl (by simp [h]) | exact stR_same rfl (by simp [h])
/-- What l02Move returns of a move of l02All. -/
def znc (l : List Int) (tap : Bool) (a b c d kind fr tt : Int) : Int × Int × Int × Int × Int :=
  if kind = 0 then (if fr = tt then (0, 0, 0, 0, 4) else stR (mvP l a b c d fr tt) a b c d)
  else if tap then (if kind = 1 then stR (st4 a b c d fr (rd l fr)) a b c d else stR (st4 a b c d fr 0) a b c d)
  else (0, 0, 0, 0, 4)
def isMv (n : Nat) (kind fr tt : Int) : Prop := (0 ≤ fr ∧ fr < n) ∧ (0 ≤ tt ∧ tt < n) ∧ (kind = 0 ∨ (kind = 1 ∨ kind = 2) ∧ tt = 0)
def isW (a b c d : Int) : Prop := (0 ≤ a ∧ a < 32768) ∧ (0 ≤ b ∧ b < 32768) ∧ (0 ≤ c ∧ c < 32768) ∧ (0 ≤ d ∧ d < 32768)
theorem step_calls (g0 : Nat) (A : Option Addr) (c0 : Nat) (l : List Int) (s0 s1 s2 s3 : Int) (tap : Bool) (w0 w1 w2 w3 kind fr tt : Int) (w : World) (hb0 : w.heap[g0]? = some (.cells #[.slice A l.length c0, .int .i16 s0, .int .i16 s1, .int .i16 s2, .int .i16 s3, .bool tap] 29 (0, 0))) (hr0 : Kd.C (Kd.int .i16) w A l.length l) (hc0 : l.length ≤ c0) (hL : l.length ≤ 4) (hm : isMv l.length kind fr tt) (hw : isW w0 w1 w2 w3) :
    Calls Try.prog 76 #[.pointer (some ⟨g0, 0, none⟩), .agg #[.int .i16 w0, .int .i16 w1, .int .i16 w2, .int .i16 w3], .agg #[.int .i8 kind, .int .i8 fr, .int .i8 tt]] w
      fun e w' => e = .returned (.tuple #[.agg #[.int .i16 (znc l tap w0 w1 w2 w3 kind fr tt).1, .int .i16 (znc l tap w0 w1 w2 w3 kind fr tt).2.1, .int .i16 (znc l tap w0 w1 w2 w3 kind fr tt).2.2.1, .int .i16 (znc l tap w0 w1 w2 w3 kind fr tt).2.2.2.1], .int .i64 (znc l tap w0 w1 w2 w3 kind fr tt).2.2.2.2]) ∧ Below w.heap.size w w' := by
  obtain ⟨⟨f0, f1⟩, ⟨t0, t1⟩, hk⟩ := hm
  obtain ⟨hw0, hw1, hw2, hw3⟩ := hw
  have f4 : fr < 4 := by omega
  have t4 : tt < 4 := by omega
  rcases hk with rfl | ⟨hk, rfl⟩
  · by_cases he : fr = tt
    · subst he
      have e : znc l tap w0 w1 w2 w3 0 fr fr = (0, 0, 0, 0, 4) := by unfold znc; rw [if_pos rfl, if_pos rfl]
      rw [e]
      exact step_self g0 A c0 l s0 s1 s2 s3 tap w0 w1 w2 w3 fr w hb0 hr0 hc0 ⟨f0, f4⟩ f1 hL
    · have e : znc l tap w0 w1 w2 w3 0 fr tt = stR (mvP l w0 w1 w2 w3 fr tt) w0 w1 w2 w3 := by unfold znc; rw [if_pos rfl, if_neg he]
      rw [e]
      exact step_pour g0 A c0 l s0 s1 s2 s3 tap w0 w1 w2 w3 fr tt w hb0 hr0 hc0 ⟨f0, f4⟩ ⟨t0, t4⟩ f1 t1 hL he hw0 hw1 hw2 hw3
  · cases tap
    · have e : znc l false w0 w1 w2 w3 kind fr 0 = (0, 0, 0, 0, 4) := by unfold znc; rw [if_neg (by omega), if_neg (by decide)]
      rw [e]
      rcases hk with rfl | rfl
      · exact step_dry1 g0 A c0 l s0 s1 s2 s3 w0 w1 w2 w3 fr w hb0 hr0 hc0 ⟨f0, f4⟩ f1 hL
      · exact step_dry2 g0 A c0 l s0 s1 s2 s3 w0 w1 w2 w3 fr w hb0 hr0 hc0 ⟨f0, f4⟩ f1 hL
    · rcases hk with rfl | rfl
      · have e : znc l true w0 w1 w2 w3 1 fr 0 = stR (st4 w0 w1 w2 w3 fr (rd l fr)) w0 w1 w2 w3 := by unfold znc; rw [if_neg (by omega), if_pos rfl, if_pos rfl]
        rw [e]
        exact step_fill g0 A c0 l s0 s1 s2 s3 w0 w1 w2 w3 fr w hb0 hr0 hc0 ⟨f0, f4⟩ f1 hL
      · have e : znc l true w0 w1 w2 w3 2 fr 0 = stR (st4 w0 w1 w2 w3 fr 0) w0 w1 w2 w3 := by unfold znc; rw [if_neg (by omega), if_pos rfl, if_neg (by omega)]
        rw [e]
        exact step_empty g0 A c0 l s0 s1 s2 s3 w0 w1 w2 w3 fr w hb0 hr0 hc0 ⟨f0, f4⟩ f1 hL
end Go.Proofs.Yteciomagemjjaaa.J
