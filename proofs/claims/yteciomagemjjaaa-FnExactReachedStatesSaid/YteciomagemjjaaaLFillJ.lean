/- The reference's l02Move: a jug filled or emptied, and moves that are none. -/
import Derived.Test.YteciomagemjjaaaLStepJ
namespace Go.Proofs.Yteciomagemjjaaa.J
open Go.RowKit Go.Proofs.YteciomagemjjaaaW.PrintWords Go.Proofs.YteciomagemjjaaaW.PrintLast Go.Proofs.YteciomagemjjaaaW.PrintMore
attribute [local go_sem] zoa zma max_two min_two zha zga zna zla   -- for this text's walks alone
attribute [local go_sem high] eqA27
set_option linter.unusedVariables false
set_option linter.unusedSimpArgs false
theorem after_four {W1 : World} {g6 : Nat} {z : Value} (H6 : W1.heap[g6]? = some (.cells #[z, z, z, z] 27 (0, 0))) (x0 x1 x2 x3 : Value) :
    ((((W1.setCell ⟨g6, 0, none⟩ x0).setCell ⟨g6, 1, none⟩ x1).setCell ⟨g6, 2, none⟩ x2).setCell ⟨g6, 3, none⟩ x3).heap[g6]? = some (.cells #[x0, x1, x2, x3] 27 (0, 0)) :=
  zz (zz (zz (zz H6 0 _ rfl) 1 _ rfl) 2 _ rfl) 3 _ rfl
theorem after_onef {W1 : World} {g6 g8 : Nat} {z : Value} (H6 : W1.heap[g6]? = some (.cells #[z, z, z, z] 27 (0, 0))) (hne : g6 ≠ g8) (i : Nat) (u x0 x1 x2 x3 : Value) :
    (((((W1.setCell ⟨g8, i, none⟩ u).setCell ⟨g6, 0, none⟩ x0).setCell ⟨g6, 1, none⟩ x1).setCell ⟨g6, 2, none⟩ x2).setCell ⟨g6, 3, none⟩ x3).heap[g6]? = some (.cells #[x0, x1, x2, x3] 27 (0, 0)) :=
  zz (zz (zz (zz (zr H6 hne _) 0 _ rfl) 1 _ rfl) 2 _ rfl) 3 _ rfl
theorem after_oned {W1 : World} {g6 g8 : Nat} {z : Value} (H6 : W1.heap[g6]? = some (.cells #[z, z, z, z] 27 (0, 0))) (hne : g6 ≠ g8) (i : Nat) (u x0 x1 x2 x3 : Value) :
    (((((W1.setCell ⟨g8, i, none⟩ u).drew.setCell ⟨g6, 0, none⟩ x0).setCell ⟨g6, 1, none⟩ x1).setCell ⟨g6, 2, none⟩ x2).setCell ⟨g6, 3, none⟩ x3).heap[g6]? = some (.cells #[x0, x1, x2, x3] 27 (0, 0)) :=
  zz (zz (zz (zz (zi (zr H6 hne _)) 0 _ rfl) 1 _ rfl) 2 _ rfl) 3 _ rfl
set_option maxHeartbeats 8000000 in
set_option maxRecDepth 100000 in
theorem step_self (g0 : Nat) (A : Option Addr) (c0 : Nat) (l : List Int) (s0 s1 s2 s3 : Int) (tap : Bool) (w0 w1 w2 w3 fr : Int) (w : World) (hb0 : w.heap[g0]? = some (.cells #[.slice A l.length c0, .int .i16 s0, .int .i16 s1, .int .i16 s2, .int .i16 s3, .bool tap] 29 (0, 0))) (hr0 : Kd.C (Kd.int .i16) w A l.length l) (hc0 : l.length ≤ c0) (hf : 0 ≤ fr ∧ fr < 4) (hlf : fr < l.length) (hL : l.length ≤ 4) :
    Calls Try.prog 76 #[.pointer (some ⟨g0, 0, none⟩), .agg #[.int .i16 w0, .int .i16 w1, .int .i16 w2, .int .i16 w3], .agg #[.int .i8 0, .int .i8 fr, .int .i8 fr]] w
      fun e w' => e = .returned (.tuple #[.agg #[.int .i16 0, .int .i16 0, .int .i16 0, .int .i16 0], .int .i64 4]) ∧ Below w.heap.size w w' := by
  have hu29 := Try.underlying29
  have hu27 := Try.underlying27
  have hu80 := Try.underlying80
  have hlt := zaa hb0
  have HI1 := zf.mk (in_last hf.1 hlf hL)
  have HI2 := zf.mk (in_last (Int.le_refl 0) (Int.lt_of_le_of_lt hf.1 hlf) hL)
  clear hL
  rcases (show fr = 0 ∨ fr = 1 ∨ fr = 2 ∨ fr = 3 by omega) with rfl | rfl | rfl | rfl
  · go_enter Try.func76, Try.ntmps76
    go_upto_region 1 with (fail)
    generalize hW1 : World.alloc _ _ = W1
    have H4 : W1.heap[w.heap.size]? = some (.cells #[.int .i16 w0, .int .i16 w1, .int .i16 w2, .int .i16 w3] 27 (0, 0)) := by rw [← hW1]; exact thr4 _ _ _ _
    have H5 : W1.heap[w.heap.size + 1]? = some (.cells #[.int .i8 0, .int .i8 0, .int .i8 0] 80 (0, 0)) := by rw [← hW1]; exact thr5 _ _ _ _
    have H6 : W1.heap[w.heap.size + 1 + 1]? = some (.cells #[.int .i16 0, .int .i16 0, .int .i16 0, .int .i16 0] 27 (0, 0)) := by rw [← hW1]; exact thr6 _ _ _ _
    have HB : Below w.heap.size w W1 := by rw [← hW1]; exact below_thr _ _ _ _
    have HZ : W1.heap.size = w.heap.size + 1 + 1 + 1 := by rw [← hW1]; exact thr_size _ _ _ _
    clear hW1
    have H0 := zl hb0 HB
    have a40 : W1.cell? ⟨w.heap.size, 0, none⟩ = some (.int .i16 w0) := (za H4 0).trans rfl
    have a41 : W1.cell? ⟨w.heap.size, 1, none⟩ = some (.int .i16 w1) := (za H4 1).trans rfl
    have a42 : W1.cell? ⟨w.heap.size, 2, none⟩ = some (.int .i16 w2) := (za H4 2).trans rfl
    have a43 : W1.cell? ⟨w.heap.size, 3, none⟩ = some (.int .i16 w3) := (za H4 3).trans rfl
    have a50 : W1.cell? ⟨w.heap.size + 1, 0, none⟩ = some (.int .i8 0) := (za H5 0).trans rfl
    have a51 : W1.cell? ⟨w.heap.size + 1, 1, none⟩ = some (.int .i8 0) := (za H5 1).trans rfl
    have a52 : W1.cell? ⟨w.heap.size + 1, 2, none⟩ = some (.int .i8 0) := (za H5 2).trans rfl
    have a00 : W1.cell? ⟨g0, 0, none⟩ = some (.slice A l.length c0) := (za H0 0).trans rfl
    have a60 : W1.cell? ⟨w.heap.size + 1 + 1, 0, none⟩ = some (.int .i16 0) := (za H6 0).trans rfl
    have f60 := zb H6 0
    have a61 : W1.cell? ⟨w.heap.size + 1 + 1, 1, none⟩ = some (.int .i16 0) := (za H6 1).trans rfl
    have f61 := zb H6 1
    have a62 : W1.cell? ⟨w.heap.size + 1 + 1, 2, none⟩ = some (.int .i16 0) := (za H6 2).trans rfl
    have f62 := zb H6 2
    have a63 : W1.cell? ⟨w.heap.size + 1 + 1, 3, none⟩ = some (.int .i16 0) := (za H6 3).trans rfl
    have f63 := zb H6 3
    have HA := zf.mk (And.intro H0 (And.intro H4 (And.intro H5 (And.intro H6 (And.intro HB HZ)))))
    clear H0 H4 H5 H6 HB HZ hb0 hr0
    go_wp2_with (first
      | (go_at_call 103
         (with_reducible refine (spec_l00In.calls _ _ _ true _ ?hh).mono ?_)
         (case hh => first | exact HI1.out | exact HI2.out | exact in_true (by decide) (by decide))
         rintro e w' ⟨rfl, ⟨nd, rfl⟩⟩)
      | go_in)
    have L6 := HA.out.2.2.2.1
    have LB := HA.out.2.2.2.2.1
    refine bodyPost_ret (zu rfl _ _ (w.heap.size + 1 + 1) 27 #[.int .i16 0, .int .i16 0, .int .i16 0, .int .i16 0] (0, 0) _ rfl (after_four (ze L6 _) _ _ _ _) Try.underlying27 rfl (size27 _ _ _ _)) rfl ?_
    exact ⟨rfl, by with_reducible repeat (first | refine zj ?_ (le2 _) | exact zc LB _)⟩
  · go_enter Try.func76, Try.ntmps76
    go_upto_region 1 with (fail)
    generalize hW1 : World.alloc _ _ = W1
    have H4 : W1.heap[w.heap.size]? = some (.cells #[.int .i16 w0, .int .i16 w1, .int .i16 w2, .int .i16 w3] 27 (0, 0)) := by rw [← hW1]; exact thr4 _ _ _ _
    have H5 : W1.heap[w.heap.size + 1]? = some (.cells #[.int .i8 0, .int .i8 1, .int .i8 1] 80 (0, 0)) := by rw [← hW1]; exact thr5 _ _ _ _
    have H6 : W1.heap[w.heap.size + 1 + 1]? = some (.cells #[.int .i16 0, .int .i16 0, .int .i16 0, .int .i16 0] 27 (0, 0)) := by rw [← hW1]; exact thr6 _ _ _ _
    have HB : Below w.heap.size w W1 := by rw [← hW1]; exact below_thr _ _ _ _
    have HZ : W1.heap.size = w.heap.size + 1 + 1 + 1 := by rw [← hW1]; exact thr_size _ _ _ _
    clear hW1
    have H0 := zl hb0 HB
    have a40 : W1.cell? ⟨w.heap.size, 0, none⟩ = some (.int .i16 w0) := (za H4 0).trans rfl
    have a41 : W1.cell? ⟨w.heap.size, 1, none⟩ = some (.int .i16 w1) := (za H4 1).trans rfl
    have a42 : W1.cell? ⟨w.heap.size, 2, none⟩ = some (.int .i16 w2) := (za H4 2).trans rfl
    have a43 : W1.cell? ⟨w.heap.size, 3, none⟩ = some (.int .i16 w3) := (za H4 3).trans rfl
    have a50 : W1.cell? ⟨w.heap.size + 1, 0, none⟩ = some (.int .i8 0) := (za H5 0).trans rfl
    have a51 : W1.cell? ⟨w.heap.size + 1, 1, none⟩ = some (.int .i8 1) := (za H5 1).trans rfl
    have a52 : W1.cell? ⟨w.heap.size + 1, 2, none⟩ = some (.int .i8 1) := (za H5 2).trans rfl
    have a00 : W1.cell? ⟨g0, 0, none⟩ = some (.slice A l.length c0) := (za H0 0).trans rfl
    have a60 : W1.cell? ⟨w.heap.size + 1 + 1, 0, none⟩ = some (.int .i16 0) := (za H6 0).trans rfl
    have f60 := zb H6 0
    have a61 : W1.cell? ⟨w.heap.size + 1 + 1, 1, none⟩ = some (.int .i16 0) := (za H6 1).trans rfl
    have f61 := zb H6 1
    have a62 : W1.cell? ⟨w.heap.size + 1 + 1, 2, none⟩ = some (.int .i16 0) := (za H6 2).trans rfl
    have f62 := zb H6 2
    have a63 : W1.cell? ⟨w.heap.size + 1 + 1, 3, none⟩ = some (.int .i16 0) := (za H6 3).trans rfl
    have f63 := zb H6 3
    have HA := zf.mk (And.intro H0 (And.intro H4 (And.intro H5 (And.intro H6 (And.intro HB HZ)))))
    clear H0 H4 H5 H6 HB HZ hb0 hr0
    go_wp2_with (first
      | (go_at_call 103
         (with_reducible refine (spec_l00In.calls _ _ _ true _ ?hh).mono ?_)
         (case hh => first | exact HI1.out | exact HI2.out | exact in_true (by decide) (by decide))
         rintro e w' ⟨rfl, ⟨nd, rfl⟩⟩)
      | go_in)
    have L6 := HA.out.2.2.2.1
    have LB := HA.out.2.2.2.2.1
    refine bodyPost_ret (zu rfl _ _ (w.heap.size + 1 + 1) 27 #[.int .i16 0, .int .i16 0, .int .i16 0, .int .i16 0] (0, 0) _ rfl (after_four (ze L6 _) _ _ _ _) Try.underlying27 rfl (size27 _ _ _ _)) rfl ?_
    exact ⟨rfl, by with_reducible repeat (first | refine zj ?_ (le2 _) | exact zc LB _)⟩
  · go_enter Try.func76, Try.ntmps76
    go_upto_region 1 with (fail)
    generalize hW1 : World.alloc _ _ = W1
    have H4 : W1.heap[w.heap.size]? = some (.cells #[.int .i16 w0, .int .i16 w1, .int .i16 w2, .int .i16 w3] 27 (0, 0)) := by rw [← hW1]; exact thr4 _ _ _ _
    have H5 : W1.heap[w.heap.size + 1]? = some (.cells #[.int .i8 0, .int .i8 2, .int .i8 2] 80 (0, 0)) := by rw [← hW1]; exact thr5 _ _ _ _
    have H6 : W1.heap[w.heap.size + 1 + 1]? = some (.cells #[.int .i16 0, .int .i16 0, .int .i16 0, .int .i16 0] 27 (0, 0)) := by rw [← hW1]; exact thr6 _ _ _ _
    have HB : Below w.heap.size w W1 := by rw [← hW1]; exact below_thr _ _ _ _
    have HZ : W1.heap.size = w.heap.size + 1 + 1 + 1 := by rw [← hW1]; exact thr_size _ _ _ _
    clear hW1
    have H0 := zl hb0 HB
    have a40 : W1.cell? ⟨w.heap.size, 0, none⟩ = some (.int .i16 w0) := (za H4 0).trans rfl
    have a41 : W1.cell? ⟨w.heap.size, 1, none⟩ = some (.int .i16 w1) := (za H4 1).trans rfl
    have a42 : W1.cell? ⟨w.heap.size, 2, none⟩ = some (.int .i16 w2) := (za H4 2).trans rfl
    have a43 : W1.cell? ⟨w.heap.size, 3, none⟩ = some (.int .i16 w3) := (za H4 3).trans rfl
    have a50 : W1.cell? ⟨w.heap.size + 1, 0, none⟩ = some (.int .i8 0) := (za H5 0).trans rfl
    have a51 : W1.cell? ⟨w.heap.size + 1, 1, none⟩ = some (.int .i8 2) := (za H5 1).trans rfl
    have a52 : W1.cell? ⟨w.heap.size + 1, 2, none⟩ = some (.int .i8 2) := (za H5 2).trans rfl
    have a00 : W1.cell? ⟨g0, 0, none⟩ = some (.slice A l.length c0) := (za H0 0).trans rfl
    have a60 : W1.cell? ⟨w.heap.size + 1 + 1, 0, none⟩ = some (.int .i16 0) := (za H6 0).trans rfl
    have f60 := zb H6 0
    have a61 : W1.cell? ⟨w.heap.size + 1 + 1, 1, none⟩ = some (.int .i16 0) := (za H6 1).trans rfl
    have f61 := zb H6 1
    have a62 : W1.cell? ⟨w.heap.size + 1 + 1, 2, none⟩ = some (.int .i16 0) := (za H6 2).trans rfl
    have f62 := zb H6 2
    have a63 : W1.cell? ⟨w.heap.size + 1 + 1, 3, none⟩ = some (.int .i16 0) := (za H6 3).trans rfl
    have f63 := zb H6 3
    have HA := zf.mk (And.intro H0 (And.intro H4 (And.intro H5 (And.intro H6 (And.intro HB HZ)))))
    clear H0 H4 H5 H6 HB HZ hb0 hr0
    go_wp2_with (first
      | (go_at_call 103
         (with_reducible refine (spec_l00In.calls _ _ _ true _ ?hh).mono ?_)
         (case hh => first | exact HI1.out | exact HI2.out | exact in_true (by decide) (by decide))
         rintro e w' ⟨rfl, ⟨nd, rfl⟩⟩)
      | go_in)
    have L6 := HA.out.2.2.2.1
    have LB := HA.out.2.2.2.2.1
    refine bodyPost_ret (zu rfl _ _ (w.heap.size + 1 + 1) 27 #[.int .i16 0, .int .i16 0, .int .i16 0, .int .i16 0] (0, 0) _ rfl (after_four (ze L6 _) _ _ _ _) Try.underlying27 rfl (size27 _ _ _ _)) rfl ?_
    exact ⟨rfl, by with_reducible repeat (first | refine zj ?_ (le2 _) | exact zc LB _)⟩
  · go_enter Try.func76, Try.ntmps76
    go_upto_region 1 with (fail)
    generalize hW1 : World.alloc _ _ = W1
    have H4 : W1.heap[w.heap.size]? = some (.cells #[.int .i16 w0, .int .i16 w1, .int .i16 w2, .int .i16 w3] 27 (0, 0)) := by rw [← hW1]; exact thr4 _ _ _ _
    have H5 : W1.heap[w.heap.size + 1]? = some (.cells #[.int .i8 0, .int .i8 3, .int .i8 3] 80 (0, 0)) := by rw [← hW1]; exact thr5 _ _ _ _
    have H6 : W1.heap[w.heap.size + 1 + 1]? = some (.cells #[.int .i16 0, .int .i16 0, .int .i16 0, .int .i16 0] 27 (0, 0)) := by rw [← hW1]; exact thr6 _ _ _ _
    have HB : Below w.heap.size w W1 := by rw [← hW1]; exact below_thr _ _ _ _
    have HZ : W1.heap.size = w.heap.size + 1 + 1 + 1 := by rw [← hW1]; exact thr_size _ _ _ _
    clear hW1
    have H0 := zl hb0 HB
    have a40 : W1.cell? ⟨w.heap.size, 0, none⟩ = some (.int .i16 w0) := (za H4 0).trans rfl
    have a41 : W1.cell? ⟨w.heap.size, 1, none⟩ = some (.int .i16 w1) := (za H4 1).trans rfl
    have a42 : W1.cell? ⟨w.heap.size, 2, none⟩ = some (.int .i16 w2) := (za H4 2).trans rfl
    have a43 : W1.cell? ⟨w.heap.size, 3, none⟩ = some (.int .i16 w3) := (za H4 3).trans rfl
    have a50 : W1.cell? ⟨w.heap.size + 1, 0, none⟩ = some (.int .i8 0) := (za H5 0).trans rfl
    have a51 : W1.cell? ⟨w.heap.size + 1, 1, none⟩ = some (.int .i8 3) := (za H5 1).trans rfl
    have a52 : W1.cell? ⟨w.heap.size + 1, 2, none⟩ = some (.int .i8 3) := (za H5 2).trans rfl
    have a00 : W1.cell? ⟨g0, 0, none⟩ = some (.slice A l.length c0) := (za H0 0).trans rfl
    have a60 : W1.cell? ⟨w.heap.size + 1 + 1, 0, none⟩ = some (.int .i16 0) := (za H6 0).trans rfl
    have f60 := zb H6 0
    have a61 : W1.cell? ⟨w.heap.size + 1 + 1, 1, none⟩ = some (.int .i16 0) := (za H6 1).trans rfl
    have f61 := zb H6 1
    have a62 : W1.cell? ⟨w.heap.size + 1 + 1, 2, none⟩ = some (.int .i16 0) := (za H6 2).trans rfl
    have f62 := zb H6 2
    have a63 : W1.cell? ⟨w.heap.size + 1 + 1, 3, none⟩ = some (.int .i16 0) := (za H6 3).trans rfl
    have f63 := zb H6 3
    have HA := zf.mk (And.intro H0 (And.intro H4 (And.intro H5 (And.intro H6 (And.intro HB HZ)))))
    clear H0 H4 H5 H6 HB HZ hb0 hr0
    go_wp2_with (first
      | (go_at_call 103
         (with_reducible refine (spec_l00In.calls _ _ _ true _ ?hh).mono ?_)
         (case hh => first | exact HI1.out | exact HI2.out | exact in_true (by decide) (by decide))
         rintro e w' ⟨rfl, ⟨nd, rfl⟩⟩)
      | go_in)
    have L6 := HA.out.2.2.2.1
    have LB := HA.out.2.2.2.2.1
    refine bodyPost_ret (zu rfl _ _ (w.heap.size + 1 + 1) 27 #[.int .i16 0, .int .i16 0, .int .i16 0, .int .i16 0] (0, 0) _ rfl (after_four (ze L6 _) _ _ _ _) Try.underlying27 rfl (size27 _ _ _ _)) rfl ?_
    exact ⟨rfl, by with_reducible repeat (first | refine zj ?_ (le2 _) | exact zc LB _)⟩
set_option maxHeartbeats 8000000 in
set_option maxRecDepth 100000 in
theorem step_dry1 (g0 : Nat) (A : Option Addr) (c0 : Nat) (l : List Int) (s0 s1 s2 s3 : Int) (w0 w1 w2 w3 fr : Int) (w : World) (hb0 : w.heap[g0]? = some (.cells #[.slice A l.length c0, .int .i16 s0, .int .i16 s1, .int .i16 s2, .int .i16 s3, .bool false] 29 (0, 0))) (hr0 : Kd.C (Kd.int .i16) w A l.length l) (hc0 : l.length ≤ c0) (hf : 0 ≤ fr ∧ fr < 4) (hlf : fr < l.length) (hL : l.length ≤ 4) :
    Calls Try.prog 76 #[.pointer (some ⟨g0, 0, none⟩), .agg #[.int .i16 w0, .int .i16 w1, .int .i16 w2, .int .i16 w3], .agg #[.int .i8 1, .int .i8 fr, .int .i8 0]] w
      fun e w' => e = .returned (.tuple #[.agg #[.int .i16 0, .int .i16 0, .int .i16 0, .int .i16 0], .int .i64 4]) ∧ Below w.heap.size w w' := by
  have hu29 := Try.underlying29
  have hu27 := Try.underlying27
  have hu80 := Try.underlying80
  have hlt := zaa hb0
  have HI1 := zf.mk (in_last hf.1 hlf hL)
  have HI2 := zf.mk (in_last (Int.le_refl 0) (Int.lt_of_le_of_lt hf.1 hlf) hL)
  clear hL
  rcases (show fr = 0 ∨ fr = 1 ∨ fr = 2 ∨ fr = 3 by omega) with rfl | rfl | rfl | rfl
  · go_enter Try.func76, Try.ntmps76
    go_upto_region 1 with (fail)
    generalize hW1 : World.alloc _ _ = W1
    have H4 : W1.heap[w.heap.size]? = some (.cells #[.int .i16 w0, .int .i16 w1, .int .i16 w2, .int .i16 w3] 27 (0, 0)) := by rw [← hW1]; exact thr4 _ _ _ _
    have H5 : W1.heap[w.heap.size + 1]? = some (.cells #[.int .i8 1, .int .i8 0, .int .i8 0] 80 (0, 0)) := by rw [← hW1]; exact thr5 _ _ _ _
    have H6 : W1.heap[w.heap.size + 1 + 1]? = some (.cells #[.int .i16 0, .int .i16 0, .int .i16 0, .int .i16 0] 27 (0, 0)) := by rw [← hW1]; exact thr6 _ _ _ _
    have HB : Below w.heap.size w W1 := by rw [← hW1]; exact below_thr _ _ _ _
    have HZ : W1.heap.size = w.heap.size + 1 + 1 + 1 := by rw [← hW1]; exact thr_size _ _ _ _
    clear hW1
    have H0 := zl hb0 HB
    have a00 : W1.cell? ⟨g0, 0, none⟩ = some (.slice A l.length c0) := (za H0 0).trans rfl
    have a05 : W1.cell? ⟨g0, 5, none⟩ = some (.bool false) := (za H0 5).trans rfl
    have a40 : W1.cell? ⟨w.heap.size, 0, none⟩ = some (.int .i16 w0) := (za H4 0).trans rfl
    have a41 : W1.cell? ⟨w.heap.size, 1, none⟩ = some (.int .i16 w1) := (za H4 1).trans rfl
    have a42 : W1.cell? ⟨w.heap.size, 2, none⟩ = some (.int .i16 w2) := (za H4 2).trans rfl
    have a43 : W1.cell? ⟨w.heap.size, 3, none⟩ = some (.int .i16 w3) := (za H4 3).trans rfl
    have a50 : W1.cell? ⟨w.heap.size + 1, 0, none⟩ = some (.int .i8 1) := (za H5 0).trans rfl
    have a51 : W1.cell? ⟨w.heap.size + 1, 1, none⟩ = some (.int .i8 0) := (za H5 1).trans rfl
    have a52 : W1.cell? ⟨w.heap.size + 1, 2, none⟩ = some (.int .i8 0) := (za H5 2).trans rfl
    have a60 : W1.cell? ⟨w.heap.size + 1 + 1, 0, none⟩ = some (.int .i16 0) := (za H6 0).trans rfl
    have f60 := zb H6 0
    have a61 : W1.cell? ⟨w.heap.size + 1 + 1, 1, none⟩ = some (.int .i16 0) := (za H6 1).trans rfl
    have f61 := zb H6 1
    have a62 : W1.cell? ⟨w.heap.size + 1 + 1, 2, none⟩ = some (.int .i16 0) := (za H6 2).trans rfl
    have f62 := zb H6 2
    have a63 : W1.cell? ⟨w.heap.size + 1 + 1, 3, none⟩ = some (.int .i16 0) := (za H6 3).trans rfl
    have f63 := zb H6 3
    have HA := zf.mk (And.intro H0 (And.intro H4 (And.intro H5 (And.intro H6 (And.intro HB HZ)))))
    clear H0 H4 H5 H6 HB HZ hb0 hr0
    go_wp2_with (first
      | (go_at_call 103
         (with_reducible refine (spec_l00In.calls _ _ _ true _ ?hh).mono ?_)
         (case hh => first | exact HI1.out | exact HI2.out | exact in_true (by decide) (by decide))
         rintro e w' ⟨rfl, ⟨nd, rfl⟩⟩)
      | go_in)
    have L6 := HA.out.2.2.2.1
    have LB := HA.out.2.2.2.2.1
    refine bodyPost_ret (zu rfl _ _ (w.heap.size + 1 + 1) 27 #[.int .i16 0, .int .i16 0, .int .i16 0, .int .i16 0] (0, 0) _ rfl (after_four (ze L6 _) _ _ _ _) Try.underlying27 rfl (size27 _ _ _ _)) rfl ?_
    exact ⟨rfl, by with_reducible repeat (first | refine zj ?_ (le2 _) | exact zc LB _)⟩
  · go_enter Try.func76, Try.ntmps76
    go_upto_region 1 with (fail)
    generalize hW1 : World.alloc _ _ = W1
    have H4 : W1.heap[w.heap.size]? = some (.cells #[.int .i16 w0, .int .i16 w1, .int .i16 w2, .int .i16 w3] 27 (0, 0)) := by rw [← hW1]; exact thr4 _ _ _ _
    have H5 : W1.heap[w.heap.size + 1]? = some (.cells #[.int .i8 1, .int .i8 1, .int .i8 0] 80 (0, 0)) := by rw [← hW1]; exact thr5 _ _ _ _
    have H6 : W1.heap[w.heap.size + 1 + 1]? = some (.cells #[.int .i16 0, .int .i16 0, .int .i16 0, .int .i16 0] 27 (0, 0)) := by rw [← hW1]; exact thr6 _ _ _ _
    have HB : Below w.heap.size w W1 := by rw [← hW1]; exact below_thr _ _ _ _
    have HZ : W1.heap.size = w.heap.size + 1 + 1 + 1 := by rw [← hW1]; exact thr_size _ _ _ _
    clear hW1
    have H0 := zl hb0 HB
    have a00 : W1.cell? ⟨g0, 0, none⟩ = some (.slice A l.length c0) := (za H0 0).trans rfl
    have a05 : W1.cell? ⟨g0, 5, none⟩ = some (.bool false) := (za H0 5).trans rfl
    have a40 : W1.cell? ⟨w.heap.size, 0, none⟩ = some (.int .i16 w0) := (za H4 0).trans rfl
    have a41 : W1.cell? ⟨w.heap.size, 1, none⟩ = some (.int .i16 w1) := (za H4 1).trans rfl
    have a42 : W1.cell? ⟨w.heap.size, 2, none⟩ = some (.int .i16 w2) := (za H4 2).trans rfl
    have a43 : W1.cell? ⟨w.heap.size, 3, none⟩ = some (.int .i16 w3) := (za H4 3).trans rfl
    have a50 : W1.cell? ⟨w.heap.size + 1, 0, none⟩ = some (.int .i8 1) := (za H5 0).trans rfl
    have a51 : W1.cell? ⟨w.heap.size + 1, 1, none⟩ = some (.int .i8 1) := (za H5 1).trans rfl
    have a52 : W1.cell? ⟨w.heap.size + 1, 2, none⟩ = some (.int .i8 0) := (za H5 2).trans rfl
    have a60 : W1.cell? ⟨w.heap.size + 1 + 1, 0, none⟩ = some (.int .i16 0) := (za H6 0).trans rfl
    have f60 := zb H6 0
    have a61 : W1.cell? ⟨w.heap.size + 1 + 1, 1, none⟩ = some (.int .i16 0) := (za H6 1).trans rfl
    have f61 := zb H6 1
    have a62 : W1.cell? ⟨w.heap.size + 1 + 1, 2, none⟩ = some (.int .i16 0) := (za H6 2).trans rfl
    have f62 := zb H6 2
    have a63 : W1.cell? ⟨w.heap.size + 1 + 1, 3, none⟩ = some (.int .i16 0) := (za H6 3).trans rfl
    have f63 := zb H6 3
    have HA := zf.mk (And.intro H0 (And.intro H4 (And.intro H5 (And.intro H6 (And.intro HB HZ)))))
    clear H0 H4 H5 H6 HB HZ hb0 hr0
    go_wp2_with (first
      | (go_at_call 103
         (with_reducible refine (spec_l00In.calls _ _ _ true _ ?hh).mono ?_)
         (case hh => first | exact HI1.out | exact HI2.out | exact in_true (by decide) (by decide))
         rintro e w' ⟨rfl, ⟨nd, rfl⟩⟩)
      | go_in)
    have L6 := HA.out.2.2.2.1
    have LB := HA.out.2.2.2.2.1
    refine bodyPost_ret (zu rfl _ _ (w.heap.size + 1 + 1) 27 #[.int .i16 0, .int .i16 0, .int .i16 0, .int .i16 0] (0, 0) _ rfl (after_four (ze L6 _) _ _ _ _) Try.underlying27 rfl (size27 _ _ _ _)) rfl ?_
    exact ⟨rfl, by with_reducible repeat (first | refine zj ?_ (le2 _) | exact zc LB _)⟩
  · go_enter Try.func76, Try.ntmps76
    go_upto_region 1 with (fail)
    generalize hW1 : World.alloc _ _ = W1
    have H4 : W1.heap[w.heap.size]? = some (.cells #[.int .i16 w0, .int .i16 w1, .int .i16 w2, .int .i16 w3] 27 (0, 0)) := by rw [← hW1]; exact thr4 _ _ _ _
    have H5 : W1.heap[w.heap.size + 1]? = some (.cells #[.int .i8 1, .int .i8 2, .int .i8 0] 80 (0, 0)) := by rw [← hW1]; exact thr5 _ _ _ _
    have H6 : W1.heap[w.heap.size + 1 + 1]? = some (.cells #[.int .i16 0, .int .i16 0, .int .i16 0, .int .i16 0] 27 (0, 0)) := by rw [← hW1]; exact thr6 _ _ _ _
    have HB : Below w.heap.size w W1 := by rw [← hW1]; exact below_thr _ _ _ _
    have HZ : W1.heap.size = w.heap.size + 1 + 1 + 1 := by rw [← hW1]; exact thr_size _ _ _ _
    clear hW1
    have H0 := zl hb0 HB
    have a00 : W1.cell? ⟨g0, 0, none⟩ = some (.slice A l.length c0) := (za H0 0).trans rfl
    have a05 : W1.cell? ⟨g0, 5, none⟩ = some (.bool false) := (za H0 5).trans rfl
    have a40 : W1.cell? ⟨w.heap.size, 0, none⟩ = some (.int .i16 w0) := (za H4 0).trans rfl
    have a41 : W1.cell? ⟨w.heap.size, 1, none⟩ = some (.int .i16 w1) := (za H4 1).trans rfl
    have a42 : W1.cell? ⟨w.heap.size, 2, none⟩ = some (.int .i16 w2) := (za H4 2).trans rfl
    have a43 : W1.cell? ⟨w.heap.size, 3, none⟩ = some (.int .i16 w3) := (za H4 3).trans rfl
    have a50 : W1.cell? ⟨w.heap.size + 1, 0, none⟩ = some (.int .i8 1) := (za H5 0).trans rfl
    have a51 : W1.cell? ⟨w.heap.size + 1, 1, none⟩ = some (.int .i8 2) := (za H5 1).trans rfl
    have a52 : W1.cell? ⟨w.heap.size + 1, 2, none⟩ = some (.int .i8 0) := (za H5 2).trans rfl
    have a60 : W1.cell? ⟨w.heap.size + 1 + 1, 0, none⟩ = some (.int .i16 0) := (za H6 0).trans rfl
    have f60 := zb H6 0
    have a61 : W1.cell? ⟨w.heap.size + 1 + 1, 1, none⟩ = some (.int .i16 0) := (za H6 1).trans rfl
    have f61 := zb H6 1
    have a62 : W1.cell? ⟨w.heap.size + 1 + 1, 2, none⟩ = some (.int .i16 0) := (za H6 2).trans rfl
    have f62 := zb H6 2
    have a63 : W1.cell? ⟨w.heap.size + 1 + 1, 3, none⟩ = some (.int .i16 0) := (za H6 3).trans rfl
    have f63 := zb H6 3
    have HA := zf.mk (And.intro H0 (And.intro H4 (And.intro H5 (And.intro H6 (And.intro HB HZ)))))
    clear H0 H4 H5 H6 HB HZ hb0 hr0
    go_wp2_with (first
      | (go_at_call 103
         (with_reducible refine (spec_l00In.calls _ _ _ true _ ?hh).mono ?_)
         (case hh => first | exact HI1.out | exact HI2.out | exact in_true (by decide) (by decide))
         rintro e w' ⟨rfl, ⟨nd, rfl⟩⟩)
      | go_in)
    have L6 := HA.out.2.2.2.1
    have LB := HA.out.2.2.2.2.1
    refine bodyPost_ret (zu rfl _ _ (w.heap.size + 1 + 1) 27 #[.int .i16 0, .int .i16 0, .int .i16 0, .int .i16 0] (0, 0) _ rfl (after_four (ze L6 _) _ _ _ _) Try.underlying27 rfl (size27 _ _ _ _)) rfl ?_
    exact ⟨rfl, by with_reducible repeat (first | refine zj ?_ (le2 _) | exact zc LB _)⟩
  · go_enter Try.func76, Try.ntmps76
    go_upto_region 1 with (fail)
    generalize hW1 : World.alloc _ _ = W1
    have H4 : W1.heap[w.heap.size]? = some (.cells #[.int .i16 w0, .int .i16 w1, .int .i16 w2, .int .i16 w3] 27 (0, 0)) := by rw [← hW1]; exact thr4 _ _ _ _
    have H5 : W1.heap[w.heap.size + 1]? = some (.cells #[.int .i8 1, .int .i8 3, .int .i8 0] 80 (0, 0)) := by rw [← hW1]; exact thr5 _ _ _ _
    have H6 : W1.heap[w.heap.size + 1 + 1]? = some (.cells #[.int .i16 0, .int .i16 0, .int .i16 0, .int .i16 0] 27 (0, 0)) := by rw [← hW1]; exact thr6 _ _ _ _
    have HB : Below w.heap.size w W1 := by rw [← hW1]; exact below_thr _ _ _ _
    have HZ : W1.heap.size = w.heap.size + 1 + 1 + 1 := by rw [← hW1]; exact thr_size _ _ _ _
    clear hW1
    have H0 := zl hb0 HB
    have a00 : W1.cell? ⟨g0, 0, none⟩ = some (.slice A l.length c0) := (za H0 0).trans rfl
    have a05 : W1.cell? ⟨g0, 5, none⟩ = some (.bool false) := (za H0 5).trans rfl
    have a40 : W1.cell? ⟨w.heap.size, 0, none⟩ = some (.int .i16 w0) := (za H4 0).trans rfl
    have a41 : W1.cell? ⟨w.heap.size, 1, none⟩ = some (.int .i16 w1) := (za H4 1).trans rfl
    have a42 : W1.cell? ⟨w.heap.size, 2, none⟩ = some (.int .i16 w2) := (za H4 2).trans rfl
    have a43 : W1.cell? ⟨w.heap.size, 3, none⟩ = some (.int .i16 w3) := (za H4 3).trans rfl
    have a50 : W1.cell? ⟨w.heap.size + 1, 0, none⟩ = some (.int .i8 1) := (za H5 0).trans rfl
    have a51 : W1.cell? ⟨w.heap.size + 1, 1, none⟩ = some (.int .i8 3) := (za H5 1).trans rfl
    have a52 : W1.cell? ⟨w.heap.size + 1, 2, none⟩ = some (.int .i8 0) := (za H5 2).trans rfl
    have a60 : W1.cell? ⟨w.heap.size + 1 + 1, 0, none⟩ = some (.int .i16 0) := (za H6 0).trans rfl
    have f60 := zb H6 0
    have a61 : W1.cell? ⟨w.heap.size + 1 + 1, 1, none⟩ = some (.int .i16 0) := (za H6 1).trans rfl
    have f61 := zb H6 1
    have a62 : W1.cell? ⟨w.heap.size + 1 + 1, 2, none⟩ = some (.int .i16 0) := (za H6 2).trans rfl
    have f62 := zb H6 2
    have a63 : W1.cell? ⟨w.heap.size + 1 + 1, 3, none⟩ = some (.int .i16 0) := (za H6 3).trans rfl
    have f63 := zb H6 3
    have HA := zf.mk (And.intro H0 (And.intro H4 (And.intro H5 (And.intro H6 (And.intro HB HZ)))))
    clear H0 H4 H5 H6 HB HZ hb0 hr0
    go_wp2_with (first
      | (go_at_call 103
         (with_reducible refine (spec_l00In.calls _ _ _ true _ ?hh).mono ?_)
         (case hh => first | exact HI1.out | exact HI2.out | exact in_true (by decide) (by decide))
         rintro e w' ⟨rfl, ⟨nd, rfl⟩⟩)
      | go_in)
    have L6 := HA.out.2.2.2.1
    have LB := HA.out.2.2.2.2.1
    refine bodyPost_ret (zu rfl _ _ (w.heap.size + 1 + 1) 27 #[.int .i16 0, .int .i16 0, .int .i16 0, .int .i16 0] (0, 0) _ rfl (after_four (ze L6 _) _ _ _ _) Try.underlying27 rfl (size27 _ _ _ _)) rfl ?_
    exact ⟨rfl, by with_reducible repeat (first | refine zj ?_ (le2 _) | exact zc LB _)⟩
set_option maxHeartbeats 8000000 in
set_option maxRecDepth 100000 in
theorem step_dry2 (g0 : Nat) (A : Option Addr) (c0 : Nat) (l : List Int) (s0 s1 s2 s3 : Int) (w0 w1 w2 w3 fr : Int) (w : World) (hb0 : w.heap[g0]? = some (.cells #[.slice A l.length c0, .int .i16 s0, .int .i16 s1, .int .i16 s2, .int .i16 s3, .bool false] 29 (0, 0))) (hr0 : Kd.C (Kd.int .i16) w A l.length l) (hc0 : l.length ≤ c0) (hf : 0 ≤ fr ∧ fr < 4) (hlf : fr < l.length) (hL : l.length ≤ 4) :
    Calls Try.prog 76 #[.pointer (some ⟨g0, 0, none⟩), .agg #[.int .i16 w0, .int .i16 w1, .int .i16 w2, .int .i16 w3], .agg #[.int .i8 2, .int .i8 fr, .int .i8 0]] w
      fun e w' => e = .returned (.tuple #[.agg #[.int .i16 0, .int .i16 0, .int .i16 0, .int .i16 0], .int .i64 4]) ∧ Below w.heap.size w w' := by
  have hu29 := Try.underlying29
  have hu27 := Try.underlying27
  have hu80 := Try.underlying80
  have hlt := zaa hb0
  have HI1 := zf.mk (in_last hf.1 hlf hL)
  have HI2 := zf.mk (in_last (Int.le_refl 0) (Int.lt_of_le_of_lt hf.1 hlf) hL)
  clear hL
  rcases (show fr = 0 ∨ fr = 1 ∨ fr = 2 ∨ fr = 3 by omega) with rfl | rfl | rfl | rfl
  · go_enter Try.func76, Try.ntmps76
    go_upto_region 1 with (fail)
    generalize hW1 : World.alloc _ _ = W1
    have H4 : W1.heap[w.heap.size]? = some (.cells #[.int .i16 w0, .int .i16 w1, .int .i16 w2, .int .i16 w3] 27 (0, 0)) := by rw [← hW1]; exact thr4 _ _ _ _
    have H5 : W1.heap[w.heap.size + 1]? = some (.cells #[.int .i8 2, .int .i8 0, .int .i8 0] 80 (0, 0)) := by rw [← hW1]; exact thr5 _ _ _ _
    have H6 : W1.heap[w.heap.size + 1 + 1]? = some (.cells #[.int .i16 0, .int .i16 0, .int .i16 0, .int .i16 0] 27 (0, 0)) := by rw [← hW1]; exact thr6 _ _ _ _
    have HB : Below w.heap.size w W1 := by rw [← hW1]; exact below_thr _ _ _ _
    have HZ : W1.heap.size = w.heap.size + 1 + 1 + 1 := by rw [← hW1]; exact thr_size _ _ _ _
    clear hW1
    have H0 := zl hb0 HB
    have a00 : W1.cell? ⟨g0, 0, none⟩ = some (.slice A l.length c0) := (za H0 0).trans rfl
    have a05 : W1.cell? ⟨g0, 5, none⟩ = some (.bool false) := (za H0 5).trans rfl
    have a40 : W1.cell? ⟨w.heap.size, 0, none⟩ = some (.int .i16 w0) := (za H4 0).trans rfl
    have a41 : W1.cell? ⟨w.heap.size, 1, none⟩ = some (.int .i16 w1) := (za H4 1).trans rfl
    have a42 : W1.cell? ⟨w.heap.size, 2, none⟩ = some (.int .i16 w2) := (za H4 2).trans rfl
    have a43 : W1.cell? ⟨w.heap.size, 3, none⟩ = some (.int .i16 w3) := (za H4 3).trans rfl
    have a50 : W1.cell? ⟨w.heap.size + 1, 0, none⟩ = some (.int .i8 2) := (za H5 0).trans rfl
    have a51 : W1.cell? ⟨w.heap.size + 1, 1, none⟩ = some (.int .i8 0) := (za H5 1).trans rfl
    have a52 : W1.cell? ⟨w.heap.size + 1, 2, none⟩ = some (.int .i8 0) := (za H5 2).trans rfl
    have a60 : W1.cell? ⟨w.heap.size + 1 + 1, 0, none⟩ = some (.int .i16 0) := (za H6 0).trans rfl
    have f60 := zb H6 0
    have a61 : W1.cell? ⟨w.heap.size + 1 + 1, 1, none⟩ = some (.int .i16 0) := (za H6 1).trans rfl
    have f61 := zb H6 1
    have a62 : W1.cell? ⟨w.heap.size + 1 + 1, 2, none⟩ = some (.int .i16 0) := (za H6 2).trans rfl
    have f62 := zb H6 2
    have a63 : W1.cell? ⟨w.heap.size + 1 + 1, 3, none⟩ = some (.int .i16 0) := (za H6 3).trans rfl
    have f63 := zb H6 3
    have HA := zf.mk (And.intro H0 (And.intro H4 (And.intro H5 (And.intro H6 (And.intro HB HZ)))))
    clear H0 H4 H5 H6 HB HZ hb0 hr0
    go_wp2_with (first
      | (go_at_call 103
         (with_reducible refine (spec_l00In.calls _ _ _ true _ ?hh).mono ?_)
         (case hh => first | exact HI1.out | exact HI2.out | exact in_true (by decide) (by decide))
         rintro e w' ⟨rfl, ⟨nd, rfl⟩⟩)
      | go_in)
    have L6 := HA.out.2.2.2.1
    have LB := HA.out.2.2.2.2.1
    refine bodyPost_ret (zu rfl _ _ (w.heap.size + 1 + 1) 27 #[.int .i16 0, .int .i16 0, .int .i16 0, .int .i16 0] (0, 0) _ rfl (after_four (ze L6 _) _ _ _ _) Try.underlying27 rfl (size27 _ _ _ _)) rfl ?_
    exact ⟨rfl, by with_reducible repeat (first | refine zj ?_ (le2 _) | exact zc LB _)⟩
  · go_enter Try.func76, Try.ntmps76
    go_upto_region 1 with (fail)
    generalize hW1 : World.alloc _ _ = W1
    have H4 : W1.heap[w.heap.size]? = some (.cells #[.int .i16 w0, .int .i16 w1, .int .i16 w2, .int .i16 w3] 27 (0, 0)) := by rw [← hW1]; exact thr4 _ _ _ _
    have H5 : W1.heap[w.heap.size + 1]? = some (.cells #[.int .i8 2, .int .i8 1, .int .i8 0] 80 (0, 0)) := by rw [← hW1]; exact thr5 _ _ _ _
    have H6 : W1.heap[w.heap.size + 1 + 1]? = some (.cells #[.int .i16 0, .int .i16 0, .int .i16 0, .int .i16 0] 27 (0, 0)) := by rw [← hW1]; exact thr6 _ _ _ _
    have HB : Below w.heap.size w W1 := by rw [← hW1]; exact below_thr _ _ _ _
    have HZ : W1.heap.size = w.heap.size + 1 + 1 + 1 := by rw [← hW1]; exact thr_size _ _ _ _
    clear hW1
    have H0 := zl hb0 HB
    have a00 : W1.cell? ⟨g0, 0, none⟩ = some (.slice A l.length c0) := (za H0 0).trans rfl
    have a05 : W1.cell? ⟨g0, 5, none⟩ = some (.bool false) := (za H0 5).trans rfl
    have a40 : W1.cell? ⟨w.heap.size, 0, none⟩ = some (.int .i16 w0) := (za H4 0).trans rfl
    have a41 : W1.cell? ⟨w.heap.size, 1, none⟩ = some (.int .i16 w1) := (za H4 1).trans rfl
    have a42 : W1.cell? ⟨w.heap.size, 2, none⟩ = some (.int .i16 w2) := (za H4 2).trans rfl
    have a43 : W1.cell? ⟨w.heap.size, 3, none⟩ = some (.int .i16 w3) := (za H4 3).trans rfl
    have a50 : W1.cell? ⟨w.heap.size + 1, 0, none⟩ = some (.int .i8 2) := (za H5 0).trans rfl
    have a51 : W1.cell? ⟨w.heap.size + 1, 1, none⟩ = some (.int .i8 1) := (za H5 1).trans rfl
    have a52 : W1.cell? ⟨w.heap.size + 1, 2, none⟩ = some (.int .i8 0) := (za H5 2).trans rfl
    have a60 : W1.cell? ⟨w.heap.size + 1 + 1, 0, none⟩ = some (.int .i16 0) := (za H6 0).trans rfl
    have f60 := zb H6 0
    have a61 : W1.cell? ⟨w.heap.size + 1 + 1, 1, none⟩ = some (.int .i16 0) := (za H6 1).trans rfl
    have f61 := zb H6 1
    have a62 : W1.cell? ⟨w.heap.size + 1 + 1, 2, none⟩ = some (.int .i16 0) := (za H6 2).trans rfl
    have f62 := zb H6 2
    have a63 : W1.cell? ⟨w.heap.size + 1 + 1, 3, none⟩ = some (.int .i16 0) := (za H6 3).trans rfl
    have f63 := zb H6 3
    have HA := zf.mk (And.intro H0 (And.intro H4 (And.intro H5 (And.intro H6 (And.intro HB HZ)))))
    clear H0 H4 H5 H6 HB HZ hb0 hr0
    go_wp2_with (first
      | (go_at_call 103
         (with_reducible refine (spec_l00In.calls _ _ _ true _ ?hh).mono ?_)
         (case hh => first | exact HI1.out | exact HI2.out | exact in_true (by decide) (by decide))
         rintro e w' ⟨rfl, ⟨nd, rfl⟩⟩)
      | go_in)
    have L6 := HA.out.2.2.2.1
    have LB := HA.out.2.2.2.2.1
    refine bodyPost_ret (zu rfl _ _ (w.heap.size + 1 + 1) 27 #[.int .i16 0, .int .i16 0, .int .i16 0, .int .i16 0] (0, 0) _ rfl (after_four (ze L6 _) _ _ _ _) Try.underlying27 rfl (size27 _ _ _ _)) rfl ?_
    exact ⟨rfl, by with_reducible repeat (first | refine zj ?_ (le2 _) | exact zc LB _)⟩
  · go_enter Try.func76, Try.ntmps76
    go_upto_region 1 with (fail)
    generalize hW1 : World.alloc _ _ = W1
    have H4 : W1.heap[w.heap.size]? = some (.cells #[.int .i16 w0, .int .i16 w1, .int .i16 w2, .int .i16 w3] 27 (0, 0)) := by rw [← hW1]; exact thr4 _ _ _ _
    have H5 : W1.heap[w.heap.size + 1]? = some (.cells #[.int .i8 2, .int .i8 2, .int .i8 0] 80 (0, 0)) := by rw [← hW1]; exact thr5 _ _ _ _
    have H6 : W1.heap[w.heap.size + 1 + 1]? = some (.cells #[.int .i16 0, .int .i16 0, .int .i16 0, .int .i16 0] 27 (0, 0)) := by rw [← hW1]; exact thr6 _ _ _ _
    have HB : Below w.heap.size w W1 := by rw [← hW1]; exact below_thr _ _ _ _
    have HZ : W1.heap.size = w.heap.size + 1 + 1 + 1 := by rw [← hW1]; exact thr_size _ _ _ _
    clear hW1
    have H0 := zl hb0 HB
    have a00 : W1.cell? ⟨g0, 0, none⟩ = some (.slice A l.length c0) := (za H0 0).trans rfl
    have a05 : W1.cell? ⟨g0, 5, none⟩ = some (.bool false) := (za H0 5).trans rfl
    have a40 : W1.cell? ⟨w.heap.size, 0, none⟩ = some (.int .i16 w0) := (za H4 0).trans rfl
    have a41 : W1.cell? ⟨w.heap.size, 1, none⟩ = some (.int .i16 w1) := (za H4 1).trans rfl
    have a42 : W1.cell? ⟨w.heap.size, 2, none⟩ = some (.int .i16 w2) := (za H4 2).trans rfl
    have a43 : W1.cell? ⟨w.heap.size, 3, none⟩ = some (.int .i16 w3) := (za H4 3).trans rfl
    have a50 : W1.cell? ⟨w.heap.size + 1, 0, none⟩ = some (.int .i8 2) := (za H5 0).trans rfl
    have a51 : W1.cell? ⟨w.heap.size + 1, 1, none⟩ = some (.int .i8 2) := (za H5 1).trans rfl
    have a52 : W1.cell? ⟨w.heap.size + 1, 2, none⟩ = some (.int .i8 0) := (za H5 2).trans rfl
    have a60 : W1.cell? ⟨w.heap.size + 1 + 1, 0, none⟩ = some (.int .i16 0) := (za H6 0).trans rfl
    have f60 := zb H6 0
    have a61 : W1.cell? ⟨w.heap.size + 1 + 1, 1, none⟩ = some (.int .i16 0) := (za H6 1).trans rfl
    have f61 := zb H6 1
    have a62 : W1.cell? ⟨w.heap.size + 1 + 1, 2, none⟩ = some (.int .i16 0) := (za H6 2).trans rfl
    have f62 := zb H6 2
    have a63 : W1.cell? ⟨w.heap.size + 1 + 1, 3, none⟩ = some (.int .i16 0) := (za H6 3).trans rfl
    have f63 := zb H6 3
    have HA := zf.mk (And.intro H0 (And.intro H4 (And.intro H5 (And.intro H6 (And.intro HB HZ)))))
    clear H0 H4 H5 H6 HB HZ hb0 hr0
    go_wp2_with (first
      | (go_at_call 103
         (with_reducible refine (spec_l00In.calls _ _ _ true _ ?hh).mono ?_)
         (case hh => first | exact HI1.out | exact HI2.out | exact in_true (by decide) (by decide))
         rintro e w' ⟨rfl, ⟨nd, rfl⟩⟩)
      | go_in)
    have L6 := HA.out.2.2.2.1
    have LB := HA.out.2.2.2.2.1
    refine bodyPost_ret (zu rfl _ _ (w.heap.size + 1 + 1) 27 #[.int .i16 0, .int .i16 0, .int .i16 0, .int .i16 0] (0, 0) _ rfl (after_four (ze L6 _) _ _ _ _) Try.underlying27 rfl (size27 _ _ _ _)) rfl ?_
    exact ⟨rfl, by with_reducible repeat (first | refine zj ?_ (le2 _) | exact zc LB _)⟩
  · go_enter Try.func76, Try.ntmps76
    go_upto_region 1 with (fail)
    generalize hW1 : World.alloc _ _ = W1
    have H4 : W1.heap[w.heap.size]? = some (.cells #[.int .i16 w0, .int .i16 w1, .int .i16 w2, .int .i16 w3] 27 (0, 0)) := by rw [← hW1]; exact thr4 _ _ _ _
    have H5 : W1.heap[w.heap.size + 1]? = some (.cells #[.int .i8 2, .int .i8 3, .int .i8 0] 80 (0, 0)) := by rw [← hW1]; exact thr5 _ _ _ _
    have H6 : W1.heap[w.heap.size + 1 + 1]? = some (.cells #[.int .i16 0, .int .i16 0, .int .i16 0, .int .i16 0] 27 (0, 0)) := by rw [← hW1]; exact thr6 _ _ _ _
    have HB : Below w.heap.size w W1 := by rw [← hW1]; exact below_thr _ _ _ _
    have HZ : W1.heap.size = w.heap.size + 1 + 1 + 1 := by rw [← hW1]; exact thr_size _ _ _ _
    clear hW1
    have H0 := zl hb0 HB
    have a00 : W1.cell? ⟨g0, 0, none⟩ = some (.slice A l.length c0) := (za H0 0).trans rfl
    have a05 : W1.cell? ⟨g0, 5, none⟩ = some (.bool false) := (za H0 5).trans rfl
    have a40 : W1.cell? ⟨w.heap.size, 0, none⟩ = some (.int .i16 w0) := (za H4 0).trans rfl
    have a41 : W1.cell? ⟨w.heap.size, 1, none⟩ = some (.int .i16 w1) := (za H4 1).trans rfl
    have a42 : W1.cell? ⟨w.heap.size, 2, none⟩ = some (.int .i16 w2) := (za H4 2).trans rfl
    have a43 : W1.cell? ⟨w.heap.size, 3, none⟩ = some (.int .i16 w3) := (za H4 3).trans rfl
    have a50 : W1.cell? ⟨w.heap.size + 1, 0, none⟩ = some (.int .i8 2) := (za H5 0).trans rfl
    have a51 : W1.cell? ⟨w.heap.size + 1, 1, none⟩ = some (.int .i8 3) := (za H5 1).trans rfl
    have a52 : W1.cell? ⟨w.heap.size + 1, 2, none⟩ = some (.int .i8 0) := (za H5 2).trans rfl
    have a60 : W1.cell? ⟨w.heap.size + 1 + 1, 0, none⟩ = some (.int .i16 0) := (za H6 0).trans rfl
    have f60 := zb H6 0
    have a61 : W1.cell? ⟨w.heap.size + 1 + 1, 1, none⟩ = some (.int .i16 0) := (za H6 1).trans rfl
    have f61 := zb H6 1
    have a62 : W1.cell? ⟨w.heap.size + 1 + 1, 2, none⟩ = some (.int .i16 0) := (za H6 2).trans rfl
    have f62 := zb H6 2
    have a63 : W1.cell? ⟨w.heap.size + 1 + 1, 3, none⟩ = some (.int .i16 0) := (za H6 3).trans rfl
    have f63 := zb H6 3
    have HA := zf.mk (And.intro H0 (And.intro H4 (And.intro H5 (And.intro H6 (And.intro HB HZ)))))
    clear H0 H4 H5 H6 HB HZ hb0 hr0
    go_wp2_with (first
      | (go_at_call 103
         (with_reducible refine (spec_l00In.calls _ _ _ true _ ?hh).mono ?_)
         (case hh => first | exact HI1.out | exact HI2.out | exact in_true (by decide) (by decide))
         rintro e w' ⟨rfl, ⟨nd, rfl⟩⟩)
      | go_in)
    have L6 := HA.out.2.2.2.1
    have LB := HA.out.2.2.2.2.1
    refine bodyPost_ret (zu rfl _ _ (w.heap.size + 1 + 1) 27 #[.int .i16 0, .int .i16 0, .int .i16 0, .int .i16 0] (0, 0) _ rfl (after_four (ze L6 _) _ _ _ _) Try.underlying27 rfl (size27 _ _ _ _)) rfl ?_
    exact ⟨rfl, by with_reducible repeat (first | refine zj ?_ (le2 _) | exact zc LB _)⟩
set_option maxHeartbeats 8000000 in
set_option maxRecDepth 100000 in
theorem step_fill (g0 : Nat) (A : Option Addr) (c0 : Nat) (l : List Int) (s0 s1 s2 s3 : Int) (w0 w1 w2 w3 fr : Int) (w : World) (hb0 : w.heap[g0]? = some (.cells #[.slice A l.length c0, .int .i16 s0, .int .i16 s1, .int .i16 s2, .int .i16 s3, .bool true] 29 (0, 0))) (hr0 : Kd.C (Kd.int .i16) w A l.length l) (hc0 : l.length ≤ c0) (hf : 0 ≤ fr ∧ fr < 4) (hlf : fr < l.length) (hL : l.length ≤ 4) :
    Calls Try.prog 76 #[.pointer (some ⟨g0, 0, none⟩), .agg #[.int .i16 w0, .int .i16 w1, .int .i16 w2, .int .i16 w3], .agg #[.int .i8 1, .int .i8 fr, .int .i8 0]] w
      fun e w' => e = .returned (.tuple #[.agg #[.int .i16 (stR (st4 w0 w1 w2 w3 fr (rd l fr)) w0 w1 w2 w3).1, .int .i16 (stR (st4 w0 w1 w2 w3 fr (rd l fr)) w0 w1 w2 w3).2.1, .int .i16 (stR (st4 w0 w1 w2 w3 fr (rd l fr)) w0 w1 w2 w3).2.2.1, .int .i16 (stR (st4 w0 w1 w2 w3 fr (rd l fr)) w0 w1 w2 w3).2.2.2.1], .int .i64 (stR (st4 w0 w1 w2 w3 fr (rd l fr)) w0 w1 w2 w3).2.2.2.2]) ∧ Below w.heap.size w w' := by
  have hu29 := Try.underlying29
  have hu27 := Try.underlying27
  have hu80 := Try.underlying80
  obtain ⟨ad, eA, hx⟩ := Kd.at_int hr0 fr hf.1 hlf
  cases eA
  have hlt := zaa hb0
  have HI1 := zf.mk (in_last hf.1 hlf hL)
  have HI2 := zf.mk (in_last (Int.le_refl 0) (Int.lt_of_le_of_lt hf.1 hlf) hL)
  clear hL
  rcases (show fr = 0 ∨ fr = 1 ∨ fr = 2 ∨ fr = 3 by omega) with rfl | rfl | rfl | rfl
  · go_enter Try.func76, Try.ntmps76
    go_upto_region 1 with (fail)
    generalize hW1 : World.alloc _ _ = W1
    have H4 : W1.heap[w.heap.size]? = some (.cells #[.int .i16 w0, .int .i16 w1, .int .i16 w2, .int .i16 w3] 27 (0, 0)) := by rw [← hW1]; exact thr4 _ _ _ _
    have H5 : W1.heap[w.heap.size + 1]? = some (.cells #[.int .i8 1, .int .i8 0, .int .i8 0] 80 (0, 0)) := by rw [← hW1]; exact thr5 _ _ _ _
    have H6 : W1.heap[w.heap.size + 1 + 1]? = some (.cells #[.int .i16 0, .int .i16 0, .int .i16 0, .int .i16 0] 27 (0, 0)) := by rw [← hW1]; exact thr6 _ _ _ _
    have HB : Below w.heap.size w W1 := by rw [← hW1]; exact below_thr _ _ _ _
    have HZ : W1.heap.size = w.heap.size + 1 + 1 + 1 := by rw [← hW1]; exact thr_size _ _ _ _
    clear hW1
    have H0 := zl hb0 HB
    have hx1 := (HB.cell (World.block_lt_of_cell? w _ hx)).trans hx
    simp [Addr.add] at hx1
    clear hx
    have a00 : W1.cell? ⟨g0, 0, none⟩ = some (.slice (some ad) l.length c0) := (za H0 0).trans rfl
    have a05 : W1.cell? ⟨g0, 5, none⟩ = some (.bool true) := (za H0 5).trans rfl
    have a40 : W1.cell? ⟨w.heap.size, 0, none⟩ = some (.int .i16 w0) := (za H4 0).trans rfl
    have a41 : W1.cell? ⟨w.heap.size, 1, none⟩ = some (.int .i16 w1) := (za H4 1).trans rfl
    have a42 : W1.cell? ⟨w.heap.size, 2, none⟩ = some (.int .i16 w2) := (za H4 2).trans rfl
    have a43 : W1.cell? ⟨w.heap.size, 3, none⟩ = some (.int .i16 w3) := (za H4 3).trans rfl
    have a50 : W1.cell? ⟨w.heap.size + 1, 0, none⟩ = some (.int .i8 1) := (za H5 0).trans rfl
    have a51 : W1.cell? ⟨w.heap.size + 1, 1, none⟩ = some (.int .i8 0) := (za H5 1).trans rfl
    have a52 : W1.cell? ⟨w.heap.size + 1, 2, none⟩ = some (.int .i8 0) := (za H5 2).trans rfl
    have a60 : W1.cell? ⟨w.heap.size + 1 + 1, 0, none⟩ = some (.int .i16 0) := (za H6 0).trans rfl
    have f60 := zb H6 0
    have a61 : W1.cell? ⟨w.heap.size + 1 + 1, 1, none⟩ = some (.int .i16 0) := (za H6 1).trans rfl
    have f61 := zb H6 1
    have a62 : W1.cell? ⟨w.heap.size + 1 + 1, 2, none⟩ = some (.int .i16 0) := (za H6 2).trans rfl
    have f62 := zb H6 2
    have a63 : W1.cell? ⟨w.heap.size + 1 + 1, 3, none⟩ = some (.int .i16 0) := (za H6 3).trans rfl
    have f63 := zb H6 3
    have HA := zf.mk (And.intro H0 (And.intro H4 (And.intro H5 (And.intro H6 (And.intro HB HZ)))))
    clear H0 H4 H5 H6 HB HZ hb0
    go_upto_region 6 with (first
      | (go_at_call 103
         (with_reducible refine (spec_l00In.calls _ _ _ true _ ?hh).mono ?_)
         (case hh => first | exact HI1.out | exact HI2.out | exact in_true (by decide) (by decide))
         rintro e w' ⟨rfl, ⟨nd, rfl⟩⟩)
      | go_in)
    generalize hW2 : World.drewN _ _ = W2
    have G0 : W2.heap[g0]? = some (.cells #[.slice (some ad) l.length c0, .int .i16 s0, .int .i16 s1, .int .i16 s2, .int .i16 s3, .bool true] 29 (0, 0)) := by rw [← hW2]; exact ze HA.out.1 _
    have G4 : W2.heap[w.heap.size]? = some (.cells #[.int .i16 w0, .int .i16 w1, .int .i16 w2, .int .i16 w3] 27 (0, 0)) := by rw [← hW2]; exact ze HA.out.2.1 _
    have G5 : W2.heap[w.heap.size + 1]? = some (.cells #[.int .i8 1, .int .i8 0, .int .i8 0] 80 (0, 0)) := by rw [← hW2]; exact ze HA.out.2.2.1 _
    have G6 : W2.heap[w.heap.size + 1 + 1]? = some (.cells #[.int .i16 0, .int .i16 0, .int .i16 0, .int .i16 0] 27 (0, 0)) := by rw [← hW2]; exact ze HA.out.2.2.2.1 _
    have GB : Below w.heap.size w W2 := by rw [← hW2]; exact zc HA.out.2.2.2.2.1 _
    have GZ : W2.heap.size = w.heap.size + 1 + 1 + 1 := by rw [← hW2]; exact HA.out.2.2.2.2.2
    have hx2 : W2.cell? ad = some (.int .i16 (rd l 0)) := by rw [← hW2]; exact hx1
    clear hx1
    clear hW2 a00 a05 a40 a41 a42 a43 a50 a51 a52 a60 a61 a62 a63 f60 f61 f62 f63
    have a40 : W2.cell? ⟨w.heap.size, 0, none⟩ = some (.int .i16 w0) := (za G4 0).trans rfl
    have a41 : W2.cell? ⟨w.heap.size, 1, none⟩ = some (.int .i16 w1) := (za G4 1).trans rfl
    have a42 : W2.cell? ⟨w.heap.size, 2, none⟩ = some (.int .i16 w2) := (za G4 2).trans rfl
    have a43 : W2.cell? ⟨w.heap.size, 3, none⟩ = some (.int .i16 w3) := (za G4 3).trans rfl
    have a50 : W2.cell? ⟨w.heap.size + 1, 0, none⟩ = some (.int .i8 1) := (za G5 0).trans rfl
    have a51 : W2.cell? ⟨w.heap.size + 1, 1, none⟩ = some (.int .i8 0) := (za G5 1).trans rfl
    have a52 : W2.cell? ⟨w.heap.size + 1, 2, none⟩ = some (.int .i8 0) := (za G5 2).trans rfl
    have GA := zf.mk (And.intro G0 (And.intro G4 (And.intro G5 (And.intro G6 (And.intro GB GZ)))))
    clear G0 G4 G5 G6 GB GZ HA
    go_upto_region 7 with (fail)
    generalize hW3 : World.alloc _ _ = W3
    rw [GA.out.2.2.2.2.2]
    have K0 : W3.heap[g0]? = some (.cells #[.slice (some ad) l.length c0, .int .i16 s0, .int .i16 s1, .int .i16 s2, .int .i16 s3, .bool true] 29 (0, 0)) := by rw [← hW3]; exact zg GA.out.1 _
    have K4 : W3.heap[w.heap.size]? = some (.cells #[.int .i16 w0, .int .i16 w1, .int .i16 w2, .int .i16 w3] 27 (0, 0)) := by rw [← hW3]; exact zg GA.out.2.1 _
    have K5 : W3.heap[w.heap.size + 1]? = some (.cells #[.int .i8 1, .int .i8 0, .int .i8 0] 80 (0, 0)) := by rw [← hW3]; exact zg GA.out.2.2.1 _
    have K6 : W3.heap[w.heap.size + 1 + 1]? = some (.cells #[.int .i16 0, .int .i16 0, .int .i16 0, .int .i16 0] 27 (0, 0)) := by rw [← hW3]; exact zg GA.out.2.2.2.1 _
    have K9 : W3.heap[w.heap.size + 1 + 1 + 1]? = some (.cells #[.int .i16 w0, .int .i16 w1, .int .i16 w2, .int .i16 w3] 27 (0, 0)) := by rw [← hW3, ← GA.out.2.2.2.2.2]; exact heap_alloc_new _ _
    have KB : Below w.heap.size w W3 := by rw [← hW3]; exact zh GA.out.2.2.2.2.1 _
    have hx3 : W3.cell? ad = some (.int .i16 (rd l 0)) := by rw [← hW3]; exact ((zh (Below.refl _ _) _).cell (World.block_lt_of_cell? W2 _ hx2)).trans hx2
    clear hx2
    clear hW3 a40 a41 a42 a43 a50 a51 a52
    have a00 : W3.cell? ⟨g0, 0, none⟩ = some (.slice (some ad) l.length c0) := (za K0 0).trans rfl
    have a40 : W3.cell? ⟨w.heap.size, 0, none⟩ = some (.int .i16 w0) := (za K4 0).trans rfl
    have a41 : W3.cell? ⟨w.heap.size, 1, none⟩ = some (.int .i16 w1) := (za K4 1).trans rfl
    have a42 : W3.cell? ⟨w.heap.size, 2, none⟩ = some (.int .i16 w2) := (za K4 2).trans rfl
    have a43 : W3.cell? ⟨w.heap.size, 3, none⟩ = some (.int .i16 w3) := (za K4 3).trans rfl
    have a50 : W3.cell? ⟨w.heap.size + 1, 0, none⟩ = some (.int .i8 1) := (za K5 0).trans rfl
    have a51 : W3.cell? ⟨w.heap.size + 1, 1, none⟩ = some (.int .i8 0) := (za K5 1).trans rfl
    have a52 : W3.cell? ⟨w.heap.size + 1, 2, none⟩ = some (.int .i8 0) := (za K5 2).trans rfl
    have a60 : W3.cell? ⟨w.heap.size + 1 + 1, 0, none⟩ = some (.int .i16 0) := (za K6 0).trans rfl
    have f60 := zb K6 0
    have a61 : W3.cell? ⟨w.heap.size + 1 + 1, 1, none⟩ = some (.int .i16 0) := (za K6 1).trans rfl
    have f61 := zb K6 1
    have a62 : W3.cell? ⟨w.heap.size + 1 + 1, 2, none⟩ = some (.int .i16 0) := (za K6 2).trans rfl
    have f62 := zb K6 2
    have a63 : W3.cell? ⟨w.heap.size + 1 + 1, 3, none⟩ = some (.int .i16 0) := (za K6 3).trans rfl
    have f63 := zb K6 3
    have a90 : W3.cell? ⟨w.heap.size + 1 + 1 + 1, 0, none⟩ = some (.int .i16 w0) := (za K9 0).trans rfl
    have f90 := zb K9 0
    have a91 : W3.cell? ⟨w.heap.size + 1 + 1 + 1, 1, none⟩ = some (.int .i16 w1) := (za K9 1).trans rfl
    have f91 := zb K9 1
    have a92 : W3.cell? ⟨w.heap.size + 1 + 1 + 1, 2, none⟩ = some (.int .i16 w2) := (za K9 2).trans rfl
    have f92 := zb K9 2
    have a93 : W3.cell? ⟨w.heap.size + 1 + 1 + 1, 3, none⟩ = some (.int .i16 w3) := (za K9 3).trans rfl
    have f93 := zb K9 3
    have KA := zf.mk (And.intro K6 (And.intro KB K4))
    clear K0 K4 K5 K6 K9 KB GA
    go_wp2
    have hln : 0 < l.length := by omega
    clear a40 a41 a42 a43 a60 f60 a61 f61 a62 f62 a63 f63
    go_region
    have a40 : W3.cell? ⟨w.heap.size, 0, none⟩ = some (.int .i16 w0) := (za KA.out.2.2 0).trans rfl
    have a41 : W3.cell? ⟨w.heap.size, 1, none⟩ = some (.int .i16 w1) := (za KA.out.2.2 1).trans rfl
    have a42 : W3.cell? ⟨w.heap.size, 2, none⟩ = some (.int .i16 w2) := (za KA.out.2.2 2).trans rfl
    have a43 : W3.cell? ⟨w.heap.size, 3, none⟩ = some (.int .i16 w3) := (za KA.out.2.2 3).trans rfl
    have a60 : W3.cell? ⟨w.heap.size + 1 + 1, 0, none⟩ = some (.int .i16 0) := (za KA.out.1 0).trans rfl
    have f60 := zb KA.out.1 0
    have a61 : W3.cell? ⟨w.heap.size + 1 + 1, 1, none⟩ = some (.int .i16 0) := (za KA.out.1 1).trans rfl
    have f61 := zb KA.out.1 1
    have a62 : W3.cell? ⟨w.heap.size + 1 + 1, 2, none⟩ = some (.int .i16 0) := (za KA.out.1 2).trans rfl
    have f62 := zb KA.out.1 2
    have a63 : W3.cell? ⟨w.heap.size + 1 + 1, 3, none⟩ = some (.int .i16 0) := (za KA.out.1 3).trans rfl
    have f63 := zb KA.out.1 3
    go_wp2
    all_goals
      rename_i h
      have L6 := KA.out.1
      have LB := KA.out.2.1
      refine bodyPost_ret (zu rfl _ _ (w.heap.size + 1 + 1) 27 _ (0, 0) _ rfl (after_oned L6 (ne23 _) _ _ _ _ _ _) Try.underlying27 rfl (size27 _ _ _ _)) rfl ?_
      refine ⟨ends5 ?_, by with_reducible repeat (first | refine zj ?_ (le3 _) | refine zj ?_ (le2 _) | apply zk | exact LB)⟩
      first | exact stR_diff (x := st4 w0 w1 w2 w3 0 (rd l 0)) rfl (by simp [h]) | exact stR_same (x := st4 w0 w1 w2 w3 0 (rd l 0)) rfl (by simp [h])
  · go_enter Try.func76, Try.ntmps76
    go_upto_region 1 with (fail)
    generalize hW1 : World.alloc _ _ = W1
    have H4 : W1.heap[w.heap.size]? = some (.cells #[.int .i16 w0, .int .i16 w1, .int .i16 w2, .int .i16 w3] 27 (0, 0)) := by rw [← hW1]; exact thr4 _ _ _ _
    have H5 : W1.heap[w.heap.size + 1]? = some (.cells #[.int .i8 1, .int .i8 1, .int .i8 0] 80 (0, 0)) := by rw [← hW1]; exact thr5 _ _ _ _
    have H6 : W1.heap[w.heap.size + 1 + 1]? = some (.cells #[.int .i16 0, .int .i16 0, .int .i16 0, .int .i16 0] 27 (0, 0)) := by rw [← hW1]; exact thr6 _ _ _ _
    have HB : Below w.heap.size w W1 := by rw [← hW1]; exact below_thr _ _ _ _
    have HZ : W1.heap.size = w.heap.size + 1 + 1 + 1 := by rw [← hW1]; exact thr_size _ _ _ _
    clear hW1
    have H0 := zl hb0 HB
    have hx1 := (HB.cell (World.block_lt_of_cell? w _ hx)).trans hx
    simp [Addr.add] at hx1
    clear hx
    have a00 : W1.cell? ⟨g0, 0, none⟩ = some (.slice (some ad) l.length c0) := (za H0 0).trans rfl
    have a05 : W1.cell? ⟨g0, 5, none⟩ = some (.bool true) := (za H0 5).trans rfl
    have a40 : W1.cell? ⟨w.heap.size, 0, none⟩ = some (.int .i16 w0) := (za H4 0).trans rfl
    have a41 : W1.cell? ⟨w.heap.size, 1, none⟩ = some (.int .i16 w1) := (za H4 1).trans rfl
    have a42 : W1.cell? ⟨w.heap.size, 2, none⟩ = some (.int .i16 w2) := (za H4 2).trans rfl
    have a43 : W1.cell? ⟨w.heap.size, 3, none⟩ = some (.int .i16 w3) := (za H4 3).trans rfl
    have a50 : W1.cell? ⟨w.heap.size + 1, 0, none⟩ = some (.int .i8 1) := (za H5 0).trans rfl
    have a51 : W1.cell? ⟨w.heap.size + 1, 1, none⟩ = some (.int .i8 1) := (za H5 1).trans rfl
    have a52 : W1.cell? ⟨w.heap.size + 1, 2, none⟩ = some (.int .i8 0) := (za H5 2).trans rfl
    have a60 : W1.cell? ⟨w.heap.size + 1 + 1, 0, none⟩ = some (.int .i16 0) := (za H6 0).trans rfl
    have f60 := zb H6 0
    have a61 : W1.cell? ⟨w.heap.size + 1 + 1, 1, none⟩ = some (.int .i16 0) := (za H6 1).trans rfl
    have f61 := zb H6 1
    have a62 : W1.cell? ⟨w.heap.size + 1 + 1, 2, none⟩ = some (.int .i16 0) := (za H6 2).trans rfl
    have f62 := zb H6 2
    have a63 : W1.cell? ⟨w.heap.size + 1 + 1, 3, none⟩ = some (.int .i16 0) := (za H6 3).trans rfl
    have f63 := zb H6 3
    have HA := zf.mk (And.intro H0 (And.intro H4 (And.intro H5 (And.intro H6 (And.intro HB HZ)))))
    clear H0 H4 H5 H6 HB HZ hb0
    go_upto_region 6 with (first
      | (go_at_call 103
         (with_reducible refine (spec_l00In.calls _ _ _ true _ ?hh).mono ?_)
         (case hh => first | exact HI1.out | exact HI2.out | exact in_true (by decide) (by decide))
         rintro e w' ⟨rfl, ⟨nd, rfl⟩⟩)
      | go_in)
    generalize hW2 : World.drewN _ _ = W2
    have G0 : W2.heap[g0]? = some (.cells #[.slice (some ad) l.length c0, .int .i16 s0, .int .i16 s1, .int .i16 s2, .int .i16 s3, .bool true] 29 (0, 0)) := by rw [← hW2]; exact ze HA.out.1 _
    have G4 : W2.heap[w.heap.size]? = some (.cells #[.int .i16 w0, .int .i16 w1, .int .i16 w2, .int .i16 w3] 27 (0, 0)) := by rw [← hW2]; exact ze HA.out.2.1 _
    have G5 : W2.heap[w.heap.size + 1]? = some (.cells #[.int .i8 1, .int .i8 1, .int .i8 0] 80 (0, 0)) := by rw [← hW2]; exact ze HA.out.2.2.1 _
    have G6 : W2.heap[w.heap.size + 1 + 1]? = some (.cells #[.int .i16 0, .int .i16 0, .int .i16 0, .int .i16 0] 27 (0, 0)) := by rw [← hW2]; exact ze HA.out.2.2.2.1 _
    have GB : Below w.heap.size w W2 := by rw [← hW2]; exact zc HA.out.2.2.2.2.1 _
    have GZ : W2.heap.size = w.heap.size + 1 + 1 + 1 := by rw [← hW2]; exact HA.out.2.2.2.2.2
    have hx2 : W2.cell? ⟨ad.block, ad.off + 1, none⟩ = some (.int .i16 (rd l 1)) := by rw [← hW2]; exact hx1
    clear hx1
    clear hW2 a00 a05 a40 a41 a42 a43 a50 a51 a52 a60 a61 a62 a63 f60 f61 f62 f63
    have a40 : W2.cell? ⟨w.heap.size, 0, none⟩ = some (.int .i16 w0) := (za G4 0).trans rfl
    have a41 : W2.cell? ⟨w.heap.size, 1, none⟩ = some (.int .i16 w1) := (za G4 1).trans rfl
    have a42 : W2.cell? ⟨w.heap.size, 2, none⟩ = some (.int .i16 w2) := (za G4 2).trans rfl
    have a43 : W2.cell? ⟨w.heap.size, 3, none⟩ = some (.int .i16 w3) := (za G4 3).trans rfl
    have a50 : W2.cell? ⟨w.heap.size + 1, 0, none⟩ = some (.int .i8 1) := (za G5 0).trans rfl
    have a51 : W2.cell? ⟨w.heap.size + 1, 1, none⟩ = some (.int .i8 1) := (za G5 1).trans rfl
    have a52 : W2.cell? ⟨w.heap.size + 1, 2, none⟩ = some (.int .i8 0) := (za G5 2).trans rfl
    have GA := zf.mk (And.intro G0 (And.intro G4 (And.intro G5 (And.intro G6 (And.intro GB GZ)))))
    clear G0 G4 G5 G6 GB GZ HA
    go_upto_region 7 with (fail)
    generalize hW3 : World.alloc _ _ = W3
    rw [GA.out.2.2.2.2.2]
    have K0 : W3.heap[g0]? = some (.cells #[.slice (some ad) l.length c0, .int .i16 s0, .int .i16 s1, .int .i16 s2, .int .i16 s3, .bool true] 29 (0, 0)) := by rw [← hW3]; exact zg GA.out.1 _
    have K4 : W3.heap[w.heap.size]? = some (.cells #[.int .i16 w0, .int .i16 w1, .int .i16 w2, .int .i16 w3] 27 (0, 0)) := by rw [← hW3]; exact zg GA.out.2.1 _
    have K5 : W3.heap[w.heap.size + 1]? = some (.cells #[.int .i8 1, .int .i8 1, .int .i8 0] 80 (0, 0)) := by rw [← hW3]; exact zg GA.out.2.2.1 _
    have K6 : W3.heap[w.heap.size + 1 + 1]? = some (.cells #[.int .i16 0, .int .i16 0, .int .i16 0, .int .i16 0] 27 (0, 0)) := by rw [← hW3]; exact zg GA.out.2.2.2.1 _
    have K9 : W3.heap[w.heap.size + 1 + 1 + 1]? = some (.cells #[.int .i16 w0, .int .i16 w1, .int .i16 w2, .int .i16 w3] 27 (0, 0)) := by rw [← hW3, ← GA.out.2.2.2.2.2]; exact heap_alloc_new _ _
    have KB : Below w.heap.size w W3 := by rw [← hW3]; exact zh GA.out.2.2.2.2.1 _
    have hx3 : W3.cell? ⟨ad.block, ad.off + 1, none⟩ = some (.int .i16 (rd l 1)) := by rw [← hW3]; exact ((zh (Below.refl _ _) _).cell (World.block_lt_of_cell? W2 _ hx2)).trans hx2
    clear hx2
    clear hW3 a40 a41 a42 a43 a50 a51 a52
    have a00 : W3.cell? ⟨g0, 0, none⟩ = some (.slice (some ad) l.length c0) := (za K0 0).trans rfl
    have a40 : W3.cell? ⟨w.heap.size, 0, none⟩ = some (.int .i16 w0) := (za K4 0).trans rfl
    have a41 : W3.cell? ⟨w.heap.size, 1, none⟩ = some (.int .i16 w1) := (za K4 1).trans rfl
    have a42 : W3.cell? ⟨w.heap.size, 2, none⟩ = some (.int .i16 w2) := (za K4 2).trans rfl
    have a43 : W3.cell? ⟨w.heap.size, 3, none⟩ = some (.int .i16 w3) := (za K4 3).trans rfl
    have a50 : W3.cell? ⟨w.heap.size + 1, 0, none⟩ = some (.int .i8 1) := (za K5 0).trans rfl
    have a51 : W3.cell? ⟨w.heap.size + 1, 1, none⟩ = some (.int .i8 1) := (za K5 1).trans rfl
    have a52 : W3.cell? ⟨w.heap.size + 1, 2, none⟩ = some (.int .i8 0) := (za K5 2).trans rfl
    have a60 : W3.cell? ⟨w.heap.size + 1 + 1, 0, none⟩ = some (.int .i16 0) := (za K6 0).trans rfl
    have f60 := zb K6 0
    have a61 : W3.cell? ⟨w.heap.size + 1 + 1, 1, none⟩ = some (.int .i16 0) := (za K6 1).trans rfl
    have f61 := zb K6 1
    have a62 : W3.cell? ⟨w.heap.size + 1 + 1, 2, none⟩ = some (.int .i16 0) := (za K6 2).trans rfl
    have f62 := zb K6 2
    have a63 : W3.cell? ⟨w.heap.size + 1 + 1, 3, none⟩ = some (.int .i16 0) := (za K6 3).trans rfl
    have f63 := zb K6 3
    have a90 : W3.cell? ⟨w.heap.size + 1 + 1 + 1, 0, none⟩ = some (.int .i16 w0) := (za K9 0).trans rfl
    have f90 := zb K9 0
    have a91 : W3.cell? ⟨w.heap.size + 1 + 1 + 1, 1, none⟩ = some (.int .i16 w1) := (za K9 1).trans rfl
    have f91 := zb K9 1
    have a92 : W3.cell? ⟨w.heap.size + 1 + 1 + 1, 2, none⟩ = some (.int .i16 w2) := (za K9 2).trans rfl
    have f92 := zb K9 2
    have a93 : W3.cell? ⟨w.heap.size + 1 + 1 + 1, 3, none⟩ = some (.int .i16 w3) := (za K9 3).trans rfl
    have f93 := zb K9 3
    have KA := zf.mk (And.intro K6 (And.intro KB K4))
    clear K0 K4 K5 K6 K9 KB GA
    go_wp2
    have hln : 1 < l.length := by omega
    clear a40 a41 a42 a43 a60 f60 a61 f61 a62 f62 a63 f63
    go_region
    have a40 : W3.cell? ⟨w.heap.size, 0, none⟩ = some (.int .i16 w0) := (za KA.out.2.2 0).trans rfl
    have a41 : W3.cell? ⟨w.heap.size, 1, none⟩ = some (.int .i16 w1) := (za KA.out.2.2 1).trans rfl
    have a42 : W3.cell? ⟨w.heap.size, 2, none⟩ = some (.int .i16 w2) := (za KA.out.2.2 2).trans rfl
    have a43 : W3.cell? ⟨w.heap.size, 3, none⟩ = some (.int .i16 w3) := (za KA.out.2.2 3).trans rfl
    have a60 : W3.cell? ⟨w.heap.size + 1 + 1, 0, none⟩ = some (.int .i16 0) := (za KA.out.1 0).trans rfl
    have f60 := zb KA.out.1 0
    have a61 : W3.cell? ⟨w.heap.size + 1 + 1, 1, none⟩ = some (.int .i16 0) := (za KA.out.1 1).trans rfl
    have f61 := zb KA.out.1 1
    have a62 : W3.cell? ⟨w.heap.size + 1 + 1, 2, none⟩ = some (.int .i16 0) := (za KA.out.1 2).trans rfl
    have f62 := zb KA.out.1 2
    have a63 : W3.cell? ⟨w.heap.size + 1 + 1, 3, none⟩ = some (.int .i16 0) := (za KA.out.1 3).trans rfl
    have f63 := zb KA.out.1 3
    go_wp2
    all_goals
      rename_i h
      have L6 := KA.out.1
      have LB := KA.out.2.1
      refine bodyPost_ret (zu rfl _ _ (w.heap.size + 1 + 1) 27 _ (0, 0) _ rfl (after_oned L6 (ne23 _) _ _ _ _ _ _) Try.underlying27 rfl (size27 _ _ _ _)) rfl ?_
      refine ⟨ends5 ?_, by with_reducible repeat (first | refine zj ?_ (le3 _) | refine zj ?_ (le2 _) | apply zk | exact LB)⟩
      first | exact stR_diff (x := st4 w0 w1 w2 w3 1 (rd l 1)) rfl (by simp [h]) | exact stR_same (x := st4 w0 w1 w2 w3 1 (rd l 1)) rfl (by simp [h])
  · go_enter Try.func76, Try.ntmps76
    go_upto_region 1 with (fail)
    generalize hW1 : World.alloc _ _ = W1
    have H4 : W1.heap[w.heap.size]? = some (.cells #[.int .i16 w0, .int .i16 w1, .int .i16 w2, .int .i16 w3] 27 (0, 0)) := by rw [← hW1]; exact thr4 _ _ _ _
    have H5 : W1.heap[w.heap.size + 1]? = some (.cells #[.int .i8 1, .int .i8 2, .int .i8 0] 80 (0, 0)) := by rw [← hW1]; exact thr5 _ _ _ _
    have H6 : W1.heap[w.heap.size + 1 + 1]? = some (.cells #[.int .i16 0, .int .i16 0, .int .i16 0, .int .i16 0] 27 (0, 0)) := by rw [← hW1]; exact thr6 _ _ _ _
    have HB : Below w.heap.size w W1 := by rw [← hW1]; exact below_thr _ _ _ _
    have HZ : W1.heap.size = w.heap.size + 1 + 1 + 1 := by rw [← hW1]; exact thr_size _ _ _ _
    clear hW1
    have H0 := zl hb0 HB
    have hx1 := (HB.cell (World.block_lt_of_cell? w _ hx)).trans hx
    simp [Addr.add] at hx1
    clear hx
    have a00 : W1.cell? ⟨g0, 0, none⟩ = some (.slice (some ad) l.length c0) := (za H0 0).trans rfl
    have a05 : W1.cell? ⟨g0, 5, none⟩ = some (.bool true) := (za H0 5).trans rfl
    have a40 : W1.cell? ⟨w.heap.size, 0, none⟩ = some (.int .i16 w0) := (za H4 0).trans rfl
    have a41 : W1.cell? ⟨w.heap.size, 1, none⟩ = some (.int .i16 w1) := (za H4 1).trans rfl
    have a42 : W1.cell? ⟨w.heap.size, 2, none⟩ = some (.int .i16 w2) := (za H4 2).trans rfl
    have a43 : W1.cell? ⟨w.heap.size, 3, none⟩ = some (.int .i16 w3) := (za H4 3).trans rfl
    have a50 : W1.cell? ⟨w.heap.size + 1, 0, none⟩ = some (.int .i8 1) := (za H5 0).trans rfl
    have a51 : W1.cell? ⟨w.heap.size + 1, 1, none⟩ = some (.int .i8 2) := (za H5 1).trans rfl
    have a52 : W1.cell? ⟨w.heap.size + 1, 2, none⟩ = some (.int .i8 0) := (za H5 2).trans rfl
    have a60 : W1.cell? ⟨w.heap.size + 1 + 1, 0, none⟩ = some (.int .i16 0) := (za H6 0).trans rfl
    have f60 := zb H6 0
    have a61 : W1.cell? ⟨w.heap.size + 1 + 1, 1, none⟩ = some (.int .i16 0) := (za H6 1).trans rfl
    have f61 := zb H6 1
    have a62 : W1.cell? ⟨w.heap.size + 1 + 1, 2, none⟩ = some (.int .i16 0) := (za H6 2).trans rfl
    have f62 := zb H6 2
    have a63 : W1.cell? ⟨w.heap.size + 1 + 1, 3, none⟩ = some (.int .i16 0) := (za H6 3).trans rfl
    have f63 := zb H6 3
    have HA := zf.mk (And.intro H0 (And.intro H4 (And.intro H5 (And.intro H6 (And.intro HB HZ)))))
    clear H0 H4 H5 H6 HB HZ hb0
    go_upto_region 6 with (first
      | (go_at_call 103
         (with_reducible refine (spec_l00In.calls _ _ _ true _ ?hh).mono ?_)
         (case hh => first | exact HI1.out | exact HI2.out | exact in_true (by decide) (by decide))
         rintro e w' ⟨rfl, ⟨nd, rfl⟩⟩)
      | go_in)
    generalize hW2 : World.drewN _ _ = W2
    have G0 : W2.heap[g0]? = some (.cells #[.slice (some ad) l.length c0, .int .i16 s0, .int .i16 s1, .int .i16 s2, .int .i16 s3, .bool true] 29 (0, 0)) := by rw [← hW2]; exact ze HA.out.1 _
    have G4 : W2.heap[w.heap.size]? = some (.cells #[.int .i16 w0, .int .i16 w1, .int .i16 w2, .int .i16 w3] 27 (0, 0)) := by rw [← hW2]; exact ze HA.out.2.1 _
    have G5 : W2.heap[w.heap.size + 1]? = some (.cells #[.int .i8 1, .int .i8 2, .int .i8 0] 80 (0, 0)) := by rw [← hW2]; exact ze HA.out.2.2.1 _
    have G6 : W2.heap[w.heap.size + 1 + 1]? = some (.cells #[.int .i16 0, .int .i16 0, .int .i16 0, .int .i16 0] 27 (0, 0)) := by rw [← hW2]; exact ze HA.out.2.2.2.1 _
    have GB : Below w.heap.size w W2 := by rw [← hW2]; exact zc HA.out.2.2.2.2.1 _
    have GZ : W2.heap.size = w.heap.size + 1 + 1 + 1 := by rw [← hW2]; exact HA.out.2.2.2.2.2
    have hx2 : W2.cell? ⟨ad.block, ad.off + 2, none⟩ = some (.int .i16 (rd l 2)) := by rw [← hW2]; exact hx1
    clear hx1
    clear hW2 a00 a05 a40 a41 a42 a43 a50 a51 a52 a60 a61 a62 a63 f60 f61 f62 f63
    have a40 : W2.cell? ⟨w.heap.size, 0, none⟩ = some (.int .i16 w0) := (za G4 0).trans rfl
    have a41 : W2.cell? ⟨w.heap.size, 1, none⟩ = some (.int .i16 w1) := (za G4 1).trans rfl
    have a42 : W2.cell? ⟨w.heap.size, 2, none⟩ = some (.int .i16 w2) := (za G4 2).trans rfl
    have a43 : W2.cell? ⟨w.heap.size, 3, none⟩ = some (.int .i16 w3) := (za G4 3).trans rfl
    have a50 : W2.cell? ⟨w.heap.size + 1, 0, none⟩ = some (.int .i8 1) := (za G5 0).trans rfl
    have a51 : W2.cell? ⟨w.heap.size + 1, 1, none⟩ = some (.int .i8 2) := (za G5 1).trans rfl
    have a52 : W2.cell? ⟨w.heap.size + 1, 2, none⟩ = some (.int .i8 0) := (za G5 2).trans rfl
    have GA := zf.mk (And.intro G0 (And.intro G4 (And.intro G5 (And.intro G6 (And.intro GB GZ)))))
    clear G0 G4 G5 G6 GB GZ HA
    go_upto_region 7 with (fail)
    generalize hW3 : World.alloc _ _ = W3
    rw [GA.out.2.2.2.2.2]
    have K0 : W3.heap[g0]? = some (.cells #[.slice (some ad) l.length c0, .int .i16 s0, .int .i16 s1, .int .i16 s2, .int .i16 s3, .bool true] 29 (0, 0)) := by rw [← hW3]; exact zg GA.out.1 _
    have K4 : W3.heap[w.heap.size]? = some (.cells #[.int .i16 w0, .int .i16 w1, .int .i16 w2, .int .i16 w3] 27 (0, 0)) := by rw [← hW3]; exact zg GA.out.2.1 _
    have K5 : W3.heap[w.heap.size + 1]? = some (.cells #[.int .i8 1, .int .i8 2, .int .i8 0] 80 (0, 0)) := by rw [← hW3]; exact zg GA.out.2.2.1 _
    have K6 : W3.heap[w.heap.size + 1 + 1]? = some (.cells #[.int .i16 0, .int .i16 0, .int .i16 0, .int .i16 0] 27 (0, 0)) := by rw [← hW3]; exact zg GA.out.2.2.2.1 _
    have K9 : W3.heap[w.heap.size + 1 + 1 + 1]? = some (.cells #[.int .i16 w0, .int .i16 w1, .int .i16 w2, .int .i16 w3] 27 (0, 0)) := by rw [← hW3, ← GA.out.2.2.2.2.2]; exact heap_alloc_new _ _
    have KB : Below w.heap.size w W3 := by rw [← hW3]; exact zh GA.out.2.2.2.2.1 _
    have hx3 : W3.cell? ⟨ad.block, ad.off + 2, none⟩ = some (.int .i16 (rd l 2)) := by rw [← hW3]; exact ((zh (Below.refl _ _) _).cell (World.block_lt_of_cell? W2 _ hx2)).trans hx2
    clear hx2
    clear hW3 a40 a41 a42 a43 a50 a51 a52
    have a00 : W3.cell? ⟨g0, 0, none⟩ = some (.slice (some ad) l.length c0) := (za K0 0).trans rfl
    have a40 : W3.cell? ⟨w.heap.size, 0, none⟩ = some (.int .i16 w0) := (za K4 0).trans rfl
    have a41 : W3.cell? ⟨w.heap.size, 1, none⟩ = some (.int .i16 w1) := (za K4 1).trans rfl
    have a42 : W3.cell? ⟨w.heap.size, 2, none⟩ = some (.int .i16 w2) := (za K4 2).trans rfl
    have a43 : W3.cell? ⟨w.heap.size, 3, none⟩ = some (.int .i16 w3) := (za K4 3).trans rfl
    have a50 : W3.cell? ⟨w.heap.size + 1, 0, none⟩ = some (.int .i8 1) := (za K5 0).trans rfl
    have a51 : W3.cell? ⟨w.heap.size + 1, 1, none⟩ = some (.int .i8 2) := (za K5 1).trans rfl
    have a52 : W3.cell? ⟨w.heap.size + 1, 2, none⟩ = some (.int .i8 0) := (za K5 2).trans rfl
    have a60 : W3.cell? ⟨w.heap.size + 1 + 1, 0, none⟩ = some (.int .i16 0) := (za K6 0).trans rfl
    have f60 := zb K6 0
    have a61 : W3.cell? ⟨w.heap.size + 1 + 1, 1, none⟩ = some (.int .i16 0) := (za K6 1).trans rfl
    have f61 := zb K6 1
    have a62 : W3.cell? ⟨w.heap.size + 1 + 1, 2, none⟩ = some (.int .i16 0) := (za K6 2).trans rfl
    have f62 := zb K6 2
    have a63 : W3.cell? ⟨w.heap.size + 1 + 1, 3, none⟩ = some (.int .i16 0) := (za K6 3).trans rfl
    have f63 := zb K6 3
    have a90 : W3.cell? ⟨w.heap.size + 1 + 1 + 1, 0, none⟩ = some (.int .i16 w0) := (za K9 0).trans rfl
    have f90 := zb K9 0
    have a91 : W3.cell? ⟨w.heap.size + 1 + 1 + 1, 1, none⟩ = some (.int .i16 w1) := (za K9 1).trans rfl
    have f91 := zb K9 1
    have a92 : W3.cell? ⟨w.heap.size + 1 + 1 + 1, 2, none⟩ = some (.int .i16 w2) := (za K9 2).trans rfl
    have f92 := zb K9 2
    have a93 : W3.cell? ⟨w.heap.size + 1 + 1 + 1, 3, none⟩ = some (.int .i16 w3) := (za K9 3).trans rfl
    have f93 := zb K9 3
    have KA := zf.mk (And.intro K6 (And.intro KB K4))
    clear K0 K4 K5 K6 K9 KB GA
    go_wp2
    have hln : 2 < l.length := by omega
    clear a40 a41 a42 a43 a60 f60 a61 f61 a62 f62 a63 f63
    go_region
    have a40 : W3.cell? ⟨w.heap.size, 0, none⟩ = some (.int .i16 w0) := (za KA.out.2.2 0).trans rfl
    have a41 : W3.cell? ⟨w.heap.size, 1, none⟩ = some (.int .i16 w1) := (za KA.out.2.2 1).trans rfl
    have a42 : W3.cell? ⟨w.heap.size, 2, none⟩ = some (.int .i16 w2) := (za KA.out.2.2 2).trans rfl
    have a43 : W3.cell? ⟨w.heap.size, 3, none⟩ = some (.int .i16 w3) := (za KA.out.2.2 3).trans rfl
    have a60 : W3.cell? ⟨w.heap.size + 1 + 1, 0, none⟩ = some (.int .i16 0) := (za KA.out.1 0).trans rfl
    have f60 := zb KA.out.1 0
    have a61 : W3.cell? ⟨w.heap.size + 1 + 1, 1, none⟩ = some (.int .i16 0) := (za KA.out.1 1).trans rfl
    have f61 := zb KA.out.1 1
    have a62 : W3.cell? ⟨w.heap.size + 1 + 1, 2, none⟩ = some (.int .i16 0) := (za KA.out.1 2).trans rfl
    have f62 := zb KA.out.1 2
    have a63 : W3.cell? ⟨w.heap.size + 1 + 1, 3, none⟩ = some (.int .i16 0) := (za KA.out.1 3).trans rfl
    have f63 := zb KA.out.1 3
    go_wp2
    all_goals
      rename_i h
      have L6 := KA.out.1
      have LB := KA.out.2.1
      refine bodyPost_ret (zu rfl _ _ (w.heap.size + 1 + 1) 27 _ (0, 0) _ rfl (after_oned L6 (ne23 _) _ _ _ _ _ _) Try.underlying27 rfl (size27 _ _ _ _)) rfl ?_
      refine ⟨ends5 ?_, by with_reducible repeat (first | refine zj ?_ (le3 _) | refine zj ?_ (le2 _) | apply zk | exact LB)⟩
      first | exact stR_diff (x := st4 w0 w1 w2 w3 2 (rd l 2)) rfl (by simp [h]) | exact stR_same (x := st4 w0 w1 w2 w3 2 (rd l 2)) rfl (by simp [h])
  · go_enter Try.func76, Try.ntmps76
    go_upto_region 1 with (fail)
    generalize hW1 : World.alloc _ _ = W1
    have H4 : W1.heap[w.heap.size]? = some (.cells #[.int .i16 w0, .int .i16 w1, .int .i16 w2, .int .i16 w3] 27 (0, 0)) := by rw [← hW1]; exact thr4 _ _ _ _
    have H5 : W1.heap[w.heap.size + 1]? = some (.cells #[.int .i8 1, .int .i8 3, .int .i8 0] 80 (0, 0)) := by rw [← hW1]; exact thr5 _ _ _ _
    have H6 : W1.heap[w.heap.size + 1 + 1]? = some (.cells #[.int .i16 0, .int .i16 0, .int .i16 0, .int .i16 0] 27 (0, 0)) := by rw [← hW1]; exact thr6 _ _ _ _
    have HB : Below w.heap.size w W1 := by rw [← hW1]; exact below_thr _ _ _ _
    have HZ : W1.heap.size = w.heap.size + 1 + 1 + 1 := by rw [← hW1]; exact thr_size _ _ _ _
    clear hW1
    have H0 := zl hb0 HB
    have hx1 := (HB.cell (World.block_lt_of_cell? w _ hx)).trans hx
    simp [Addr.add] at hx1
    clear hx
    have a00 : W1.cell? ⟨g0, 0, none⟩ = some (.slice (some ad) l.length c0) := (za H0 0).trans rfl
    have a05 : W1.cell? ⟨g0, 5, none⟩ = some (.bool true) := (za H0 5).trans rfl
    have a40 : W1.cell? ⟨w.heap.size, 0, none⟩ = some (.int .i16 w0) := (za H4 0).trans rfl
    have a41 : W1.cell? ⟨w.heap.size, 1, none⟩ = some (.int .i16 w1) := (za H4 1).trans rfl
    have a42 : W1.cell? ⟨w.heap.size, 2, none⟩ = some (.int .i16 w2) := (za H4 2).trans rfl
    have a43 : W1.cell? ⟨w.heap.size, 3, none⟩ = some (.int .i16 w3) := (za H4 3).trans rfl
    have a50 : W1.cell? ⟨w.heap.size + 1, 0, none⟩ = some (.int .i8 1) := (za H5 0).trans rfl
    have a51 : W1.cell? ⟨w.heap.size + 1, 1, none⟩ = some (.int .i8 3) := (za H5 1).trans rfl
    have a52 : W1.cell? ⟨w.heap.size + 1, 2, none⟩ = some (.int .i8 0) := (za H5 2).trans rfl
    have a60 : W1.cell? ⟨w.heap.size + 1 + 1, 0, none⟩ = some (.int .i16 0) := (za H6 0).trans rfl
    have f60 := zb H6 0
    have a61 : W1.cell? ⟨w.heap.size + 1 + 1, 1, none⟩ = some (.int .i16 0) := (za H6 1).trans rfl
    have f61 := zb H6 1
    have a62 : W1.cell? ⟨w.heap.size + 1 + 1, 2, none⟩ = some (.int .i16 0) := (za H6 2).trans rfl
    have f62 := zb H6 2
    have a63 : W1.cell? ⟨w.heap.size + 1 + 1, 3, none⟩ = some (.int .i16 0) := (za H6 3).trans rfl
    have f63 := zb H6 3
    have HA := zf.mk (And.intro H0 (And.intro H4 (And.intro H5 (And.intro H6 (And.intro HB HZ)))))
    clear H0 H4 H5 H6 HB HZ hb0
    go_upto_region 6 with (first
      | (go_at_call 103
         (with_reducible refine (spec_l00In.calls _ _ _ true _ ?hh).mono ?_)
         (case hh => first | exact HI1.out | exact HI2.out | exact in_true (by decide) (by decide))
         rintro e w' ⟨rfl, ⟨nd, rfl⟩⟩)
      | go_in)
    generalize hW2 : World.drewN _ _ = W2
    have G0 : W2.heap[g0]? = some (.cells #[.slice (some ad) l.length c0, .int .i16 s0, .int .i16 s1, .int .i16 s2, .int .i16 s3, .bool true] 29 (0, 0)) := by rw [← hW2]; exact ze HA.out.1 _
    have G4 : W2.heap[w.heap.size]? = some (.cells #[.int .i16 w0, .int .i16 w1, .int .i16 w2, .int .i16 w3] 27 (0, 0)) := by rw [← hW2]; exact ze HA.out.2.1 _
    have G5 : W2.heap[w.heap.size + 1]? = some (.cells #[.int .i8 1, .int .i8 3, .int .i8 0] 80 (0, 0)) := by rw [← hW2]; exact ze HA.out.2.2.1 _
    have G6 : W2.heap[w.heap.size + 1 + 1]? = some (.cells #[.int .i16 0, .int .i16 0, .int .i16 0, .int .i16 0] 27 (0, 0)) := by rw [← hW2]; exact ze HA.out.2.2.2.1 _
    have GB : Below w.heap.size w W2 := by rw [← hW2]; exact zc HA.out.2.2.2.2.1 _
    have GZ : W2.heap.size = w.heap.size + 1 + 1 + 1 := by rw [← hW2]; exact HA.out.2.2.2.2.2
    have hx2 : W2.cell? ⟨ad.block, ad.off + 3, none⟩ = some (.int .i16 (rd l 3)) := by rw [← hW2]; exact hx1
    clear hx1
    clear hW2 a00 a05 a40 a41 a42 a43 a50 a51 a52 a60 a61 a62 a63 f60 f61 f62 f63
    have a40 : W2.cell? ⟨w.heap.size, 0, none⟩ = some (.int .i16 w0) := (za G4 0).trans rfl
    have a41 : W2.cell? ⟨w.heap.size, 1, none⟩ = some (.int .i16 w1) := (za G4 1).trans rfl
    have a42 : W2.cell? ⟨w.heap.size, 2, none⟩ = some (.int .i16 w2) := (za G4 2).trans rfl
    have a43 : W2.cell? ⟨w.heap.size, 3, none⟩ = some (.int .i16 w3) := (za G4 3).trans rfl
    have a50 : W2.cell? ⟨w.heap.size + 1, 0, none⟩ = some (.int .i8 1) := (za G5 0).trans rfl
    have a51 : W2.cell? ⟨w.heap.size + 1, 1, none⟩ = some (.int .i8 3) := (za G5 1).trans rfl
    have a52 : W2.cell? ⟨w.heap.size + 1, 2, none⟩ = some (.int .i8 0) := (za G5 2).trans rfl
    have GA := zf.mk (And.intro G0 (And.intro G4 (And.intro G5 (And.intro G6 (And.intro GB GZ)))))
    clear G0 G4 G5 G6 GB GZ HA
    go_upto_region 7 with (fail)
    generalize hW3 : World.alloc _ _ = W3
    rw [GA.out.2.2.2.2.2]
    have K0 : W3.heap[g0]? = some (.cells #[.slice (some ad) l.length c0, .int .i16 s0, .int .i16 s1, .int .i16 s2, .int .i16 s3, .bool true] 29 (0, 0)) := by rw [← hW3]; exact zg GA.out.1 _
    have K4 : W3.heap[w.heap.size]? = some (.cells #[.int .i16 w0, .int .i16 w1, .int .i16 w2, .int .i16 w3] 27 (0, 0)) := by rw [← hW3]; exact zg GA.out.2.1 _
    have K5 : W3.heap[w.heap.size + 1]? = some (.cells #[.int .i8 1, .int .i8 3, .int .i8 0] 80 (0, 0)) := by rw [← hW3]; exact zg GA.out.2.2.1 _
    have K6 : W3.heap[w.heap.size + 1 + 1]? = some (.cells #[.int .i16 0, .int .i16 0, .int .i16 0, .int .i16 0] 27 (0, 0)) := by rw [← hW3]; exact zg GA.out.2.2.2.1 _
    have K9 : W3.heap[w.heap.size + 1 + 1 + 1]? = some (.cells #[.int .i16 w0, .int .i16 w1, .int .i16 w2, .int .i16 w3] 27 (0, 0)) := by rw [← hW3, ← GA.out.2.2.2.2.2]; exact heap_alloc_new _ _
    have KB : Below w.heap.size w W3 := by rw [← hW3]; exact zh GA.out.2.2.2.2.1 _
    have hx3 : W3.cell? ⟨ad.block, ad.off + 3, none⟩ = some (.int .i16 (rd l 3)) := by rw [← hW3]; exact ((zh (Below.refl _ _) _).cell (World.block_lt_of_cell? W2 _ hx2)).trans hx2
    clear hx2
    clear hW3 a40 a41 a42 a43 a50 a51 a52
    have a00 : W3.cell? ⟨g0, 0, none⟩ = some (.slice (some ad) l.length c0) := (za K0 0).trans rfl
    have a40 : W3.cell? ⟨w.heap.size, 0, none⟩ = some (.int .i16 w0) := (za K4 0).trans rfl
    have a41 : W3.cell? ⟨w.heap.size, 1, none⟩ = some (.int .i16 w1) := (za K4 1).trans rfl
    have a42 : W3.cell? ⟨w.heap.size, 2, none⟩ = some (.int .i16 w2) := (za K4 2).trans rfl
    have a43 : W3.cell? ⟨w.heap.size, 3, none⟩ = some (.int .i16 w3) := (za K4 3).trans rfl
    have a50 : W3.cell? ⟨w.heap.size + 1, 0, none⟩ = some (.int .i8 1) := (za K5 0).trans rfl
    have a51 : W3.cell? ⟨w.heap.size + 1, 1, none⟩ = some (.int .i8 3) := (za K5 1).trans rfl
    have a52 : W3.cell? ⟨w.heap.size + 1, 2, none⟩ = some (.int .i8 0) := (za K5 2).trans rfl
    have a60 : W3.cell? ⟨w.heap.size + 1 + 1, 0, none⟩ = some (.int .i16 0) := (za K6 0).trans rfl
    have f60 := zb K6 0
    have a61 : W3.cell? ⟨w.heap.size + 1 + 1, 1, none⟩ = some (.int .i16 0) := (za K6 1).trans rfl
    have f61 := zb K6 1
    have a62 : W3.cell? ⟨w.heap.size + 1 + 1, 2, none⟩ = some (.int .i16 0) := (za K6 2).trans rfl
    have f62 := zb K6 2
    have a63 : W3.cell? ⟨w.heap.size + 1 + 1, 3, none⟩ = some (.int .i16 0) := (za K6 3).trans rfl
    have f63 := zb K6 3
    have a90 : W3.cell? ⟨w.heap.size + 1 + 1 + 1, 0, none⟩ = some (.int .i16 w0) := (za K9 0).trans rfl
    have f90 := zb K9 0
    have a91 : W3.cell? ⟨w.heap.size + 1 + 1 + 1, 1, none⟩ = some (.int .i16 w1) := (za K9 1).trans rfl
    have f91 := zb K9 1
    have a92 : W3.cell? ⟨w.heap.size + 1 + 1 + 1, 2, none⟩ = some (.int .i16 w2) := (za K9 2).trans rfl
    have f92 := zb K9 2
    have a93 : W3.cell? ⟨w.heap.size + 1 + 1 + 1, 3, none⟩ = some (.int .i16 w3) := (za K9 3).trans rfl
    have f93 := zb K9 3
    have KA := zf.mk (And.intro K6 (And.intro KB K4))
    clear K0 K4 K5 K6 K9 KB GA
    go_wp2
    have hln : 3 < l.length := by omega
    clear a40 a41 a42 a43 a60 f60 a61 f61 a62 f62 a63 f63
    go_region
    have a40 : W3.cell? ⟨w.heap.size, 0, none⟩ = some (.int .i16 w0) := (za KA.out.2.2 0).trans rfl
    have a41 : W3.cell? ⟨w.heap.size, 1, none⟩ = some (.int .i16 w1) := (za KA.out.2.2 1).trans rfl
    have a42 : W3.cell? ⟨w.heap.size, 2, none⟩ = some (.int .i16 w2) := (za KA.out.2.2 2).trans rfl
    have a43 : W3.cell? ⟨w.heap.size, 3, none⟩ = some (.int .i16 w3) := (za KA.out.2.2 3).trans rfl
    have a60 : W3.cell? ⟨w.heap.size + 1 + 1, 0, none⟩ = some (.int .i16 0) := (za KA.out.1 0).trans rfl
    have f60 := zb KA.out.1 0
    have a61 : W3.cell? ⟨w.heap.size + 1 + 1, 1, none⟩ = some (.int .i16 0) := (za KA.out.1 1).trans rfl
    have f61 := zb KA.out.1 1
    have a62 : W3.cell? ⟨w.heap.size + 1 + 1, 2, none⟩ = some (.int .i16 0) := (za KA.out.1 2).trans rfl
    have f62 := zb KA.out.1 2
    have a63 : W3.cell? ⟨w.heap.size + 1 + 1, 3, none⟩ = some (.int .i16 0) := (za KA.out.1 3).trans rfl
    have f63 := zb KA.out.1 3
    go_wp2
    all_goals
      rename_i h
      have L6 := KA.out.1
      have LB := KA.out.2.1
      refine bodyPost_ret (zu rfl _ _ (w.heap.size + 1 + 1) 27 _ (0, 0) _ rfl (after_oned L6 (ne23 _) _ _ _ _ _ _) Try.underlying27 rfl (size27 _ _ _ _)) rfl ?_
      refine ⟨ends5 ?_, by with_reducible repeat (first | refine zj ?_ (le3 _) | refine zj ?_ (le2 _) | apply zk | exact LB)⟩
      first | exact stR_diff (x := st4 w0 w1 w2 w3 3 (rd l 3)) rfl (by simp [h]) | exact stR_same (x := st4 w0 w1 w2 w3 3 (rd l 3)) rfl (by simp [h])
set_option maxHeartbeats 8000000 in
set_option maxRecDepth 100000 in
theorem step_empty (g0 : Nat) (A : Option Addr) (c0 : Nat) (l : List Int) (s0 s1 s2 s3 : Int) (w0 w1 w2 w3 fr : Int) (w : World) (hb0 : w.heap[g0]? = some (.cells #[.slice A l.length c0, .int .i16 s0, .int .i16 s1, .int .i16 s2, .int .i16 s3, .bool true] 29 (0, 0))) (hr0 : Kd.C (Kd.int .i16) w A l.length l) (hc0 : l.length ≤ c0) (hf : 0 ≤ fr ∧ fr < 4) (hlf : fr < l.length) (hL : l.length ≤ 4) :
    Calls Try.prog 76 #[.pointer (some ⟨g0, 0, none⟩), .agg #[.int .i16 w0, .int .i16 w1, .int .i16 w2, .int .i16 w3], .agg #[.int .i8 2, .int .i8 fr, .int .i8 0]] w
      fun e w' => e = .returned (.tuple #[.agg #[.int .i16 (stR (st4 w0 w1 w2 w3 fr 0) w0 w1 w2 w3).1, .int .i16 (stR (st4 w0 w1 w2 w3 fr 0) w0 w1 w2 w3).2.1, .int .i16 (stR (st4 w0 w1 w2 w3 fr 0) w0 w1 w2 w3).2.2.1, .int .i16 (stR (st4 w0 w1 w2 w3 fr 0) w0 w1 w2 w3).2.2.2.1], .int .i64 (stR (st4 w0 w1 w2 w3 fr 0) w0 w1 w2 w3).2.2.2.2]) ∧ Below w.heap.size w w' := by
  have hu29 := Try.underlying29
  have hu27 := Try.underlying27
  have hu80 := Try.underlying80
  have hlt := zaa hb0
  have HI1 := zf.mk (in_last hf.1 hlf hL)
  have HI2 := zf.mk (in_last (Int.le_refl 0) (Int.lt_of_le_of_lt hf.1 hlf) hL)
  clear hL
  rcases (show fr = 0 ∨ fr = 1 ∨ fr = 2 ∨ fr = 3 by omega) with rfl | rfl | rfl | rfl
  · go_enter Try.func76, Try.ntmps76
    go_upto_region 1 with (fail)
    generalize hW1 : World.alloc _ _ = W1
    have H4 : W1.heap[w.heap.size]? = some (.cells #[.int .i16 w0, .int .i16 w1, .int .i16 w2, .int .i16 w3] 27 (0, 0)) := by rw [← hW1]; exact thr4 _ _ _ _
    have H5 : W1.heap[w.heap.size + 1]? = some (.cells #[.int .i8 2, .int .i8 0, .int .i8 0] 80 (0, 0)) := by rw [← hW1]; exact thr5 _ _ _ _
    have H6 : W1.heap[w.heap.size + 1 + 1]? = some (.cells #[.int .i16 0, .int .i16 0, .int .i16 0, .int .i16 0] 27 (0, 0)) := by rw [← hW1]; exact thr6 _ _ _ _
    have HB : Below w.heap.size w W1 := by rw [← hW1]; exact below_thr _ _ _ _
    have HZ : W1.heap.size = w.heap.size + 1 + 1 + 1 := by rw [← hW1]; exact thr_size _ _ _ _
    clear hW1
    have H0 := zl hb0 HB
    have a00 : W1.cell? ⟨g0, 0, none⟩ = some (.slice A l.length c0) := (za H0 0).trans rfl
    have a05 : W1.cell? ⟨g0, 5, none⟩ = some (.bool true) := (za H0 5).trans rfl
    have a40 : W1.cell? ⟨w.heap.size, 0, none⟩ = some (.int .i16 w0) := (za H4 0).trans rfl
    have a41 : W1.cell? ⟨w.heap.size, 1, none⟩ = some (.int .i16 w1) := (za H4 1).trans rfl
    have a42 : W1.cell? ⟨w.heap.size, 2, none⟩ = some (.int .i16 w2) := (za H4 2).trans rfl
    have a43 : W1.cell? ⟨w.heap.size, 3, none⟩ = some (.int .i16 w3) := (za H4 3).trans rfl
    have a50 : W1.cell? ⟨w.heap.size + 1, 0, none⟩ = some (.int .i8 2) := (za H5 0).trans rfl
    have a51 : W1.cell? ⟨w.heap.size + 1, 1, none⟩ = some (.int .i8 0) := (za H5 1).trans rfl
    have a52 : W1.cell? ⟨w.heap.size + 1, 2, none⟩ = some (.int .i8 0) := (za H5 2).trans rfl
    have a60 : W1.cell? ⟨w.heap.size + 1 + 1, 0, none⟩ = some (.int .i16 0) := (za H6 0).trans rfl
    have f60 := zb H6 0
    have a61 : W1.cell? ⟨w.heap.size + 1 + 1, 1, none⟩ = some (.int .i16 0) := (za H6 1).trans rfl
    have f61 := zb H6 1
    have a62 : W1.cell? ⟨w.heap.size + 1 + 1, 2, none⟩ = some (.int .i16 0) := (za H6 2).trans rfl
    have f62 := zb H6 2
    have a63 : W1.cell? ⟨w.heap.size + 1 + 1, 3, none⟩ = some (.int .i16 0) := (za H6 3).trans rfl
    have f63 := zb H6 3
    have HA := zf.mk (And.intro H0 (And.intro H4 (And.intro H5 (And.intro H6 (And.intro HB HZ)))))
    clear H0 H4 H5 H6 HB HZ hb0 hr0
    go_upto_region 6 with (first
      | (go_at_call 103
         (with_reducible refine (spec_l00In.calls _ _ _ true _ ?hh).mono ?_)
         (case hh => first | exact HI1.out | exact HI2.out | exact in_true (by decide) (by decide))
         rintro e w' ⟨rfl, ⟨nd, rfl⟩⟩)
      | go_in)
    generalize hW2 : World.drewN _ _ = W2
    have G0 : W2.heap[g0]? = some (.cells #[.slice A l.length c0, .int .i16 s0, .int .i16 s1, .int .i16 s2, .int .i16 s3, .bool true] 29 (0, 0)) := by rw [← hW2]; exact ze HA.out.1 _
    have G4 : W2.heap[w.heap.size]? = some (.cells #[.int .i16 w0, .int .i16 w1, .int .i16 w2, .int .i16 w3] 27 (0, 0)) := by rw [← hW2]; exact ze HA.out.2.1 _
    have G5 : W2.heap[w.heap.size + 1]? = some (.cells #[.int .i8 2, .int .i8 0, .int .i8 0] 80 (0, 0)) := by rw [← hW2]; exact ze HA.out.2.2.1 _
    have G6 : W2.heap[w.heap.size + 1 + 1]? = some (.cells #[.int .i16 0, .int .i16 0, .int .i16 0, .int .i16 0] 27 (0, 0)) := by rw [← hW2]; exact ze HA.out.2.2.2.1 _
    have GB : Below w.heap.size w W2 := by rw [← hW2]; exact zc HA.out.2.2.2.2.1 _
    have GZ : W2.heap.size = w.heap.size + 1 + 1 + 1 := by rw [← hW2]; exact HA.out.2.2.2.2.2
    clear hW2 a00 a05 a40 a41 a42 a43 a50 a51 a52 a60 a61 a62 a63 f60 f61 f62 f63
    have a40 : W2.cell? ⟨w.heap.size, 0, none⟩ = some (.int .i16 w0) := (za G4 0).trans rfl
    have a41 : W2.cell? ⟨w.heap.size, 1, none⟩ = some (.int .i16 w1) := (za G4 1).trans rfl
    have a42 : W2.cell? ⟨w.heap.size, 2, none⟩ = some (.int .i16 w2) := (za G4 2).trans rfl
    have a43 : W2.cell? ⟨w.heap.size, 3, none⟩ = some (.int .i16 w3) := (za G4 3).trans rfl
    have a50 : W2.cell? ⟨w.heap.size + 1, 0, none⟩ = some (.int .i8 2) := (za G5 0).trans rfl
    have a51 : W2.cell? ⟨w.heap.size + 1, 1, none⟩ = some (.int .i8 0) := (za G5 1).trans rfl
    have a52 : W2.cell? ⟨w.heap.size + 1, 2, none⟩ = some (.int .i8 0) := (za G5 2).trans rfl
    have GA := zf.mk (And.intro G0 (And.intro G4 (And.intro G5 (And.intro G6 (And.intro GB GZ)))))
    clear G0 G4 G5 G6 GB GZ HA
    go_upto_region 7 with (fail)
    generalize hW3 : World.alloc _ _ = W3
    rw [GA.out.2.2.2.2.2]
    have K0 : W3.heap[g0]? = some (.cells #[.slice A l.length c0, .int .i16 s0, .int .i16 s1, .int .i16 s2, .int .i16 s3, .bool true] 29 (0, 0)) := by rw [← hW3]; exact zg GA.out.1 _
    have K4 : W3.heap[w.heap.size]? = some (.cells #[.int .i16 w0, .int .i16 w1, .int .i16 w2, .int .i16 w3] 27 (0, 0)) := by rw [← hW3]; exact zg GA.out.2.1 _
    have K5 : W3.heap[w.heap.size + 1]? = some (.cells #[.int .i8 2, .int .i8 0, .int .i8 0] 80 (0, 0)) := by rw [← hW3]; exact zg GA.out.2.2.1 _
    have K6 : W3.heap[w.heap.size + 1 + 1]? = some (.cells #[.int .i16 0, .int .i16 0, .int .i16 0, .int .i16 0] 27 (0, 0)) := by rw [← hW3]; exact zg GA.out.2.2.2.1 _
    have K9 : W3.heap[w.heap.size + 1 + 1 + 1]? = some (.cells #[.int .i16 w0, .int .i16 w1, .int .i16 w2, .int .i16 w3] 27 (0, 0)) := by rw [← hW3, ← GA.out.2.2.2.2.2]; exact heap_alloc_new _ _
    have KB : Below w.heap.size w W3 := by rw [← hW3]; exact zh GA.out.2.2.2.2.1 _
    clear hW3 a40 a41 a42 a43 a50 a51 a52
    have a00 : W3.cell? ⟨g0, 0, none⟩ = some (.slice A l.length c0) := (za K0 0).trans rfl
    have a40 : W3.cell? ⟨w.heap.size, 0, none⟩ = some (.int .i16 w0) := (za K4 0).trans rfl
    have a41 : W3.cell? ⟨w.heap.size, 1, none⟩ = some (.int .i16 w1) := (za K4 1).trans rfl
    have a42 : W3.cell? ⟨w.heap.size, 2, none⟩ = some (.int .i16 w2) := (za K4 2).trans rfl
    have a43 : W3.cell? ⟨w.heap.size, 3, none⟩ = some (.int .i16 w3) := (za K4 3).trans rfl
    have a50 : W3.cell? ⟨w.heap.size + 1, 0, none⟩ = some (.int .i8 2) := (za K5 0).trans rfl
    have a51 : W3.cell? ⟨w.heap.size + 1, 1, none⟩ = some (.int .i8 0) := (za K5 1).trans rfl
    have a52 : W3.cell? ⟨w.heap.size + 1, 2, none⟩ = some (.int .i8 0) := (za K5 2).trans rfl
    have a60 : W3.cell? ⟨w.heap.size + 1 + 1, 0, none⟩ = some (.int .i16 0) := (za K6 0).trans rfl
    have f60 := zb K6 0
    have a61 : W3.cell? ⟨w.heap.size + 1 + 1, 1, none⟩ = some (.int .i16 0) := (za K6 1).trans rfl
    have f61 := zb K6 1
    have a62 : W3.cell? ⟨w.heap.size + 1 + 1, 2, none⟩ = some (.int .i16 0) := (za K6 2).trans rfl
    have f62 := zb K6 2
    have a63 : W3.cell? ⟨w.heap.size + 1 + 1, 3, none⟩ = some (.int .i16 0) := (za K6 3).trans rfl
    have f63 := zb K6 3
    have a90 : W3.cell? ⟨w.heap.size + 1 + 1 + 1, 0, none⟩ = some (.int .i16 w0) := (za K9 0).trans rfl
    have f90 := zb K9 0
    have a91 : W3.cell? ⟨w.heap.size + 1 + 1 + 1, 1, none⟩ = some (.int .i16 w1) := (za K9 1).trans rfl
    have f91 := zb K9 1
    have a92 : W3.cell? ⟨w.heap.size + 1 + 1 + 1, 2, none⟩ = some (.int .i16 w2) := (za K9 2).trans rfl
    have f92 := zb K9 2
    have a93 : W3.cell? ⟨w.heap.size + 1 + 1 + 1, 3, none⟩ = some (.int .i16 w3) := (za K9 3).trans rfl
    have f93 := zb K9 3
    have KA := zf.mk (And.intro K6 (And.intro KB K4))
    clear K0 K4 K5 K6 K9 KB GA
    go_wp2
    all_goals
      rename_i h
      have L6 := KA.out.1
      have LB := KA.out.2.1
      refine bodyPost_ret (zu rfl _ _ (w.heap.size + 1 + 1) 27 _ (0, 0) _ rfl (after_onef L6 (ne23 _) _ _ _ _ _ _) Try.underlying27 rfl (size27 _ _ _ _)) rfl ?_
      refine ⟨ends5 ?_, by with_reducible repeat (first | refine zj ?_ (le3 _) | refine zj ?_ (le2 _) | apply zk | exact LB)⟩
      first | exact stR_diff (x := st4 w0 w1 w2 w3 0 0) rfl (by simp [h]) | exact stR_same (x := st4 w0 w1 w2 w3 0 0) rfl (by simp [h])
  · go_enter Try.func76, Try.ntmps76
    go_upto_region 1 with (fail)
    generalize hW1 : World.alloc _ _ = W1
    have H4 : W1.heap[w.heap.size]? = some (.cells #[.int .i16 w0, .int .i16 w1, .int .i16 w2, .int .i16 w3] 27 (0, 0)) := by rw [← hW1]; exact thr4 _ _ _ _
    have H5 : W1.heap[w.heap.size + 1]? = some (.cells #[.int .i8 2, .int .i8 1, .int .i8 0] 80 (0, 0)) := by rw [← hW1]; exact thr5 _ _ _ _
    have H6 : W1.heap[w.heap.size + 1 + 1]? = some (.cells #[.int .i16 0, .int .i16 0, .int .i16 0, .int .i16 0] 27 (0, 0)) := by rw [← hW1]; exact thr6 _ _ _ _
    have HB : Below w.heap.size w W1 := by rw [← hW1]; exact below_thr _ _ _ _
    have HZ : W1.heap.size = w.heap.size + 1 + 1 + 1 := by rw [← hW1]; exact thr_size _ _ _ _
    clear hW1
    have H0 := zl hb0 HB
    have a00 : W1.cell? ⟨g0, 0, none⟩ = some (.slice A l.length c0) := (za H0 0).trans rfl
    have a05 : W1.cell? ⟨g0, 5, none⟩ = some (.bool true) := (za H0 5).trans rfl
    have a40 : W1.cell? ⟨w.heap.size, 0, none⟩ = some (.int .i16 w0) := (za H4 0).trans rfl
    have a41 : W1.cell? ⟨w.heap.size, 1, none⟩ = some (.int .i16 w1) := (za H4 1).trans rfl
    have a42 : W1.cell? ⟨w.heap.size, 2, none⟩ = some (.int .i16 w2) := (za H4 2).trans rfl
    have a43 : W1.cell? ⟨w.heap.size, 3, none⟩ = some (.int .i16 w3) := (za H4 3).trans rfl
    have a50 : W1.cell? ⟨w.heap.size + 1, 0, none⟩ = some (.int .i8 2) := (za H5 0).trans rfl
    have a51 : W1.cell? ⟨w.heap.size + 1, 1, none⟩ = some (.int .i8 1) := (za H5 1).trans rfl
    have a52 : W1.cell? ⟨w.heap.size + 1, 2, none⟩ = some (.int .i8 0) := (za H5 2).trans rfl
    have a60 : W1.cell? ⟨w.heap.size + 1 + 1, 0, none⟩ = some (.int .i16 0) := (za H6 0).trans rfl
    have f60 := zb H6 0
    have a61 : W1.cell? ⟨w.heap.size + 1 + 1, 1, none⟩ = some (.int .i16 0) := (za H6 1).trans rfl
    have f61 := zb H6 1
    have a62 : W1.cell? ⟨w.heap.size + 1 + 1, 2, none⟩ = some (.int .i16 0) := (za H6 2).trans rfl
    have f62 := zb H6 2
    have a63 : W1.cell? ⟨w.heap.size + 1 + 1, 3, none⟩ = some (.int .i16 0) := (za H6 3).trans rfl
    have f63 := zb H6 3
    have HA := zf.mk (And.intro H0 (And.intro H4 (And.intro H5 (And.intro H6 (And.intro HB HZ)))))
    clear H0 H4 H5 H6 HB HZ hb0 hr0
    go_upto_region 6 with (first
      | (go_at_call 103
         (with_reducible refine (spec_l00In.calls _ _ _ true _ ?hh).mono ?_)
         (case hh => first | exact HI1.out | exact HI2.out | exact in_true (by decide) (by decide))
         rintro e w' ⟨rfl, ⟨nd, rfl⟩⟩)
      | go_in)
    generalize hW2 : World.drewN _ _ = W2
    have G0 : W2.heap[g0]? = some (.cells #[.slice A l.length c0, .int .i16 s0, .int .i16 s1, .int .i16 s2, .int .i16 s3, .bool true] 29 (0, 0)) := by rw [← hW2]; exact ze HA.out.1 _
    have G4 : W2.heap[w.heap.size]? = some (.cells #[.int .i16 w0, .int .i16 w1, .int .i16 w2, .int .i16 w3] 27 (0, 0)) := by rw [← hW2]; exact ze HA.out.2.1 _
    have G5 : W2.heap[w.heap.size + 1]? = some (.cells #[.int .i8 2, .int .i8 1, .int .i8 0] 80 (0, 0)) := by rw [← hW2]; exact ze HA.out.2.2.1 _
    have G6 : W2.heap[w.heap.size + 1 + 1]? = some (.cells #[.int .i16 0, .int .i16 0, .int .i16 0, .int .i16 0] 27 (0, 0)) := by rw [← hW2]; exact ze HA.out.2.2.2.1 _
    have GB : Below w.heap.size w W2 := by rw [← hW2]; exact zc HA.out.2.2.2.2.1 _
    have GZ : W2.heap.size = w.heap.size + 1 + 1 + 1 := by rw [← hW2]; exact HA.out.2.2.2.2.2
    clear hW2 a00 a05 a40 a41 a42 a43 a50 a51 a52 a60 a61 a62 a63 f60 f61 f62 f63
    have a40 : W2.cell? ⟨w.heap.size, 0, none⟩ = some (.int .i16 w0) := (za G4 0).trans rfl
    have a41 : W2.cell? ⟨w.heap.size, 1, none⟩ = some (.int .i16 w1) := (za G4 1).trans rfl
    have a42 : W2.cell? ⟨w.heap.size, 2, none⟩ = some (.int .i16 w2) := (za G4 2).trans rfl
    have a43 : W2.cell? ⟨w.heap.size, 3, none⟩ = some (.int .i16 w3) := (za G4 3).trans rfl
    have a50 : W2.cell? ⟨w.heap.size + 1, 0, none⟩ = some (.int .i8 2) := (za G5 0).trans rfl
    have a51 : W2.cell? ⟨w.heap.size + 1, 1, none⟩ = some (.int .i8 1) := (za G5 1).trans rfl
    have a52 : W2.cell? ⟨w.heap.size + 1, 2, none⟩ = some (.int .i8 0) := (za G5 2).trans rfl
    have GA := zf.mk (And.intro G0 (And.intro G4 (And.intro G5 (And.intro G6 (And.intro GB GZ)))))
    clear G0 G4 G5 G6 GB GZ HA
    go_upto_region 7 with (fail)
    generalize hW3 : World.alloc _ _ = W3
    rw [GA.out.2.2.2.2.2]
    have K0 : W3.heap[g0]? = some (.cells #[.slice A l.length c0, .int .i16 s0, .int .i16 s1, .int .i16 s2, .int .i16 s3, .bool true] 29 (0, 0)) := by rw [← hW3]; exact zg GA.out.1 _
    have K4 : W3.heap[w.heap.size]? = some (.cells #[.int .i16 w0, .int .i16 w1, .int .i16 w2, .int .i16 w3] 27 (0, 0)) := by rw [← hW3]; exact zg GA.out.2.1 _
    have K5 : W3.heap[w.heap.size + 1]? = some (.cells #[.int .i8 2, .int .i8 1, .int .i8 0] 80 (0, 0)) := by rw [← hW3]; exact zg GA.out.2.2.1 _
    have K6 : W3.heap[w.heap.size + 1 + 1]? = some (.cells #[.int .i16 0, .int .i16 0, .int .i16 0, .int .i16 0] 27 (0, 0)) := by rw [← hW3]; exact zg GA.out.2.2.2.1 _
    have K9 : W3.heap[w.heap.size + 1 + 1 + 1]? = some (.cells #[.int .i16 w0, .int .i16 w1, .int .i16 w2, .int .i16 w3] 27 (0, 0)) := by rw [← hW3, ← GA.out.2.2.2.2.2]; exact heap_alloc_new _ _
    have KB : Below w.heap.size w W3 := by rw [← hW3]; exact zh GA.out.2.2.2.2.1 _
    clear hW3 a40 a41 a42 a43 a50 a51 a52
    have a00 : W3.cell? ⟨g0, 0, none⟩ = some (.slice A l.length c0) := (za K0 0).trans rfl
    have a40 : W3.cell? ⟨w.heap.size, 0, none⟩ = some (.int .i16 w0) := (za K4 0).trans rfl
    have a41 : W3.cell? ⟨w.heap.size, 1, none⟩ = some (.int .i16 w1) := (za K4 1).trans rfl
    have a42 : W3.cell? ⟨w.heap.size, 2, none⟩ = some (.int .i16 w2) := (za K4 2).trans rfl
    have a43 : W3.cell? ⟨w.heap.size, 3, none⟩ = some (.int .i16 w3) := (za K4 3).trans rfl
    have a50 : W3.cell? ⟨w.heap.size + 1, 0, none⟩ = some (.int .i8 2) := (za K5 0).trans rfl
    have a51 : W3.cell? ⟨w.heap.size + 1, 1, none⟩ = some (.int .i8 1) := (za K5 1).trans rfl
    have a52 : W3.cell? ⟨w.heap.size + 1, 2, none⟩ = some (.int .i8 0) := (za K5 2).trans rfl
    have a60 : W3.cell? ⟨w.heap.size + 1 + 1, 0, none⟩ = some (.int .i16 0) := (za K6 0).trans rfl
    have f60 := zb K6 0
    have a61 : W3.cell? ⟨w.heap.size + 1 + 1, 1, none⟩ = some (.int .i16 0) := (za K6 1).trans rfl
    have f61 := zb K6 1
    have a62 : W3.cell? ⟨w.heap.size + 1 + 1, 2, none⟩ = some (.int .i16 0) := (za K6 2).trans rfl
    have f62 := zb K6 2
    have a63 : W3.cell? ⟨w.heap.size + 1 + 1, 3, none⟩ = some (.int .i16 0) := (za K6 3).trans rfl
    have f63 := zb K6 3
    have a90 : W3.cell? ⟨w.heap.size + 1 + 1 + 1, 0, none⟩ = some (.int .i16 w0) := (za K9 0).trans rfl
    have f90 := zb K9 0
    have a91 : W3.cell? ⟨w.heap.size + 1 + 1 + 1, 1, none⟩ = some (.int .i16 w1) := (za K9 1).trans rfl
    have f91 := zb K9 1
    have a92 : W3.cell? ⟨w.heap.size + 1 + 1 + 1, 2, none⟩ = some (.int .i16 w2) := (za K9 2).trans rfl
    have f92 := zb K9 2
    have a93 : W3.cell? ⟨w.heap.size + 1 + 1 + 1, 3, none⟩ = some (.int .i16 w3) := (za K9 3).trans rfl
    have f93 := zb K9 3
    have KA := zf.mk (And.intro K6 (And.intro KB K4))
    clear K0 K4 K5 K6 K9 KB GA
    go_wp2
    all_goals
      rename_i h
      have L6 := KA.out.1
      have LB := KA.out.2.1
      refine bodyPost_ret (zu rfl _ _ (w.heap.size + 1 + 1) 27 _ (0, 0) _ rfl (after_onef L6 (ne23 _) _ _ _ _ _ _) Try.underlying27 rfl (size27 _ _ _ _)) rfl ?_
      refine ⟨ends5 ?_, by with_reducible repeat (first | refine zj ?_ (le3 _) | refine zj ?_ (le2 _) | apply zk | exact LB)⟩
      first | exact stR_diff (x := st4 w0 w1 w2 w3 1 0) rfl (by simp [h]) | exact stR_same (x := st4 w0 w1 w2 w3 1 0) rfl (by simp [h])
  · go_enter Try.func76, Try.ntmps76
    go_upto_region 1 with (fail)
    generalize hW1 : World.alloc _ _ = W1
    have H4 : W1.heap[w.heap.size]? = some (.cells #[.int .i16 w0, .int .i16 w1, .int .i16 w2, .int .i16 w3] 27 (0, 0)) := by rw [← hW1]; exact thr4 _ _ _ _
    have H5 : W1.heap[w.heap.size + 1]? = some (.cells #[.int .i8 2, .int .i8 2, .int .i8 0] 80 (0, 0)) := by rw [← hW1]; exact thr5 _ _ _ _
    have H6 : W1.heap[w.heap.size + 1 + 1]? = some (.cells #[.int .i16 0, .int .i16 0, .int .i16 0, .int .i16 0] 27 (0, 0)) := by rw [← hW1]; exact thr6 _ _ _ _
    have HB : Below w.heap.size w W1 := by rw [← hW1]; exact below_thr _ _ _ _
    have HZ : W1.heap.size = w.heap.size + 1 + 1 + 1 := by rw [← hW1]; exact thr_size _ _ _ _
    clear hW1
    have H0 := zl hb0 HB
    have a00 : W1.cell? ⟨g0, 0, none⟩ = some (.slice A l.length c0) := (za H0 0).trans rfl
    have a05 : W1.cell? ⟨g0, 5, none⟩ = some (.bool true) := (za H0 5).trans rfl
    have a40 : W1.cell? ⟨w.heap.size, 0, none⟩ = some (.int .i16 w0) := (za H4 0).trans rfl
    have a41 : W1.cell? ⟨w.heap.size, 1, none⟩ = some (.int .i16 w1) := (za H4 1).trans rfl
    have a42 : W1.cell? ⟨w.heap.size, 2, none⟩ = some (.int .i16 w2) := (za H4 2).trans rfl
    have a43 : W1.cell? ⟨w.heap.size, 3, none⟩ = some (.int .i16 w3) := (za H4 3).trans rfl
    have a50 : W1.cell? ⟨w.heap.size + 1, 0, none⟩ = some (.int .i8 2) := (za H5 0).trans rfl
    have a51 : W1.cell? ⟨w.heap.size + 1, 1, none⟩ = some (.int .i8 2) := (za H5 1).trans rfl
    have a52 : W1.cell? ⟨w.heap.size + 1, 2, none⟩ = some (.int .i8 0) := (za H5 2).trans rfl
    have a60 : W1.cell? ⟨w.heap.size + 1 + 1, 0, none⟩ = some (.int .i16 0) := (za H6 0).trans rfl
    have f60 := zb H6 0
    have a61 : W1.cell? ⟨w.heap.size + 1 + 1, 1, none⟩ = some (.int .i16 0) := (za H6 1).trans rfl
    have f61 := zb H6 1
    have a62 : W1.cell? ⟨w.heap.size + 1 + 1, 2, none⟩ = some (.int .i16 0) := (za H6 2).trans rfl
    have f62 := zb H6 2
    have a63 : W1.cell? ⟨w.heap.size + 1 + 1, 3, none⟩ = some (.int .i16 0) := (za H6 3).trans rfl
    have f63 := zb H6 3
    have HA := zf.mk (And.intro H0 (And.intro H4 (And.intro H5 (And.intro H6 (And.intro HB HZ)))))
    clear H0 H4 H5 H6 HB HZ hb0 hr0
    go_upto_region 6 with (first
      | (go_at_call 103
         (with_reducible refine (spec_l00In.calls _ _ _ true _ ?hh).mono ?_)
         (case hh => first | exact HI1.out | exact HI2.out | exact in_true (by decide) (by decide))
         rintro e w' ⟨rfl, ⟨nd, rfl⟩⟩)
      | go_in)
    generalize hW2 : World.drewN _ _ = W2
    have G0 : W2.heap[g0]? = some (.cells #[.slice A l.length c0, .int .i16 s0, .int .i16 s1, .int .i16 s2, .int .i16 s3, .bool true] 29 (0, 0)) := by rw [← hW2]; exact ze HA.out.1 _
    have G4 : W2.heap[w.heap.size]? = some (.cells #[.int .i16 w0, .int .i16 w1, .int .i16 w2, .int .i16 w3] 27 (0, 0)) := by rw [← hW2]; exact ze HA.out.2.1 _
    have G5 : W2.heap[w.heap.size + 1]? = some (.cells #[.int .i8 2, .int .i8 2, .int .i8 0] 80 (0, 0)) := by rw [← hW2]; exact ze HA.out.2.2.1 _
    have G6 : W2.heap[w.heap.size + 1 + 1]? = some (.cells #[.int .i16 0, .int .i16 0, .int .i16 0, .int .i16 0] 27 (0, 0)) := by rw [← hW2]; exact ze HA.out.2.2.2.1 _
    have GB : Below w.heap.size w W2 := by rw [← hW2]; exact zc HA.out.2.2.2.2.1 _
    have GZ : W2.heap.size = w.heap.size + 1 + 1 + 1 := by rw [← hW2]; exact HA.out.2.2.2.2.2
    clear hW2 a00 a05 a40 a41 a42 a43 a50 a51 a52 a60 a61 a62 a63 f60 f61 f62 f63
    have a40 : W2.cell? ⟨w.heap.size, 0, none⟩ = some (.int .i16 w0) := (za G4 0).trans rfl
    have a41 : W2.cell? ⟨w.heap.size, 1, none⟩ = some (.int .i16 w1) := (za G4 1).trans rfl
    have a42 : W2.cell? ⟨w.heap.size, 2, none⟩ = some (.int .i16 w2) := (za G4 2).trans rfl
    have a43 : W2.cell? ⟨w.heap.size, 3, none⟩ = some (.int .i16 w3) := (za G4 3).trans rfl
    have a50 : W2.cell? ⟨w.heap.size + 1, 0, none⟩ = some (.int .i8 2) := (za G5 0).trans rfl
    have a51 : W2.cell? ⟨w.heap.size + 1, 1, none⟩ = some (.int .i8 2) := (za G5 1).trans rfl
    have a52 : W2.cell? ⟨w.heap.size + 1, 2, none⟩ = some (.int .i8 0) := (za G5 2).trans rfl
    have GA := zf.mk (And.intro G0 (And.intro G4 (And.intro G5 (And.intro G6 (And.intro GB GZ)))))
    clear G0 G4 G5 G6 GB GZ HA
    go_upto_region 7 with (fail)
    generalize hW3 : World.alloc _ _ = W3
    rw [GA.out.2.2.2.2.2]
    have K0 : W3.heap[g0]? = some (.cells #[.slice A l.length c0, .int .i16 s0, .int .i16 s1, .int .i16 s2, .int .i16 s3, .bool true] 29 (0, 0)) := by rw [← hW3]; exact zg GA.out.1 _
    have K4 : W3.heap[w.heap.size]? = some (.cells #[.int .i16 w0, .int .i16 w1, .int .i16 w2, .int .i16 w3] 27 (0, 0)) := by rw [← hW3]; exact zg GA.out.2.1 _
    have K5 : W3.heap[w.heap.size + 1]? = some (.cells #[.int .i8 2, .int .i8 2, .int .i8 0] 80 (0, 0)) := by rw [← hW3]; exact zg GA.out.2.2.1 _
    have K6 : W3.heap[w.heap.size + 1 + 1]? = some (.cells #[.int .i16 0, .int .i16 0, .int .i16 0, .int .i16 0] 27 (0, 0)) := by rw [← hW3]; exact zg GA.out.2.2.2.1 _
    have K9 : W3.heap[w.heap.size + 1 + 1 + 1]? = some (.cells #[.int .i16 w0, .int .i16 w1, .int .i16 w2, .int .i16 w3] 27 (0, 0)) := by rw [← hW3, ← GA.out.2.2.2.2.2]; exact heap_alloc_new _ _
    have KB : Below w.heap.size w W3 := by rw [← hW3]; exact zh GA.out.2.2.2.2.1 _
    clear hW3 a40 a41 a42 a43 a50 a51 a52
    have a00 : W3.cell? ⟨g0, 0, none⟩ = some (.slice A l.length c0) := (za K0 0).trans rfl
    have a40 : W3.cell? ⟨w.heap.size, 0, none⟩ = some (.int .i16 w0) := (za K4 0).trans rfl
    have a41 : W3.cell? ⟨w.heap.size, 1, none⟩ = some (.int .i16 w1) := (za K4 1).trans rfl
    have a42 : W3.cell? ⟨w.heap.size, 2, none⟩ = some (.int .i16 w2) := (za K4 2).trans rfl
    have a43 : W3.cell? ⟨w.heap.size, 3, none⟩ = some (.int .i16 w3) := (za K4 3).trans rfl
    have a50 : W3.cell? ⟨w.heap.size + 1, 0, none⟩ = some (.int .i8 2) := (za K5 0).trans rfl
    have a51 : W3.cell? ⟨w.heap.size + 1, 1, none⟩ = some (.int .i8 2) := (za K5 1).trans rfl
    have a52 : W3.cell? ⟨w.heap.size + 1, 2, none⟩ = some (.int .i8 0) := (za K5 2).trans rfl
    have a60 : W3.cell? ⟨w.heap.size + 1 + 1, 0, none⟩ = some (.int .i16 0) := (za K6 0).trans rfl
    have f60 := zb K6 0
    have a61 : W3.cell? ⟨w.heap.size + 1 + 1, 1, none⟩ = some (.int .i16 0) := (za K6 1).trans rfl
    have f61 := zb K6 1
    have a62 : W3.cell? ⟨w.heap.size + 1 + 1, 2, none⟩ = some (.int .i16 0) := (za K6 2).trans rfl
    have f62 := zb K6 2
    have a63 : W3.cell? ⟨w.heap.size + 1 + 1, 3, none⟩ = some (.int .i16 0) := (za K6 3).trans rfl
    have f63 := zb K6 3
    have a90 : W3.cell? ⟨w.heap.size + 1 + 1 + 1, 0, none⟩ = some (.int .i16 w0) := (za K9 0).trans rfl
    have f90 := zb K9 0
    have a91 : W3.cell? ⟨w.heap.size + 1 + 1 + 1, 1, none⟩ = some (.int .i16 w1) := (za K9 1).trans rfl
    have f91 := zb K9 1
    have a92 : W3.cell? ⟨w.heap.size + 1 + 1 + 1, 2, none⟩ = some (.int .i16 w2) := (za K9 2).trans rfl
    have f92 := zb K9 2
    have a93 : W3.cell? ⟨w.heap.size + 1 + 1 + 1, 3, none⟩ = some (.int .i16 w3) := (za K9 3).trans rfl
    have f93 := zb K9 3
    have KA := zf.mk (And.intro K6 (And.intro KB K4))
    clear K0 K4 K5 K6 K9 KB GA
    go_wp2
    all_goals
      rename_i h
      have L6 := KA.out.1
      have LB := KA.out.2.1
      refine bodyPost_ret (zu rfl _ _ (w.heap.size + 1 + 1) 27 _ (0, 0) _ rfl (after_onef L6 (ne23 _) _ _ _ _ _ _) Try.underlying27 rfl (size27 _ _ _ _)) rfl ?_
      refine ⟨ends5 ?_, by with_reducible repeat (first | refine zj ?_ (le3 _) | refine zj ?_ (le2 _) | apply zk | exact LB)⟩
      first | exact stR_diff (x := st4 w0 w1 w2 w3 2 0) rfl (by simp [h]) | exact stR_same (x := st4 w0 w1 w2 w3 2 0) rfl (by simp [h])
  · go_enter Try.func76, Try.ntmps76
    go_upto_region 1 with (fail)
    generalize hW1 : World.alloc _ _ = W1
    have H4 : W1.heap[w.heap.size]? = some (.cells #[.int .i16 w0, .int .i16 w1, .int .i16 w2, .int .i16 w3] 27 (0, 0)) := by rw [← hW1]; exact thr4 _ _ _ _
    have H5 : W1.heap[w.heap.size + 1]? = some (.cells #[.int .i8 2, .int .i8 3, .int .i8 0] 80 (0, 0)) := by rw [← hW1]; exact thr5 _ _ _ _
    have H6 : W1.heap[w.heap.size + 1 + 1]? = some (.cells #[.int .i16 0, .int .i16 0, .int .i16 0, .int .i16 0] 27 (0, 0)) := by rw [← hW1]; exact thr6 _ _ _ _
    have HB : Below w.heap.size w W1 := by rw [← hW1]; exact below_thr _ _ _ _
    have HZ : W1.heap.size = w.heap.size + 1 + 1 + 1 := by rw [← hW1]; exact thr_size _ _ _ _
    clear hW1
    have H0 := zl hb0 HB
    have a00 : W1.cell? ⟨g0, 0, none⟩ = some (.slice A l.length c0) := (za H0 0).trans rfl
    have a05 : W1.cell? ⟨g0, 5, none⟩ = some (.bool true) := (za H0 5).trans rfl
    have a40 : W1.cell? ⟨w.heap.size, 0, none⟩ = some (.int .i16 w0) := (za H4 0).trans rfl
    have a41 : W1.cell? ⟨w.heap.size, 1, none⟩ = some (.int .i16 w1) := (za H4 1).trans rfl
    have a42 : W1.cell? ⟨w.heap.size, 2, none⟩ = some (.int .i16 w2) := (za H4 2).trans rfl
    have a43 : W1.cell? ⟨w.heap.size, 3, none⟩ = some (.int .i16 w3) := (za H4 3).trans rfl
    have a50 : W1.cell? ⟨w.heap.size + 1, 0, none⟩ = some (.int .i8 2) := (za H5 0).trans rfl
    have a51 : W1.cell? ⟨w.heap.size + 1, 1, none⟩ = some (.int .i8 3) := (za H5 1).trans rfl
    have a52 : W1.cell? ⟨w.heap.size + 1, 2, none⟩ = some (.int .i8 0) := (za H5 2).trans rfl
    have a60 : W1.cell? ⟨w.heap.size + 1 + 1, 0, none⟩ = some (.int .i16 0) := (za H6 0).trans rfl
    have f60 := zb H6 0
    have a61 : W1.cell? ⟨w.heap.size + 1 + 1, 1, none⟩ = some (.int .i16 0) := (za H6 1).trans rfl
    have f61 := zb H6 1
    have a62 : W1.cell? ⟨w.heap.size + 1 + 1, 2, none⟩ = some (.int .i16 0) := (za H6 2).trans rfl
    have f62 := zb H6 2
    have a63 : W1.cell? ⟨w.heap.size + 1 + 1, 3, none⟩ = some (.int .i16 0) := (za H6 3).trans rfl
    have f63 := zb H6 3
    have HA := zf.mk (And.intro H0 (And.intro H4 (And.intro H5 (And.intro H6 (And.intro HB HZ)))))
    clear H0 H4 H5 H6 HB HZ hb0 hr0
    go_upto_region 6 with (first
      | (go_at_call 103
         (with_reducible refine (spec_l00In.calls _ _ _ true _ ?hh).mono ?_)
         (case hh => first | exact HI1.out | exact HI2.out | exact in_true (by decide) (by decide))
         rintro e w' ⟨rfl, ⟨nd, rfl⟩⟩)
      | go_in)
    generalize hW2 : World.drewN _ _ = W2
    have G0 : W2.heap[g0]? = some (.cells #[.slice A l.length c0, .int .i16 s0, .int .i16 s1, .int .i16 s2, .int .i16 s3, .bool true] 29 (0, 0)) := by rw [← hW2]; exact ze HA.out.1 _
    have G4 : W2.heap[w.heap.size]? = some (.cells #[.int .i16 w0, .int .i16 w1, .int .i16 w2, .int .i16 w3] 27 (0, 0)) := by rw [← hW2]; exact ze HA.out.2.1 _
    have G5 : W2.heap[w.heap.size + 1]? = some (.cells #[.int .i8 2, .int .i8 3, .int .i8 0] 80 (0, 0)) := by rw [← hW2]; exact ze HA.out.2.2.1 _
    have G6 : W2.heap[w.heap.size + 1 + 1]? = some (.cells #[.int .i16 0, .int .i16 0, .int .i16 0, .int .i16 0] 27 (0, 0)) := by rw [← hW2]; exact ze HA.out.2.2.2.1 _
    have GB : Below w.heap.size w W2 := by rw [← hW2]; exact zc HA.out.2.2.2.2.1 _
    have GZ : W2.heap.size = w.heap.size + 1 + 1 + 1 := by rw [← hW2]; exact HA.out.2.2.2.2.2
    clear hW2 a00 a05 a40 a41 a42 a43 a50 a51 a52 a60 a61 a62 a63 f60 f61 f62 f63
    have a40 : W2.cell? ⟨w.heap.size, 0, none⟩ = some (.int .i16 w0) := (za G4 0).trans rfl
    have a41 : W2.cell? ⟨w.heap.size, 1, none⟩ = some (.int .i16 w1) := (za G4 1).trans rfl
    have a42 : W2.cell? ⟨w.heap.size, 2, none⟩ = some (.int .i16 w2) := (za G4 2).trans rfl
    have a43 : W2.cell? ⟨w.heap.size, 3, none⟩ = some (.int .i16 w3) := (za G4 3).trans rfl
    have a50 : W2.cell? ⟨w.heap.size + 1, 0, none⟩ = some (.int .i8 2) := (za G5 0).trans rfl
    have a51 : W2.cell? ⟨w.heap.size + 1, 1, none⟩ = some (.int .i8 3) := (za G5 1).trans rfl
    have a52 : W2.cell? ⟨w.heap.size + 1, 2, none⟩ = some (.int .i8 0) := (za G5 2).trans rfl
    have GA := zf.mk (And.intro G0 (And.intro G4 (And.intro G5 (And.intro G6 (And.intro GB GZ)))))
    clear G0 G4 G5 G6 GB GZ HA
    go_upto_region 7 with (fail)
    generalize hW3 : World.alloc _ _ = W3
    rw [GA.out.2.2.2.2.2]
    have K0 : W3.heap[g0]? = some (.cells #[.slice A l.length c0, .int .i16 s0, .int .i16 s1, .int .i16 s2, .int .i16 s3, .bool true] 29 (0, 0)) := by rw [← hW3]; exact zg GA.out.1 _
    have K4 : W3.heap[w.heap.size]? = some (.cells #[.int .i16 w0, .int .i16 w1, .int .i16 w2, .int .i16 w3] 27 (0, 0)) := by rw [← hW3]; exact zg GA.out.2.1 _
    have K5 : W3.heap[w.heap.size + 1]? = some (.cells #[.int .i8 2, .int .i8 3, .int .i8 0] 80 (0, 0)) := by rw [← hW3]; exact zg GA.out.2.2.1 _
    have K6 : W3.heap[w.heap.size + 1 + 1]? = some (.cells #[.int .i16 0, .int .i16 0, .int .i16 0, .int .i16 0] 27 (0, 0)) := by rw [← hW3]; exact zg GA.out.2.2.2.1 _
    have K9 : W3.heap[w.heap.size + 1 + 1 + 1]? = some (.cells #[.int .i16 w0, .int .i16 w1, .int .i16 w2, .int .i16 w3] 27 (0, 0)) := by rw [← hW3, ← GA.out.2.2.2.2.2]; exact heap_alloc_new _ _
    have KB : Below w.heap.size w W3 := by rw [← hW3]; exact zh GA.out.2.2.2.2.1 _
    clear hW3 a40 a41 a42 a43 a50 a51 a52
    have a00 : W3.cell? ⟨g0, 0, none⟩ = some (.slice A l.length c0) := (za K0 0).trans rfl
    have a40 : W3.cell? ⟨w.heap.size, 0, none⟩ = some (.int .i16 w0) := (za K4 0).trans rfl
    have a41 : W3.cell? ⟨w.heap.size, 1, none⟩ = some (.int .i16 w1) := (za K4 1).trans rfl
    have a42 : W3.cell? ⟨w.heap.size, 2, none⟩ = some (.int .i16 w2) := (za K4 2).trans rfl
    have a43 : W3.cell? ⟨w.heap.size, 3, none⟩ = some (.int .i16 w3) := (za K4 3).trans rfl
    have a50 : W3.cell? ⟨w.heap.size + 1, 0, none⟩ = some (.int .i8 2) := (za K5 0).trans rfl
    have a51 : W3.cell? ⟨w.heap.size + 1, 1, none⟩ = some (.int .i8 3) := (za K5 1).trans rfl
    have a52 : W3.cell? ⟨w.heap.size + 1, 2, none⟩ = some (.int .i8 0) := (za K5 2).trans rfl
    have a60 : W3.cell? ⟨w.heap.size + 1 + 1, 0, none⟩ = some (.int .i16 0) := (za K6 0).trans rfl
    have f60 := zb K6 0
    have a61 : W3.cell? ⟨w.heap.size + 1 + 1, 1, none⟩ = some (.int .i16 0) := (za K6 1).trans rfl
    have f61 := zb K6 1
    have a62 : W3.cell? ⟨w.heap.size + 1 + 1, 2, none⟩ = some (.int .i16 0) := (za K6 2).trans rfl
    have f62 := zb K6 2
    have a63 : W3.cell? ⟨w.heap.size + 1 + 1, 3, none⟩ = some (.int .i16 0) := (za K6 3).trans rfl
    have f63 := zb K6 3
    have a90 : W3.cell? ⟨w.heap.size + 1 + 1 + 1, 0, none⟩ = some (.int .i16 w0) := (za K9 0).trans rfl
    have f90 := zb K9 0
    have a91 : W3.cell? ⟨w.heap.size + 1 + 1 + 1, 1, none⟩ = some (.int .i16 w1) := (za K9 1).trans rfl
    have f91 := zb K9 1
    have a92 : W3.cell? ⟨w.heap.size + 1 + 1 + 1, 2, none⟩ = some (.int .i16 w2) := (za K9 2).trans rfl
    have f92 := zb K9 2
    have a93 : W3.cell? ⟨w.heap.size + 1 + 1 + 1, 3, none⟩ = some (.int .i16 w3) := (za K9 3).trans rfl
    have f93 := zb K9 3
    have KA := zf.mk (And.intro K6 (And.intro KB K4))
    clear K0 K4 K5 K6 K9 KB GA
    go_wp2
    all_goals
      rename_i h
      have L6 := KA.out.1
      have LB := KA.out.2.1
      refine bodyPost_ret (zu rfl _ _ (w.heap.size + 1 + 1) 27 _ (0, 0) _ rfl (after_onef L6 (ne23 _) _ _ _ _ _ _) Try.underlying27 rfl (size27 _ _ _ _)) rfl ?_
      refine ⟨ends5 ?_, by with_reducible repeat (first | refine zj ?_ (le3 _) | refine zj ?_ (le2 _) | apply zk | exact LB)⟩
      first | exact stR_diff (x := st4 w0 w1 w2 w3 3 0) rfl (by simp [h]) | exact stR_same (x := st4 w0 w1 w2 w3 3 0) rfl (by simp [h])
/-- What l02Move returns of a move of l02All. -/
def stepV (l : List Int) (tap : Bool) (a b c d kind fr tt : Int) : Int × Int × Int × Int × Int :=
  if kind = 0 then (if fr = tt then (0, 0, 0, 0, 4) else stR (mvP l a b c d fr tt) a b c d)
  else if tap then (if kind = 1 then stR (st4 a b c d fr (rd l fr)) a b c d else stR (st4 a b c d fr 0) a b c d)
  else (0, 0, 0, 0, 4)
def isMv (n : Nat) (kind fr tt : Int) : Prop := (0 ≤ fr ∧ fr < n) ∧ (0 ≤ tt ∧ tt < n) ∧ (kind = 0 ∨ (kind = 1 ∨ kind = 2) ∧ tt = 0)
def isW (a b c d : Int) : Prop := (0 ≤ a ∧ a < 32768) ∧ (0 ≤ b ∧ b < 32768) ∧ (0 ≤ c ∧ c < 32768) ∧ (0 ≤ d ∧ d < 32768)
theorem step_calls (g0 : Nat) (A : Option Addr) (c0 : Nat) (l : List Int) (s0 s1 s2 s3 : Int) (tap : Bool) (w0 w1 w2 w3 kind fr tt : Int) (w : World) (hb0 : w.heap[g0]? = some (.cells #[.slice A l.length c0, .int .i16 s0, .int .i16 s1, .int .i16 s2, .int .i16 s3, .bool tap] 29 (0, 0))) (hr0 : Kd.C (Kd.int .i16) w A l.length l) (hc0 : l.length ≤ c0) (hL : l.length ≤ 4) (hm : isMv l.length kind fr tt) (hw : isW w0 w1 w2 w3) :
    Calls Try.prog 76 #[.pointer (some ⟨g0, 0, none⟩), .agg #[.int .i16 w0, .int .i16 w1, .int .i16 w2, .int .i16 w3], .agg #[.int .i8 kind, .int .i8 fr, .int .i8 tt]] w
      fun e w' => e = .returned (.tuple #[.agg #[.int .i16 (stepV l tap w0 w1 w2 w3 kind fr tt).1, .int .i16 (stepV l tap w0 w1 w2 w3 kind fr tt).2.1, .int .i16 (stepV l tap w0 w1 w2 w3 kind fr tt).2.2.1, .int .i16 (stepV l tap w0 w1 w2 w3 kind fr tt).2.2.2.1], .int .i64 (stepV l tap w0 w1 w2 w3 kind fr tt).2.2.2.2]) ∧ Below w.heap.size w w' := by
  obtain ⟨⟨f0, f1⟩, ⟨t0, t1⟩, hk⟩ := hm
  obtain ⟨hw0, hw1, hw2, hw3⟩ := hw
  have f4 : fr < 4 := by omega
  have t4 : tt < 4 := by omega
  rcases hk with rfl | ⟨hk, rfl⟩
  · by_cases he : fr = tt
    · subst he
      have e : stepV l tap w0 w1 w2 w3 0 fr fr = (0, 0, 0, 0, 4) := by unfold stepV; rw [if_pos rfl, if_pos rfl]
      rw [e]
      exact step_self g0 A c0 l s0 s1 s2 s3 tap w0 w1 w2 w3 fr w hb0 hr0 hc0 ⟨f0, f4⟩ f1 hL
    · have e : stepV l tap w0 w1 w2 w3 0 fr tt = stR (mvP l w0 w1 w2 w3 fr tt) w0 w1 w2 w3 := by unfold stepV; rw [if_pos rfl, if_neg he]
      rw [e]
      exact step_pour g0 A c0 l s0 s1 s2 s3 tap w0 w1 w2 w3 fr tt w hb0 hr0 hc0 ⟨f0, f4⟩ ⟨t0, t4⟩ f1 t1 hL he hw0 hw1 hw2 hw3
  · cases tap
    · have e : stepV l false w0 w1 w2 w3 kind fr 0 = (0, 0, 0, 0, 4) := by unfold stepV; rw [if_neg (by omega), if_neg (by decide)]
      rw [e]
      rcases hk with rfl | rfl
      · exact step_dry1 g0 A c0 l s0 s1 s2 s3 w0 w1 w2 w3 fr w hb0 hr0 hc0 ⟨f0, f4⟩ f1 hL
      · exact step_dry2 g0 A c0 l s0 s1 s2 s3 w0 w1 w2 w3 fr w hb0 hr0 hc0 ⟨f0, f4⟩ f1 hL
    · rcases hk with rfl | rfl
      · have e : stepV l true w0 w1 w2 w3 1 fr 0 = stR (st4 w0 w1 w2 w3 fr (rd l fr)) w0 w1 w2 w3 := by unfold stepV; rw [if_neg (by omega), if_pos rfl, if_pos rfl]
        rw [e]
        exact step_fill g0 A c0 l s0 s1 s2 s3 w0 w1 w2 w3 fr w hb0 hr0 hc0 ⟨f0, f4⟩ f1 hL
      · have e : stepV l true w0 w1 w2 w3 2 fr 0 = stR (st4 w0 w1 w2 w3 fr 0) w0 w1 w2 w3 := by unfold stepV; rw [if_neg (by omega), if_pos rfl, if_neg (by omega)]
        rw [e]
        exact step_empty g0 A c0 l s0 s1 s2 s3 w0 w1 w2 w3 fr w hb0 hr0 hc0 ⟨f0, f4⟩ f1 hL
end Go.Proofs.Yteciomagemjjaaa.J
