/- The program's moved: pouring. -/
import Derived.Test.YteciomagemjjaaaLMovJ
namespace Go.Proofs.Yteciomagemjjaaa.J
open Go.RowKit Go.Proofs.YteciomagemjjaaaW.PrintWords Go.Proofs.YteciomagemjjaaaW.PrintLast Go.Proofs.YteciomagemjjaaaW.PrintMore
attribute [local go_sem] zna zpa zua zva zia zja zqa zoa   -- for this text's walks alone
attribute [local go_sem high] eqA27
set_option linter.unusedVariables false
set_option linter.unusedSimpArgs false
section
variable (w : World) (o3 o4 o5 o6 o8 : Obj)
theorem zgb : (((((w.alloc o3).alloc o4).alloc o5).alloc o6).alloc o8).heap[w.heap.size + 1 + 1 + 1]? = some o6 := zpd w o3 o4 o5 o6 o8
theorem zhb : (((((w.alloc o3).alloc o4).alloc o5).alloc o6).alloc o8).heap[w.heap.size + 1 + 1]? = some o5 := by
  have e : (((w.alloc o3).alloc o4).heap.size) = w.heap.size + 1 + 1 := by simp
  rw [← e]
  exact zc (zc (heap_alloc_new _ _) _) _
theorem zjb : (((((w.alloc o3).alloc o4).alloc o5).alloc o6).alloc o8).heap[w.heap.size + 1 + 1 + 1 + 1]? = some o8 := by
  have e : (((((w.alloc o3).alloc o4).alloc o5).alloc o6).heap.size) = w.heap.size + 1 + 1 + 1 + 1 := by simp
  rw [← e]
  exact heap_alloc_new _ _
theorem zta : Below w.heap.size w (((((w.alloc o3).alloc o4).alloc o5).alloc o6).alloc o8) := by repeat (first | exact Below.refl _ _ | apply zw)
end
theorem le3 (n : Nat) : n ≤ n + 1 + 1 + 1 := by omega
theorem le4 (n : Nat) : n ≤ n + 1 + 1 + 1 + 1 := by omega
theorem zeb (a b c d : Value) : (Try.prog.info? 27).map (·.size) = some (#[a, b, c, d] : Array Value).size := by kernel_rfl
theorem ne34 (n : Nat) : n + 1 + 1 + 1 ≠ n + 1 + 1 + 1 + 1 := by omega
theorem zla {W1 : World} {g6 g8 : Nat} {z : Value} (H6 : W1.heap[g6]? = some (.cells #[z, z, z, z] 27 (0, 0))) (hne : g6 ≠ g8) (i j : Nat) (u v x0 x1 x2 x3 : Value) :
    ((((((W1.setCell ⟨g8, i, none⟩ u).setCell ⟨g8, j, none⟩ v).setCell ⟨g6, 0, none⟩ x0).setCell ⟨g6, 1, none⟩ x1).setCell ⟨g6, 2, none⟩ x2).setCell ⟨g6, 3, none⟩ x3).heap[g6]? = some (.cells #[x0, x1, x2, x3] 27 (0, 0)) :=
  zx (zx (zx (zx (zm (zm H6 hne _) hne _) 0 _ rfl) 1 _ rfl) 2 _ rfl) 3 _ rfl
set_option maxHeartbeats 8000000 in
set_option maxRecDepth 100000 in
theorem moved_pour (A : Option Addr) (c0 : Nat) (l : List Int) (s0 s1 s2 s3 : Int) (tap : Bool) (w0 w1 w2 w3 fr tt : Int) (w : World) (hr0 : Kd.C (Kd.int .i16) w A l.length l) (hc0 : l.length ≤ c0) (hf : 0 ≤ fr ∧ fr < 4) (ht : 0 ≤ tt ∧ tt < 4) (hl : tt < l.length) :
    Calls Try.prog 92 #[.agg #[.slice A l.length c0, .int .i16 s0, .int .i16 s1, .int .i16 s2, .int .i16 s3, .bool tap], .agg #[.int .i16 w0, .int .i16 w1, .int .i16 w2, .int .i16 w3], .agg #[.int .i8 0, .int .i8 fr, .int .i8 tt]] w
      fun e w' => e = .returned (.tuple #[.agg #[.int .i16 (mvP l w0 w1 w2 w3 fr tt).1, .int .i16 (mvP l w0 w1 w2 w3 fr tt).2.1, .int .i16 (mvP l w0 w1 w2 w3 fr tt).2.2.1, .int .i16 (mvP l w0 w1 w2 w3 fr tt).2.2.2], .bool (decide (fr ≠ tt) && decide (much l w0 w1 w2 w3 fr tt > 0))]) ∧ Below w.heap.size w w' := by
  have hu29 := Try.underlying29
  have hu27 := Try.underlying27
  have hu80 := Try.underlying80
  obtain ⟨ad, eA, hx⟩ := Kd.at_int hr0 tt ht.1 hl
  cases eA
  have hlt := World.block_lt_of_cell? w _ hx
  obtain ⟨jf, hjf⟩ : ∃ x, x = rd l tt := ⟨_, rfl⟩
  have HJ := za.mk hjf
  rw [← hjf] at hx
  clear hjf
  have hxA := fun o3 o4 o5 o6 o8 => five_cell hx o3 o4 o5 o6 o8
  have hxB := fun o3 o4 o5 o6 o8 => zsd hx o3 o4 o5 o6 o8
  have hln : tt.toNat < l.length := by omega
  clear hx hlt
  rcases (show fr = 0 ∨ fr = 1 ∨ fr = 2 ∨ fr = 3 by omega) with rfl | rfl | rfl | rfl <;> rcases (show tt = 0 ∨ tt = 1 ∨ tt = 2 ∨ tt = 3 by omega) with rfl | rfl | rfl | rfl
  · simp [Addr.add] at hxA hxB
    simp only [Int.reduceToNat] at hln
    go_enter Try.func92, Try.ntmps92
    go_wp2
    go_quiet (fail)
    generalize hW1 : World.drewN _ _ = W1
    have H5 : W1.heap[w.heap.size + 1 + 1]? = some (.cells #[.int .i8 0, .int .i8 0, .int .i8 0] 80 (0, 0)) := by rw [← hW1]; exact zhb _ _ _ _ _ _
    have H6 : W1.heap[w.heap.size + 1 + 1 + 1]? = some (.cells #[.int .i16 0, .int .i16 0, .int .i16 0, .int .i16 0] 27 (0, 0)) := by rw [← hW1]; exact zgb _ _ _ _ _ _
    have H8 : W1.heap[w.heap.size + 1 + 1 + 1 + 1]? = some (.cells #[.int .i16 w0, .int .i16 w1, .int .i16 w2, .int .i16 w3] 27 (0, 0)) := by rw [← hW1]; exact zjb _ _ _ _ _ _
    have HB1 : Below w.heap.size w W1 := by rw [← hW1]; exact zo (zta _ _ _ _ _ _) _
    clear hW1 hxA hxB
    have a50 : W1.cell? ⟨w.heap.size + 1 + 1, 0, none⟩ = some (.int .i8 0) := (zb H5 0).trans rfl
    have a51 : W1.cell? ⟨w.heap.size + 1 + 1, 1, none⟩ = some (.int .i8 0) := (zb H5 1).trans rfl
    have a52 : W1.cell? ⟨w.heap.size + 1 + 1, 2, none⟩ = some (.int .i8 0) := (zb H5 2).trans rfl
    have a60 : W1.cell? ⟨w.heap.size + 1 + 1 + 1, 0, none⟩ = some (.int .i16 0) := (zb H6 0).trans rfl
    have f60 := zg H6 0
    have a61 : W1.cell? ⟨w.heap.size + 1 + 1 + 1, 1, none⟩ = some (.int .i16 0) := (zb H6 1).trans rfl
    have f61 := zg H6 1
    have a62 : W1.cell? ⟨w.heap.size + 1 + 1 + 1, 2, none⟩ = some (.int .i16 0) := (zb H6 2).trans rfl
    have f62 := zg H6 2
    have a63 : W1.cell? ⟨w.heap.size + 1 + 1 + 1, 3, none⟩ = some (.int .i16 0) := (zb H6 3).trans rfl
    have f63 := zg H6 3
    have a80 : W1.cell? ⟨w.heap.size + 1 + 1 + 1 + 1, 0, none⟩ = some (.int .i16 w0) := (zb H8 0).trans rfl
    have f80 := zg H8 0
    have a81 : W1.cell? ⟨w.heap.size + 1 + 1 + 1 + 1, 1, none⟩ = some (.int .i16 w1) := (zb H8 1).trans rfl
    have f81 := zg H8 1
    have a82 : W1.cell? ⟨w.heap.size + 1 + 1 + 1 + 1, 2, none⟩ = some (.int .i16 w2) := (zb H8 2).trans rfl
    have f82 := zg H8 2
    have a83 : W1.cell? ⟨w.heap.size + 1 + 1 + 1 + 1, 3, none⟩ = some (.int .i16 w3) := (zb H8 3).trans rfl
    have f83 := zg H8 3
    have HA := za.mk (And.intro H6 HB1)
    clear H5 H6 H8 HB1
    go_wp2
    all_goals
      have H6 := HA.out.1
      have HB1 := HA.out.2
      refine bodyPost_ret (zha rfl _ _ (w.heap.size + 1 + 1 + 1) 27 _ (0, 0) _ rfl (zla H6 (ne34 _) _ _ _ _ _ _ _ _) Try.underlying27 rfl (zeb _ _ _ _)) rfl ?_
      refine ⟨?_, by with_reducible repeat (first | refine zt ?_ (le4 _) | refine zt ?_ (le3 _) | exact HB1)⟩
      have hj := HJ.out
      subst hj
      rename_i h
      clear HJ
      first
        | (have hm : much l w0 w1 w2 w3 0 0 = _ := Int.min_eq_left h
           simp [mvP, hm, st4, rd4, rd])
        | (have hm : much l w0 w1 w2 w3 0 0 = _ := Int.min_eq_right (Int.le_of_lt h)
           simp [mvP, hm, st4, rd4, rd])
  · simp [Addr.add] at hxA hxB
    simp only [Int.reduceToNat] at hln
    go_enter Try.func92, Try.ntmps92
    go_wp2
    go_quiet (fail)
    generalize hW1 : World.drewN _ _ = W1
    have H5 : W1.heap[w.heap.size + 1 + 1]? = some (.cells #[.int .i8 0, .int .i8 0, .int .i8 1] 80 (0, 0)) := by rw [← hW1]; exact zhb _ _ _ _ _ _
    have H6 : W1.heap[w.heap.size + 1 + 1 + 1]? = some (.cells #[.int .i16 0, .int .i16 0, .int .i16 0, .int .i16 0] 27 (0, 0)) := by rw [← hW1]; exact zgb _ _ _ _ _ _
    have H8 : W1.heap[w.heap.size + 1 + 1 + 1 + 1]? = some (.cells #[.int .i16 w0, .int .i16 w1, .int .i16 w2, .int .i16 w3] 27 (0, 0)) := by rw [← hW1]; exact zjb _ _ _ _ _ _
    have HB1 : Below w.heap.size w W1 := by rw [← hW1]; exact zo (zta _ _ _ _ _ _) _
    clear hW1 hxA hxB
    have a50 : W1.cell? ⟨w.heap.size + 1 + 1, 0, none⟩ = some (.int .i8 0) := (zb H5 0).trans rfl
    have a51 : W1.cell? ⟨w.heap.size + 1 + 1, 1, none⟩ = some (.int .i8 0) := (zb H5 1).trans rfl
    have a52 : W1.cell? ⟨w.heap.size + 1 + 1, 2, none⟩ = some (.int .i8 1) := (zb H5 2).trans rfl
    have a60 : W1.cell? ⟨w.heap.size + 1 + 1 + 1, 0, none⟩ = some (.int .i16 0) := (zb H6 0).trans rfl
    have f60 := zg H6 0
    have a61 : W1.cell? ⟨w.heap.size + 1 + 1 + 1, 1, none⟩ = some (.int .i16 0) := (zb H6 1).trans rfl
    have f61 := zg H6 1
    have a62 : W1.cell? ⟨w.heap.size + 1 + 1 + 1, 2, none⟩ = some (.int .i16 0) := (zb H6 2).trans rfl
    have f62 := zg H6 2
    have a63 : W1.cell? ⟨w.heap.size + 1 + 1 + 1, 3, none⟩ = some (.int .i16 0) := (zb H6 3).trans rfl
    have f63 := zg H6 3
    have a80 : W1.cell? ⟨w.heap.size + 1 + 1 + 1 + 1, 0, none⟩ = some (.int .i16 w0) := (zb H8 0).trans rfl
    have f80 := zg H8 0
    have a81 : W1.cell? ⟨w.heap.size + 1 + 1 + 1 + 1, 1, none⟩ = some (.int .i16 w1) := (zb H8 1).trans rfl
    have f81 := zg H8 1
    have a82 : W1.cell? ⟨w.heap.size + 1 + 1 + 1 + 1, 2, none⟩ = some (.int .i16 w2) := (zb H8 2).trans rfl
    have f82 := zg H8 2
    have a83 : W1.cell? ⟨w.heap.size + 1 + 1 + 1 + 1, 3, none⟩ = some (.int .i16 w3) := (zb H8 3).trans rfl
    have f83 := zg H8 3
    have HA := za.mk (And.intro H6 HB1)
    clear H5 H6 H8 HB1
    go_wp2
    all_goals
      have H6 := HA.out.1
      have HB1 := HA.out.2
      refine bodyPost_ret (zha rfl _ _ (w.heap.size + 1 + 1 + 1) 27 _ (0, 0) _ rfl (zla H6 (ne34 _) _ _ _ _ _ _ _ _) Try.underlying27 rfl (zeb _ _ _ _)) rfl ?_
      refine ⟨?_, by with_reducible repeat (first | refine zt ?_ (le4 _) | refine zt ?_ (le3 _) | exact HB1)⟩
      have hj := HJ.out
      subst hj
      rename_i h
      clear HJ
      first
        | (have hm : much l w0 w1 w2 w3 0 1 = _ := Int.min_eq_left h
           simp [mvP, hm, st4, rd4, rd])
        | (have hm : much l w0 w1 w2 w3 0 1 = _ := Int.min_eq_right (Int.le_of_lt h)
           simp [mvP, hm, st4, rd4, rd])
  · simp [Addr.add] at hxA hxB
    simp only [Int.reduceToNat] at hln
    go_enter Try.func92, Try.ntmps92
    go_wp2
    go_quiet (fail)
    generalize hW1 : World.drewN _ _ = W1
    have H5 : W1.heap[w.heap.size + 1 + 1]? = some (.cells #[.int .i8 0, .int .i8 0, .int .i8 2] 80 (0, 0)) := by rw [← hW1]; exact zhb _ _ _ _ _ _
    have H6 : W1.heap[w.heap.size + 1 + 1 + 1]? = some (.cells #[.int .i16 0, .int .i16 0, .int .i16 0, .int .i16 0] 27 (0, 0)) := by rw [← hW1]; exact zgb _ _ _ _ _ _
    have H8 : W1.heap[w.heap.size + 1 + 1 + 1 + 1]? = some (.cells #[.int .i16 w0, .int .i16 w1, .int .i16 w2, .int .i16 w3] 27 (0, 0)) := by rw [← hW1]; exact zjb _ _ _ _ _ _
    have HB1 : Below w.heap.size w W1 := by rw [← hW1]; exact zo (zta _ _ _ _ _ _) _
    clear hW1 hxA hxB
    have a50 : W1.cell? ⟨w.heap.size + 1 + 1, 0, none⟩ = some (.int .i8 0) := (zb H5 0).trans rfl
    have a51 : W1.cell? ⟨w.heap.size + 1 + 1, 1, none⟩ = some (.int .i8 0) := (zb H5 1).trans rfl
    have a52 : W1.cell? ⟨w.heap.size + 1 + 1, 2, none⟩ = some (.int .i8 2) := (zb H5 2).trans rfl
    have a60 : W1.cell? ⟨w.heap.size + 1 + 1 + 1, 0, none⟩ = some (.int .i16 0) := (zb H6 0).trans rfl
    have f60 := zg H6 0
    have a61 : W1.cell? ⟨w.heap.size + 1 + 1 + 1, 1, none⟩ = some (.int .i16 0) := (zb H6 1).trans rfl
    have f61 := zg H6 1
    have a62 : W1.cell? ⟨w.heap.size + 1 + 1 + 1, 2, none⟩ = some (.int .i16 0) := (zb H6 2).trans rfl
    have f62 := zg H6 2
    have a63 : W1.cell? ⟨w.heap.size + 1 + 1 + 1, 3, none⟩ = some (.int .i16 0) := (zb H6 3).trans rfl
    have f63 := zg H6 3
    have a80 : W1.cell? ⟨w.heap.size + 1 + 1 + 1 + 1, 0, none⟩ = some (.int .i16 w0) := (zb H8 0).trans rfl
    have f80 := zg H8 0
    have a81 : W1.cell? ⟨w.heap.size + 1 + 1 + 1 + 1, 1, none⟩ = some (.int .i16 w1) := (zb H8 1).trans rfl
    have f81 := zg H8 1
    have a82 : W1.cell? ⟨w.heap.size + 1 + 1 + 1 + 1, 2, none⟩ = some (.int .i16 w2) := (zb H8 2).trans rfl
    have f82 := zg H8 2
    have a83 : W1.cell? ⟨w.heap.size + 1 + 1 + 1 + 1, 3, none⟩ = some (.int .i16 w3) := (zb H8 3).trans rfl
    have f83 := zg H8 3
    have HA := za.mk (And.intro H6 HB1)
    clear H5 H6 H8 HB1
    go_wp2
    all_goals
      have H6 := HA.out.1
      have HB1 := HA.out.2
      refine bodyPost_ret (zha rfl _ _ (w.heap.size + 1 + 1 + 1) 27 _ (0, 0) _ rfl (zla H6 (ne34 _) _ _ _ _ _ _ _ _) Try.underlying27 rfl (zeb _ _ _ _)) rfl ?_
      refine ⟨?_, by with_reducible repeat (first | refine zt ?_ (le4 _) | refine zt ?_ (le3 _) | exact HB1)⟩
      have hj := HJ.out
      subst hj
      rename_i h
      clear HJ
      first
        | (have hm : much l w0 w1 w2 w3 0 2 = _ := Int.min_eq_left h
           simp [mvP, hm, st4, rd4, rd])
        | (have hm : much l w0 w1 w2 w3 0 2 = _ := Int.min_eq_right (Int.le_of_lt h)
           simp [mvP, hm, st4, rd4, rd])
  · simp [Addr.add] at hxA hxB
    simp only [Int.reduceToNat] at hln
    go_enter Try.func92, Try.ntmps92
    go_wp2
    go_quiet (fail)
    generalize hW1 : World.drewN _ _ = W1
    have H5 : W1.heap[w.heap.size + 1 + 1]? = some (.cells #[.int .i8 0, .int .i8 0, .int .i8 3] 80 (0, 0)) := by rw [← hW1]; exact zhb _ _ _ _ _ _
    have H6 : W1.heap[w.heap.size + 1 + 1 + 1]? = some (.cells #[.int .i16 0, .int .i16 0, .int .i16 0, .int .i16 0] 27 (0, 0)) := by rw [← hW1]; exact zgb _ _ _ _ _ _
    have H8 : W1.heap[w.heap.size + 1 + 1 + 1 + 1]? = some (.cells #[.int .i16 w0, .int .i16 w1, .int .i16 w2, .int .i16 w3] 27 (0, 0)) := by rw [← hW1]; exact zjb _ _ _ _ _ _
    have HB1 : Below w.heap.size w W1 := by rw [← hW1]; exact zo (zta _ _ _ _ _ _) _
    clear hW1 hxA hxB
    have a50 : W1.cell? ⟨w.heap.size + 1 + 1, 0, none⟩ = some (.int .i8 0) := (zb H5 0).trans rfl
    have a51 : W1.cell? ⟨w.heap.size + 1 + 1, 1, none⟩ = some (.int .i8 0) := (zb H5 1).trans rfl
    have a52 : W1.cell? ⟨w.heap.size + 1 + 1, 2, none⟩ = some (.int .i8 3) := (zb H5 2).trans rfl
    have a60 : W1.cell? ⟨w.heap.size + 1 + 1 + 1, 0, none⟩ = some (.int .i16 0) := (zb H6 0).trans rfl
    have f60 := zg H6 0
    have a61 : W1.cell? ⟨w.heap.size + 1 + 1 + 1, 1, none⟩ = some (.int .i16 0) := (zb H6 1).trans rfl
    have f61 := zg H6 1
    have a62 : W1.cell? ⟨w.heap.size + 1 + 1 + 1, 2, none⟩ = some (.int .i16 0) := (zb H6 2).trans rfl
    have f62 := zg H6 2
    have a63 : W1.cell? ⟨w.heap.size + 1 + 1 + 1, 3, none⟩ = some (.int .i16 0) := (zb H6 3).trans rfl
    have f63 := zg H6 3
    have a80 : W1.cell? ⟨w.heap.size + 1 + 1 + 1 + 1, 0, none⟩ = some (.int .i16 w0) := (zb H8 0).trans rfl
    have f80 := zg H8 0
    have a81 : W1.cell? ⟨w.heap.size + 1 + 1 + 1 + 1, 1, none⟩ = some (.int .i16 w1) := (zb H8 1).trans rfl
    have f81 := zg H8 1
    have a82 : W1.cell? ⟨w.heap.size + 1 + 1 + 1 + 1, 2, none⟩ = some (.int .i16 w2) := (zb H8 2).trans rfl
    have f82 := zg H8 2
    have a83 : W1.cell? ⟨w.heap.size + 1 + 1 + 1 + 1, 3, none⟩ = some (.int .i16 w3) := (zb H8 3).trans rfl
    have f83 := zg H8 3
    have HA := za.mk (And.intro H6 HB1)
    clear H5 H6 H8 HB1
    go_wp2
    all_goals
      have H6 := HA.out.1
      have HB1 := HA.out.2
      refine bodyPost_ret (zha rfl _ _ (w.heap.size + 1 + 1 + 1) 27 _ (0, 0) _ rfl (zla H6 (ne34 _) _ _ _ _ _ _ _ _) Try.underlying27 rfl (zeb _ _ _ _)) rfl ?_
      refine ⟨?_, by with_reducible repeat (first | refine zt ?_ (le4 _) | refine zt ?_ (le3 _) | exact HB1)⟩
      have hj := HJ.out
      subst hj
      rename_i h
      clear HJ
      first
        | (have hm : much l w0 w1 w2 w3 0 3 = _ := Int.min_eq_left h
           simp [mvP, hm, st4, rd4, rd])
        | (have hm : much l w0 w1 w2 w3 0 3 = _ := Int.min_eq_right (Int.le_of_lt h)
           simp [mvP, hm, st4, rd4, rd])
  · simp [Addr.add] at hxA hxB
    simp only [Int.reduceToNat] at hln
    go_enter Try.func92, Try.ntmps92
    go_wp2
    go_quiet (fail)
    generalize hW1 : World.drewN _ _ = W1
    have H5 : W1.heap[w.heap.size + 1 + 1]? = some (.cells #[.int .i8 0, .int .i8 1, .int .i8 0] 80 (0, 0)) := by rw [← hW1]; exact zhb _ _ _ _ _ _
    have H6 : W1.heap[w.heap.size + 1 + 1 + 1]? = some (.cells #[.int .i16 0, .int .i16 0, .int .i16 0, .int .i16 0] 27 (0, 0)) := by rw [← hW1]; exact zgb _ _ _ _ _ _
    have H8 : W1.heap[w.heap.size + 1 + 1 + 1 + 1]? = some (.cells #[.int .i16 w0, .int .i16 w1, .int .i16 w2, .int .i16 w3] 27 (0, 0)) := by rw [← hW1]; exact zjb _ _ _ _ _ _
    have HB1 : Below w.heap.size w W1 := by rw [← hW1]; exact zo (zta _ _ _ _ _ _) _
    clear hW1 hxA hxB
    have a50 : W1.cell? ⟨w.heap.size + 1 + 1, 0, none⟩ = some (.int .i8 0) := (zb H5 0).trans rfl
    have a51 : W1.cell? ⟨w.heap.size + 1 + 1, 1, none⟩ = some (.int .i8 1) := (zb H5 1).trans rfl
    have a52 : W1.cell? ⟨w.heap.size + 1 + 1, 2, none⟩ = some (.int .i8 0) := (zb H5 2).trans rfl
    have a60 : W1.cell? ⟨w.heap.size + 1 + 1 + 1, 0, none⟩ = some (.int .i16 0) := (zb H6 0).trans rfl
    have f60 := zg H6 0
    have a61 : W1.cell? ⟨w.heap.size + 1 + 1 + 1, 1, none⟩ = some (.int .i16 0) := (zb H6 1).trans rfl
    have f61 := zg H6 1
    have a62 : W1.cell? ⟨w.heap.size + 1 + 1 + 1, 2, none⟩ = some (.int .i16 0) := (zb H6 2).trans rfl
    have f62 := zg H6 2
    have a63 : W1.cell? ⟨w.heap.size + 1 + 1 + 1, 3, none⟩ = some (.int .i16 0) := (zb H6 3).trans rfl
    have f63 := zg H6 3
    have a80 : W1.cell? ⟨w.heap.size + 1 + 1 + 1 + 1, 0, none⟩ = some (.int .i16 w0) := (zb H8 0).trans rfl
    have f80 := zg H8 0
    have a81 : W1.cell? ⟨w.heap.size + 1 + 1 + 1 + 1, 1, none⟩ = some (.int .i16 w1) := (zb H8 1).trans rfl
    have f81 := zg H8 1
    have a82 : W1.cell? ⟨w.heap.size + 1 + 1 + 1 + 1, 2, none⟩ = some (.int .i16 w2) := (zb H8 2).trans rfl
    have f82 := zg H8 2
    have a83 : W1.cell? ⟨w.heap.size + 1 + 1 + 1 + 1, 3, none⟩ = some (.int .i16 w3) := (zb H8 3).trans rfl
    have f83 := zg H8 3
    have HA := za.mk (And.intro H6 HB1)
    clear H5 H6 H8 HB1
    go_wp2
    all_goals
      have H6 := HA.out.1
      have HB1 := HA.out.2
      refine bodyPost_ret (zha rfl _ _ (w.heap.size + 1 + 1 + 1) 27 _ (0, 0) _ rfl (zla H6 (ne34 _) _ _ _ _ _ _ _ _) Try.underlying27 rfl (zeb _ _ _ _)) rfl ?_
      refine ⟨?_, by with_reducible repeat (first | refine zt ?_ (le4 _) | refine zt ?_ (le3 _) | exact HB1)⟩
      have hj := HJ.out
      subst hj
      rename_i h
      clear HJ
      first
        | (have hm : much l w0 w1 w2 w3 1 0 = _ := Int.min_eq_left h
           simp [mvP, hm, st4, rd4, rd])
        | (have hm : much l w0 w1 w2 w3 1 0 = _ := Int.min_eq_right (Int.le_of_lt h)
           simp [mvP, hm, st4, rd4, rd])
  · simp [Addr.add] at hxA hxB
    simp only [Int.reduceToNat] at hln
    go_enter Try.func92, Try.ntmps92
    go_wp2
    go_quiet (fail)
    generalize hW1 : World.drewN _ _ = W1
    have H5 : W1.heap[w.heap.size + 1 + 1]? = some (.cells #[.int .i8 0, .int .i8 1, .int .i8 1] 80 (0, 0)) := by rw [← hW1]; exact zhb _ _ _ _ _ _
    have H6 : W1.heap[w.heap.size + 1 + 1 + 1]? = some (.cells #[.int .i16 0, .int .i16 0, .int .i16 0, .int .i16 0] 27 (0, 0)) := by rw [← hW1]; exact zgb _ _ _ _ _ _
    have H8 : W1.heap[w.heap.size + 1 + 1 + 1 + 1]? = some (.cells #[.int .i16 w0, .int .i16 w1, .int .i16 w2, .int .i16 w3] 27 (0, 0)) := by rw [← hW1]; exact zjb _ _ _ _ _ _
    have HB1 : Below w.heap.size w W1 := by rw [← hW1]; exact zo (zta _ _ _ _ _ _) _
    clear hW1 hxA hxB
    have a50 : W1.cell? ⟨w.heap.size + 1 + 1, 0, none⟩ = some (.int .i8 0) := (zb H5 0).trans rfl
    have a51 : W1.cell? ⟨w.heap.size + 1 + 1, 1, none⟩ = some (.int .i8 1) := (zb H5 1).trans rfl
    have a52 : W1.cell? ⟨w.heap.size + 1 + 1, 2, none⟩ = some (.int .i8 1) := (zb H5 2).trans rfl
    have a60 : W1.cell? ⟨w.heap.size + 1 + 1 + 1, 0, none⟩ = some (.int .i16 0) := (zb H6 0).trans rfl
    have f60 := zg H6 0
    have a61 : W1.cell? ⟨w.heap.size + 1 + 1 + 1, 1, none⟩ = some (.int .i16 0) := (zb H6 1).trans rfl
    have f61 := zg H6 1
    have a62 : W1.cell? ⟨w.heap.size + 1 + 1 + 1, 2, none⟩ = some (.int .i16 0) := (zb H6 2).trans rfl
    have f62 := zg H6 2
    have a63 : W1.cell? ⟨w.heap.size + 1 + 1 + 1, 3, none⟩ = some (.int .i16 0) := (zb H6 3).trans rfl
    have f63 := zg H6 3
    have a80 : W1.cell? ⟨w.heap.size + 1 + 1 + 1 + 1, 0, none⟩ = some (.int .i16 w0) := (zb H8 0).trans rfl
    have f80 := zg H8 0
    have a81 : W1.cell? ⟨w.heap.size + 1 + 1 + 1 + 1, 1, none⟩ = some (.int .i16 w1) := (zb H8 1).trans rfl
    have f81 := zg H8 1
    have a82 : W1.cell? ⟨w.heap.size + 1 + 1 + 1 + 1, 2, none⟩ = some (.int .i16 w2) := (zb H8 2).trans rfl
    have f82 := zg H8 2
    have a83 : W1.cell? ⟨w.heap.size + 1 + 1 + 1 + 1, 3, none⟩ = some (.int .i16 w3) := (zb H8 3).trans rfl
    have f83 := zg H8 3
    have HA := za.mk (And.intro H6 HB1)
    clear H5 H6 H8 HB1
    go_wp2
    all_goals
      have H6 := HA.out.1
      have HB1 := HA.out.2
      refine bodyPost_ret (zha rfl _ _ (w.heap.size + 1 + 1 + 1) 27 _ (0, 0) _ rfl (zla H6 (ne34 _) _ _ _ _ _ _ _ _) Try.underlying27 rfl (zeb _ _ _ _)) rfl ?_
      refine ⟨?_, by with_reducible repeat (first | refine zt ?_ (le4 _) | refine zt ?_ (le3 _) | exact HB1)⟩
      have hj := HJ.out
      subst hj
      rename_i h
      clear HJ
      first
        | (have hm : much l w0 w1 w2 w3 1 1 = _ := Int.min_eq_left h
           simp [mvP, hm, st4, rd4, rd])
        | (have hm : much l w0 w1 w2 w3 1 1 = _ := Int.min_eq_right (Int.le_of_lt h)
           simp [mvP, hm, st4, rd4, rd])
  · simp [Addr.add] at hxA hxB
    simp only [Int.reduceToNat] at hln
    go_enter Try.func92, Try.ntmps92
    go_wp2
    go_quiet (fail)
    generalize hW1 : World.drewN _ _ = W1
    have H5 : W1.heap[w.heap.size + 1 + 1]? = some (.cells #[.int .i8 0, .int .i8 1, .int .i8 2] 80 (0, 0)) := by rw [← hW1]; exact zhb _ _ _ _ _ _
    have H6 : W1.heap[w.heap.size + 1 + 1 + 1]? = some (.cells #[.int .i16 0, .int .i16 0, .int .i16 0, .int .i16 0] 27 (0, 0)) := by rw [← hW1]; exact zgb _ _ _ _ _ _
    have H8 : W1.heap[w.heap.size + 1 + 1 + 1 + 1]? = some (.cells #[.int .i16 w0, .int .i16 w1, .int .i16 w2, .int .i16 w3] 27 (0, 0)) := by rw [← hW1]; exact zjb _ _ _ _ _ _
    have HB1 : Below w.heap.size w W1 := by rw [← hW1]; exact zo (zta _ _ _ _ _ _) _
    clear hW1 hxA hxB
    have a50 : W1.cell? ⟨w.heap.size + 1 + 1, 0, none⟩ = some (.int .i8 0) := (zb H5 0).trans rfl
    have a51 : W1.cell? ⟨w.heap.size + 1 + 1, 1, none⟩ = some (.int .i8 1) := (zb H5 1).trans rfl
    have a52 : W1.cell? ⟨w.heap.size + 1 + 1, 2, none⟩ = some (.int .i8 2) := (zb H5 2).trans rfl
    have a60 : W1.cell? ⟨w.heap.size + 1 + 1 + 1, 0, none⟩ = some (.int .i16 0) := (zb H6 0).trans rfl
    have f60 := zg H6 0
    have a61 : W1.cell? ⟨w.heap.size + 1 + 1 + 1, 1, none⟩ = some (.int .i16 0) := (zb H6 1).trans rfl
    have f61 := zg H6 1
    have a62 : W1.cell? ⟨w.heap.size + 1 + 1 + 1, 2, none⟩ = some (.int .i16 0) := (zb H6 2).trans rfl
    have f62 := zg H6 2
    have a63 : W1.cell? ⟨w.heap.size + 1 + 1 + 1, 3, none⟩ = some (.int .i16 0) := (zb H6 3).trans rfl
    have f63 := zg H6 3
    have a80 : W1.cell? ⟨w.heap.size + 1 + 1 + 1 + 1, 0, none⟩ = some (.int .i16 w0) := (zb H8 0).trans rfl
    have f80 := zg H8 0
    have a81 : W1.cell? ⟨w.heap.size + 1 + 1 + 1 + 1, 1, none⟩ = some (.int .i16 w1) := (zb H8 1).trans rfl
    have f81 := zg H8 1
    have a82 : W1.cell? ⟨w.heap.size + 1 + 1 + 1 + 1, 2, none⟩ = some (.int .i16 w2) := (zb H8 2).trans rfl
    have f82 := zg H8 2
    have a83 : W1.cell? ⟨w.heap.size + 1 + 1 + 1 + 1, 3, none⟩ = some (.int .i16 w3) := (zb H8 3).trans rfl
    have f83 := zg H8 3
    have HA := za.mk (And.intro H6 HB1)
    clear H5 H6 H8 HB1
    go_wp2
    all_goals
      have H6 := HA.out.1
      have HB1 := HA.out.2
      refine bodyPost_ret (zha rfl _ _ (w.heap.size + 1 + 1 + 1) 27 _ (0, 0) _ rfl (zla H6 (ne34 _) _ _ _ _ _ _ _ _) Try.underlying27 rfl (zeb _ _ _ _)) rfl ?_
      refine ⟨?_, by with_reducible repeat (first | refine zt ?_ (le4 _) | refine zt ?_ (le3 _) | exact HB1)⟩
      have hj := HJ.out
      subst hj
      rename_i h
      clear HJ
      first
        | (have hm : much l w0 w1 w2 w3 1 2 = _ := Int.min_eq_left h
           simp [mvP, hm, st4, rd4, rd])
        | (have hm : much l w0 w1 w2 w3 1 2 = _ := Int.min_eq_right (Int.le_of_lt h)
           simp [mvP, hm, st4, rd4, rd])
  · simp [Addr.add] at hxA hxB
    simp only [Int.reduceToNat] at hln
    go_enter Try.func92, Try.ntmps92
    go_wp2
    go_quiet (fail)
    generalize hW1 : World.drewN _ _ = W1
    have H5 : W1.heap[w.heap.size + 1 + 1]? = some (.cells #[.int .i8 0, .int .i8 1, .int .i8 3] 80 (0, 0)) := by rw [← hW1]; exact zhb _ _ _ _ _ _
    have H6 : W1.heap[w.heap.size + 1 + 1 + 1]? = some (.cells #[.int .i16 0, .int .i16 0, .int .i16 0, .int .i16 0] 27 (0, 0)) := by rw [← hW1]; exact zgb _ _ _ _ _ _
    have H8 : W1.heap[w.heap.size + 1 + 1 + 1 + 1]? = some (.cells #[.int .i16 w0, .int .i16 w1, .int .i16 w2, .int .i16 w3] 27 (0, 0)) := by rw [← hW1]; exact zjb _ _ _ _ _ _
    have HB1 : Below w.heap.size w W1 := by rw [← hW1]; exact zo (zta _ _ _ _ _ _) _
    clear hW1 hxA hxB
    have a50 : W1.cell? ⟨w.heap.size + 1 + 1, 0, none⟩ = some (.int .i8 0) := (zb H5 0).trans rfl
    have a51 : W1.cell? ⟨w.heap.size + 1 + 1, 1, none⟩ = some (.int .i8 1) := (zb H5 1).trans rfl
    have a52 : W1.cell? ⟨w.heap.size + 1 + 1, 2, none⟩ = some (.int .i8 3) := (zb H5 2).trans rfl
    have a60 : W1.cell? ⟨w.heap.size + 1 + 1 + 1, 0, none⟩ = some (.int .i16 0) := (zb H6 0).trans rfl
    have f60 := zg H6 0
    have a61 : W1.cell? ⟨w.heap.size + 1 + 1 + 1, 1, none⟩ = some (.int .i16 0) := (zb H6 1).trans rfl
    have f61 := zg H6 1
    have a62 : W1.cell? ⟨w.heap.size + 1 + 1 + 1, 2, none⟩ = some (.int .i16 0) := (zb H6 2).trans rfl
    have f62 := zg H6 2
    have a63 : W1.cell? ⟨w.heap.size + 1 + 1 + 1, 3, none⟩ = some (.int .i16 0) := (zb H6 3).trans rfl
    have f63 := zg H6 3
    have a80 : W1.cell? ⟨w.heap.size + 1 + 1 + 1 + 1, 0, none⟩ = some (.int .i16 w0) := (zb H8 0).trans rfl
    have f80 := zg H8 0
    have a81 : W1.cell? ⟨w.heap.size + 1 + 1 + 1 + 1, 1, none⟩ = some (.int .i16 w1) := (zb H8 1).trans rfl
    have f81 := zg H8 1
    have a82 : W1.cell? ⟨w.heap.size + 1 + 1 + 1 + 1, 2, none⟩ = some (.int .i16 w2) := (zb H8 2).trans rfl
    have f82 := zg H8 2
    have a83 : W1.cell? ⟨w.heap.size + 1 + 1 + 1 + 1, 3, none⟩ = some (.int .i16 w3) := (zb H8 3).trans rfl
    have f83 := zg H8 3
    have HA := za.mk (And.intro H6 HB1)
    clear H5 H6 H8 HB1
    go_wp2
    all_goals
      have H6 := HA.out.1
      have HB1 := HA.out.2
      refine bodyPost_ret (zha rfl _ _ (w.heap.size + 1 + 1 + 1) 27 _ (0, 0) _ rfl (zla H6 (ne34 _) _ _ _ _ _ _ _ _) Try.underlying27 rfl (zeb _ _ _ _)) rfl ?_
      refine ⟨?_, by with_reducible repeat (first | refine zt ?_ (le4 _) | refine zt ?_ (le3 _) | exact HB1)⟩
      have hj := HJ.out
      subst hj
      rename_i h
      clear HJ
      first
        | (have hm : much l w0 w1 w2 w3 1 3 = _ := Int.min_eq_left h
           simp [mvP, hm, st4, rd4, rd])
        | (have hm : much l w0 w1 w2 w3 1 3 = _ := Int.min_eq_right (Int.le_of_lt h)
           simp [mvP, hm, st4, rd4, rd])
  · simp [Addr.add] at hxA hxB
    simp only [Int.reduceToNat] at hln
    go_enter Try.func92, Try.ntmps92
    go_wp2
    go_quiet (fail)
    generalize hW1 : World.drewN _ _ = W1
    have H5 : W1.heap[w.heap.size + 1 + 1]? = some (.cells #[.int .i8 0, .int .i8 2, .int .i8 0] 80 (0, 0)) := by rw [← hW1]; exact zhb _ _ _ _ _ _
    have H6 : W1.heap[w.heap.size + 1 + 1 + 1]? = some (.cells #[.int .i16 0, .int .i16 0, .int .i16 0, .int .i16 0] 27 (0, 0)) := by rw [← hW1]; exact zgb _ _ _ _ _ _
    have H8 : W1.heap[w.heap.size + 1 + 1 + 1 + 1]? = some (.cells #[.int .i16 w0, .int .i16 w1, .int .i16 w2, .int .i16 w3] 27 (0, 0)) := by rw [← hW1]; exact zjb _ _ _ _ _ _
    have HB1 : Below w.heap.size w W1 := by rw [← hW1]; exact zo (zta _ _ _ _ _ _) _
    clear hW1 hxA hxB
    have a50 : W1.cell? ⟨w.heap.size + 1 + 1, 0, none⟩ = some (.int .i8 0) := (zb H5 0).trans rfl
    have a51 : W1.cell? ⟨w.heap.size + 1 + 1, 1, none⟩ = some (.int .i8 2) := (zb H5 1).trans rfl
    have a52 : W1.cell? ⟨w.heap.size + 1 + 1, 2, none⟩ = some (.int .i8 0) := (zb H5 2).trans rfl
    have a60 : W1.cell? ⟨w.heap.size + 1 + 1 + 1, 0, none⟩ = some (.int .i16 0) := (zb H6 0).trans rfl
    have f60 := zg H6 0
    have a61 : W1.cell? ⟨w.heap.size + 1 + 1 + 1, 1, none⟩ = some (.int .i16 0) := (zb H6 1).trans rfl
    have f61 := zg H6 1
    have a62 : W1.cell? ⟨w.heap.size + 1 + 1 + 1, 2, none⟩ = some (.int .i16 0) := (zb H6 2).trans rfl
    have f62 := zg H6 2
    have a63 : W1.cell? ⟨w.heap.size + 1 + 1 + 1, 3, none⟩ = some (.int .i16 0) := (zb H6 3).trans rfl
    have f63 := zg H6 3
    have a80 : W1.cell? ⟨w.heap.size + 1 + 1 + 1 + 1, 0, none⟩ = some (.int .i16 w0) := (zb H8 0).trans rfl
    have f80 := zg H8 0
    have a81 : W1.cell? ⟨w.heap.size + 1 + 1 + 1 + 1, 1, none⟩ = some (.int .i16 w1) := (zb H8 1).trans rfl
    have f81 := zg H8 1
    have a82 : W1.cell? ⟨w.heap.size + 1 + 1 + 1 + 1, 2, none⟩ = some (.int .i16 w2) := (zb H8 2).trans rfl
    have f82 := zg H8 2
    have a83 : W1.cell? ⟨w.heap.size + 1 + 1 + 1 + 1, 3, none⟩ = some (.int .i16 w3) := (zb H8 3).trans rfl
    have f83 := zg H8 3
    have HA := za.mk (And.intro H6 HB1)
    clear H5 H6 H8 HB1
    go_wp2
    all_goals
      have H6 := HA.out.1
      have HB1 := HA.out.2
      refine bodyPost_ret (zha rfl _ _ (w.heap.size + 1 + 1 + 1) 27 _ (0, 0) _ rfl (zla H6 (ne34 _) _ _ _ _ _ _ _ _) Try.underlying27 rfl (zeb _ _ _ _)) rfl ?_
      refine ⟨?_, by with_reducible repeat (first | refine zt ?_ (le4 _) | refine zt ?_ (le3 _) | exact HB1)⟩
      have hj := HJ.out
      subst hj
      rename_i h
      clear HJ
      first
        | (have hm : much l w0 w1 w2 w3 2 0 = _ := Int.min_eq_left h
           simp [mvP, hm, st4, rd4, rd])
        | (have hm : much l w0 w1 w2 w3 2 0 = _ := Int.min_eq_right (Int.le_of_lt h)
           simp [mvP, hm, st4, rd4, rd])
  · simp [Addr.add] at hxA hxB
    simp only [Int.reduceToNat] at hln
    go_enter Try.func92, Try.ntmps92
    go_wp2
    go_quiet (fail)
    generalize hW1 : World.drewN _ _ = W1
    have H5 : W1.heap[w.heap.size + 1 + 1]? = some (.cells #[.int .i8 0, .int .i8 2, .int .i8 1] 80 (0, 0)) := by rw [← hW1]; exact zhb _ _ _ _ _ _
    have H6 : W1.heap[w.heap.size + 1 + 1 + 1]? = some (.cells #[.int .i16 0, .int .i16 0, .int .i16 0, .int .i16 0] 27 (0, 0)) := by rw [← hW1]; exact zgb _ _ _ _ _ _
    have H8 : W1.heap[w.heap.size + 1 + 1 + 1 + 1]? = some (.cells #[.int .i16 w0, .int .i16 w1, .int .i16 w2, .int .i16 w3] 27 (0, 0)) := by rw [← hW1]; exact zjb _ _ _ _ _ _
    have HB1 : Below w.heap.size w W1 := by rw [← hW1]; exact zo (zta _ _ _ _ _ _) _
    clear hW1 hxA hxB
    have a50 : W1.cell? ⟨w.heap.size + 1 + 1, 0, none⟩ = some (.int .i8 0) := (zb H5 0).trans rfl
    have a51 : W1.cell? ⟨w.heap.size + 1 + 1, 1, none⟩ = some (.int .i8 2) := (zb H5 1).trans rfl
    have a52 : W1.cell? ⟨w.heap.size + 1 + 1, 2, none⟩ = some (.int .i8 1) := (zb H5 2).trans rfl
    have a60 : W1.cell? ⟨w.heap.size + 1 + 1 + 1, 0, none⟩ = some (.int .i16 0) := (zb H6 0).trans rfl
    have f60 := zg H6 0
    have a61 : W1.cell? ⟨w.heap.size + 1 + 1 + 1, 1, none⟩ = some (.int .i16 0) := (zb H6 1).trans rfl
    have f61 := zg H6 1
    have a62 : W1.cell? ⟨w.heap.size + 1 + 1 + 1, 2, none⟩ = some (.int .i16 0) := (zb H6 2).trans rfl
    have f62 := zg H6 2
    have a63 : W1.cell? ⟨w.heap.size + 1 + 1 + 1, 3, none⟩ = some (.int .i16 0) := (zb H6 3).trans rfl
    have f63 := zg H6 3
    have a80 : W1.cell? ⟨w.heap.size + 1 + 1 + 1 + 1, 0, none⟩ = some (.int .i16 w0) := (zb H8 0).trans rfl
    have f80 := zg H8 0
    have a81 : W1.cell? ⟨w.heap.size + 1 + 1 + 1 + 1, 1, none⟩ = some (.int .i16 w1) := (zb H8 1).trans rfl
    have f81 := zg H8 1
    have a82 : W1.cell? ⟨w.heap.size + 1 + 1 + 1 + 1, 2, none⟩ = some (.int .i16 w2) := (zb H8 2).trans rfl
    have f82 := zg H8 2
    have a83 : W1.cell? ⟨w.heap.size + 1 + 1 + 1 + 1, 3, none⟩ = some (.int .i16 w3) := (zb H8 3).trans rfl
    have f83 := zg H8 3
    have HA := za.mk (And.intro H6 HB1)
    clear H5 H6 H8 HB1
    go_wp2
    all_goals
      have H6 := HA.out.1
      have HB1 := HA.out.2
      refine bodyPost_ret (zha rfl _ _ (w.heap.size + 1 + 1 + 1) 27 _ (0, 0) _ rfl (zla H6 (ne34 _) _ _ _ _ _ _ _ _) Try.underlying27 rfl (zeb _ _ _ _)) rfl ?_
      refine ⟨?_, by with_reducible repeat (first | refine zt ?_ (le4 _) | refine zt ?_ (le3 _) | exact HB1)⟩
      have hj := HJ.out
      subst hj
      rename_i h
      clear HJ
      first
        | (have hm : much l w0 w1 w2 w3 2 1 = _ := Int.min_eq_left h
           simp [mvP, hm, st4, rd4, rd])
        | (have hm : much l w0 w1 w2 w3 2 1 = _ := Int.min_eq_right (Int.le_of_lt h)
           simp [mvP, hm, st4, rd4, rd])
  · simp [Addr.add] at hxA hxB
    simp only [Int.reduceToNat] at hln
    go_enter Try.func92, Try.ntmps92
    go_wp2
    go_quiet (fail)
    generalize hW1 : World.drewN _ _ = W1
    have H5 : W1.heap[w.heap.size + 1 + 1]? = some (.cells #[.int .i8 0, .int .i8 2, .int .i8 2] 80 (0, 0)) := by rw [← hW1]; exact zhb _ _ _ _ _ _
    have H6 : W1.heap[w.heap.size + 1 + 1 + 1]? = some (.cells #[.int .i16 0, .int .i16 0, .int .i16 0, .int .i16 0] 27 (0, 0)) := by rw [← hW1]; exact zgb _ _ _ _ _ _
    have H8 : W1.heap[w.heap.size + 1 + 1 + 1 + 1]? = some (.cells #[.int .i16 w0, .int .i16 w1, .int .i16 w2, .int .i16 w3] 27 (0, 0)) := by rw [← hW1]; exact zjb _ _ _ _ _ _
    have HB1 : Below w.heap.size w W1 := by rw [← hW1]; exact zo (zta _ _ _ _ _ _) _
    clear hW1 hxA hxB
    have a50 : W1.cell? ⟨w.heap.size + 1 + 1, 0, none⟩ = some (.int .i8 0) := (zb H5 0).trans rfl
    have a51 : W1.cell? ⟨w.heap.size + 1 + 1, 1, none⟩ = some (.int .i8 2) := (zb H5 1).trans rfl
    have a52 : W1.cell? ⟨w.heap.size + 1 + 1, 2, none⟩ = some (.int .i8 2) := (zb H5 2).trans rfl
    have a60 : W1.cell? ⟨w.heap.size + 1 + 1 + 1, 0, none⟩ = some (.int .i16 0) := (zb H6 0).trans rfl
    have f60 := zg H6 0
    have a61 : W1.cell? ⟨w.heap.size + 1 + 1 + 1, 1, none⟩ = some (.int .i16 0) := (zb H6 1).trans rfl
    have f61 := zg H6 1
    have a62 : W1.cell? ⟨w.heap.size + 1 + 1 + 1, 2, none⟩ = some (.int .i16 0) := (zb H6 2).trans rfl
    have f62 := zg H6 2
    have a63 : W1.cell? ⟨w.heap.size + 1 + 1 + 1, 3, none⟩ = some (.int .i16 0) := (zb H6 3).trans rfl
    have f63 := zg H6 3
    have a80 : W1.cell? ⟨w.heap.size + 1 + 1 + 1 + 1, 0, none⟩ = some (.int .i16 w0) := (zb H8 0).trans rfl
    have f80 := zg H8 0
    have a81 : W1.cell? ⟨w.heap.size + 1 + 1 + 1 + 1, 1, none⟩ = some (.int .i16 w1) := (zb H8 1).trans rfl
    have f81 := zg H8 1
    have a82 : W1.cell? ⟨w.heap.size + 1 + 1 + 1 + 1, 2, none⟩ = some (.int .i16 w2) := (zb H8 2).trans rfl
    have f82 := zg H8 2
    have a83 : W1.cell? ⟨w.heap.size + 1 + 1 + 1 + 1, 3, none⟩ = some (.int .i16 w3) := (zb H8 3).trans rfl
    have f83 := zg H8 3
    have HA := za.mk (And.intro H6 HB1)
    clear H5 H6 H8 HB1
    go_wp2
    all_goals
      have H6 := HA.out.1
      have HB1 := HA.out.2
      refine bodyPost_ret (zha rfl _ _ (w.heap.size + 1 + 1 + 1) 27 _ (0, 0) _ rfl (zla H6 (ne34 _) _ _ _ _ _ _ _ _) Try.underlying27 rfl (zeb _ _ _ _)) rfl ?_
      refine ⟨?_, by with_reducible repeat (first | refine zt ?_ (le4 _) | refine zt ?_ (le3 _) | exact HB1)⟩
      have hj := HJ.out
      subst hj
      rename_i h
      clear HJ
      first
        | (have hm : much l w0 w1 w2 w3 2 2 = _ := Int.min_eq_left h
           simp [mvP, hm, st4, rd4, rd])
        | (have hm : much l w0 w1 w2 w3 2 2 = _ := Int.min_eq_right (Int.le_of_lt h)
           simp [mvP, hm, st4, rd4, rd])
  · simp [Addr.add] at hxA hxB
    simp only [Int.reduceToNat] at hln
    go_enter Try.func92, Try.ntmps92
    go_wp2
    go_quiet (fail)
    generalize hW1 : World.drewN _ _ = W1
    have H5 : W1.heap[w.heap.size + 1 + 1]? = some (.cells #[.int .i8 0, .int .i8 2, .int .i8 3] 80 (0, 0)) := by rw [← hW1]; exact zhb _ _ _ _ _ _
    have H6 : W1.heap[w.heap.size + 1 + 1 + 1]? = some (.cells #[.int .i16 0, .int .i16 0, .int .i16 0, .int .i16 0] 27 (0, 0)) := by rw [← hW1]; exact zgb _ _ _ _ _ _
    have H8 : W1.heap[w.heap.size + 1 + 1 + 1 + 1]? = some (.cells #[.int .i16 w0, .int .i16 w1, .int .i16 w2, .int .i16 w3] 27 (0, 0)) := by rw [← hW1]; exact zjb _ _ _ _ _ _
    have HB1 : Below w.heap.size w W1 := by rw [← hW1]; exact zo (zta _ _ _ _ _ _) _
    clear hW1 hxA hxB
    have a50 : W1.cell? ⟨w.heap.size + 1 + 1, 0, none⟩ = some (.int .i8 0) := (zb H5 0).trans rfl
    have a51 : W1.cell? ⟨w.heap.size + 1 + 1, 1, none⟩ = some (.int .i8 2) := (zb H5 1).trans rfl
    have a52 : W1.cell? ⟨w.heap.size + 1 + 1, 2, none⟩ = some (.int .i8 3) := (zb H5 2).trans rfl
    have a60 : W1.cell? ⟨w.heap.size + 1 + 1 + 1, 0, none⟩ = some (.int .i16 0) := (zb H6 0).trans rfl
    have f60 := zg H6 0
    have a61 : W1.cell? ⟨w.heap.size + 1 + 1 + 1, 1, none⟩ = some (.int .i16 0) := (zb H6 1).trans rfl
    have f61 := zg H6 1
    have a62 : W1.cell? ⟨w.heap.size + 1 + 1 + 1, 2, none⟩ = some (.int .i16 0) := (zb H6 2).trans rfl
    have f62 := zg H6 2
    have a63 : W1.cell? ⟨w.heap.size + 1 + 1 + 1, 3, none⟩ = some (.int .i16 0) := (zb H6 3).trans rfl
    have f63 := zg H6 3
    have a80 : W1.cell? ⟨w.heap.size + 1 + 1 + 1 + 1, 0, none⟩ = some (.int .i16 w0) := (zb H8 0).trans rfl
    have f80 := zg H8 0
    have a81 : W1.cell? ⟨w.heap.size + 1 + 1 + 1 + 1, 1, none⟩ = some (.int .i16 w1) := (zb H8 1).trans rfl
    have f81 := zg H8 1
    have a82 : W1.cell? ⟨w.heap.size + 1 + 1 + 1 + 1, 2, none⟩ = some (.int .i16 w2) := (zb H8 2).trans rfl
    have f82 := zg H8 2
    have a83 : W1.cell? ⟨w.heap.size + 1 + 1 + 1 + 1, 3, none⟩ = some (.int .i16 w3) := (zb H8 3).trans rfl
    have f83 := zg H8 3
    have HA := za.mk (And.intro H6 HB1)
    clear H5 H6 H8 HB1
    go_wp2
    all_goals
      have H6 := HA.out.1
      have HB1 := HA.out.2
      refine bodyPost_ret (zha rfl _ _ (w.heap.size + 1 + 1 + 1) 27 _ (0, 0) _ rfl (zla H6 (ne34 _) _ _ _ _ _ _ _ _) Try.underlying27 rfl (zeb _ _ _ _)) rfl ?_
      refine ⟨?_, by with_reducible repeat (first | refine zt ?_ (le4 _) | refine zt ?_ (le3 _) | exact HB1)⟩
      have hj := HJ.out
      subst hj
      rename_i h
      clear HJ
      first
        | (have hm : much l w0 w1 w2 w3 2 3 = _ := Int.min_eq_left h
           simp [mvP, hm, st4, rd4, rd])
        | (have hm : much l w0 w1 w2 w3 2 3 = _ := Int.min_eq_right (Int.le_of_lt h)
           simp [mvP, hm, st4, rd4, rd])
  · simp [Addr.add] at hxA hxB
    simp only [Int.reduceToNat] at hln
    go_enter Try.func92, Try.ntmps92
    go_wp2
    go_quiet (fail)
    generalize hW1 : World.drewN _ _ = W1
    have H5 : W1.heap[w.heap.size + 1 + 1]? = some (.cells #[.int .i8 0, .int .i8 3, .int .i8 0] 80 (0, 0)) := by rw [← hW1]; exact zhb _ _ _ _ _ _
    have H6 : W1.heap[w.heap.size + 1 + 1 + 1]? = some (.cells #[.int .i16 0, .int .i16 0, .int .i16 0, .int .i16 0] 27 (0, 0)) := by rw [← hW1]; exact zgb _ _ _ _ _ _
    have H8 : W1.heap[w.heap.size + 1 + 1 + 1 + 1]? = some (.cells #[.int .i16 w0, .int .i16 w1, .int .i16 w2, .int .i16 w3] 27 (0, 0)) := by rw [← hW1]; exact zjb _ _ _ _ _ _
    have HB1 : Below w.heap.size w W1 := by rw [← hW1]; exact zo (zta _ _ _ _ _ _) _
    clear hW1 hxA hxB
    have a50 : W1.cell? ⟨w.heap.size + 1 + 1, 0, none⟩ = some (.int .i8 0) := (zb H5 0).trans rfl
    have a51 : W1.cell? ⟨w.heap.size + 1 + 1, 1, none⟩ = some (.int .i8 3) := (zb H5 1).trans rfl
    have a52 : W1.cell? ⟨w.heap.size + 1 + 1, 2, none⟩ = some (.int .i8 0) := (zb H5 2).trans rfl
    have a60 : W1.cell? ⟨w.heap.size + 1 + 1 + 1, 0, none⟩ = some (.int .i16 0) := (zb H6 0).trans rfl
    have f60 := zg H6 0
    have a61 : W1.cell? ⟨w.heap.size + 1 + 1 + 1, 1, none⟩ = some (.int .i16 0) := (zb H6 1).trans rfl
    have f61 := zg H6 1
    have a62 : W1.cell? ⟨w.heap.size + 1 + 1 + 1, 2, none⟩ = some (.int .i16 0) := (zb H6 2).trans rfl
    have f62 := zg H6 2
    have a63 : W1.cell? ⟨w.heap.size + 1 + 1 + 1, 3, none⟩ = some (.int .i16 0) := (zb H6 3).trans rfl
    have f63 := zg H6 3
    have a80 : W1.cell? ⟨w.heap.size + 1 + 1 + 1 + 1, 0, none⟩ = some (.int .i16 w0) := (zb H8 0).trans rfl
    have f80 := zg H8 0
    have a81 : W1.cell? ⟨w.heap.size + 1 + 1 + 1 + 1, 1, none⟩ = some (.int .i16 w1) := (zb H8 1).trans rfl
    have f81 := zg H8 1
    have a82 : W1.cell? ⟨w.heap.size + 1 + 1 + 1 + 1, 2, none⟩ = some (.int .i16 w2) := (zb H8 2).trans rfl
    have f82 := zg H8 2
    have a83 : W1.cell? ⟨w.heap.size + 1 + 1 + 1 + 1, 3, none⟩ = some (.int .i16 w3) := (zb H8 3).trans rfl
    have f83 := zg H8 3
    have HA := za.mk (And.intro H6 HB1)
    clear H5 H6 H8 HB1
    go_wp2
    all_goals
      have H6 := HA.out.1
      have HB1 := HA.out.2
      refine bodyPost_ret (zha rfl _ _ (w.heap.size + 1 + 1 + 1) 27 _ (0, 0) _ rfl (zla H6 (ne34 _) _ _ _ _ _ _ _ _) Try.underlying27 rfl (zeb _ _ _ _)) rfl ?_
      refine ⟨?_, by with_reducible repeat (first | refine zt ?_ (le4 _) | refine zt ?_ (le3 _) | exact HB1)⟩
      have hj := HJ.out
      subst hj
      rename_i h
      clear HJ
      first
        | (have hm : much l w0 w1 w2 w3 3 0 = _ := Int.min_eq_left h
           simp [mvP, hm, st4, rd4, rd])
        | (have hm : much l w0 w1 w2 w3 3 0 = _ := Int.min_eq_right (Int.le_of_lt h)
           simp [mvP, hm, st4, rd4, rd])
  · simp [Addr.add] at hxA hxB
    simp only [Int.reduceToNat] at hln
    go_enter Try.func92, Try.ntmps92
    go_wp2
    go_quiet (fail)
    generalize hW1 : World.drewN _ _ = W1
    have H5 : W1.heap[w.heap.size + 1 + 1]? = some (.cells #[.int .i8 0, .int .i8 3, .int .i8 1] 80 (0, 0)) := by rw [← hW1]; exact zhb _ _ _ _ _ _
    have H6 : W1.heap[w.heap.size + 1 + 1 + 1]? = some (.cells #[.int .i16 0, .int .i16 0, .int .i16 0, .int .i16 0] 27 (0, 0)) := by rw [← hW1]; exact zgb _ _ _ _ _ _
    have H8 : W1.heap[w.heap.size + 1 + 1 + 1 + 1]? = some (.cells #[.int .i16 w0, .int .i16 w1, .int .i16 w2, .int .i16 w3] 27 (0, 0)) := by rw [← hW1]; exact zjb _ _ _ _ _ _
    have HB1 : Below w.heap.size w W1 := by rw [← hW1]; exact zo (zta _ _ _ _ _ _) _
    clear hW1 hxA hxB
    have a50 : W1.cell? ⟨w.heap.size + 1 + 1, 0, none⟩ = some (.int .i8 0) := (zb H5 0).trans rfl
    have a51 : W1.cell? ⟨w.heap.size + 1 + 1, 1, none⟩ = some (.int .i8 3) := (zb H5 1).trans rfl
    have a52 : W1.cell? ⟨w.heap.size + 1 + 1, 2, none⟩ = some (.int .i8 1) := (zb H5 2).trans rfl
    have a60 : W1.cell? ⟨w.heap.size + 1 + 1 + 1, 0, none⟩ = some (.int .i16 0) := (zb H6 0).trans rfl
    have f60 := zg H6 0
    have a61 : W1.cell? ⟨w.heap.size + 1 + 1 + 1, 1, none⟩ = some (.int .i16 0) := (zb H6 1).trans rfl
    have f61 := zg H6 1
    have a62 : W1.cell? ⟨w.heap.size + 1 + 1 + 1, 2, none⟩ = some (.int .i16 0) := (zb H6 2).trans rfl
    have f62 := zg H6 2
    have a63 : W1.cell? ⟨w.heap.size + 1 + 1 + 1, 3, none⟩ = some (.int .i16 0) := (zb H6 3).trans rfl
    have f63 := zg H6 3
    have a80 : W1.cell? ⟨w.heap.size + 1 + 1 + 1 + 1, 0, none⟩ = some (.int .i16 w0) := (zb H8 0).trans rfl
    have f80 := zg H8 0
    have a81 : W1.cell? ⟨w.heap.size + 1 + 1 + 1 + 1, 1, none⟩ = some (.int .i16 w1) := (zb H8 1).trans rfl
    have f81 := zg H8 1
    have a82 : W1.cell? ⟨w.heap.size + 1 + 1 + 1 + 1, 2, none⟩ = some (.int .i16 w2) := (zb H8 2).trans rfl
    have f82 := zg H8 2
    have a83 : W1.cell? ⟨w.heap.size + 1 + 1 + 1 + 1, 3, none⟩ = some (.int .i16 w3) := (zb H8 3).trans rfl
    have f83 := zg H8 3
    have HA := za.mk (And.intro H6 HB1)
    clear H5 H6 H8 HB1
    go_wp2
    all_goals
      have H6 := HA.out.1
      have HB1 := HA.out.2
      refine bodyPost_ret (zha rfl _ _ (w.heap.size + 1 + 1 + 1) 27 _ (0, 0) _ rfl (zla H6 (ne34 _) _ _ _ _ _ _ _ _) Try.underlying27 rfl (zeb _ _ _ _)) rfl ?_
      refine ⟨?_, by with_reducible repeat (first | refine zt ?_ (le4 _) | refine zt ?_ (le3 _) | exact HB1)⟩
      have hj := HJ.out
      subst hj
      rename_i h
      clear HJ
      first
        | (have hm : much l w0 w1 w2 w3 3 1 = _ := Int.min_eq_left h
           simp [mvP, hm, st4, rd4, rd])
        | (have hm : much l w0 w1 w2 w3 3 1 = _ := Int.min_eq_right (Int.le_of_lt h)
           simp [mvP, hm, st4, rd4, rd])
  · simp [Addr.add] at hxA hxB
    simp only [Int.reduceToNat] at hln
    go_enter Try.func92, Try.ntmps92
    go_wp2
    go_quiet (fail)
    generalize hW1 : World.drewN _ _ = W1
    have H5 : W1.heap[w.heap.size + 1 + 1]? = some (.cells #[.int .i8 0, .int .i8 3, .int .i8 2] 80 (0, 0)) := by rw [← hW1]; exact zhb _ _ _ _ _ _
    have H6 : W1.heap[w.heap.size + 1 + 1 + 1]? = some (.cells #[.int .i16 0, .int .i16 0, .int .i16 0, .int .i16 0] 27 (0, 0)) := by rw [← hW1]; exact zgb _ _ _ _ _ _
    have H8 : W1.heap[w.heap.size + 1 + 1 + 1 + 1]? = some (.cells #[.int .i16 w0, .int .i16 w1, .int .i16 w2, .int .i16 w3] 27 (0, 0)) := by rw [← hW1]; exact zjb _ _ _ _ _ _
    have HB1 : Below w.heap.size w W1 := by rw [← hW1]; exact zo (zta _ _ _ _ _ _) _
    clear hW1 hxA hxB
    have a50 : W1.cell? ⟨w.heap.size + 1 + 1, 0, none⟩ = some (.int .i8 0) := (zb H5 0).trans rfl
    have a51 : W1.cell? ⟨w.heap.size + 1 + 1, 1, none⟩ = some (.int .i8 3) := (zb H5 1).trans rfl
    have a52 : W1.cell? ⟨w.heap.size + 1 + 1, 2, none⟩ = some (.int .i8 2) := (zb H5 2).trans rfl
    have a60 : W1.cell? ⟨w.heap.size + 1 + 1 + 1, 0, none⟩ = some (.int .i16 0) := (zb H6 0).trans rfl
    have f60 := zg H6 0
    have a61 : W1.cell? ⟨w.heap.size + 1 + 1 + 1, 1, none⟩ = some (.int .i16 0) := (zb H6 1).trans rfl
    have f61 := zg H6 1
    have a62 : W1.cell? ⟨w.heap.size + 1 + 1 + 1, 2, none⟩ = some (.int .i16 0) := (zb H6 2).trans rfl
    have f62 := zg H6 2
    have a63 : W1.cell? ⟨w.heap.size + 1 + 1 + 1, 3, none⟩ = some (.int .i16 0) := (zb H6 3).trans rfl
    have f63 := zg H6 3
    have a80 : W1.cell? ⟨w.heap.size + 1 + 1 + 1 + 1, 0, none⟩ = some (.int .i16 w0) := (zb H8 0).trans rfl
    have f80 := zg H8 0
    have a81 : W1.cell? ⟨w.heap.size + 1 + 1 + 1 + 1, 1, none⟩ = some (.int .i16 w1) := (zb H8 1).trans rfl
    have f81 := zg H8 1
    have a82 : W1.cell? ⟨w.heap.size + 1 + 1 + 1 + 1, 2, none⟩ = some (.int .i16 w2) := (zb H8 2).trans rfl
    have f82 := zg H8 2
    have a83 : W1.cell? ⟨w.heap.size + 1 + 1 + 1 + 1, 3, none⟩ = some (.int .i16 w3) := (zb H8 3).trans rfl
    have f83 := zg H8 3
    have HA := za.mk (And.intro H6 HB1)
    clear H5 H6 H8 HB1
    go_wp2
    all_goals
      have H6 := HA.out.1
      have HB1 := HA.out.2
      refine bodyPost_ret (zha rfl _ _ (w.heap.size + 1 + 1 + 1) 27 _ (0, 0) _ rfl (zla H6 (ne34 _) _ _ _ _ _ _ _ _) Try.underlying27 rfl (zeb _ _ _ _)) rfl ?_
      refine ⟨?_, by with_reducible repeat (first | refine zt ?_ (le4 _) | refine zt ?_ (le3 _) | exact HB1)⟩
      have hj := HJ.out
      subst hj
      rename_i h
      clear HJ
      first
        | (have hm : much l w0 w1 w2 w3 3 2 = _ := Int.min_eq_left h
           simp [mvP, hm, st4, rd4, rd])
        | (have hm : much l w0 w1 w2 w3 3 2 = _ := Int.min_eq_right (Int.le_of_lt h)
           simp [mvP, hm, st4, rd4, rd])
  simp [Addr.add] at hxA hxB
  simp only [Int.reduceToNat] at hln
  go_enter Try.func92, Try.ntmps92
  go_wp2
  go_quiet (fail)
  generalize hW1 : World.drewN _ _ = W1
  have H5 : W1.heap[w.heap.size + 1 + 1]? = some (.cells #[.int .i8 0, .int .i8 3, .int .i8 3] 80 (0, 0)) := by rw [← hW1]; exact zhb _ _ _ _ _ _
  have H6 : W1.heap[w.heap.size + 1 + 1 + 1]? = some (.cells #[.int .i16 0, .int .i16 0, .int .i16 0, .int .i16 0] 27 (0, 0)) := by rw [← hW1]; exact zgb _ _ _ _ _ _
  have H8 : W1.heap[w.heap.size + 1 + 1 + 1 + 1]? = some (.cells #[.int .i16 w0, .int .i16 w1, .int .i16 w2, .int .i16 w3] 27 (0, 0)) := by rw [← hW1]; exact zjb _ _ _ _ _ _
  have HB1 : Below w.heap.size w W1 := by rw [← hW1]; exact zo (zta _ _ _ _ _ _) _
  clear hW1 hxA hxB
  have a50 : W1.cell? ⟨w.heap.size + 1 + 1, 0, none⟩ = some (.int .i8 0) := (zb H5 0).trans rfl
  have a51 : W1.cell? ⟨w.heap.size + 1 + 1, 1, none⟩ = some (.int .i8 3) := (zb H5 1).trans rfl
  have a52 : W1.cell? ⟨w.heap.size + 1 + 1, 2, none⟩ = some (.int .i8 3) := (zb H5 2).trans rfl
  have a60 : W1.cell? ⟨w.heap.size + 1 + 1 + 1, 0, none⟩ = some (.int .i16 0) := (zb H6 0).trans rfl
  have f60 := zg H6 0
  have a61 : W1.cell? ⟨w.heap.size + 1 + 1 + 1, 1, none⟩ = some (.int .i16 0) := (zb H6 1).trans rfl
  have f61 := zg H6 1
  have a62 : W1.cell? ⟨w.heap.size + 1 + 1 + 1, 2, none⟩ = some (.int .i16 0) := (zb H6 2).trans rfl
  have f62 := zg H6 2
  have a63 : W1.cell? ⟨w.heap.size + 1 + 1 + 1, 3, none⟩ = some (.int .i16 0) := (zb H6 3).trans rfl
  have f63 := zg H6 3
  have a80 : W1.cell? ⟨w.heap.size + 1 + 1 + 1 + 1, 0, none⟩ = some (.int .i16 w0) := (zb H8 0).trans rfl
  have f80 := zg H8 0
  have a81 : W1.cell? ⟨w.heap.size + 1 + 1 + 1 + 1, 1, none⟩ = some (.int .i16 w1) := (zb H8 1).trans rfl
  have f81 := zg H8 1
  have a82 : W1.cell? ⟨w.heap.size + 1 + 1 + 1 + 1, 2, none⟩ = some (.int .i16 w2) := (zb H8 2).trans rfl
  have f82 := zg H8 2
  have a83 : W1.cell? ⟨w.heap.size + 1 + 1 + 1 + 1, 3, none⟩ = some (.int .i16 w3) := (zb H8 3).trans rfl
  have f83 := zg H8 3
  have HA := za.mk (And.intro H6 HB1)
  clear H5 H6 H8 HB1
  go_wp2
  all_goals
    have H6 := HA.out.1
    have HB1 := HA.out.2
    refine bodyPost_ret (zha rfl _ _ (w.heap.size + 1 + 1 + 1) 27 _ (0, 0) _ rfl (zla H6 (ne34 _) _ _ _ _ _ _ _ _) Try.underlying27 rfl (zeb _ _ _ _)) rfl ?_
    refine ⟨?_, by with_reducible repeat (first | refine zt ?_ (le4 _) | refine zt ?_ (le3 _) | exact HB1)⟩
    have hj := HJ.out
    subst hj
    rename_i h
    clear HJ
    first
      | (have hm : much l w0 w1 w2 w3 3 3 = _ := Int.min_eq_left h
         simp [mvP, hm, st4, rd4, rd])
      | (have hm : much l w0 w1 w2 w3 3 3 = _ := Int.min_eq_right (Int.le_of_lt h)
         simp [mvP, hm, st4, rd4, rd])
/-- The water behind a move, and whether it can be made. -/
def impl_Puzzle_moved.f (l0_0 : List Int) (a0_1 : Int) (a0_2 : Int) (a0_3 : Int) (a0_4 : Int) (a0_5 : Bool) (a1_0 : Int) (a1_1 : Int) (a1_2 : Int) (a1_3 : Int) (a2_0 : Int) (a2_1 : Int) (a2_2 : Int) : Option (Int × Int × Int × Int × Bool) :=
  if 0 ≤ a2_1 ∧ a2_1 < 4 ∧ a2_1 < l0_0.length ∧ 0 ≤ a2_2 ∧ a2_2 < 4 ∧ a2_2 < l0_0.length then
    (if a2_0 = 0 then (let x := mvP l0_0 a1_0 a1_1 a1_2 a1_3 a2_1 a2_2; some (x.1, x.2.1, x.2.2.1, x.2.2.2, decide (a2_1 ≠ a2_2) && decide (much l0_0 a1_0 a1_1 a1_2 a1_3 a2_1 a2_2 > 0)))
    else if a2_0 = 1 then (let x := st4 a1_0 a1_1 a1_2 a1_3 a2_1 (rd l0_0 a2_1); some (x.1, x.2.1, x.2.2.1, x.2.2.2, a0_5 && !eq4 x a1_0 a1_1 a1_2 a1_3))
    else if a2_0 = 2 then (let x := st4 a1_0 a1_1 a1_2 a1_3 a2_1 0; some (x.1, x.2.1, x.2.2.1, x.2.2.2, a0_5 && !eq4 x a1_0 a1_1 a1_2 a1_3))
    else none)
  else none
theorem impl_Puzzle_moved.calls (A0_0 : Option Addr) (c0_0 : Nat) (l0_0 : List Int) (a0_1 : Int) (a0_2 : Int) (a0_3 : Int) (a0_4 : Int) (a0_5 : Bool) (a1_0 : Int) (a1_1 : Int) (a1_2 : Int) (a1_3 : Int) (a2_0 : Int) (a2_1 : Int) (a2_2 : Int) (r1 : Int) (r2 : Int) (r3 : Int) (r4 : Int) (r5 : Bool) (w : World) (hr0_0 : Kd.C (Kd.int .i16) w A0_0 l0_0.length l0_0) (hc0_0 : l0_0.length ≤ c0_0) (h : impl_Puzzle_moved.f l0_0 a0_1 a0_2 a0_3 a0_4 a0_5 a1_0 a1_1 a1_2 a1_3 a2_0 a2_1 a2_2 = some (r1, r2, r3, r4, r5)) :
  Calls Try.prog 92 #[.agg #[.slice A0_0 l0_0.length c0_0, .int .i16 a0_1, .int .i16 a0_2, .int .i16 a0_3, .int .i16 a0_4, .bool a0_5], .agg #[.int .i16 a1_0, .int .i16 a1_1, .int .i16 a1_2, .int .i16 a1_3], .agg #[.int .i8 a2_0, .int .i8 a2_1, .int .i8 a2_2]] w fun e w' => e = .returned (.tuple #[.agg #[.int .i16 r1, .int .i16 r2, .int .i16 r3, .int .i16 r4], .bool r5]) ∧ Below w.heap.size w w' := by
  unfold impl_Puzzle_moved.f at h
  by_cases hb : 0 ≤ a2_1 ∧ a2_1 < 4 ∧ a2_1 < l0_0.length ∧ 0 ≤ a2_2 ∧ a2_2 < 4 ∧ a2_2 < l0_0.length
  · rw [if_pos hb] at h
    obtain ⟨b1, b2, b3, b4, b5, b6⟩ := hb
    by_cases k0 : a2_0 = 0
    · subst k0
      rw [if_pos rfl] at h
      simp only [Option.some.injEq, Prod.mk.injEq] at h
      obtain ⟨rfl, rfl, rfl, rfl, rfl⟩ := h
      exact moved_pour A0_0 c0_0 l0_0 a0_1 a0_2 a0_3 a0_4 a0_5 a1_0 a1_1 a1_2 a1_3 a2_1 a2_2 w hr0_0 hc0_0 ⟨b1, b2⟩ ⟨b4, b5⟩ b6
    rw [if_neg k0] at h
    by_cases k1 : a2_0 = 1
    · subst k1
      rw [if_pos rfl] at h
      simp only [Option.some.injEq, Prod.mk.injEq] at h
      obtain ⟨rfl, rfl, rfl, rfl, rfl⟩ := h
      exact moved_fill A0_0 c0_0 l0_0 a0_1 a0_2 a0_3 a0_4 a0_5 a1_0 a1_1 a1_2 a1_3 a2_1 a2_2 w hr0_0 hc0_0 ⟨b1, b2⟩ b3
    rw [if_neg k1] at h
    by_cases k2 : a2_0 = 2
    · subst k2
      rw [if_pos rfl] at h
      simp only [Option.some.injEq, Prod.mk.injEq] at h
      obtain ⟨rfl, rfl, rfl, rfl, rfl⟩ := h
      exact moved_empty A0_0 c0_0 l0_0 a0_1 a0_2 a0_3 a0_4 a0_5 a1_0 a1_1 a1_2 a1_3 a2_1 a2_2 w hr0_0 hc0_0 ⟨b1, b2⟩
    rw [if_neg k2] at h
    cases h
  rw [if_neg hb] at h
  cases h
end Go.Proofs.Yteciomagemjjaaa.J
