-- Written by wip/tools/myprint.py, a program of this session, by way of the kit's print.
import Derived.Test.YtmmonhpjjjdnjaaUx0
import Derived.Test.YtmmonhpjjjdnjaaLLoadU
import Derived.Test.YtmmonhpjjjdnjaaUx18
namespace Go.Proofs.Ytmmonhpjjjdnjaa.U
open Go.RowKit Go.Proofs.YtmmonhpjjjdnjaaW.PrintWords Go.Proofs.YtmmonhpjjjdnjaaW.PrintLast Go.Proofs.YtmmonhpjjjdnjaaW.PrintMore
attribute [local go_sem] zba zea zha zia zy zz zda zca   -- for this text's walks alone
set_option linter.unusedVariables false
set_option linter.unusedSimpArgs false

/-! ### impl_ValidWeighing: function 48 -/
def impl_ValidWeighing.l0 : Nat → Int → Int → Int → Int → Bool → Bool → Int → Int → Int → Int → Int → Int → Int → Int → Int → Int → Int → Int → Int → Int → Option (Bool)
 | 0, _, _, _, _, _, _, _, _, _, _, _, _, _, _, _, _, _, _, _, _ => none
 | k + 1, x5, x12, x278000, x278001, x278002, x278003, x90012000, x90012001, x90012002, x90012003, x90012004, x90012005, x90012006, x90012007, x90012008, x90012009, x90012010, x90012011, x90012012, x90012013 => if x12 < 14 then (if 0 ≤ x12 then (if (rd [x90012000, x90012001, x90012002, x90012003, x90012004, x90012005, x90012006, x90012007, x90012008, x90012009, x90012010, x90012011, x90012012, x90012013] x12) < (-1) then (some false) else (if (rd [x90012000, x90012001, x90012002, x90012003, x90012004, x90012005, x90012006, x90012007, x90012008, x90012009, x90012010, x90012011, x90012012, x90012013] x12) > 1 then (some false) else (if (rd [x90012000, x90012001, x90012002, x90012003, x90012004, x90012005, x90012006, x90012007, x90012008, x90012009, x90012010, x90012011, x90012012, x90012013] x12) = 0 then (impl_ValidWeighing.l0 k (wrap64 (x5 + (wrap64 (rd [x90012000, x90012001, x90012002, x90012003, x90012004, x90012005, x90012006, x90012007, x90012008, x90012009, x90012010, x90012011, x90012012, x90012013] x12)))) (wrap64 (x12 + 1)) x278000 x278001 x278002 x278003 x90012000 x90012001 x90012002 x90012003 x90012004 x90012005 x90012006 x90012007 x90012008 x90012009 x90012010 x90012011 x90012012 x90012013) else ((impl_Task_places.f x278000 x278001 x278002 x278003).bind fun t281 => (if x12 ≥ t281 then (some false) else (impl_ValidWeighing.l0 k (wrap64 (x5 + (wrap64 (rd [x90012000, x90012001, x90012002, x90012003, x90012004, x90012005, x90012006, x90012007, x90012008, x90012009, x90012010, x90012011, x90012012, x90012013] x12)))) (wrap64 (x12 + 1)) x278000 x278001 x278002 x278003 x90012000 x90012001 x90012002 x90012003 x90012004 x90012005 x90012006 x90012007 x90012008 x90012009 x90012010 x90012011 x90012012 x90012013)))))) else (none)) else (some (x5 == 0))
def impl_ValidWeighing.f (k : Nat) (a0_0 : Int) (a0_1 : Int) (a0_2 : Bool) (a0_3 : Bool) (a1_0 : Int) (a1_1 : Int) (a1_2 : Int) (a1_3 : Int) (a1_4 : Int) (a1_5 : Int) (a1_6 : Int) (a1_7 : Int) (a1_8 : Int) (a1_9 : Int) (a1_10 : Int) (a1_11 : Int) (a1_12 : Int) (a1_13 : Int) : Option (Bool) := (impl_ValidTask.f a0_0 a0_1 a0_2 a0_3).bind fun t279 => (if t279 = true then (impl_ValidWeighing.l0 k 0 0 a0_0 a0_1 a0_2 a0_3 a1_0 a1_1 a1_2 a1_3 a1_4 a1_5 a1_6 a1_7 a1_8 a1_9 a1_10 a1_11 a1_12 a1_13) else (some false))
set_option maxHeartbeats 8000000 in
set_option maxRecDepth 100000 in
theorem impl_ValidWeighing.calls (k : Nat) (a0_0 : Int) (a0_1 : Int) (a0_2 : Bool) (a0_3 : Bool) (a1_0 : Int) (a1_1 : Int) (a1_2 : Int) (a1_3 : Int) (a1_4 : Int) (a1_5 : Int) (a1_6 : Int) (a1_7 : Int) (a1_8 : Int) (a1_9 : Int) (a1_10 : Int) (a1_11 : Int) (a1_12 : Int) (a1_13 : Int) (r : Bool) (w : World) (h : impl_ValidWeighing.f k a0_0 a0_1 a0_2 a0_3 a1_0 a1_1 a1_2 a1_3 a1_4 a1_5 a1_6 a1_7 a1_8 a1_9 a1_10 a1_11 a1_12 a1_13 = some r) :
  Calls Try.prog 48 #[.agg #[.int .i8 a0_0, .int .i8 a0_1, .bool a0_2, .bool a0_3], .agg #[.int .i8 a1_0, .int .i8 a1_1, .int .i8 a1_2, .int .i8 a1_3, .int .i8 a1_4, .int .i8 a1_5, .int .i8 a1_6, .int .i8 a1_7, .int .i8 a1_8, .int .i8 a1_9, .int .i8 a1_10, .int .i8 a1_11, .int .i8 a1_12, .int .i8 a1_13]] w fun e w' => e = .returned (.bool r) ∧ Below w.heap.size w w' := by
 have hu29 := Try.underlying29
 have hu50 := Try.underlying50
 have HB := zd.mk (Below.refl w.heap.size w)
 have H : ((impl_ValidTask.f a0_0 a0_1 a0_2 a0_3).bind fun t279 => (if t279 = true then (impl_ValidWeighing.l0 k 0 0 a0_0 a0_1 a0_2 a0_3 a1_0 a1_1 a1_2 a1_3 a1_4 a1_5 a1_6 a1_7 a1_8 a1_9 a1_10 a1_11 a1_12 a1_13) else (some false))) = some r := h
 clear h
 replace H := Option.bind_eq_some_iff.mp H
 obtain ⟨t279, A30, H⟩ := H
 replace H : (if t279 = true then (impl_ValidWeighing.l0 k 0 0 a0_0 a0_1 a0_2 a0_3 a1_0 a1_1 a1_2 a1_3 a1_4 a1_5 a1_6 a1_7 a1_8 a1_9 a1_10 a1_11 a1_12 a1_13) else (some false)) = some r := H
 have A3 := zd.mk A30
 clear A30
 by_cases c4 : t279 = true
 ·subst c4
  have H1 : (impl_ValidWeighing.l0 k 0 0 a0_0 a0_1 a0_2 a0_3 a1_0 a1_1 a1_2 a1_3 a1_4 a1_5 a1_6 a1_7 a1_8 a1_9 a1_10 a1_11 a1_12 a1_13) = some r := by rw [if_pos rfl] at H; exact H
  clear H
  have H := H1
  clear H1
  have H' := zd.mk H
  clear H
  go_enter Try.func48, Try.ntmps48
  go_wp2_with (first | ((with_reducible refine zo (N := 2) rfl ?_); refine zn ?hg (N := 2) ?hd (cs := #[.int .i8 a0_0, .int .i8 a0_1, .bool a0_2, .bool a0_3]) (t := 29) ?hr ?_; (case hd => rfl); (case hg => rfl); (case hr => first | (go_simp; done) | (go_simp; rfl)); intro gb277 hg w5 hbox hb; obtain ⟨n0_, n2_⟩ := bx (by repeat (first | (with_reducible first | exact HB.out | apply zc | apply za | apply zb) | exact HB.out)) hb hg; have n1_ := zd.mk (hbox); have n3_ := n2_; clear HB; have HB := n0_; have BK277 := n1_; have GW277 := n2_; have GE277 := n3_; clear n0_ n1_ n2_ n3_; clear hb hbox hg) | ((with_reducible refine zo (N := 3) rfl ?_); refine zn ?hg (N := 3) ?hd (cs := #[.int .i8 a1_0, .int .i8 a1_1, .int .i8 a1_2, .int .i8 a1_3, .int .i8 a1_4, .int .i8 a1_5, .int .i8 a1_6, .int .i8 a1_7, .int .i8 a1_8, .int .i8 a1_9, .int .i8 a1_10, .int .i8 a1_11, .int .i8 a1_12, .int .i8 a1_13]) (t := 50) ?hr ?_; (case hd => rfl); (case hg => rfl); (case hr => first | (go_simp; done) | (go_simp; rfl)); intro gb278 hg w6 hbox hb; have n0_ := zd.mk (zj (by (with_reducible repeat (first | refine zf ?_ _ | refine zh ?_ | refine zg ?_ _)); exact BK277.out) hb); obtain ⟨n1_, n3_⟩ := bx (by repeat (first | (with_reducible first | exact HB.out | apply zc | apply za | apply zb | refine ze ?_ GE277.out) | exact HB.out)) hb hg; have n2_ := zd.mk (hbox); have n4_ := n3_; have n5_ := zd.mk ((by rw [hg]; exact Nat.ne_of_lt (zv (by (with_reducible repeat (first | refine zf ?_ _ | refine zh ?_ | refine zg ?_ _)); exact BK277.out)) : gb277 ≠ gb278)); have n6_ := zd.mk n5_.out.symm; clear BK277; clear HB; have BK277 := n0_; have HB := n1_; have BK278 := n2_; have GW278 := n3_; have GE278 := n4_; have NB277_278 := n5_; have NB278_277 := n6_; clear n0_ n1_ n2_ n3_ n4_ n5_ n6_; clear hb hbox hg; have hnb7 := NB277_278.out; have hnc7 := NB278_277.out; obtain ⟨y1_0, y1_1, y1_2, y1_3⟩ := cg4 BK277.out) | ((with_reducible refine zr (f := 45) rfl ?_); refine zx (some 9) rfl rfl Try.func45 (by kernel_rfl) rfl #[.agg #[.int .i8 a0_0, .int .i8 a0_1, .bool a0_2, .bool a0_3]] rfl (by (try simp only [List.map_toArray, List.map_cons, List.map_nil]); first | done | rfl | (simp only [List.length_drop, List.length_take]; rfl)) ?_; (with_reducible refine (impl_ValidTask.calls a0_0 a0_1 a0_2 a0_3 true _ A3.out).mono ?_); rintro e w9 ⟨rfl, hb⟩; refine ⟨_, rfl, ?_⟩; have n0_ := zd.mk (zj (by (with_reducible repeat (first | refine zf ?_ _ | refine zh ?_ | refine zg ?_ _)); exact BK277.out) hb); have n1_ := zd.mk (zj (by (with_reducible repeat (first | refine zf ?_ _ | refine zh ?_ | refine zg ?_ _)); exact BK278.out) hb); have n2_ := zd.mk (zk (by repeat (first | (with_reducible first | exact HB.out | apply zc | apply za | apply zb | refine ze ?_ GE277.out | refine ze ?_ GE278.out) | exact HB.out)) hb); clear BK277; clear BK278; clear HB; have BK277 := n0_; have BK278 := n1_; have HB := n2_; clear n0_ n1_ n2_; (try clear hb); (try clear hb2); (try clear hk); (try clear hi); obtain ⟨y2_0, y2_1, y2_2, y2_3, y2_4, y2_5, y2_6, y2_7, y2_8, y2_9, y2_10, y2_11, y2_12, y2_13⟩ := cg14 BK278.out))
  go_loopg [5, 12] k (fun kq v5 v12 w' => ∃ (x5_1 : Int) (x12_1 : Int), v5 = .int .i64 x5_1 ∧ v12 = .int .i64 x12_1 ∧ zd (impl_ValidWeighing.l0 kq x5_1 x12_1 a0_0 a0_1 a0_2 a0_3 a1_0 a1_1 a1_2 a1_3 a1_4 a1_5 a1_6 a1_7 a1_8 a1_9 a1_10 a1_11 a1_12 a1_13 = some r) ∧ zd (kq ≤ k) ∧ zd (w'.heap[gb277]? = some (.cells #[.int .i8 a0_0, .int .i8 a0_1, .bool a0_2, .bool a0_3] 29 (0, 0))) ∧ zd (w'.heap[gb278]? = some (.cells #[.int .i8 a1_0, .int .i8 a1_1, .int .i8 a1_2, .int .i8 a1_3, .int .i8 a1_4, .int .i8 a1_5, .int .i8 a1_6, .int .i8 a1_7, .int .i8 a1_8, .int .i8 a1_9, .int .i8 a1_10, .int .i8 a1_11, .int .i8 a1_12, .int .i8 a1_13] 50 (0, 0))) ∧ zd (Below w.heap.size w w'))
  case atStart => exact ⟨(0), (0), (by first | rfl | (simp; done) | (simp [*]; done)), (by first | rfl | (simp; done) | (simp [*]; done)), H', ⟨Nat.le_refl _⟩, ⟨by (with_reducible repeat (first | refine zf ?_ _ | refine zh ?_ | refine zg ?_ _)); exact BK277.out⟩, ⟨by (with_reducible repeat (first | refine zf ?_ _ | refine zh ?_ | refine zg ?_ _)); exact BK278.out⟩, ⟨by repeat (first | (with_reducible first | exact HB.out | apply zc | apply za | apply zb | refine ze ?_ GE277.out | refine ze ?_ GE278.out) | exact HB.out)⟩⟩
  case round =>
   clear H'
   try clear p2
   try clear c4
   try clear c7
   try clear y2_0 y2_1 y2_10 y2_11 y2_12 y2_13 y2_2 y2_3 y2_4 y2_5 y2_6 y2_7 y2_8 y2_9
   try clear y1_0 y1_1 y1_2 y1_3
   try clear z1_0 z1_1 z1_10 z1_11 z1_12 z1_13 z1_2 z1_3 z1_4 z1_5 z1_6 z1_7 z1_8 z1_9
   try clear z2_0 z2_1 z2_2 z2_3
   obtain ⟨x5_1, x12_1, rfl, rfl, HA, HK1, BK277, BK278, HB⟩ := hrel
   cases gk with
   | zero => exact absurd HA.out (by simp [impl_ValidWeighing.l0])
   | succ k1 =>
    have H := HA.out
    clear HA
    simp only [impl_ValidWeighing.l0] at H
    by_cases c11 : x12_1 < 14
    ·rw [if_pos c11] at H
     have c11b0 : decide (x12_1 < 14) = true := decide_eq_true c11
     clear c11
     by_cases c12 : 0 ≤ x12_1
     ·rw [if_pos c12] at H
      have c12b0 : decide (0 ≤ x12_1) = true := decide_eq_true c12
      clear c12
      by_cases c13 : (rd [a1_0, a1_1, a1_2, a1_3, a1_4, a1_5, a1_6, a1_7, a1_8, a1_9, a1_10, a1_11, a1_12, a1_13] x12_1) < (-1)
      ·rw [if_pos c13] at H
       have c13b0 : decide ((rd [a1_0, a1_1, a1_2, a1_3, a1_4, a1_5, a1_6, a1_7, a1_8, a1_9, a1_10, a1_11, a1_12, a1_13] x12_1) < (-1)) = true := decide_eq_true c13
       clear c13
       obtain rfl := Option.some.inj H
       have u1_0 : ∀ W_ : World, (Instr.index 50 (.agg #[.int .i8 a1_0, .int .i8 a1_1, .int .i8 a1_2, .int .i8 a1_3, .int .i8 a1_4, .int .i8 a1_5, .int .i8 a1_6, .int .i8 a1_7, .int .i8 a1_8, .int .i8 a1_9, .int .i8 a1_10, .int .i8 a1_11, .int .i8 a1_12, .int .i8 a1_13]) (.int .i64 x12_1)).run Try.prog W_ = .ok (.int .i8 (rd [a1_0, a1_1, a1_2, a1_3, a1_4, a1_5, a1_6, a1_7, a1_8, a1_9, a1_10, a1_11, a1_12, a1_13] x12_1)) W_ := by intro W_; rcases (show (x12_1 : Int) = 0 ∨ (x12_1 : Int) = 1 ∨ (x12_1 : Int) = 2 ∨ (x12_1 : Int) = 3 ∨ (x12_1 : Int) = 4 ∨ (x12_1 : Int) = 5 ∨ (x12_1 : Int) = 6 ∨ (x12_1 : Int) = 7 ∨ (x12_1 : Int) = 8 ∨ (x12_1 : Int) = 9 ∨ (x12_1 : Int) = 10 ∨ (x12_1 : Int) = 11 ∨ (x12_1 : Int) = 12 ∨ (x12_1 : Int) = 13 by have hp_ : 0 ≤ (x12_1 : Int) := od (by first | (with_reducible assumption) | assumption); have hq_ : x12_1 < (14 : Int) := od (by first | (with_reducible assumption) | assumption); omega) with h_ | h_ | h_ | h_ | h_ | h_ | h_ | h_ | h_ | h_ | h_ | h_ | h_ | h_ <;> rw [h_] <;> kernel_rfl
       go_wp2
       go_ret
       exact ⟨by first | rfl | (simp [errW_none, errW_some] <;> rfl) | (simp [*, errW_none, errW_some] <;> rfl), by repeat (first | (with_reducible first | exact HB.out | apply zc | apply za | apply zb | refine ze ?_ GE277.out | refine ze ?_ GE278.out) | exact HB.out)⟩
      rw [if_neg c13] at H
      have c13b0 : decide ((rd [a1_0, a1_1, a1_2, a1_3, a1_4, a1_5, a1_6, a1_7, a1_8, a1_9, a1_10, a1_11, a1_12, a1_13] x12_1) < (-1)) = false := decide_eq_false c13
      clear c13
      by_cases c15 : (rd [a1_0, a1_1, a1_2, a1_3, a1_4, a1_5, a1_6, a1_7, a1_8, a1_9, a1_10, a1_11, a1_12, a1_13] x12_1) > 1
      ·rw [if_pos c15] at H
       have c15b0 : decide (1 < (rd [a1_0, a1_1, a1_2, a1_3, a1_4, a1_5, a1_6, a1_7, a1_8, a1_9, a1_10, a1_11, a1_12, a1_13] x12_1)) = true := decide_eq_true c15
       clear c15
       obtain rfl := Option.some.inj H
       have u2_0 : ∀ W_ : World, (Instr.index 50 (.agg #[.int .i8 a1_0, .int .i8 a1_1, .int .i8 a1_2, .int .i8 a1_3, .int .i8 a1_4, .int .i8 a1_5, .int .i8 a1_6, .int .i8 a1_7, .int .i8 a1_8, .int .i8 a1_9, .int .i8 a1_10, .int .i8 a1_11, .int .i8 a1_12, .int .i8 a1_13]) (.int .i64 x12_1)).run Try.prog W_ = .ok (.int .i8 (rd [a1_0, a1_1, a1_2, a1_3, a1_4, a1_5, a1_6, a1_7, a1_8, a1_9, a1_10, a1_11, a1_12, a1_13] x12_1)) W_ := by intro W_; rcases (show (x12_1 : Int) = 0 ∨ (x12_1 : Int) = 1 ∨ (x12_1 : Int) = 2 ∨ (x12_1 : Int) = 3 ∨ (x12_1 : Int) = 4 ∨ (x12_1 : Int) = 5 ∨ (x12_1 : Int) = 6 ∨ (x12_1 : Int) = 7 ∨ (x12_1 : Int) = 8 ∨ (x12_1 : Int) = 9 ∨ (x12_1 : Int) = 10 ∨ (x12_1 : Int) = 11 ∨ (x12_1 : Int) = 12 ∨ (x12_1 : Int) = 13 by have hp_ : 0 ≤ (x12_1 : Int) := od (by first | (with_reducible assumption) | assumption); have hq_ : x12_1 < (14 : Int) := od (by first | (with_reducible assumption) | assumption); omega) with h_ | h_ | h_ | h_ | h_ | h_ | h_ | h_ | h_ | h_ | h_ | h_ | h_ | h_ <;> rw [h_] <;> kernel_rfl
       go_wp2
       go_ret
       exact ⟨by first | rfl | (simp [errW_none, errW_some] <;> rfl) | (simp [*, errW_none, errW_some] <;> rfl), by repeat (first | (with_reducible first | exact HB.out | apply zc | apply za | apply zb | refine ze ?_ GE277.out | refine ze ?_ GE278.out) | exact HB.out)⟩
      rw [if_neg c15] at H
      have c15b0 : decide (1 < (rd [a1_0, a1_1, a1_2, a1_3, a1_4, a1_5, a1_6, a1_7, a1_8, a1_9, a1_10, a1_11, a1_12, a1_13] x12_1)) = false := decide_eq_false c15
      clear c15
      by_cases c17 : (rd [a1_0, a1_1, a1_2, a1_3, a1_4, a1_5, a1_6, a1_7, a1_8, a1_9, a1_10, a1_11, a1_12, a1_13] x12_1) = 0
      ·rw [if_pos c17] at H
       have c17b0 : ((rd [a1_0, a1_1, a1_2, a1_3, a1_4, a1_5, a1_6, a1_7, a1_8, a1_9, a1_10, a1_11, a1_12, a1_13] x12_1) == 0) = true := beq_iff_eq.mpr c17
       have c17b1 : ((rd [a1_0, a1_1, a1_2, a1_3, a1_4, a1_5, a1_6, a1_7, a1_8, a1_9, a1_10, a1_11, a1_12, a1_13] x12_1) != 0) = false := bne_eq_false_iff_eq.mpr c17
       clear c17
       have H' := zd.mk H
       clear H
       have u3_0 : ∀ W_ : World, (Instr.index 50 (.agg #[.int .i8 a1_0, .int .i8 a1_1, .int .i8 a1_2, .int .i8 a1_3, .int .i8 a1_4, .int .i8 a1_5, .int .i8 a1_6, .int .i8 a1_7, .int .i8 a1_8, .int .i8 a1_9, .int .i8 a1_10, .int .i8 a1_11, .int .i8 a1_12, .int .i8 a1_13]) (.int .i64 x12_1)).run Try.prog W_ = .ok (.int .i8 (rd [a1_0, a1_1, a1_2, a1_3, a1_4, a1_5, a1_6, a1_7, a1_8, a1_9, a1_10, a1_11, a1_12, a1_13] x12_1)) W_ := by intro W_; rcases (show (x12_1 : Int) = 0 ∨ (x12_1 : Int) = 1 ∨ (x12_1 : Int) = 2 ∨ (x12_1 : Int) = 3 ∨ (x12_1 : Int) = 4 ∨ (x12_1 : Int) = 5 ∨ (x12_1 : Int) = 6 ∨ (x12_1 : Int) = 7 ∨ (x12_1 : Int) = 8 ∨ (x12_1 : Int) = 9 ∨ (x12_1 : Int) = 10 ∨ (x12_1 : Int) = 11 ∨ (x12_1 : Int) = 12 ∨ (x12_1 : Int) = 13 by have hp_ : 0 ≤ (x12_1 : Int) := od (by first | (with_reducible assumption) | assumption); have hq_ : x12_1 < (14 : Int) := od (by first | (with_reducible assumption) | assumption); omega) with h_ | h_ | h_ | h_ | h_ | h_ | h_ | h_ | h_ | h_ | h_ | h_ | h_ | h_ <;> rw [h_] <;> kernel_rfl
       go_wp2
       go_roundg k1
       case measure => have := HK1.out; omega
       case rel => exact ⟨(wrap64 (x5_1 + (wrap64 (rd [a1_0, a1_1, a1_2, a1_3, a1_4, a1_5, a1_6, a1_7, a1_8, a1_9, a1_10, a1_11, a1_12, a1_13] x12_1)))), (wrap64 (x12_1 + 1)), (by first | rfl | (simp; done) | (simp [*]; done)), (by first | rfl | (simp; done) | (simp [*]; done)), H', ⟨by have := HK1.out; omega⟩, ⟨by (with_reducible repeat (first | refine zf ?_ _ | refine zh ?_ | refine zg ?_ _)); exact BK277.out⟩, ⟨by (with_reducible repeat (first | refine zf ?_ _ | refine zh ?_ | refine zg ?_ _)); exact BK278.out⟩, ⟨by repeat (first | (with_reducible first | exact HB.out | apply zc | apply za | apply zb | refine ze ?_ GE277.out | refine ze ?_ GE278.out) | exact HB.out)⟩⟩
      rw [if_neg c17] at H
      have c17b0 : ((rd [a1_0, a1_1, a1_2, a1_3, a1_4, a1_5, a1_6, a1_7, a1_8, a1_9, a1_10, a1_11, a1_12, a1_13] x12_1) == 0) = false := beq_eq_false_iff_ne.mpr c17
      have c17b1 : ((rd [a1_0, a1_1, a1_2, a1_3, a1_4, a1_5, a1_6, a1_7, a1_8, a1_9, a1_10, a1_11, a1_12, a1_13] x12_1) != 0) = true := bne_iff_ne.mpr c17
      replace H := Option.bind_eq_some_iff.mp H
      obtain ⟨t281, A190, H⟩ := H
      replace H : (if x12_1 ≥ t281 then (some false) else (impl_ValidWeighing.l0 k1 (wrap64 (x5_1 + (wrap64 (rd [a1_0, a1_1, a1_2, a1_3, a1_4, a1_5, a1_6, a1_7, a1_8, a1_9, a1_10, a1_11, a1_12, a1_13] x12_1)))) (wrap64 (x12_1 + 1)) a0_0 a0_1 a0_2 a0_3 a1_0 a1_1 a1_2 a1_3 a1_4 a1_5 a1_6 a1_7 a1_8 a1_9 a1_10 a1_11 a1_12 a1_13)) = some r := H
      have A19 := zd.mk A190
      clear A190
      by_cases c20 : x12_1 ≥ t281
      ·rw [if_pos c20] at H
       have c20b0 : decide (t281 ≤ x12_1) = true := decide_eq_true c20
       clear c20
       obtain rfl := Option.some.inj H
       have u4_0 : ∀ W_ : World, (Instr.index 50 (.agg #[.int .i8 a1_0, .int .i8 a1_1, .int .i8 a1_2, .int .i8 a1_3, .int .i8 a1_4, .int .i8 a1_5, .int .i8 a1_6, .int .i8 a1_7, .int .i8 a1_8, .int .i8 a1_9, .int .i8 a1_10, .int .i8 a1_11, .int .i8 a1_12, .int .i8 a1_13]) (.int .i64 x12_1)).run Try.prog W_ = .ok (.int .i8 (rd [a1_0, a1_1, a1_2, a1_3, a1_4, a1_5, a1_6, a1_7, a1_8, a1_9, a1_10, a1_11, a1_12, a1_13] x12_1)) W_ := by intro W_; rcases (show (x12_1 : Int) = 0 ∨ (x12_1 : Int) = 1 ∨ (x12_1 : Int) = 2 ∨ (x12_1 : Int) = 3 ∨ (x12_1 : Int) = 4 ∨ (x12_1 : Int) = 5 ∨ (x12_1 : Int) = 6 ∨ (x12_1 : Int) = 7 ∨ (x12_1 : Int) = 8 ∨ (x12_1 : Int) = 9 ∨ (x12_1 : Int) = 10 ∨ (x12_1 : Int) = 11 ∨ (x12_1 : Int) = 12 ∨ (x12_1 : Int) = 13 by have hp_ : 0 ≤ (x12_1 : Int) := od (by first | (with_reducible assumption) | assumption); have hq_ : x12_1 < (14 : Int) := od (by first | (with_reducible assumption) | assumption); omega) with h_ | h_ | h_ | h_ | h_ | h_ | h_ | h_ | h_ | h_ | h_ | h_ | h_ | h_ <;> rw [h_] <;> kernel_rfl
       have hnb22 := NB277_278.out
       have hnc22 := NB278_277.out
       obtain ⟨y3_0, y3_1, y3_2, y3_3⟩ := cg4 BK277.out
       go_wp2_with (first | (go_at_call 58; (with_reducible refine (impl_Task_places.calls a0_0 a0_1 a0_2 a0_3 t281 _ A19.out).mono ?_); rintro e w24 ⟨rfl, hb⟩; have n0_ := zd.mk (zj (by (with_reducible repeat (first | refine zf ?_ _ | refine zh ?_ | refine zg ?_ _)); exact BK277.out) hb); have n1_ := zd.mk (zj (by (with_reducible repeat (first | refine zf ?_ _ | refine zh ?_ | refine zg ?_ _)); exact BK278.out) hb); have n2_ := zd.mk (zk (by repeat (first | (with_reducible first | exact HB.out | apply zc | apply za | apply zb | refine ze ?_ GE277.out | refine ze ?_ GE278.out) | exact HB.out)) hb); clear BK277; clear BK278; clear HB; have BK277 := n0_; have BK278 := n1_; have HB := n2_; clear n0_ n1_ n2_; (try clear hb); (try clear hb2); (try clear hk); (try clear hi)))
       go_ret
       exact ⟨by first | rfl | (simp [errW_none, errW_some] <;> rfl) | (simp [*, errW_none, errW_some] <;> rfl), by repeat (first | (with_reducible first | exact HB.out | apply zc | apply za | apply zb | refine ze ?_ GE277.out | refine ze ?_ GE278.out) | exact HB.out)⟩
      rw [if_neg c20] at H
      have c20b0 : decide (t281 ≤ x12_1) = false := decide_eq_false c20
      clear c20
      have H' := zd.mk H
      clear H
      have u5_0 : ∀ W_ : World, (Instr.index 50 (.agg #[.int .i8 a1_0, .int .i8 a1_1, .int .i8 a1_2, .int .i8 a1_3, .int .i8 a1_4, .int .i8 a1_5, .int .i8 a1_6, .int .i8 a1_7, .int .i8 a1_8, .int .i8 a1_9, .int .i8 a1_10, .int .i8 a1_11, .int .i8 a1_12, .int .i8 a1_13]) (.int .i64 x12_1)).run Try.prog W_ = .ok (.int .i8 (rd [a1_0, a1_1, a1_2, a1_3, a1_4, a1_5, a1_6, a1_7, a1_8, a1_9, a1_10, a1_11, a1_12, a1_13] x12_1)) W_ := by intro W_; rcases (show (x12_1 : Int) = 0 ∨ (x12_1 : Int) = 1 ∨ (x12_1 : Int) = 2 ∨ (x12_1 : Int) = 3 ∨ (x12_1 : Int) = 4 ∨ (x12_1 : Int) = 5 ∨ (x12_1 : Int) = 6 ∨ (x12_1 : Int) = 7 ∨ (x12_1 : Int) = 8 ∨ (x12_1 : Int) = 9 ∨ (x12_1 : Int) = 10 ∨ (x12_1 : Int) = 11 ∨ (x12_1 : Int) = 12 ∨ (x12_1 : Int) = 13 by have hp_ : 0 ≤ (x12_1 : Int) := od (by first | (with_reducible assumption) | assumption); have hq_ : x12_1 < (14 : Int) := od (by first | (with_reducible assumption) | assumption); omega) with h_ | h_ | h_ | h_ | h_ | h_ | h_ | h_ | h_ | h_ | h_ | h_ | h_ | h_ <;> rw [h_] <;> kernel_rfl
      have hnb26 := NB277_278.out
      have hnc26 := NB278_277.out
      obtain ⟨y4_0, y4_1, y4_2, y4_3⟩ := cg4 BK277.out
      go_wp2_with (first | (go_at_call 58; (with_reducible refine (impl_Task_places.calls a0_0 a0_1 a0_2 a0_3 t281 _ A19.out).mono ?_); rintro e w28 ⟨rfl, hb⟩; have n0_ := zd.mk (zj (by (with_reducible repeat (first | refine zf ?_ _ | refine zh ?_ | refine zg ?_ _)); exact BK277.out) hb); have n1_ := zd.mk (zj (by (with_reducible repeat (first | refine zf ?_ _ | refine zh ?_ | refine zg ?_ _)); exact BK278.out) hb); have n2_ := zd.mk (zk (by repeat (first | (with_reducible first | exact HB.out | apply zc | apply za | apply zb | refine ze ?_ GE277.out | refine ze ?_ GE278.out) | exact HB.out)) hb); clear BK277; clear BK278; clear HB; have BK277 := n0_; have BK278 := n1_; have HB := n2_; clear n0_ n1_ n2_; (try clear hb); (try clear hb2); (try clear hk); (try clear hi)))
      go_roundg k1
      case measure => have := HK1.out; omega
      case rel => exact ⟨(wrap64 (x5_1 + (wrap64 (rd [a1_0, a1_1, a1_2, a1_3, a1_4, a1_5, a1_6, a1_7, a1_8, a1_9, a1_10, a1_11, a1_12, a1_13] x12_1)))), (wrap64 (x12_1 + 1)), (by first | rfl | (simp; done) | (simp [*]; done)), (by first | rfl | (simp; done) | (simp [*]; done)), H', ⟨by have := HK1.out; omega⟩, ⟨by (with_reducible repeat (first | refine zf ?_ _ | refine zh ?_ | refine zg ?_ _)); exact BK277.out⟩, ⟨by (with_reducible repeat (first | refine zf ?_ _ | refine zh ?_ | refine zg ?_ _)); exact BK278.out⟩, ⟨by repeat (first | (with_reducible first | exact HB.out | apply zc | apply za | apply zb | refine ze ?_ GE277.out | refine ze ?_ GE278.out) | exact HB.out)⟩⟩
     rw [if_neg c12] at H
     exact absurd H (by simp)
    rw [if_neg c11] at H
    have c11b0 : decide (x12_1 < 14) = false := decide_eq_false c11
    clear c11
    obtain rfl := Option.some.inj H
    go_wp2
    go_ret
    exact ⟨by first | rfl | (simp [errW_none, errW_some] <;> rfl) | (simp [*, errW_none, errW_some] <;> rfl), by repeat (first | (with_reducible first | exact HB.out | apply zc | apply za | apply zb | refine ze ?_ GE277.out | refine ze ?_ GE278.out) | exact HB.out)⟩
 replace c4 := Bool.eq_false_iff.mpr c4
 subst c4
 have H1 : (some false) = some r := by rw [if_neg (show ¬ (false = true) by decide)] at H; exact H
 clear H
 have H := H1
 clear H1
 obtain rfl := Option.some.inj H
 go_enter Try.func48, Try.ntmps48
 go_wp2_with (first | ((with_reducible refine zo (N := 2) rfl ?_); refine zn ?hg (N := 2) ?hd (cs := #[.int .i8 a0_0, .int .i8 a0_1, .bool a0_2, .bool a0_3]) (t := 29) ?hr ?_; (case hd => rfl); (case hg => rfl); (case hr => first | (go_simp; done) | (go_simp; rfl)); intro gb277 hg w29 hbox hb; obtain ⟨n0_, n2_⟩ := bx (by repeat (first | (with_reducible first | exact HB.out | apply zc | apply za | apply zb) | exact HB.out)) hb hg; have n1_ := zd.mk (hbox); have n3_ := n2_; clear HB; have HB := n0_; have BK277 := n1_; have GW277 := n2_; have GE277 := n3_; clear n0_ n1_ n2_ n3_; clear hb hbox hg) | ((with_reducible refine zo (N := 3) rfl ?_); refine zn ?hg (N := 3) ?hd (cs := #[.int .i8 a1_0, .int .i8 a1_1, .int .i8 a1_2, .int .i8 a1_3, .int .i8 a1_4, .int .i8 a1_5, .int .i8 a1_6, .int .i8 a1_7, .int .i8 a1_8, .int .i8 a1_9, .int .i8 a1_10, .int .i8 a1_11, .int .i8 a1_12, .int .i8 a1_13]) (t := 50) ?hr ?_; (case hd => rfl); (case hg => rfl); (case hr => first | (go_simp; done) | (go_simp; rfl)); intro gb278 hg w30 hbox hb; have n0_ := zd.mk (zj (by (with_reducible repeat (first | refine zf ?_ _ | refine zh ?_ | refine zg ?_ _)); exact BK277.out) hb); obtain ⟨n1_, n3_⟩ := bx (by repeat (first | (with_reducible first | exact HB.out | apply zc | apply za | apply zb | refine ze ?_ GE277.out) | exact HB.out)) hb hg; have n2_ := zd.mk (hbox); have n4_ := n3_; have n5_ := zd.mk ((by rw [hg]; exact Nat.ne_of_lt (zv (by (with_reducible repeat (first | refine zf ?_ _ | refine zh ?_ | refine zg ?_ _)); exact BK277.out)) : gb277 ≠ gb278)); have n6_ := zd.mk n5_.out.symm; clear BK277; clear HB; have BK277 := n0_; have HB := n1_; have BK278 := n2_; have GW278 := n3_; have GE278 := n4_; have NB277_278 := n5_; have NB278_277 := n6_; clear n0_ n1_ n2_ n3_ n4_ n5_ n6_; clear hb hbox hg; have hnb31 := NB277_278.out; have hnc31 := NB278_277.out; obtain ⟨y5_0, y5_1, y5_2, y5_3⟩ := cg4 BK277.out) | ((with_reducible refine zr (f := 45) rfl ?_); refine zx (some 9) rfl rfl Try.func45 (by kernel_rfl) rfl #[.agg #[.int .i8 a0_0, .int .i8 a0_1, .bool a0_2, .bool a0_3]] rfl (by (try simp only [List.map_toArray, List.map_cons, List.map_nil]); first | done | rfl | (simp only [List.length_drop, List.length_take]; rfl)) ?_; (with_reducible refine (impl_ValidTask.calls a0_0 a0_1 a0_2 a0_3 false _ A3.out).mono ?_); rintro e w33 ⟨rfl, hb⟩; refine ⟨_, rfl, ?_⟩; have n0_ := zd.mk (zj (by (with_reducible repeat (first | refine zf ?_ _ | refine zh ?_ | refine zg ?_ _)); exact BK277.out) hb); have n1_ := zd.mk (zj (by (with_reducible repeat (first | refine zf ?_ _ | refine zh ?_ | refine zg ?_ _)); exact BK278.out) hb); have n2_ := zd.mk (zk (by repeat (first | (with_reducible first | exact HB.out | apply zc | apply za | apply zb | refine ze ?_ GE277.out | refine ze ?_ GE278.out) | exact HB.out)) hb); clear BK277; clear BK278; clear HB; have BK277 := n0_; have BK278 := n1_; have HB := n2_; clear n0_ n1_ n2_; (try clear hb); (try clear hb2); (try clear hk); (try clear hi)))
 go_ret
 exact ⟨by first | rfl | (simp [errW_none, errW_some] <;> rfl) | (simp [*, errW_none, errW_some] <;> rfl), by repeat (first | (with_reducible first | exact HB.out | apply zc | apply za | apply zb | refine ze ?_ GE277.out | refine ze ?_ GE278.out) | exact HB.out)⟩

end Go.Proofs.Ytmmonhpjjjdnjaa.U
