-- Written by wip/tools/myprint.py, a program of this session, by way of the kit's print.
import Derived.Test.YtonhinbblofpaaaMx0
import Derived.Test.YtonhinbblofpaaaMx2
namespace Go.Proofs.Ytonhinbblofpaaa.M
open Go.RowKit Go.Proofs.YtonhinbblofpaaaW.PrintWords Go.Proofs.YtonhinbblofpaaaW.PrintLast Go.Proofs.YtonhinbblofpaaaW.PrintMore
attribute [local go_sem] max2_int min2_int max_two min_two max_three min_three max_four min_four   -- for this text's walks alone
set_option linter.unusedVariables false
set_option linter.unusedSimpArgs false

/-! ### impl_readSet: function 27 -/
def impl_readSet.l0 : Nat → ByteArray → Int → Int → Int → Int → Option (Int × Bool)
  | 0, _, _, _, _, _ => none
  | k + 1, x0, x1, x6, x10, x11 => if x11 < x10 then (if 0 ≤ x11 then (if x11 < (x0.size : Int) then (if (wrap64 ((wrap64 (bt x0 x11)) - 97)) ≥ 0 then (if (wrap64 ((wrap64 (bt x0 x11)) - 97)) < x1 then (if 0 ≤ (wrap64 ((wrap64 (bt x0 x11)) - 97)) then (impl_readSet.l0 k x0 x1 (Go.bits .or .u64 x6 (shl .u64 1 (wrap64 ((wrap64 (bt x0 x11)) - 97)))) x10 (wrap64 (x11 + 1))) else (none)) else (impl_readSet.l0 k x0 x1 x6 x10 (wrap64 (x11 + 1)))) else (impl_readSet.l0 k x0 x1 x6 x10 (wrap64 (x11 + 1)))) else (none)) else (none)) else ((impl_setText.f k x6).bind fun t111 => (some (x6, (t111.toList == x0.toList))))
def impl_readSet.f (k : Nat) (a0 : ByteArray) (a1 : Int) : Option (Int × Bool) := impl_readSet.l0 k a0 a1 0 (a0.size : Int) 0
theorem impl_readSet.mono_l : ∀ k, (∀ y0 y1 y2 y3 y4, LeO (impl_readSet.l0 k y0 y1 y2 y3 y4) (impl_readSet.l0 (k + 1) y0 y1 y2 y3 y4))
  | 0 => fun _ _ _ _ _ r h => by simp [impl_readSet.l0] at h
  | k + 1 => by
    have ih0 := impl_readSet.mono_l k
    · intro y0 y1 y2 y3 y4
      unfold impl_readSet.l0
      repeat' first
      | (with_reducible exact ih0 _ _ _ _ _)
      | (with_reducible exact impl_setText.mono _ _)
      | (with_reducible exact LeO.refl _)
      | (with_reducible exact LeO.none _)
      | (with_reducible refine LeO.ite ?_ ?_)
      | (with_reducible refine LeO.bind ?_ (fun _ => ?_))
      | exact ih0 _ _ _ _ _
      | exact impl_setText.mono _ _
      | exact LeO.none _
      | refine LeO.ite ?_ ?_
      | refine LeO.bind ?_ (fun _ => ?_)
theorem impl_readSet.mono : ∀ a0 a1 k, LeO (impl_readSet.f k a0 a1) (impl_readSet.f (k + 1) a0 a1) := by
  intro a0 a1 k
  have ih0 := impl_readSet.mono_l k
  unfold impl_readSet.f
  repeat' first
      | (with_reducible exact ih0 _ _ _ _ _)
      | (with_reducible exact impl_setText.mono _ _)
      | (with_reducible exact LeO.refl _)
      | (with_reducible exact LeO.none _)
      | (with_reducible refine LeO.ite ?_ ?_)
      | (with_reducible refine LeO.bind ?_ (fun _ => ?_))
      | exact ih0 _ _ _ _ _
      | exact impl_setText.mono _ _
      | exact LeO.none _
      | refine LeO.ite ?_ ?_
      | refine LeO.bind ?_ (fun _ => ?_)
set_option maxHeartbeats 8000000 in
set_option maxRecDepth 100000 in
theorem impl_readSet.calls (k : Nat) (a0 : ByteArray) (a1 : Int) (r1 : Int) (r2 : Bool) (w : World) (h : impl_readSet.f k a0 a1 = some (r1, r2)) :
    Calls Try.prog 27 #[.string a0, .int .i64 a1] w fun e w' => e = .returned (.tuple #[.int .u64 r1, .bool r2]) ∧ Below w.heap.size w w' := by
  have HB := Aside0.mk (Below.refl w.heap.size w)
  have H : (impl_readSet.l0 k a0 a1 0 (a0.size : Int) 0) = some (r1, r2) := h
  clear h
  have H' := Aside0.mk H
  clear H
  go_enter Try.func27, Try.ntmps27
  go_wp2
  go_loopg [6, 11] k (fun kq v6 v11 w' => ∃ (x6_1 : Int) (x11_1 : Int), v6 = .int .u64 x6_1 ∧ v11 = .int .i64 x11_1 ∧ Aside0 (impl_readSet.l0 kq a0 a1 x6_1 (a0.size : Int) x11_1 = some (r1, r2)) ∧ Aside0 (kq ≤ k) ∧ Aside0 (Below w.heap.size w w'))
  case atStart => exact ⟨(0), (0), (by first | rfl | (simp; done) | (simp [*]; done)), (by first | rfl | (simp; done) | (simp [*]; done)), H', ⟨Nat.le_refl _⟩, ⟨by repeat (first | (with_reducible first | exact HB.out | apply below_alloc | apply pw_below_drewN | apply below_drew1) | exact HB.out)⟩⟩
  case round =>
    clear H'
    try clear c2
    try clear p2
    obtain ⟨x6_1, x11_1, rfl, rfl, HA, HK1, HB⟩ := hrel
    cases gk with
    | zero => exact absurd HA.out (by simp [impl_readSet.l0])
    | succ k1 =>
      have H := HA.out
      clear HA
      simp only [impl_readSet.l0] at H
      by_cases c3 : x11_1 < (a0.size : Int)
      · rw [if_pos c3] at H
        have c3b0 : decide (x11_1 < (a0.size : Int)) = true := decide_eq_true c3
        clear c3
        by_cases c4 : 0 ≤ x11_1
        · rw [if_pos c4] at H
          have c4b0 : decide (0 ≤ x11_1) = true := decide_eq_true c4
          clear c4
          by_cases c5 : x11_1 < (a0.size : Int)
          · rw [if_pos c5] at H
            have c5b0 : decide (x11_1 < (a0.size : Int)) = true := decide_eq_true c5
            clear c5
            by_cases c7 : (wrap64 ((wrap64 (bt a0 x11_1)) - 97)) ≥ 0
            · rw [if_pos c7] at H
              have c7b0 : decide (0 ≤ (wrap64 ((wrap64 (bt a0 x11_1)) - 97))) = true := decide_eq_true c7
              (try (have c7b1 : decide (0 ≤ (IntKind.i64.wrap ((IntKind.i64.wrap (bt a0 x11_1)) - 97))) = true := by have h_ : decide (0 ≤ (wrap64 ((wrap64 (bt a0 x11_1)) - 97))) = true := decide_eq_true c7; simpa only [i64_w, i32_w] using h_))
              clear c7
              by_cases c8 : (wrap64 ((wrap64 (bt a0 x11_1)) - 97)) < a1
              · rw [if_pos c8] at H
                have c8b0 : decide ((wrap64 ((wrap64 (bt a0 x11_1)) - 97)) < a1) = true := decide_eq_true c8
                (try (have c8b1 : decide ((IntKind.i64.wrap ((IntKind.i64.wrap (bt a0 x11_1)) - 97)) < a1) = true := by have h_ : decide ((wrap64 ((wrap64 (bt a0 x11_1)) - 97)) < a1) = true := decide_eq_true c8; simpa only [i64_w, i32_w] using h_))
                clear c8
                obtain ⟨ji9, hji9⟩ : ∃ j_ : Int, (wrap64 ((wrap64 (bt a0 x11_1)) - 97)) = j_ := ⟨_, rfl⟩
                replace H : (if 0 ≤ (ji9) then (impl_readSet.l0 k1 a0 a1 (Go.bits .or .u64 x6_1 (shl .u64 1 (ji9))) (a0.size : Int) (wrap64 (x11_1 + 1))) else (none)) = some (r1, r2) := by first | (rw [hji9] at H; exact H) | (simp only [hji9] at H ⊢; exact H)
                (try rw [hji9] at c7b0)
                (try rw [hji9] at c7b1)
                (try rw [hji9] at c8b0)
                (try rw [hji9] at c8b1)
                have hji9w : (IntKind.i64.wrap ((wrap64 (bt a0 x11_1)) - 97)) = ji9 := (i64_w _).trans hji9
                by_cases c10 : 0 ≤ (ji9)
                · rw [if_pos c10] at H
                  have c10b0 := eq_true c10
                  have c10b1 : decide (0 ≤ (ji9)) = true := decide_eq_true c10
                  clear c10
                  obtain ⟨ji11, hji11⟩ : ∃ j_ : Int, (shl .u64 1 (ji9)) = j_ := ⟨_, rfl⟩
                  replace H : (impl_readSet.l0 k1 a0 a1 (Go.bits .or .u64 x6_1 (ji11)) (a0.size : Int) (wrap64 (x11_1 + 1))) = some (r1, r2) := by first | (rw [hji11] at H; exact H) | (simp only [hji11] at H ⊢; exact H)
                  have hji11_ : (IntKind.u64.wrap (1 * 2 ^ min (ji9).toNat 64)) = ji11 := hji11
                  have hji11z : (ji9) ≤ 64 → (IntKind.u64.wrap (1 * 2 ^ (ji9).toNat)) = ji11 := shl_small hji11
                  have hji11u : (IntKind.u64.wrap (2 ^ min (ji9).toNat 64)) = ji11 := by have h_ := hji11_; rw [Int.one_mul] at h_; exact h_
                  have hji11v : (ji9) ≤ 64 → (IntKind.u64.wrap (2 ^ (ji9).toNat)) = ji11 := fun hle_ => by have h_ := hji11z hle_; rw [Int.one_mul] at h_; exact h_
                  have H' := Aside0.mk H
                  clear H
                  have p6 : 0 ≤ (x11_1 : Int) := of_decide_eq_true (by first | (with_reducible assumption) | assumption)
                  have q6 : x11_1 < (a0.size : Int) := of_decide_eq_true (by first | (with_reducible assumption) | assumption)
                  have hx6 := bt_at a0 x11_1
                  replace p6 := eq_true p6
                  replace q6 := eq_true q6
                  go_wp2
                  go_roundg k1
                  case measure => have := HK1.out; omega
                  case rel => exact ⟨(Go.bits .or .u64 x6_1 (ji11)), (wrap64 (x11_1 + 1)), (by first | rfl | (simp; done) | (simp only [← hji11] <;> (first | rfl | simp)) | (simp [*]; done)), (by first | rfl | (simp; done) | (simp [*]; done)), H', ⟨by have := HK1.out; omega⟩, ⟨by repeat (first | (with_reducible first | exact HB.out | apply below_alloc | apply pw_below_drewN | apply below_drew1) | exact HB.out)⟩⟩
                · rw [if_neg c10] at H
                  exact absurd H (by simp)
              · rw [if_neg c8] at H
                have c8b0 : decide ((wrap64 ((wrap64 (bt a0 x11_1)) - 97)) < a1) = false := decide_eq_false c8
                (try (have c8b1 : decide ((IntKind.i64.wrap ((IntKind.i64.wrap (bt a0 x11_1)) - 97)) < a1) = false := by have h_ : decide ((wrap64 ((wrap64 (bt a0 x11_1)) - 97)) < a1) = false := decide_eq_false c8; simpa only [i64_w, i32_w] using h_))
                clear c8
                have H' := Aside0.mk H
                clear H
                have p6 : 0 ≤ (x11_1 : Int) := of_decide_eq_true (by first | (with_reducible assumption) | assumption)
                have q6 : x11_1 < (a0.size : Int) := of_decide_eq_true (by first | (with_reducible assumption) | assumption)
                have hx6 := bt_at a0 x11_1
                replace p6 := eq_true p6
                replace q6 := eq_true q6
                go_wp2
                go_roundg k1
                case measure => have := HK1.out; omega
                case rel => exact ⟨(x6_1), (wrap64 (x11_1 + 1)), (by first | rfl | (simp; done) | (simp [*]; done)), (by first | rfl | (simp; done) | (simp [*]; done)), H', ⟨by have := HK1.out; omega⟩, ⟨by repeat (first | (with_reducible first | exact HB.out | apply below_alloc | apply pw_below_drewN | apply below_drew1) | exact HB.out)⟩⟩
            · rw [if_neg c7] at H
              have c7b0 : decide (0 ≤ (wrap64 ((wrap64 (bt a0 x11_1)) - 97))) = false := decide_eq_false c7
              (try (have c7b1 : decide (0 ≤ (IntKind.i64.wrap ((IntKind.i64.wrap (bt a0 x11_1)) - 97))) = false := by have h_ : decide (0 ≤ (wrap64 ((wrap64 (bt a0 x11_1)) - 97))) = false := decide_eq_false c7; simpa only [i64_w, i32_w] using h_))
              clear c7
              have H' := Aside0.mk H
              clear H
              have p6 : 0 ≤ (x11_1 : Int) := of_decide_eq_true (by first | (with_reducible assumption) | assumption)
              have q6 : x11_1 < (a0.size : Int) := of_decide_eq_true (by first | (with_reducible assumption) | assumption)
              have hx6 := bt_at a0 x11_1
              replace p6 := eq_true p6
              replace q6 := eq_true q6
              go_wp2
              go_roundg k1
              case measure => have := HK1.out; omega
              case rel => exact ⟨(x6_1), (wrap64 (x11_1 + 1)), (by first | rfl | (simp; done) | (simp [*]; done)), (by first | rfl | (simp; done) | (simp [*]; done)), H', ⟨by have := HK1.out; omega⟩, ⟨by repeat (first | (with_reducible first | exact HB.out | apply below_alloc | apply pw_below_drewN | apply below_drew1) | exact HB.out)⟩⟩
          · rw [if_neg c5] at H
            exact absurd H (by simp)
        · rw [if_neg c4] at H
          exact absurd H (by simp)
      · rw [if_neg c3] at H
        have c3b0 : decide (x11_1 < (a0.size : Int)) = false := decide_eq_false c3
        clear c3
        replace H := Option.bind_eq_some_iff.mp H
        obtain ⟨t111, A120, H⟩ := H
        replace H : (some (x6_1, (t111.toList == a0.toList))) = some (r1, r2) := H
        have A12 := Aside0.mk A120
        clear A120
        simp only [Option.some.injEq, Prod.mk.injEq] at H
        obtain ⟨rfl, rfl⟩ := H
        go_wp2_with (first | ((with_reducible refine gate_callee (f := 25) rfl ?_); refine goesL_ (some 33) rfl rfl Try.func25 (by kernel_rfl) rfl #[.int .u64 x6_1] rfl (by (try simp only [List.map_toArray, List.map_cons, List.map_nil]); first | done | rfl | (simp only [List.length_drop, List.length_take]; rfl)) ?_; (with_reducible refine (impl_setText.calls k1 x6_1 t111 _ A12.out).mono ?_); rintro e w13 ⟨rfl, hb⟩; refine ⟨_, rfl, ?_⟩; have n0_ := Aside0.mk (below_step (by repeat (first | (with_reducible first | exact HB.out | apply below_alloc | apply pw_below_drewN | apply below_drew1) | exact HB.out)) hb); clear HB; have HB := n0_; clear n0_; (try clear hb); (try clear hb2); (try clear hk); (try clear hi)))
        go_ret2
        exact ⟨by first | rfl | (simp [errW_none, errW_some] <;> rfl) | (simp [*, errW_none, errW_some] <;> rfl), by repeat (first | (with_reducible first | exact HB.out | apply below_alloc | apply pw_below_drewN | apply below_drew1) | exact HB.out)⟩

/-! ### impl_ReadThings: function 12 -/
def impl_ReadThings.f (k : Nat) (a0 : ByteArray) : Option (Int × Int) := (impl_readSet.f k a0 8).bind fun bt112 => (if bt112.2 = true then (some (IntKind.u16.wrap (bt112.1), 0)) else (some (0, 5)))
theorem impl_ReadThings.mono : ∀ a0 k, LeO (impl_ReadThings.f k a0) (impl_ReadThings.f (k + 1) a0) := by
  intro a0 k
  unfold impl_ReadThings.f
  repeat' first
      | (with_reducible exact impl_readSet.mono _ _ _)
      | (with_reducible exact LeO.refl _)
      | (with_reducible exact LeO.none _)
      | (with_reducible refine LeO.ite ?_ ?_)
      | (with_reducible refine LeO.bind ?_ (fun _ => ?_))
      | exact impl_readSet.mono _ _ _
      | exact LeO.none _
      | refine LeO.ite ?_ ?_
      | refine LeO.bind ?_ (fun _ => ?_)
set_option maxHeartbeats 8000000 in
set_option maxRecDepth 100000 in
theorem impl_ReadThings.calls (k : Nat) (a0 : ByteArray) (r1 : Int) (r2 : Int) (w : World) (h : impl_ReadThings.f k a0 = some (r1, r2)) :
    Calls Try.prog 12 #[.string a0] w fun e w' => e = .returned (.tuple #[.int .u16 r1, .int .i64 r2]) ∧ Below w.heap.size w w' := by
  have HB := Aside0.mk (Below.refl w.heap.size w)
  have H : ((impl_readSet.f k a0 8).bind fun bt112 => (if bt112.2 = true then (some (IntKind.u16.wrap (bt112.1), 0)) else (some (0, 5)))) = some (r1, r2) := h
  clear h
  replace H := Option.bind_eq_some_iff.mp H
  obtain ⟨⟨t112, t113⟩, A20, H⟩ := H
  replace H : (if t113 = true then (some (IntKind.u16.wrap (t112), 0)) else (some (0, 5))) = some (r1, r2) := H
  have A2 := Aside0.mk A20
  clear A20
  by_cases c3 : t113 = true
  · subst c3
    have H1 : (some (IntKind.u16.wrap (t112), 0)) = some (r1, r2) := by rw [if_pos rfl] at H; exact H
    clear H
    have H := H1
    clear H1
    simp only [Option.some.injEq, Prod.mk.injEq] at H
    obtain ⟨rfl, rfl⟩ := H
    go_enter Try.func12, Try.ntmps12
    go_wp2_with (first | ((with_reducible refine gate_callee (f := 27) rfl ?_); refine goesL_ (some 8) rfl rfl Try.func27 (by kernel_rfl) rfl #[.string a0, .int .i64 8] rfl (by (try simp only [List.map_toArray, List.map_cons, List.map_nil]); first | done | rfl | (simp only [List.length_drop, List.length_take]; rfl)) ?_; (with_reducible refine (impl_readSet.calls k a0 8 t112 true _ A2.out).mono ?_); rintro e w4 ⟨rfl, hb⟩; refine ⟨_, rfl, ?_⟩; have n0_ := Aside0.mk (below_step (by repeat (first | (with_reducible first | exact HB.out | apply below_alloc | apply pw_below_drewN | apply below_drew1) | exact HB.out)) hb); clear HB; have HB := n0_; clear n0_; (try clear hb); (try clear hb2); (try clear hk); (try clear hi)))
    go_ret2
    exact ⟨by first | rfl | (simp [errW_none, errW_some] <;> rfl) | (simp [*, errW_none, errW_some] <;> rfl), by repeat (first | (with_reducible first | exact HB.out | apply below_alloc | apply pw_below_drewN | apply below_drew1) | exact HB.out)⟩
  · replace c3 := Bool.eq_false_iff.mpr c3
    subst c3
    have H1 : (some (0, 5)) = some (r1, r2) := by rw [if_neg (show ¬ (false = true) by decide)] at H; exact H
    clear H
    have H := H1
    clear H1
    simp only [Option.some.injEq, Prod.mk.injEq] at H
    obtain ⟨rfl, rfl⟩ := H
    go_enter Try.func12, Try.ntmps12
    go_wp2_with (first | ((with_reducible refine gate_callee (f := 27) rfl ?_); refine goesL_ (some 8) rfl rfl Try.func27 (by kernel_rfl) rfl #[.string a0, .int .i64 8] rfl (by (try simp only [List.map_toArray, List.map_cons, List.map_nil]); first | done | rfl | (simp only [List.length_drop, List.length_take]; rfl)) ?_; (with_reducible refine (impl_readSet.calls k a0 8 t112 false _ A2.out).mono ?_); rintro e w5 ⟨rfl, hb⟩; refine ⟨_, rfl, ?_⟩; have n0_ := Aside0.mk (below_step (by repeat (first | (with_reducible first | exact HB.out | apply below_alloc | apply pw_below_drewN | apply below_drew1) | exact HB.out)) hb); clear HB; have HB := n0_; clear n0_; (try clear hb); (try clear hb2); (try clear hk); (try clear hi)))
    go_ret2
    exact ⟨by first | rfl | (simp [errW_none, errW_some] <;> rfl) | (simp [*, errW_none, errW_some] <;> rfl), by repeat (first | (with_reducible first | exact HB.out | apply below_alloc | apply pw_below_drewN | apply below_drew1) | exact HB.out)⟩

end Go.Proofs.Ytonhinbblofpaaa.M
