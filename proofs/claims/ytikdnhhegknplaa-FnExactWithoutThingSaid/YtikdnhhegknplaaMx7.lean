-- Written by wip/tools/myprint.py, a program of this session, by way of the kit's print.
import Derived.Test.YtikdnhhegknplaaMx0
namespace Go.Proofs.Ytikdnhhegknplaa.M
open Go.RowKit Go.Proofs.YtikdnhhegknplaaW.PrintWords Go.Proofs.YtikdnhhegknplaaW.PrintLast Go.Proofs.YtikdnhhegknplaaW.PrintMore
attribute [local go_sem] max2_int min2_int max_two min_two max_three min_three max_four min_four   -- for this text's walks alone
set_option linter.unusedVariables false
set_option linter.unusedSimpArgs false

/-! ### spec_l05All: function 49 -/
def spec_l05All.f (a0_0 : Int) (a0_1 : Int) (l0_2 : List Int) : Option (Int) := if 0 ≤ (IntKind.u64.wrap (a0_0)) then (some (IntKind.u16.wrap ((shl .u16 1 (IntKind.u64.wrap (a0_0))) - 1))) else (none)
set_option maxHeartbeats 8000000 in
set_option maxRecDepth 100000 in
theorem spec_l05All.calls (g0 : Nat) (a0_0 : Int) (a0_1 : Int) (A0_2 : Option Addr) (c0_2 : Nat) (l0_2 : List Int) (r : Int) (w : World) (hb0 : w.heap[g0]? = some (.cells #[.int .i8 a0_0, .int .i8 a0_1, .slice A0_2 l0_2.length c0_2] 28 (0, 0))) (hr0_2 : Kd.C (Kd.int .u16) w A0_2 l0_2.length l0_2) (hc0_2 : l0_2.length ≤ c0_2) (h : spec_l05All.f a0_0 a0_1 l0_2 = some r) :
    Calls Try.prog 49 #[.pointer (some ⟨g0, 0, none⟩)] w fun e w' => e = .returned (.int .u16 r) ∧ Drawn0 w w' := by
  have HR0_2 := Aside0.mk hr0_2
  have HC0_2 := Aside0.mk hc0_2
  clear hr0_2 hc0_2
  have BK0 := Aside0.mk hb0
  clear hb0
  have H : (if 0 ≤ (IntKind.u64.wrap (a0_0)) then (some (IntKind.u16.wrap ((shl .u16 1 (IntKind.u64.wrap (a0_0))) - 1))) else (none)) = some r := h
  clear h
  obtain ⟨ji2, hji2⟩ : ∃ j_ : Int, (IntKind.u64.wrap (a0_0)) = j_ := ⟨_, rfl⟩
  replace H : (if 0 ≤ (ji2) then (some (IntKind.u16.wrap ((shl .u16 1 (ji2)) - 1))) else (none)) = some r := by first | (rw [hji2] at H; exact H) | (simp only [hji2] at H ⊢; exact H)
  by_cases c3 : 0 ≤ (ji2)
  · rw [if_pos c3] at H
    have c3b0 := eq_true c3
    have c3b1 : decide (0 ≤ (ji2)) = true := decide_eq_true c3
    clear c3
    obtain ⟨ji4, hji4⟩ : ∃ j_ : Int, (shl .u16 1 (ji2)) = j_ := ⟨_, rfl⟩
    replace H : (some (IntKind.u16.wrap ((ji4) - 1))) = some r := by first | (rw [hji4] at H; exact H) | (simp only [hji4] at H ⊢; exact H)
    have hji4_ : (IntKind.u16.wrap (1 * 2 ^ min (ji2).toNat 16)) = ji4 := hji4
    have hji4z : (ji2) ≤ 16 → (IntKind.u16.wrap (1 * 2 ^ (ji2).toNat)) = ji4 := shl_small hji4
    have hji4u : (IntKind.u16.wrap (2 ^ min (ji2).toNat 16)) = ji4 := by have h_ := hji4_; rw [Int.one_mul] at h_; exact h_
    have hji4v : (ji2) ≤ 16 → (IntKind.u16.wrap (2 ^ (ji2).toNat)) = ji4 := fun hle_ => by have h_ := hji4z hle_; rw [Int.one_mul] at h_; exact h_
    obtain rfl := Option.some.inj H
    have hcz5_0 : w.cell? ⟨g0, 0, none⟩ = some (.int .i8 a0_0) := (blk_cell BK0.out 0).trans rfl
    have hcz5_1 : w.cell? ⟨g0, 1, none⟩ = some (.int .i8 a0_1) := (blk_cell BK0.out 1).trans rfl
    have hcz5_2 : w.cell? ⟨g0, 2, none⟩ = some (.slice A0_2 l0_2.length c0_2) := (blk_cell BK0.out 2).trans rfl
    have hfz5_0 := blk_frozen BK0.out 0
    have hfz5_1 := blk_frozen BK0.out 1
    have hfz5_2 := blk_frozen BK0.out 2
    go_enter Try.func49, Try.ntmps49
    go_wp2
    go_ret
    exact ⟨by first | rfl | (simp; done) | (simp only [← hji2, ← hji4] <;> (first | rfl | simp)) | (simp [*]; done), by repeat (first | exact Drawn0.refl _ | apply Drawn0.step)⟩
  · rw [if_neg c3] at H
    exact absurd H (by simp)

/-! ### spec_l05Size: function 53 -/
def spec_l05Size.l0 : Nat → Int → Int → Option (Int)
  | 0, _, _ => none
  | k + 1, x0, x3 => if x0 > 0 then (spec_l05Size.l0 k (IntKind.u16.wrap (Int.tdiv x0 2)) (wrap64 (x3 + (wrap64 (Int.tmod x0 2))))) else (some x3)
def spec_l05Size.f (k : Nat) (a0 : Int) : Option (Int) := spec_l05Size.l0 k a0 0
theorem spec_l05Size.mono_l : ∀ k, (∀ y0 y1, LeO (spec_l05Size.l0 k y0 y1) (spec_l05Size.l0 (k + 1) y0 y1))
  | 0 => fun _ _ r h => by simp [spec_l05Size.l0] at h
  | k + 1 => by
    have ih0 := spec_l05Size.mono_l k
    · intro y0 y1
      unfold spec_l05Size.l0
      repeat' first
      | (with_reducible exact ih0 _ _)
      | (with_reducible exact LeO.refl _)
      | (with_reducible exact LeO.none _)
      | (with_reducible refine LeO.ite ?_ ?_)
      | (with_reducible refine LeO.bind ?_ (fun _ => ?_))
      | exact ih0 _ _
      | exact LeO.none _
      | refine LeO.ite ?_ ?_
      | refine LeO.bind ?_ (fun _ => ?_)
theorem spec_l05Size.mono : ∀ a0 k, LeO (spec_l05Size.f k a0) (spec_l05Size.f (k + 1) a0) := by
  intro a0 k
  have ih0 := spec_l05Size.mono_l k
  unfold spec_l05Size.f
  repeat' first
      | (with_reducible exact ih0 _ _)
      | (with_reducible exact LeO.refl _)
      | (with_reducible exact LeO.none _)
      | (with_reducible refine LeO.ite ?_ ?_)
      | (with_reducible refine LeO.bind ?_ (fun _ => ?_))
      | exact ih0 _ _
      | exact LeO.none _
      | refine LeO.ite ?_ ?_
      | refine LeO.bind ?_ (fun _ => ?_)
set_option maxHeartbeats 8000000 in
set_option maxRecDepth 100000 in
theorem spec_l05Size.calls (k : Nat) (a0 : Int) (r : Int) (w : World) (h : spec_l05Size.f k a0 = some r) :
    Calls Try.prog 53 #[.int .u16 a0] w fun e w' => e = .returned (.int .i64 r) ∧ Drawn0 w w' := by
  have H : (spec_l05Size.l0 k a0 0) = some r := h
  clear h
  have H' := Aside0.mk H
  clear H
  go_enter Try.func53, Try.ntmps53
  go_wp2
  go_loopg [0, 3] k (fun kq v0 v3 w' => ∃ (x0_1 : Int) (x3_1 : Int), v0 = .int .u16 x0_1 ∧ v3 = .int .i64 x3_1 ∧ Aside0 (spec_l05Size.l0 kq x0_1 x3_1 = some r) ∧ Aside0 (kq ≤ k) ∧ Drawn0 w w')
  case atStart => exact ⟨(a0), (0), (by first | rfl | (simp; done) | (simp [*]; done)), (by first | rfl | (simp; done) | (simp [*]; done)), H', ⟨Nat.le_refl _⟩, by repeat (first | exact Drawn0.refl _ | apply Drawn0.step)⟩
  case round =>
    clear H'
    obtain ⟨x0_1, x3_1, rfl, rfl, HA, HK1, ⟨m1, rfl⟩⟩ := hrel
    cases gk with
    | zero => exact absurd HA.out (by simp [spec_l05Size.l0])
    | succ k1 =>
      have H := HA.out
      clear HA
      simp only [spec_l05Size.l0] at H
      by_cases c2 : x0_1 > 0
      · rw [if_pos c2] at H
        have c2b0 : decide (0 < x0_1) = true := decide_eq_true c2
        clear c2
        have H' := Aside0.mk H
        clear H
        go_wp2
        go_roundg k1
        case measure => have := HK1.out; omega
        case rel => exact ⟨(IntKind.u16.wrap (Int.tdiv x0_1 2)), (wrap64 (x3_1 + (wrap64 (Int.tmod x0_1 2)))), (by first | rfl | (simp; done) | (simp [*]; done)), (by first | rfl | (simp; done) | (simp [*]; done)), H', ⟨by have := HK1.out; omega⟩, by repeat (first | exact Drawn0.refl _ | apply Drawn0.step)⟩
      · rw [if_neg c2] at H
        have c2b0 : decide (0 < x0_1) = false := decide_eq_false c2
        clear c2
        obtain rfl := Option.some.inj H
        go_wp2
        go_ret
        exact ⟨by first | rfl | (simp; done) | (simp [*]; done), by repeat (first | exact Drawn0.refl _ | apply Drawn0.step)⟩

/-! ### spec_l00In: function 59 -/
def spec_l00In.f (a0 : Int) (a1 : Int) (a2 : Int) : Option (Bool) := if a0 ≥ a1 then (some (decide (a0 ≤ a2))) else (some false)
set_option maxHeartbeats 8000000 in
set_option maxRecDepth 100000 in
theorem spec_l00In.calls (a0 : Int) (a1 : Int) (a2 : Int) (r : Bool) (w : World) (h : spec_l00In.f a0 a1 a2 = some r) :
    Calls Try.prog 59 #[.int .i64 a0, .int .i64 a1, .int .i64 a2] w fun e w' => e = .returned (.bool r) ∧ Drawn0 w w' := by
  have H : (if a0 ≥ a1 then (some (decide (a0 ≤ a2))) else (some false)) = some r := h
  clear h
  by_cases c4 : a0 ≥ a1
  · rw [if_pos c4] at H
    have c4b0 : decide (a1 ≤ a0) = true := decide_eq_true c4
    clear c4
    obtain rfl := Option.some.inj H
    go_enter Try.func59, Try.ntmps59
    go_wp2
    go_ret
    exact ⟨by first | rfl | (simp; done) | (simp [*]; done), by repeat (first | exact Drawn0.refl _ | apply Drawn0.step)⟩
  · rw [if_neg c4] at H
    have c4b0 : decide (a1 ≤ a0) = false := decide_eq_false c4
    clear c4
    obtain rfl := Option.some.inj H
    go_enter Try.func59, Try.ntmps59
    go_wp2
    go_ret
    exact ⟨by first | rfl | (simp; done) | (simp [*]; done), by repeat (first | exact Drawn0.refl _ | apply Drawn0.step)⟩

end Go.Proofs.Ytikdnhhegknplaa.M
