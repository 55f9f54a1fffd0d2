-- Written by wip/tools/myprint.py, a program of this session, by way of the kit's print.
import Derived.Test.YtoicmgphccgdbaaMx0
import Derived.Test.YtoicmgphccgdbaaMx3
namespace Go.Proofs.Ytoicmgphccgdbaa.M
open Go.RowKit Go.Proofs.YtoicmgphccgdbaaW.PrintWords Go.Proofs.YtoicmgphccgdbaaW.PrintLast Go.Proofs.YtoicmgphccgdbaaW.PrintMore
attribute [local go_sem] max2_int min2_int max_two min_two max_three min_three max_four min_four   -- for this text's walks alone
set_option linter.unusedVariables false
set_option linter.unusedSimpArgs false

/-! ### impl_AnswerTo: function 90 -/
def impl_AnswerTo.f (a0 : Int) (a1 : Int) (a2 : Bool) : Option (Bool) := (impl_within.f a1 0 63).bind fun t508 => (if t508 = true then (some (((Go.bits .and .u64 (shr .u64 a0 (mx a1 0)) 1) == 1) != a2)) else (some (false != a2)))
set_option maxHeartbeats 8000000 in
set_option maxRecDepth 100000 in
theorem impl_AnswerTo.calls (a0 : Int) (a1 : Int) (a2 : Bool) (r : Bool) (w : World) (h : impl_AnswerTo.f a0 a1 a2 = some r) :
    Calls Try.prog 90 #[.int .u64 a0, .int .i64 a1, .bool a2] w fun e w' => e = .returned (.bool r) ∧ Below w.heap.size w w' := by
  have HB := Aside0.mk (Below.refl w.heap.size w)
  have H : ((impl_within.f a1 0 63).bind fun t508 => (if t508 = true then (some (((Go.bits .and .u64 (shr .u64 a0 (mx a1 0)) 1) == 1) != a2)) else (some (false != a2)))) = some r := h
  clear h
  replace H := Option.bind_eq_some_iff.mp H
  obtain ⟨t508, A40, H⟩ := H
  replace H : (if t508 = true then (some (((Go.bits .and .u64 (shr .u64 a0 (mx a1 0)) 1) == 1) != a2)) else (some (false != a2))) = some r := H
  have A4 := Aside0.mk A40
  clear A40
  by_cases c5 : t508 = true
  · subst c5
    have H1 : (some (((Go.bits .and .u64 (shr .u64 a0 (mx a1 0)) 1) == 1) != a2)) = some r := by rw [if_pos rfl] at H; exact H
    clear H
    have H := H1
    clear H1
    obtain ⟨ji6, hji6⟩ : ∃ j_ : Int, (mx a1 0) = j_ := ⟨_, rfl⟩
    replace H : (some (((Go.bits .and .u64 (shr .u64 a0 (ji6)) 1) == 1) != a2)) = some r := by first | (rw [hji6] at H; exact H) | (simp only [hji6] at H ⊢; exact H)
    (try rw [hji6] at A4)
    (try (have hji6l : 0 ≤ ji6 := by (rw [← hji6]; unfold mx; (repeat' split) <;> omega)))
    (try (have hji6m : 0 ≤ ji6 := by omega))
    have hji6_ : (if a1 < 0 then 0 else a1) = ji6 := hji6
    obtain ⟨ji7, hji7⟩ : ∃ j_ : Int, (shr .u64 a0 (ji6)) = j_ := ⟨_, rfl⟩
    replace H : (some (((Go.bits .and .u64 (ji7) 1) == 1) != a2)) = some r := by first | (rw [hji7] at H; exact H) | (simp only [hji7] at H ⊢; exact H)
    (try rw [hji7] at A4)
    have hji7_ : (a0 / 2 ^ min (ji6).toNat 64) = ji7 := hji7
    have hji7z : (ji6) ≤ 64 → (a0 / 2 ^ (ji6).toNat) = ji7 := shr_small hji7
    obtain rfl := Option.some.inj H
    go_enter Try.func90, Try.ntmps90
    go_wp2_with (first | ((with_reducible refine gate_callee (f := 50) rfl ?_); refine goesL_ (some 8) rfl rfl Try.func50 (by kernel_rfl) rfl #[.int .i64 a1, .int .i64 0, .int .i64 63] rfl (by (try simp only [List.map_toArray, List.map_cons, List.map_nil]); first | done | rfl | (simp only [List.length_drop, List.length_take]; rfl)) ?_; (with_reducible refine (impl_within.calls a1 0 63 true _ A4.out).mono ?_); rintro e w' ⟨rfl, ⟨nd, rfl⟩⟩; refine ⟨_, rfl, ?_⟩))
    go_ret
    exact ⟨by first | rfl | (simp [errW_none, errW_some] <;> rfl) | (simp only [← hji6, ← hji7]; first | rfl | (simp [errW_none, errW_some] <;> rfl)) | (simp [*, errW_none, errW_some] <;> rfl), by repeat (first | (with_reducible first | exact HB.out | apply below_alloc | apply pw_below_drewN | apply below_drew1) | exact HB.out)⟩
  · replace c5 := Bool.eq_false_iff.mpr c5
    subst c5
    have H1 : (some (false != a2)) = some r := by rw [if_neg (show ¬ (false = true) by decide)] at H; exact H
    clear H
    have H := H1
    clear H1
    obtain rfl := Option.some.inj H
    go_enter Try.func90, Try.ntmps90
    go_wp2_with (first | ((with_reducible refine gate_callee (f := 50) rfl ?_); refine goesL_ (some 8) rfl rfl Try.func50 (by kernel_rfl) rfl #[.int .i64 a1, .int .i64 0, .int .i64 63] rfl (by (try simp only [List.map_toArray, List.map_cons, List.map_nil]); first | done | rfl | (simp only [List.length_drop, List.length_take]; rfl)) ?_; (with_reducible refine (impl_within.calls a1 0 63 false _ A4.out).mono ?_); rintro e w' ⟨rfl, ⟨nd, rfl⟩⟩; refine ⟨_, rfl, ?_⟩))
    go_ret
    exact ⟨by first | rfl | (simp [errW_none, errW_some] <;> rfl) | (simp [*, errW_none, errW_some] <;> rfl), by repeat (first | (with_reducible first | exact HB.out | apply below_alloc | apply pw_below_drewN | apply below_drew1) | exact HB.out)⟩

end Go.Proofs.Ytoicmgphccgdbaa.M
