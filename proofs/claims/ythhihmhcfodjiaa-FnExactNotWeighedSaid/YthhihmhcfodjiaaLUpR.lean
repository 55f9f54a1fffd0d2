/- The program's AllUpTo. -/
import Derived.Test.YthhihmhcfodjiaaLCanR
namespace Go.Proofs.Ythhihmhcfodjiaa.R
open Go.RowKit Go.Maps Go.Proofs.YthhihmhcfodjiaaW.PrintWords Go.Proofs.YthhihmhcfodjiaaW.PrintLast Go.Proofs.YthhihmhcfodjiaaW.PrintMore
set_option linter.unusedVariables false
set_option linter.unusedSimpArgs false

/-- The greatest mass from m on up to which all are balanced. -/
def upFrom (both : Bool) (l : List Int) : Nat → Nat → Option Nat
  | 0, _ => none
  | d + 1, m => if ways both l ((m : Int) + 1) = 0 then some m else upFrom both l d (m + 1)
set_option maxHeartbeats 8000000 in
set_option maxRecDepth 100000 in
theorem upTo_calls (both : Bool) (A : Option Addr) (c0 : Nat) (l : List Int) (w : World) (hr0 : Kd.C (Kd.int .i16) w A l.length l) (hc0 : l.length ≤ c0) (hv : Okay l) (d r : Nat) (hd : d ≤ 5000) (h : upFrom both l d 0 = some r) :
    Calls Try.prog 52 #[.slice A l.length c0, .bool both] w fun e w' => e = .returned (.int .i64 (r : Int)) ∧ Below w.heap.size w w' := by
  go_enter Try.func52, Try.ntmps52
  go_wp2_with (first
    | (go_at_call 54
       refine (weighed_calls both _ _ l _ hr0 hc0 hv).mono ?_
       rintro _ w1 ⟨g, b, n, rfl, hg, hM, hb1⟩)
    | go_in)
  go_loopg [6] d (fun kq v6 w' => ∃ m : Nat, v6 = .int .i64 (m : Int) ∧ Aside0 (upFrom both l kq m = some r ∧ m + kq ≤ 5000 ∧ w'.heap[g]? = some (.cells #[.map (some b)] 62 (0, 0)) ∧ IsM w' b n (ways both l) ∧ Below w.heap.size w w'))
  case atStart => exact ⟨0, rfl, ⟨h, by omega, hg, hM, hb1⟩⟩
  case round =>
    clear hg hM hb1
    obtain ⟨m, rfl, HW⟩ := hrel
    obtain ⟨hu, hm, hg, hM, hb⟩ := HW.out
    clear HW
    cases gk with
    | zero => cases hu
    | succ gk =>
      unfold upFrom at hu
      obtain ⟨x, hx⟩ : ∃ x : Int, x = (m : Int) + 1 := ⟨_, rfl⟩
      have e1 : IntKind.i64.wrap ((m : Int) + 1) = x := by rw [IntKind.wrap_i64]; omega
      have e2 : wrap64 ((m : Int) + 1) = x := by rw [hx]; exact wrap_small (by omega) (by omega)
      rw [← hx] at hu
      have hwf := wf64 (n := x) (by omega) (by omega)
      have HX := Aside0.mk hx
      clear hx
      by_cases hz : ways both l x = 0
      · rw [if_pos hz] at hu
        obtain rfl := Option.some.inj hu
        go_wp2_with (first
          | (go_at_call 66
             refine (can_calls g b n (ways both l) x _ hg hM hwf).mono ?_
             rintro _ w3 ⟨rfl, hb3⟩)
          | go_in)
        go_ret
        exact ⟨by simp, below_step hb hb3⟩
      · rw [if_neg hz] at hu
        go_wp2_with (first
          | (go_at_call 66
             refine (can_calls g b n (ways both l) x _ hg hM hwf).mono ?_
             rintro _ w3 ⟨rfl, hb3⟩)
          | go_in)
        go_roundg gk
        case measure => omega
        case rel => exact ⟨m + 1, by rw [show ((m + 1 : Nat) : Int) = x by have := HX.out; omega], ⟨hu, by omega, blk_below hg hb3, hM.below hb3, below_step hb hb3⟩⟩
def impl_AllUpTo.f (k : Nat) (l0 : List Int) (a1 : Bool) : Option (Int × Int) := (impl_ValidWeights.f k l0).bind fun v => (if v = true then (if Okay l0 then ((upFrom a1 l0 5000 0).bind fun r => some ((r : Int), 0)) else none) else some (0, 1))
set_option maxHeartbeats 8000000 in
set_option maxRecDepth 100000 in
theorem impl_AllUpTo.calls (k : Nat) (A0 : Option Addr) (c0 : Nat) (l0 : List Int) (a1 : Bool) (r1 : Int) (r2 : Int) (w : World) (hr0 : Kd.C (Kd.int .i16) w A0 l0.length l0) (hc0 : l0.length ≤ c0) (h : impl_AllUpTo.f k l0 a1 = some (r1, r2)) :
    Calls Try.prog 25 #[.slice A0 l0.length c0, .bool a1] w fun e w' => e = .returned (.tuple #[.int .i64 r1, .int .i64 r2]) ∧ Below w.heap.size w w' := by
  obtain ⟨c, hc, h⟩ := Option.bind_eq_some_iff.mp h
  have HC := Aside0.mk hc
  clear hc
  by_cases h0 : c = true
  · subst h0
    rw [if_pos rfl] at h
    by_cases hv : Okay l0
    · rw [if_pos hv] at h
      obtain ⟨r, hu, h⟩ := Option.bind_eq_some_iff.mp h
      simp only [Option.some.injEq, Prod.mk.injEq] at h
      obtain ⟨rfl, rfl⟩ := h
      go_enter Try.func25, Try.ntmps25
      go_wp2_with (first
        | (go_at_call 39
           refine (impl_ValidWeights.calls k _ _ l0 true _ hr0 hc0 HC.out).mono ?_
           rintro _ w1 ⟨rfl, hd1⟩
           have hb1 := hd1.below
           clear hd1)
        | (go_at_call 52
           refine (upTo_calls a1 _ _ l0 _ (Kd.C_below hr0 hb1) hc0 hv 5000 r (Nat.le_refl _) hu).mono ?_
           rintro _ w2 ⟨rfl, hb2⟩)
        | go_in)
      go_ret2
      exact ⟨rfl, below_step hb1 hb2⟩
    · rw [if_neg hv] at h
      cases h
  · obtain rfl : c = false := Bool.eq_false_iff.mpr h0
    rw [if_neg h0] at h
    simp only [Option.some.injEq, Prod.mk.injEq] at h
    obtain ⟨rfl, rfl⟩ := h
    go_enter Try.func25, Try.ntmps25
    go_wp2_with (first
      | (go_at_call 39
         refine (impl_ValidWeights.calls k _ _ l0 false _ hr0 hc0 HC.out).mono ?_
         rintro _ w1 ⟨rfl, hd1⟩
         have hb1 := hd1.below
         clear hd1)
      | go_in)
    go_ret2
    exact ⟨rfl, hb1⟩
end Go.Proofs.Ythhihmhcfodjiaa.R
