/- The program's NotWeighed. -/
import Derived.Test.YthhihmhcfodjiaaLCanR
namespace Go.Proofs.Ythhihmhcfodjiaa.R
open Go.RowKit Go.Maps Go.Proofs.YthhihmhcfodjiaaW.PrintWords Go.Proofs.YthhihmhcfodjiaaW.PrintLast Go.Proofs.YthhihmhcfodjiaaW.PrintMore
set_option linter.unusedVariables false
set_option linter.unusedSimpArgs false

/-- The masses from m to s that are not balanced, behind those that are gathered. -/
def missFrom (both : Bool) (l : List Int) (s : Int) : Nat → Nat → List Int → Option (List Int)
  | 0, _, _ => none
  | d + 1, m, acc => if (m : Int) ≤ s then (if ways both l (m : Int) = 0 then missFrom both l s d (m + 1) (acc ++ [(m : Int)]) else missFrom both l s d (m + 1) acc) else some acc
theorem R_ne_map {α : Type} {d : Kd α} {e base b n : Nat} {w : World} {ok : Nat → Prop} {v : Value} {xs : List α} {f : Int → Nat} (h : d.R e w base ok v xs) (hM : IsM w b n f) : some b ≠ v.ownBlock := by
  intro he
  obtain ⟨_, _, _, q, _, cells, hc⟩ := (Kd.R_bound h).1 b he.symm
  exact hM.ne hc rfl
def impl_NotWeighed.f (k : Nat) (l0 : List Int) (a1 : Bool) : Option (List Int × Int) := (impl_ValidWeights.f k l0).bind fun v => (if v = true then ((impl_Weights_sum.f k l0).bind fun s => (if Okay l0 then ((missFrom a1 l0 s 3000 1 []).bind fun r => some (r, 0)) else none)) else some ([], 1))
set_option maxHeartbeats 8000000 in
set_option maxRecDepth 100000 in
theorem impl_NotWeighed.calls (k : Nat) (A0 : Option Addr) (c0 : Nat) (l0 : List Int) (a1 : Bool) (r1 : List Int) (r2 : Int) (w : World) (hr0 : Kd.C (Kd.int .i16) w A0 l0.length l0) (hc0 : l0.length ≤ c0) (h : impl_NotWeighed.f k l0 a1 = some (r1, r2)) :
    Calls Try.prog 33 #[.slice A0 l0.length c0, .bool a1] w fun e w' => ∃ v0_ : Value, e = .returned (.tuple #[v0_, .int .i64 r2]) ∧ Kd.R (Kd.int .i64) 2 w' w.heap.size (fun _ => True) v0_ r1 ∧ Below w.heap.size w w' := by
  obtain ⟨c, hc, h⟩ := Option.bind_eq_some_iff.mp h
  have HC := Aside0.mk hc
  clear hc
  by_cases h0 : c = true
  · subst h0
    rw [if_pos rfl] at h
    obtain ⟨s, hs, h⟩ := Option.bind_eq_some_iff.mp h
    have HS := Aside0.mk hs
    clear hs
    by_cases hv : Okay l0
    · rw [if_pos hv] at h
      obtain ⟨r, hu, h⟩ := Option.bind_eq_some_iff.mp h
      simp only [Option.some.injEq, Prod.mk.injEq] at h
      obtain ⟨rfl, rfl⟩ := h
      have HU := Aside0.mk hu
      have HR := Aside0.mk hr0
      clear hu hr0
      go_enter Try.func33, Try.ntmps33
      go_wp2_with (first
        | (go_at_call 39
           refine (impl_ValidWeights.calls k _ _ l0 true _ HR.out hc0 HC.out).mono ?_
           rintro _ w1 ⟨rfl, hd1⟩
           have hb1 := hd1.below
           clear hd1)
        | (go_at_call 54
           refine (weighed_calls a1 _ _ l0 _ (Kd.C_below HR.out hb1) hc0 hv).mono ?_
           rintro _ w2 ⟨g, b, n, rfl, hg, hM, hb2⟩)
        | ((with_reducible refine gate_dst (N := 15) rfl ?_)
           refine Kd.R_lit (Kd.int .i64) _ 2 ?hg (N := 15) ?hd (xs := ([] : List Int)) (inner := []) (ok := fun _ => True) (okp := fun _ => True) ?hr ?hp (fun _ hk => hk) trivial (Below.refl _ _) (Nat.le_refl _) (by simp) ?_
           (case hd => rfl)
           (case hg => rfl)
           (case hr => first | (go_simp; done) | (go_simp; rfl))
           (case hp => exact (Reps.none _ _))
           intro v7 w3 ho3 hb3 hg_ hnew_
           clear hg_ hnew_)
        | go_in)
      have hb02 := below_step hb1 hb2
      go_loopg [7, 8] 3000 (fun kq v7 v8 w' => ∃ (acc : List Int) (m : Nat), v8 = .int .i64 (m : Int) ∧ Aside0 (missFrom a1 l0 s kq m acc = some r ∧ acc.length ≤ m ∧ m + kq ≤ 3001 ∧ w'.heap[g]? = some (.cells #[.map (some b)] 62 (0, 0)) ∧ IsM w' b n (ways a1 l0) ∧ Kd.R (Kd.int .i64) 2 w' w.heap.size (fun _ => True) v7 acc ∧ Below w.heap.size w w'))
      case atStart => exact ⟨[], 1, rfl, ⟨HU.out, Nat.zero_le _, by omega, blk_below hg hb3, hM.below hb3, Kd.R_lower ho3 (below_size hb02), below_step hb02 hb3⟩⟩
      case round =>
        clear hg hM hb1 hb2 hb3 ho3 hb02
        obtain ⟨acc, m, rfl, HW⟩ := hrel
        obtain ⟨hu, hal, hm, hg, hM, hO, hb⟩ := HW.out
        clear HW
        cases gk with
        | zero => cases hu
        | succ gk =>
          have hwf := wf64 (n := (m : Int)) (by omega) (by omega)
          unfold missFrom at hu
          have HO := Aside0.mk hO
          clear hO
          by_cases hms : (m : Int) ≤ s
          · rw [if_pos hms] at hu
            by_cases hz : ways a1 l0 (m : Int) = 0
            · rw [if_pos hz] at hu
              have HUU := Aside0.mk hu
              clear hu
              go_wp2_with (first
                | (go_at_call 59
                   refine (impl_Weights_sum.calls k _ _ l0 s _ (Kd.C_below HR.out hb) hc0 HS.out).mono ?_
                   rintro _ w4 ⟨rfl, hd4⟩
                   have hb4 := hd4.below
                   have hg4 := blk_below hg hb4
                   have hM4 := hM.below hb4
                   clear hd4)
                | (go_at_call 66
                   refine (can_calls g b n (ways a1 l0) (m : Int) _ hg4 hM4 hwf).mono ?_
                   rintro _ w5 ⟨rfl, hb5⟩
                   have hg5 := blk_below hg4 hb5
                   have hM5 := hM4.below hb5
                   have HO5 := Aside0.mk (Kd.R_below (Kd.R_below HO.out hb4) hb5)
                   have hB5 := below_step (below_step hb hb4) hb5)
                | ((with_reducible refine gate_builtin (b := .append) (xs := #[.tmp 26, .tmp 28]) rfl ?_)
                   at_builtin
                   refine Kd.R_append (Kd.int .i64) (w0 := w) w.heap.size rfl (.tmp 26) (.tmp 28) 44 2 (.int .i64 0) 8 rfl Try.underlying44 info2 rfl (by decide) (by omega) u7 acc (m : Int) [.int .i64 (m : Int)] (fun _ => True) (fun _ => False) rfl rfl ?aP (fun _ hk => hk.elim) ?aF ?aO ?aB ?aS ?aL ?_
                   (case aP => exact rfl)
                   (case aB => exact hB5)
                   (case aF => exact (fun _ _ => trivial))
                   (case aO => exact HO5.out)
                   (case aS => exact below_size hB5)
                   (case aL => omega)
                   intro v9 w6 ho6 hb6 hg6 hat
                   have hgk := blk_grown hg5 hg6 (Kd.R_ne HO5.out hg5 (by decide))
                   have hMk := hM5.kept hg6 (R_ne_map HO5.out hM5)
                   have HO6 := Aside0.mk ho6
                   clear hg6 hat ho6)
                | go_in)
              go_roundg gk
              case measure => omega
              case rel => exact ⟨acc ++ [(m : Int)], m + 1, by push_cast; rfl, ⟨HUU.out, by rw [List.length_append]; simp; omega, by omega, hgk, hMk, HO6.out, hb6⟩⟩
            · rw [if_neg hz] at hu
              have HUU := Aside0.mk hu
              clear hu
              go_wp2_with (first
                | (go_at_call 59
                   refine (impl_Weights_sum.calls k _ _ l0 s _ (Kd.C_below HR.out hb) hc0 HS.out).mono ?_
                   rintro _ w4 ⟨rfl, hd4⟩
                   have hb4 := hd4.below
                   have hg4 := blk_below hg hb4
                   have hM4 := hM.below hb4
                   clear hd4)
                | (go_at_call 66
                   refine (can_calls g b n (ways a1 l0) (m : Int) _ hg4 hM4 hwf).mono ?_
                   rintro _ w5 ⟨rfl, hb5⟩
                   have hg5 := blk_below hg4 hb5
                   have hM5 := hM4.below hb5
                   have HO5 := Aside0.mk (Kd.R_below (Kd.R_below HO.out hb4) hb5)
                   have hB5 := below_step (below_step hb hb4) hb5)
                | go_in)
              go_roundg gk
              case measure => omega
              case rel => exact ⟨acc, m + 1, by push_cast; rfl, ⟨HUU.out, by omega, by omega, hg5, hM5, HO5.out, hB5⟩⟩
          · rw [if_neg hms] at hu
            obtain rfl := Option.some.inj hu
            go_wp2_with (first
              | (go_at_call 59
                 refine (impl_Weights_sum.calls k _ _ l0 s _ (Kd.C_below HR.out hb) hc0 HS.out).mono ?_
                 rintro _ w4 ⟨rfl, hd4⟩
                 have hb4 := hd4.below
                 clear hd4)
              | go_in)
            go_ret2
            exact ⟨_, rfl, Kd.R_below HO.out hb4, below_step hb hb4⟩
    · rw [if_neg hv] at h
      cases h
  · obtain rfl : c = false := Bool.eq_false_iff.mpr h0
    rw [if_neg h0] at h
    simp only [Option.some.injEq, Prod.mk.injEq] at h
    obtain ⟨rfl, rfl⟩ := h
    go_enter Try.func33, Try.ntmps33
    go_wp2_with (first
      | (go_at_call 39
         refine (impl_ValidWeights.calls k _ _ l0 false _ hr0 hc0 HC.out).mono ?_
         rintro _ w1 ⟨rfl, hd1⟩
         have hb1 := hd1.below
         clear hd1)
      | go_in)
    go_ret2
    exact ⟨_, rfl, Kd.R_nil _ _ _ _ _, hb1⟩
end Go.Proofs.Ythhihmhcfodjiaa.R
