/- The program's CanWeigh and WaysToWeigh. -/
import Derived.Test.YthhihmhcfodjiaaLBalR
import Derived.Test.YthhihmhcfodjiaaRx6
namespace Go.Proofs.Ythhihmhcfodjiaa.R
open Go.RowKit Go.Maps Go.Proofs.YthhihmhcfodjiaaW.PrintWords Go.Proofs.YthhihmhcfodjiaaW.PrintLast Go.Proofs.YthhihmhcfodjiaaW.PrintMore
set_option linter.unusedVariables false
set_option linter.unusedSimpArgs false

instance (l : List Int) : Decidable (Okay l) := by unfold Okay; infer_instance
set_option maxHeartbeats 8000000 in
set_option maxRecDepth 100000 in
theorem can_calls (g b n : Nat) (f : Int → Nat) (x : Int) (w : World) (hg : w.heap[g]? = some (.cells #[.map (some b)] 62 (0, 0))) (hM : IsM w b n f) (hx : (Lit.int .i64 x).wf = true) :
    Calls Try.prog 66 #[.int .i64 x, .pointer (some ⟨g, 0, none⟩)] w fun e w' => e = .returned (.bool (decide (f x ≠ 0))) ∧ Below w.heap.size w w' := by
  have hx0 : w.cell? ⟨g, 0, none⟩ = some (.map (some b)) := (blk_cell hg 0).trans rfl
  have HB := Aside0.mk (Below.refl w.heap.size w)
  go_enter Try.func66, Try.ntmps66
  go_wp2_with (first
    | ((with_reducible refine gate_dst (N := 9) rfl ?_)
       refine look_ok rfl (.tmp 7) (.tmp 8) rfl (b := b) rfl hM (k := x) rfl hx ?_
       intro c)
    | ((with_reducible refine gate_dst (N := 4) rfl ?_)
       refine box_event ?hg (N := 4) ?hd (cs := #[.int .i64 0, .int .i64 0]) (t := 61) ?hr ?_
       (case hd => rfl)
       (case hg => rfl)
       (case hr => first | (go_simp; done) | (go_simp; rfl))
       intro go hgo w1 hbox hb1
       have HGO := Aside0.mk hgo
       have hy0 : w1.cell? ⟨go, 0, none⟩ = some (.int .i64 0) := (blk_cell hbox 0).trans rfl
       have hy1 : w1.cell? ⟨go, 1, none⟩ = some (.int .i64 0) := (blk_cell hbox 1).trans rfl
       have hf0 := blk_frozen hbox 0
       have hf1 := blk_frozen hbox 1
       clear hgo)
    | go_in)
  go_ret
  have e := HGO.out
  refine ⟨by simp, below_set (below_set hb1 (by omega)) (by omega)⟩
set_option maxHeartbeats 8000000 in
set_option maxRecDepth 100000 in
theorem weighed_calls (both : Bool) (A : Option Addr) (c0 : Nat) (l : List Int) (w : World) (hr0 : Kd.C (Kd.int .i16) w A l.length l) (hc0 : l.length ≤ c0) (hv : Okay l) :
    Calls Try.prog 54 #[.slice A l.length c0, .bool both] w fun e w' => ∃ g b n, e = .returned (.func (.func 66) #[] #[.pointer (some ⟨g, 0, none⟩)]) ∧ w'.heap[g]? = some (.cells #[.map (some b)] 62 (0, 0)) ∧ IsM w' b n (ways both l) ∧ Below w.heap.size w w' := by
  go_enter Try.func54, Try.ntmps54
  go_wp2_with (first
    | (go_at_call 48
       refine (balances_calls both _ _ l _ hr0 hc0 hv).mono ?_
       rintro _ w1 ⟨g0, b, n, cs, rfl, hcs, hsz, hc0', hM, hb1⟩
       have hx0 := (blk_cell hcs 0).trans hc0')
    | ((with_reducible refine gate_dst (N := 5) rfl ?_)
       refine box_event ?hg (N := 5) ?hd (cs := #[.map none]) (t := 62) ?hr ?_
       (case hd => rfl)
       (case hg => rfl)
       (case hr => first | (go_simp; done) | (go_simp; rfl))
       intro go hgo w2 hbox hb2
       have HGO := Aside0.mk hgo
       have hy0 : w2.cell? ⟨go, 0, none⟩ = some (.map none) := (blk_cell hbox 0).trans rfl
       have hf0 := blk_frozen hbox 0
       clear hgo)
    | go_in)
  go_ret
  have e := HGO.out
  have hlt := hM.lt
  have hs := hb1.size
  exact ⟨go, b, n, rfl, blk_put hbox 0 _ rfl, (hM.below hb2).far _ (by show b ≠ go; omega) _, below_set (below_step hb1 hb2) (by omega)⟩
def impl_CanWeigh.f (k : Nat) (l0 : List Int) (a1 : Int) (a2 : Bool) : Option (Bool × Int) := (impl_massCode.f k l0 a1).bind fun c => (if c = 0 then (if Okay l0 ∧ 0 ≤ a1 ∧ a1 ≤ 2000 then some (decide (ways a2 l0 a1 ≠ 0), 0) else none) else some (false, c))
set_option maxHeartbeats 8000000 in
set_option maxRecDepth 100000 in
theorem impl_CanWeigh.calls (k : Nat) (A0 : Option Addr) (c0 : Nat) (l0 : List Int) (a1 : Int) (a2 : Bool) (r1 : Bool) (r2 : Int) (w : World) (hr0 : Kd.C (Kd.int .i16) w A0 l0.length l0) (hc0 : l0.length ≤ c0) (h : impl_CanWeigh.f k l0 a1 a2 = some (r1, r2)) :
    Calls Try.prog 27 #[.slice A0 l0.length c0, .int .i64 a1, .bool a2] w fun e w' => e = .returned (.tuple #[.bool r1, .int .i64 r2]) ∧ Below w.heap.size w w' := by
  obtain ⟨c, hc, h⟩ := Option.bind_eq_some_iff.mp h
  have HC := Aside0.mk hc
  clear hc
  by_cases h0 : c = 0
  · subst h0
    rw [if_pos rfl] at h
    by_cases ho : Okay l0 ∧ 0 ≤ a1 ∧ a1 ≤ 2000
    · rw [if_pos ho] at h
      simp only [Option.some.injEq, Prod.mk.injEq] at h
      obtain ⟨rfl, rfl⟩ := h
      obtain ⟨hv, h1, h2⟩ := ho
      have hwf := wf64 (n := a1) (by omega) (by omega)
      go_enter Try.func27, Try.ntmps27
      go_wp2_with (first
        | (go_at_call 47
           refine (impl_massCode.calls k _ _ l0 a1 0 _ hr0 hc0 HC.out).mono ?_
           rintro _ w1 ⟨rfl, hd1⟩
           have hb1 := hd1.below
           clear hd1)
        | (go_at_call 54
           refine (weighed_calls a2 _ _ l0 _ (Kd.C_below hr0 hb1) hc0 hv).mono ?_
           rintro _ w2 ⟨g, b, n, rfl, hg, hM, hb2⟩)
        | (go_at_call 66
           refine (can_calls g b n _ a1 _ hg hM hwf).mono ?_
           rintro _ w3 ⟨rfl, hb3⟩)
        | go_in)
      go_ret2
      exact ⟨by simp, below_step (below_step hb1 hb2) hb3⟩
    · rw [if_neg ho] at h
      cases h
  · rw [if_neg h0] at h
    simp only [Option.some.injEq, Prod.mk.injEq] at h
    obtain ⟨rfl, rfl⟩ := h
    go_enter Try.func27, Try.ntmps27
    go_wp2_with (first
      | (go_at_call 47
         refine (impl_massCode.calls k _ _ l0 a1 c _ hr0 hc0 HC.out).mono ?_
         rintro _ w1 ⟨rfl, hd1⟩
         have hb1 := hd1.below
         clear hd1)
      | go_in)
    go_ret2
    exact ⟨rfl, hb1⟩
theorem field61 (a b : Int) (w : World) : (Instr.field 61 (.agg #[.int .i64 a, .int .i64 b]) 0).run Try.prog w = .ok (.int .i64 a) w := by kernel_rfl
def impl_WaysToWeigh.f (k : Nat) (l0 : List Int) (a1 : Int) (a2 : Bool) : Option (Int × Int) := (impl_massCode.f k l0 a1).bind fun c => (if c = 0 then (if Okay l0 ∧ 0 ≤ a1 ∧ a1 ≤ 2000 then some ((ways a2 l0 a1 : Int), 0) else none) else some (0, c))
set_option maxHeartbeats 8000000 in
set_option maxRecDepth 100000 in
theorem impl_WaysToWeigh.calls (k : Nat) (A0 : Option Addr) (c0 : Nat) (l0 : List Int) (a1 : Int) (a2 : Bool) (r1 : Int) (r2 : Int) (w : World) (hr0 : Kd.C (Kd.int .i16) w A0 l0.length l0) (hc0 : l0.length ≤ c0) (h : impl_WaysToWeigh.f k l0 a1 a2 = some (r1, r2)) :
    Calls Try.prog 23 #[.slice A0 l0.length c0, .int .i64 a1, .bool a2] w fun e w' => e = .returned (.tuple #[.int .i64 r1, .int .i64 r2]) ∧ Below w.heap.size w w' := by
  obtain ⟨c, hc, h⟩ := Option.bind_eq_some_iff.mp h
  have HC := Aside0.mk hc
  clear hc
  by_cases h0 : c = 0
  · subst h0
    rw [if_pos rfl] at h
    by_cases ho : Okay l0 ∧ 0 ≤ a1 ∧ a1 ≤ 2000
    · rw [if_pos ho] at h
      simp only [Option.some.injEq, Prod.mk.injEq] at h
      obtain ⟨rfl, rfl⟩ := h
      obtain ⟨hv, h1, h2⟩ := ho
      have hwf := wf64 (n := a1) (by omega) (by omega)
      have hf61 := field61
      go_enter Try.func23, Try.ntmps23
      go_wp2_with (first
        | (go_at_call 47
           refine (impl_massCode.calls k _ _ l0 a1 0 _ hr0 hc0 HC.out).mono ?_
           rintro _ w1 ⟨rfl, hd1⟩
           have hb1 := hd1.below
           clear hd1)
        | (go_at_call 48
           refine (balances_calls a2 _ _ l0 _ (Kd.C_below hr0 hb1) hc0 hv).mono ?_
           rintro _ w2 ⟨g0, b, n, cs, rfl, hcs, hsz, hc0', hM, hb2⟩
           have hx0 := (blk_cell hcs 0).trans hc0')
        | ((with_reducible refine gate_dst (N := 21) rfl ?_)
           refine look rfl (.tmp 19) (.tmp 20) rfl (b := b) rfl hM (k := a1) rfl hwf ?_
           intro c)
        | go_in)
      go_ret2
      exact ⟨rfl, below_step hb1 hb2⟩
    · rw [if_neg ho] at h
      cases h
  · rw [if_neg h0] at h
    simp only [Option.some.injEq, Prod.mk.injEq] at h
    obtain ⟨rfl, rfl⟩ := h
    go_enter Try.func23, Try.ntmps23
    go_wp2_with (first
      | (go_at_call 47
         refine (impl_massCode.calls k _ _ l0 a1 c _ hr0 hc0 HC.out).mono ?_
         rintro _ w1 ⟨rfl, hd1⟩
         have hb1 := hd1.below
         clear hd1)
      | go_in)
    go_ret2
    exact ⟨rfl, hb1⟩
end Go.Proofs.Ythhihmhcfodjiaa.R
