-- Written by wip/find/mk.py, a program of this session.
import Derived.Test.YtgcbhknpfpgffaaLScnC
import Derived.Test.YtgcbhknpfpgffaaLIcnC
import Derived.Test.YtgcbhknpfpgffaaCx1
import Derived.Test.YtgcbhknpfpgffaaCx5
namespace Go.Proofs.Ytgcbhknpfpgffaa.C
open Go.RowKit Go.Proofs.YtgcbhknpfpgffaaW.PrintWords Go.Proofs.YtgcbhknpfpgffaaW.PrintLast Go.Proofs.YtgcbhknpfpgffaaW.PrintMore
attribute [local go_sem] zdb zcb zkb zjb zva zwa zbb zab   -- for this text's walks alone
set_option linter.unusedVariables false
set_option linter.unusedSimpArgs false

def K0 : Nat := 1000000
def canS : Nat → CT
  | 0 => fun _ _ _ _ _ _ _ => none
  | n + 1 => fun st lies x0 x1 x2 x3 q => spec_l06Finder_can.f (canS n) K0 K0 st lies x0 x1 x2 x3 q
theorem zoe : ∀ (n : Nat) (q : Int), CanOK (canS n) q
  | 0, q => fun p g st lies x0 x1 x2 x3 r1 r2 w0 w _ _ h => absurd h (by simp [canS])
  | n + 1, q => fun p g st lies x0 x1 x2 x3 r1 r2 w0 w hI hB h => spec_l06Finder_can.calls (canS n) K0 K0 p g st lies x0 x1 x2 x3 q r1 r2 w0 w (zoe n _) hI hB h
def canI : Nat → CI
  | 0 => fun _ _ _ _ _ _ _ => none
  | n + 1 => fun st lies x0 x1 x2 x3 q => impl_searcher_can.f (canI n) K0 K0 st lies x0 x1 x2 x3 q
theorem zme : ∀ (n : Nat) (q : Int), CaniOK (canI n) q
  | 0, q => fun g st lies x0 x1 x2 x3 r1 r2 w0 w _ _ h => absurd h (by simp [canI])
  | n + 1, q => fun g st lies x0 x1 x2 x3 r1 r2 w0 w hI hB h => impl_searcher_can.calls (canI n) K0 K0 g st lies x0 x1 x2 x3 q r1 r2 w0 w (zme n _) hI hB h
def zqc : List Int := List.replicate 137781 0
theorem made43 (n : Nat) : madeCells #[Value.int .i8 0] n = memo (List.replicate n 0) := by
  unfold madeCells memo
  apply Array.ext
  · simp
  · intro i h1 h2
    simp [Nat.mod_one]
theorem info43 : (Try.prog.info? 43).map (fun i => (i.zero, i.size, i.bytes)) = some (some (.int .i8 0), 1, 1) := by kernel_rfl
theorem make39 {ops : Array Oper} {rest : List Oper} {o : Oper} {a : Act} {Q : Exit → Act → World → Prop} {w : World} (hg : o.guard = none) (hop : o.op = Op.makeSlice 39 (.const (.int .i64 137781)) (.const (.int .i64 137781)))
    (hK : ∀ s w1, s = w.heap.size → w1.heap[s]? = some (.cells (memo zqc) 43 (0, 0)) → Below w.heap.size w w1 → wpList Try.prog ops Q rest (a.put o.dst (.slice (some ⟨s, 0, none⟩) 137781 137781)) w1) : wpList Try.prog ops Q (o :: rest) a w := by
  obtain ⟨i, hi, hzz⟩ := Option.map_eq_some_iff.1 info43
  simp only [Prod.mk.injEq] at hzz
  obtain ⟨hz, hs, hb⟩ := hzz
  refine wpList_make_row w hg _ _ 39 hop 43 i (.int .i8 0) Try.underlying39 hi hz hs rfl .i64 .i64 137781 rfl rfl (by rw [hb]; decide) (by decide) ?_
  refine hK _ _ rfl ?_ (zq (Below.refl _ _) _)
  rw [made43]
  show _ = some (Obj.cells (memo (List.replicate 137781 0)) 43 (0, 0))
  generalize memo (List.replicate 137781 0) = X
  simpa using heap_alloc_new w _
def zgc (a0 x0 x1 x2 x3 q : Int) : Option Int := (spec_l06Valid.f K0 a0 x0 x1 x2 x3).bind fun t => (if t = true then ((spec_l00In.f q 0 20).bind fun u => (if u = true then ((spec_l06Total.f x0 x1 x2 x3).bind fun s => (if s > 8 then (some 3) else (some 0))) else (some 2))) else (some 1))
set_option maxHeartbeats 8000000 in
set_option maxRecDepth 100000 in
theorem zrc (a0 x0 x1 x2 x3 q c : Int) (w : World) (h : zgc a0 x0 x1 x2 x3 q = some c) :
    Calls Try.prog 7 #[.int .i64 a0, .agg #[.int .i64 x0, .int .i64 x1, .int .i64 x2, .int .i64 x3], .int .i64 q] w fun e w' => (∃ v, e = .returned (.tuple #[v, .int .i64 c]) ∧ (c = 0 → ∃ p g, v = .pointer (some ⟨p, 0, none⟩) ∧ IsF p w w' g zqc a0)) ∧ Below w.heap.size w w' := by
  have hu25 := Try.underlying25
  have hu41 := Try.underlying41
  unfold zgc at h
  obtain ⟨t, ht, h⟩ := Option.bind_eq_some_iff.mp h
  have A1 := zg.mk ht
  clear ht
  cases t with
  | false =>
    obtain rfl : (1 : Int) = c := by simpa using h
    clear h
    go_enter Try.func7, Try.ntmps7
    go_wp2_with (first | ((with_reducible refine zga (N := 4) rfl ?_); refine zia ?hg (N := 4) ?hd (cs := #[.int .i64 x0, .int .i64 x1, .int .i64 x2, .int .i64 x3]) (t := 25) ?hr ?_; (case hd => rfl); (case hg => rfl); (case hr => first | (go_simp; done) | (go_simp; rfl)); intro gx hg w1 hbox hb; have HBX_w1 := zg.mk hbox; have HGX : zg (w.heap.size ≤ gx) := ⟨by omega⟩; have HB_w1 := zg.mk hb; clear hg hbox hb; have hx_w1_0 : w1.cell? ⟨gx, 0, none⟩ = some (.int .i64 x0) := (zh HBX_w1.out 0).trans rfl; have hx_w1_1 : w1.cell? ⟨gx, 1, none⟩ = some (.int .i64 x1) := (zh HBX_w1.out 1).trans rfl; have hx_w1_2 : w1.cell? ⟨gx, 2, none⟩ = some (.int .i64 x2) := (zh HBX_w1.out 2).trans rfl; have hx_w1_3 : w1.cell? ⟨gx, 3, none⟩ = some (.int .i64 x3) := (zh HBX_w1.out 3).trans rfl) | (go_at_call 11; (with_reducible refine (spec_l06Valid.calls K0 a0 x0 x1 x2 x3 false _ A1.out).mono ?_); rintro e w2 ⟨rfl, hb⟩; have HBX_w2 := zg.mk (zz HBX_w1.out hb); have HB_w2 := zg.mk (zx HB_w1.out hb); clear hb; have hx_w2_0 : w2.cell? ⟨gx, 0, none⟩ = some (.int .i64 x0) := (zh HBX_w2.out 0).trans rfl; have hx_w2_1 : w2.cell? ⟨gx, 1, none⟩ = some (.int .i64 x1) := (zh HBX_w2.out 1).trans rfl; have hx_w2_2 : w2.cell? ⟨gx, 2, none⟩ = some (.int .i64 x2) := (zh HBX_w2.out 2).trans rfl; have hx_w2_3 : w2.cell? ⟨gx, 3, none⟩ = some (.int .i64 x3) := (zh HBX_w2.out 3).trans rfl))
    go_ret2
    exact ⟨⟨_, rfl, fun h => absurd h (by decide)⟩, HB_w2.out⟩
  | true =>
    simp only [if_true] at h
    obtain ⟨u, hu, h⟩ := Option.bind_eq_some_iff.mp h
    have A2 := zg.mk hu
    clear hu
    cases u with
    | false =>
      obtain rfl : (2 : Int) = c := by simpa using h
      clear h
      go_enter Try.func7, Try.ntmps7
      go_wp2_with (first | ((with_reducible refine zga (N := 4) rfl ?_); refine zia ?hg (N := 4) ?hd (cs := #[.int .i64 x0, .int .i64 x1, .int .i64 x2, .int .i64 x3]) (t := 25) ?hr ?_; (case hd => rfl); (case hg => rfl); (case hr => first | (go_simp; done) | (go_simp; rfl)); intro gx hg w1 hbox hb; have HBX_w1 := zg.mk hbox; have HGX : zg (w.heap.size ≤ gx) := ⟨by omega⟩; have HB_w1 := zg.mk hb; clear hg hbox hb; have hx_w1_0 : w1.cell? ⟨gx, 0, none⟩ = some (.int .i64 x0) := (zh HBX_w1.out 0).trans rfl; have hx_w1_1 : w1.cell? ⟨gx, 1, none⟩ = some (.int .i64 x1) := (zh HBX_w1.out 1).trans rfl; have hx_w1_2 : w1.cell? ⟨gx, 2, none⟩ = some (.int .i64 x2) := (zh HBX_w1.out 2).trans rfl; have hx_w1_3 : w1.cell? ⟨gx, 3, none⟩ = some (.int .i64 x3) := (zh HBX_w1.out 3).trans rfl) | (go_at_call 11; (with_reducible refine (spec_l06Valid.calls K0 a0 x0 x1 x2 x3 true _ A1.out).mono ?_); rintro e w2 ⟨rfl, hb⟩; have HBX_w2 := zg.mk (zz HBX_w1.out hb); have HB_w2 := zg.mk (zx HB_w1.out hb); clear hb; have hx_w2_0 : w2.cell? ⟨gx, 0, none⟩ = some (.int .i64 x0) := (zh HBX_w2.out 0).trans rfl; have hx_w2_1 : w2.cell? ⟨gx, 1, none⟩ = some (.int .i64 x1) := (zh HBX_w2.out 1).trans rfl; have hx_w2_2 : w2.cell? ⟨gx, 2, none⟩ = some (.int .i64 x2) := (zh HBX_w2.out 2).trans rfl; have hx_w2_3 : w2.cell? ⟨gx, 3, none⟩ = some (.int .i64 x3) := (zh HBX_w2.out 3).trans rfl) | (go_at_call 12; (with_reducible refine (spec_l00In.calls q 0 20 false _ A2.out).mono ?_); rintro e w3 ⟨rfl, hd⟩; have hb := hd.below; clear hd; have HBX_w3 := zg.mk (zz HBX_w2.out hb); have HB_w3 := zg.mk (zx HB_w2.out hb); clear hb; have hx_w3_0 : w3.cell? ⟨gx, 0, none⟩ = some (.int .i64 x0) := (zh HBX_w3.out 0).trans rfl; have hx_w3_1 : w3.cell? ⟨gx, 1, none⟩ = some (.int .i64 x1) := (zh HBX_w3.out 1).trans rfl; have hx_w3_2 : w3.cell? ⟨gx, 2, none⟩ = some (.int .i64 x2) := (zh HBX_w3.out 2).trans rfl; have hx_w3_3 : w3.cell? ⟨gx, 3, none⟩ = some (.int .i64 x3) := (zh HBX_w3.out 3).trans rfl))
      go_ret2
      exact ⟨⟨_, rfl, fun h => absurd h (by decide)⟩, HB_w3.out⟩
    | true =>
      simp only [if_true] at h
      obtain ⟨s, hs, h⟩ := Option.bind_eq_some_iff.mp h
      have A3 := zg.mk hs
      clear hs
      by_cases hs8 : s > 8
      · rw [if_pos hs8] at h
        obtain rfl : (3 : Int) = c := by simpa using h
        have d8 : decide (8 < s) = true := decide_eq_true hs8
        clear h hs8
        go_enter Try.func7, Try.ntmps7
        go_wp2_with (first | ((with_reducible refine zga (N := 4) rfl ?_); refine zia ?hg (N := 4) ?hd (cs := #[.int .i64 x0, .int .i64 x1, .int .i64 x2, .int .i64 x3]) (t := 25) ?hr ?_; (case hd => rfl); (case hg => rfl); (case hr => first | (go_simp; done) | (go_simp; rfl)); intro gx hg w1 hbox hb; have HBX_w1 := zg.mk hbox; have HGX : zg (w.heap.size ≤ gx) := ⟨by omega⟩; have HB_w1 := zg.mk hb; clear hg hbox hb; have hx_w1_0 : w1.cell? ⟨gx, 0, none⟩ = some (.int .i64 x0) := (zh HBX_w1.out 0).trans rfl; have hx_w1_1 : w1.cell? ⟨gx, 1, none⟩ = some (.int .i64 x1) := (zh HBX_w1.out 1).trans rfl; have hx_w1_2 : w1.cell? ⟨gx, 2, none⟩ = some (.int .i64 x2) := (zh HBX_w1.out 2).trans rfl; have hx_w1_3 : w1.cell? ⟨gx, 3, none⟩ = some (.int .i64 x3) := (zh HBX_w1.out 3).trans rfl) | (go_at_call 11; (with_reducible refine (spec_l06Valid.calls K0 a0 x0 x1 x2 x3 true _ A1.out).mono ?_); rintro e w2 ⟨rfl, hb⟩; have HBX_w2 := zg.mk (zz HBX_w1.out hb); have HB_w2 := zg.mk (zx HB_w1.out hb); clear hb; have hx_w2_0 : w2.cell? ⟨gx, 0, none⟩ = some (.int .i64 x0) := (zh HBX_w2.out 0).trans rfl; have hx_w2_1 : w2.cell? ⟨gx, 1, none⟩ = some (.int .i64 x1) := (zh HBX_w2.out 1).trans rfl; have hx_w2_2 : w2.cell? ⟨gx, 2, none⟩ = some (.int .i64 x2) := (zh HBX_w2.out 2).trans rfl; have hx_w2_3 : w2.cell? ⟨gx, 3, none⟩ = some (.int .i64 x3) := (zh HBX_w2.out 3).trans rfl) | (go_at_call 12; (with_reducible refine (spec_l00In.calls q 0 20 true _ A2.out).mono ?_); rintro e w3 ⟨rfl, hd⟩; have hb := hd.below; clear hd; have HBX_w3 := zg.mk (zz HBX_w2.out hb); have HB_w3 := zg.mk (zx HB_w2.out hb); clear hb; have hx_w3_0 : w3.cell? ⟨gx, 0, none⟩ = some (.int .i64 x0) := (zh HBX_w3.out 0).trans rfl; have hx_w3_1 : w3.cell? ⟨gx, 1, none⟩ = some (.int .i64 x1) := (zh HBX_w3.out 1).trans rfl; have hx_w3_2 : w3.cell? ⟨gx, 2, none⟩ = some (.int .i64 x2) := (zh HBX_w3.out 2).trans rfl; have hx_w3_3 : w3.cell? ⟨gx, 3, none⟩ = some (.int .i64 x3) := (zh HBX_w3.out 3).trans rfl) | (go_at_call 13; (with_reducible refine (spec_l06Total.calls x0 x1 x2 x3 s _ A3.out).mono ?_); rintro e w4 ⟨rfl, hb⟩; have HBX_w4 := zg.mk (zz HBX_w3.out hb); have HB_w4 := zg.mk (zx HB_w3.out hb); clear hb; have hx_w4_0 : w4.cell? ⟨gx, 0, none⟩ = some (.int .i64 x0) := (zh HBX_w4.out 0).trans rfl; have hx_w4_1 : w4.cell? ⟨gx, 1, none⟩ = some (.int .i64 x1) := (zh HBX_w4.out 1).trans rfl; have hx_w4_2 : w4.cell? ⟨gx, 2, none⟩ = some (.int .i64 x2) := (zh HBX_w4.out 2).trans rfl; have hx_w4_3 : w4.cell? ⟨gx, 3, none⟩ = some (.int .i64 x3) := (zh HBX_w4.out 3).trans rfl))
        go_ret2
        exact ⟨⟨_, rfl, fun h => absurd h (by decide)⟩, HB_w4.out⟩
      · rw [if_neg hs8] at h
        obtain rfl : (0 : Int) = c := by simpa using h
        have d8 : decide (8 < s) = false := decide_eq_false hs8
        clear h hs8
        go_enter Try.func7, Try.ntmps7
        go_wp2_with (first | ((with_reducible refine zga (N := 4) rfl ?_); refine zia ?hg (N := 4) ?hd (cs := #[.int .i64 x0, .int .i64 x1, .int .i64 x2, .int .i64 x3]) (t := 25) ?hr ?_; (case hd => rfl); (case hg => rfl); (case hr => first | (go_simp; done) | (go_simp; rfl)); intro gx hg w1 hbox hb; have HBX_w1 := zg.mk hbox; have HGX : zg (w.heap.size ≤ gx) := ⟨by omega⟩; have HB_w1 := zg.mk hb; clear hg hbox hb; have hx_w1_0 : w1.cell? ⟨gx, 0, none⟩ = some (.int .i64 x0) := (zh HBX_w1.out 0).trans rfl; have hx_w1_1 : w1.cell? ⟨gx, 1, none⟩ = some (.int .i64 x1) := (zh HBX_w1.out 1).trans rfl; have hx_w1_2 : w1.cell? ⟨gx, 2, none⟩ = some (.int .i64 x2) := (zh HBX_w1.out 2).trans rfl; have hx_w1_3 : w1.cell? ⟨gx, 3, none⟩ = some (.int .i64 x3) := (zh HBX_w1.out 3).trans rfl) | (go_at_call 11; (with_reducible refine (spec_l06Valid.calls K0 a0 x0 x1 x2 x3 true _ A1.out).mono ?_); rintro e w2 ⟨rfl, hb⟩; have HBX_w2 := zg.mk (zz HBX_w1.out hb); have HB_w2 := zg.mk (zx HB_w1.out hb); clear hb; have hx_w2_0 : w2.cell? ⟨gx, 0, none⟩ = some (.int .i64 x0) := (zh HBX_w2.out 0).trans rfl; have hx_w2_1 : w2.cell? ⟨gx, 1, none⟩ = some (.int .i64 x1) := (zh HBX_w2.out 1).trans rfl; have hx_w2_2 : w2.cell? ⟨gx, 2, none⟩ = some (.int .i64 x2) := (zh HBX_w2.out 2).trans rfl; have hx_w2_3 : w2.cell? ⟨gx, 3, none⟩ = some (.int .i64 x3) := (zh HBX_w2.out 3).trans rfl) | (go_at_call 12; (with_reducible refine (spec_l00In.calls q 0 20 true _ A2.out).mono ?_); rintro e w3 ⟨rfl, hd⟩; have hb := hd.below; clear hd; have HBX_w3 := zg.mk (zz HBX_w2.out hb); have HB_w3 := zg.mk (zx HB_w2.out hb); clear hb; have hx_w3_0 : w3.cell? ⟨gx, 0, none⟩ = some (.int .i64 x0) := (zh HBX_w3.out 0).trans rfl; have hx_w3_1 : w3.cell? ⟨gx, 1, none⟩ = some (.int .i64 x1) := (zh HBX_w3.out 1).trans rfl; have hx_w3_2 : w3.cell? ⟨gx, 2, none⟩ = some (.int .i64 x2) := (zh HBX_w3.out 2).trans rfl; have hx_w3_3 : w3.cell? ⟨gx, 3, none⟩ = some (.int .i64 x3) := (zh HBX_w3.out 3).trans rfl) | (go_at_call 13; (with_reducible refine (spec_l06Total.calls x0 x1 x2 x3 s _ A3.out).mono ?_); rintro e w4 ⟨rfl, hb⟩; have HBX_w4 := zg.mk (zz HBX_w3.out hb); have HB_w4 := zg.mk (zx HB_w3.out hb); clear hb; have hx_w4_0 : w4.cell? ⟨gx, 0, none⟩ = some (.int .i64 x0) := (zh HBX_w4.out 0).trans rfl; have hx_w4_1 : w4.cell? ⟨gx, 1, none⟩ = some (.int .i64 x1) := (zh HBX_w4.out 1).trans rfl; have hx_w4_2 : w4.cell? ⟨gx, 2, none⟩ = some (.int .i64 x2) := (zh HBX_w4.out 2).trans rfl; have hx_w4_3 : w4.cell? ⟨gx, 3, none⟩ = some (.int .i64 x3) := (zh HBX_w4.out 3).trans rfl) | (refine make39 rfl rfl ?_; intro sg w5 hs hm hb; have HM := zg.mk hm; have HS : zg (w.heap.size ≤ sg ∧ sg < w5.heap.size) := ⟨⟨by have := HB_w4.out.size; omega, zba hm⟩⟩; have HB_w5 := zg.mk (zx HB_w4.out hb); clear hs hm hb) | ((with_reducible refine zga (N := 21) rfl ?_); refine zia ?hg (N := 21) ?hd (cs := #[.int .i64 a0, .slice (some ⟨sg, 0, none⟩) 137781 137781]) (t := 41) ?hr ?_; (case hd => rfl); (case hg => rfl); (case hr => first | (go_simp; done) | (go_simp; rfl)); intro p hg w6 hbox hb; have HI : zg (IsF p w w6 sg zqc a0) := ⟨⟨HS.out.1, by have := HB_w5.out.size; omega, by have := HS.out.2; omega, hbox, by unfold zqc; rw [List.length_replicate], 43, zz HM.out hb⟩⟩; have HB_w6 := zg.mk (zx HB_w5.out hb); clear hg hbox hb))
        go_ret2
        exact ⟨⟨_, rfl, fun _ => ⟨_, _, rfl, HI.out⟩⟩, HB_w6.out⟩
def spec_CanFindIn.f (a0 x0 x1 x2 x3 q : Int) : Option (Bool × Int) := (zgc a0 x0 x1 x2 x3 q).bind fun c => (if c = 0 then ((canS 30 zqc a0 x0 x1 x2 x3 q).bind fun b => (some (b.1, 0))) else (some (false, c)))
set_option maxHeartbeats 8000000 in
set_option maxRecDepth 100000 in
theorem spec_CanFindIn.calls (a0 x0 x1 x2 x3 q : Int) (r1 : Bool) (r2 : Int) (w : World) (h : spec_CanFindIn.f a0 x0 x1 x2 x3 q = some (r1, r2)) :
    Calls Try.prog 4 #[.int .i64 a0, .agg #[.int .i64 x0, .int .i64 x1, .int .i64 x2, .int .i64 x3], .int .i64 q] w fun e w' => e = .returned (.tuple #[.bool r1, .int .i64 r2]) ∧ Below w.heap.size w w' := by
  have hu25 := Try.underlying25
  unfold spec_CanFindIn.f at h
  obtain ⟨c, hc, h⟩ := Option.bind_eq_some_iff.mp h
  have A1 := zg.mk hc
  clear hc
  by_cases c0 : c = 0
  · subst c0
    rw [if_pos rfl] at h
    obtain ⟨⟨b1, b2⟩, hb, h⟩ := Option.bind_eq_some_iff.mp h
    have A2 := zg.mk hb
    clear hb
    simp only [Option.some.injEq, Prod.mk.injEq] at h
    obtain ⟨rfl, rfl⟩ := h
    go_enter Try.func4, Try.ntmps4
    go_wp2_with (first | ((with_reducible refine zga (N := 4) rfl ?_); refine zia ?hg (N := 4) ?hd (cs := #[.int .i64 x0, .int .i64 x1, .int .i64 x2, .int .i64 x3]) (t := 25) ?hr ?_; (case hd => rfl); (case hg => rfl); (case hr => first | (go_simp; done) | (go_simp; rfl)); intro gx hg w1 hbox hb; have HBX_w1 := zg.mk hbox; have HGX : zg (w.heap.size ≤ gx) := ⟨by omega⟩; have HB_w1 := zg.mk hb; clear hg hbox hb; have hx_w1_0 : w1.cell? ⟨gx, 0, none⟩ = some (.int .i64 x0) := (zh HBX_w1.out 0).trans rfl; have hx_w1_1 : w1.cell? ⟨gx, 1, none⟩ = some (.int .i64 x1) := (zh HBX_w1.out 1).trans rfl; have hx_w1_2 : w1.cell? ⟨gx, 2, none⟩ = some (.int .i64 x2) := (zh HBX_w1.out 2).trans rfl; have hx_w1_3 : w1.cell? ⟨gx, 3, none⟩ = some (.int .i64 x3) := (zh HBX_w1.out 3).trans rfl) | (go_at_call 7; (with_reducible refine (zrc a0 x0 x1 x2 x3 q 0 _ A1.out).mono ?_); rintro e w2 ⟨⟨v, rfl, hv⟩, hb⟩; obtain ⟨p, g, rfl, hi⟩ := hv rfl; have HI := zg.mk hi; clear hi hv; have HBX_w2 := zg.mk (zz HBX_w1.out hb); have HB_w2 := zg.mk (zx HB_w1.out hb); have HB12 := zg.mk hb; clear hb; have hx_w2_0 : w2.cell? ⟨gx, 0, none⟩ = some (.int .i64 x0) := (zh HBX_w2.out 0).trans rfl; have hx_w2_1 : w2.cell? ⟨gx, 1, none⟩ = some (.int .i64 x1) := (zh HBX_w2.out 1).trans rfl; have hx_w2_2 : w2.cell? ⟨gx, 2, none⟩ = some (.int .i64 x2) := (zh HBX_w2.out 2).trans rfl; have hx_w2_3 : w2.cell? ⟨gx, 3, none⟩ = some (.int .i64 x3) := (zh HBX_w2.out 3).trans rfl) | (go_at_call 8; (with_reducible refine (zoe 30 q p g zqc a0 x0 x1 x2 x3 b1 b2 w1 _ HI.out HB12.out A2.out).mono ?_); rintro e w3 ⟨rfl, hi, hb, hk⟩; have HB_w3 := zg.mk (zx HB_w1.out hb); clear hb hk hi))
    go_ret2
    exact ⟨rfl, HB_w3.out⟩
  · rw [if_neg c0] at h
    simp only [Option.some.injEq, Prod.mk.injEq] at h
    obtain ⟨rfl, rfl⟩ := h
    have d0 : (c == 0) = false := beq_eq_false_iff_ne.mpr c0
    have d1 : (c != 0) = true := bne_iff_ne.mpr c0
    go_enter Try.func4, Try.ntmps4
    go_wp2_with (first | ((with_reducible refine zga (N := 4) rfl ?_); refine zia ?hg (N := 4) ?hd (cs := #[.int .i64 x0, .int .i64 x1, .int .i64 x2, .int .i64 x3]) (t := 25) ?hr ?_; (case hd => rfl); (case hg => rfl); (case hr => first | (go_simp; done) | (go_simp; rfl)); intro gx hg w1 hbox hb; have HBX_w1 := zg.mk hbox; have HGX : zg (w.heap.size ≤ gx) := ⟨by omega⟩; have HB_w1 := zg.mk hb; clear hg hbox hb; have hx_w1_0 : w1.cell? ⟨gx, 0, none⟩ = some (.int .i64 x0) := (zh HBX_w1.out 0).trans rfl; have hx_w1_1 : w1.cell? ⟨gx, 1, none⟩ = some (.int .i64 x1) := (zh HBX_w1.out 1).trans rfl; have hx_w1_2 : w1.cell? ⟨gx, 2, none⟩ = some (.int .i64 x2) := (zh HBX_w1.out 2).trans rfl; have hx_w1_3 : w1.cell? ⟨gx, 3, none⟩ = some (.int .i64 x3) := (zh HBX_w1.out 3).trans rfl) | (go_at_call 7; (with_reducible refine (zrc a0 x0 x1 x2 x3 q c _ A1.out).mono ?_); rintro e w2 ⟨⟨v, rfl, hv⟩, hb⟩; clear hv; have HBX_w2 := zg.mk (zz HBX_w1.out hb); have HB_w2 := zg.mk (zx HB_w1.out hb); have HB12 := zg.mk hb; clear hb; have hx_w2_0 : w2.cell? ⟨gx, 0, none⟩ = some (.int .i64 x0) := (zh HBX_w2.out 0).trans rfl; have hx_w2_1 : w2.cell? ⟨gx, 1, none⟩ = some (.int .i64 x1) := (zh HBX_w2.out 1).trans rfl; have hx_w2_2 : w2.cell? ⟨gx, 2, none⟩ = some (.int .i64 x2) := (zh HBX_w2.out 2).trans rfl; have hx_w2_3 : w2.cell? ⟨gx, 3, none⟩ = some (.int .i64 x3) := (zh HBX_w2.out 3).trans rfl))
    go_ret2
    exact ⟨rfl, HB_w2.out⟩
def impl_CanFindIn.f (a0 x0 x1 x2 x3 q : Int) : Option (Bool × Int) := (impl_exactCode.f K0 a0 x0 x1 x2 x3 q).bind fun c => (if c = 0 then ((canI 30 [] a0 x0 x1 x2 x3 q).bind fun b => (some (b.1, 0))) else (some (false, c)))
set_option maxHeartbeats 8000000 in
set_option maxRecDepth 100000 in
theorem impl_CanFindIn.calls (a0 x0 x1 x2 x3 q : Int) (r1 : Bool) (r2 : Int) (w : World) (h : impl_CanFindIn.f a0 x0 x1 x2 x3 q = some (r1, r2)) :
    Calls Try.prog 6 #[.int .i64 a0, .agg #[.int .i64 x0, .int .i64 x1, .int .i64 x2, .int .i64 x3], .int .i64 q] w fun e w' => e = .returned (.tuple #[.bool r1, .int .i64 r2]) ∧ Below w.heap.size w w' := by
  have hu25 := Try.underlying25
  have hu35 := Try.underlying35
  unfold impl_CanFindIn.f at h
  obtain ⟨c, hc, h⟩ := Option.bind_eq_some_iff.mp h
  have A1 := zg.mk hc
  clear hc
  by_cases c0 : c = 0
  · subst c0
    rw [if_pos rfl] at h
    obtain ⟨⟨b1, b2⟩, hb, h⟩ := Option.bind_eq_some_iff.mp h
    have A2 := zg.mk hb
    clear hb
    simp only [Option.some.injEq, Prod.mk.injEq] at h
    obtain ⟨rfl, rfl⟩ := h
    go_enter Try.func6, Try.ntmps6
    go_wp2_with (first | ((with_reducible refine zga (N := 4) rfl ?_); refine zia ?hg (N := 4) ?hd (cs := #[.int .i64 x0, .int .i64 x1, .int .i64 x2, .int .i64 x3]) (t := 25) ?hr ?_; (case hd => rfl); (case hg => rfl); (case hr => first | (go_simp; done) | (go_simp; rfl)); intro gx hg w1 hbox hb; have HBX_w1 := zg.mk hbox; have HGX : zg (w.heap.size ≤ gx) := ⟨by omega⟩; have HB_w1 := zg.mk hb; clear hg hbox hb; have hx_w1_0 : w1.cell? ⟨gx, 0, none⟩ = some (.int .i64 x0) := (zh HBX_w1.out 0).trans rfl; have hx_w1_1 : w1.cell? ⟨gx, 1, none⟩ = some (.int .i64 x1) := (zh HBX_w1.out 1).trans rfl; have hx_w1_2 : w1.cell? ⟨gx, 2, none⟩ = some (.int .i64 x2) := (zh HBX_w1.out 2).trans rfl; have hx_w1_3 : w1.cell? ⟨gx, 3, none⟩ = some (.int .i64 x3) := (zh HBX_w1.out 3).trans rfl) | (go_at_call 9; (with_reducible refine (impl_exactCode.calls K0 a0 x0 x1 x2 x3 q 0 _ A1.out).mono ?_); rintro e w2 ⟨rfl, hb⟩; have HBX_w2 := zg.mk (zz HBX_w1.out hb); have HB_w2 := zg.mk (zx HB_w1.out hb); clear hb; have hx_w2_0 : w2.cell? ⟨gx, 0, none⟩ = some (.int .i64 x0) := (zh HBX_w2.out 0).trans rfl; have hx_w2_1 : w2.cell? ⟨gx, 1, none⟩ = some (.int .i64 x1) := (zh HBX_w2.out 1).trans rfl; have hx_w2_2 : w2.cell? ⟨gx, 2, none⟩ = some (.int .i64 x2) := (zh HBX_w2.out 2).trans rfl; have hx_w2_3 : w2.cell? ⟨gx, 3, none⟩ = some (.int .i64 x3) := (zh HBX_w2.out 3).trans rfl) | (refine made_ rfl rfl ?_; intro gm w3 hg hm hb; have HI : zg (IsB w2 w3 gm []) := ⟨⟨by omega, hm⟩⟩; have HB23 := zg.mk hb; have HBX_w3 := zg.mk (zz HBX_w2.out hb); have HB_w3 := zg.mk (zx HB_w2.out hb); clear hg hm hb; have hx_w3_0 : w3.cell? ⟨gx, 0, none⟩ = some (.int .i64 x0) := (zh HBX_w3.out 0).trans rfl; have hx_w3_1 : w3.cell? ⟨gx, 1, none⟩ = some (.int .i64 x1) := (zh HBX_w3.out 1).trans rfl; have hx_w3_2 : w3.cell? ⟨gx, 2, none⟩ = some (.int .i64 x2) := (zh HBX_w3.out 2).trans rfl; have hx_w3_3 : w3.cell? ⟨gx, 3, none⟩ = some (.int .i64 x3) := (zh HBX_w3.out 3).trans rfl) | (go_at_call 10; (with_reducible refine (zme 30 q gm [] a0 x0 x1 x2 x3 b1 b2 w2 _ HI.out HB23.out A2.out).mono ?_); rintro e w4 ⟨rfl, hi, hb, hk⟩; have HB_w4 := zg.mk (zx HB_w2.out hb); clear hb hk hi))
    go_ret2
    exact ⟨rfl, HB_w4.out⟩
  · rw [if_neg c0] at h
    simp only [Option.some.injEq, Prod.mk.injEq] at h
    obtain ⟨rfl, rfl⟩ := h
    have d0 : (c == 0) = false := beq_eq_false_iff_ne.mpr c0
    have d1 : (c != 0) = true := bne_iff_ne.mpr c0
    go_enter Try.func6, Try.ntmps6
    go_wp2_with (first | ((with_reducible refine zga (N := 4) rfl ?_); refine zia ?hg (N := 4) ?hd (cs := #[.int .i64 x0, .int .i64 x1, .int .i64 x2, .int .i64 x3]) (t := 25) ?hr ?_; (case hd => rfl); (case hg => rfl); (case hr => first | (go_simp; done) | (go_simp; rfl)); intro gx hg w1 hbox hb; have HBX_w1 := zg.mk hbox; have HGX : zg (w.heap.size ≤ gx) := ⟨by omega⟩; have HB_w1 := zg.mk hb; clear hg hbox hb; have hx_w1_0 : w1.cell? ⟨gx, 0, none⟩ = some (.int .i64 x0) := (zh HBX_w1.out 0).trans rfl; have hx_w1_1 : w1.cell? ⟨gx, 1, none⟩ = some (.int .i64 x1) := (zh HBX_w1.out 1).trans rfl; have hx_w1_2 : w1.cell? ⟨gx, 2, none⟩ = some (.int .i64 x2) := (zh HBX_w1.out 2).trans rfl; have hx_w1_3 : w1.cell? ⟨gx, 3, none⟩ = some (.int .i64 x3) := (zh HBX_w1.out 3).trans rfl) | (go_at_call 9; (with_reducible refine (impl_exactCode.calls K0 a0 x0 x1 x2 x3 q c _ A1.out).mono ?_); rintro e w2 ⟨rfl, hb⟩; have HBX_w2 := zg.mk (zz HBX_w1.out hb); have HB_w2 := zg.mk (zx HB_w1.out hb); clear hb; have hx_w2_0 : w2.cell? ⟨gx, 0, none⟩ = some (.int .i64 x0) := (zh HBX_w2.out 0).trans rfl; have hx_w2_1 : w2.cell? ⟨gx, 1, none⟩ = some (.int .i64 x1) := (zh HBX_w2.out 1).trans rfl; have hx_w2_2 : w2.cell? ⟨gx, 2, none⟩ = some (.int .i64 x2) := (zh HBX_w2.out 2).trans rfl; have hx_w2_3 : w2.cell? ⟨gx, 3, none⟩ = some (.int .i64 x3) := (zh HBX_w2.out 3).trans rfl))
    go_ret2
    exact ⟨rfl, HB_w2.out⟩

end Go.Proofs.Ytgcbhknpfpgffaa.C
