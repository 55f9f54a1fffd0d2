/- The reference's l02Move: the water behind a move. -/
import Derived.Test.YteciomagemjjaaaLMovedJ
import Derived.Test.YteciomagemjjaaaJx7
import Derived.Test.YteciomagemjjaaaJx11
namespace Go.Proofs.Yteciomagemjjaaa.J
open Go.RowKit Go.Proofs.YteciomagemjjaaaW.PrintWords Go.Proofs.YteciomagemjjaaaW.PrintLast Go.Proofs.YteciomagemjjaaaW.PrintMore
attribute [local go_sem] zoa zma max_two min_two zha zga zna zla   -- for this text's walks alone
attribute [local go_sem high] eqA27
set_option linter.unusedVariables false
set_option linter.unusedSimpArgs false
theorem in_true {a b c : Int} (h : b ≤ a) (h2 : a ≤ c) : spec_l00In.f a b c = some true := by
  unfold spec_l00In.f
  rw [if_pos h, decide_eq_true h2]
theorem in_last {l : List Int} {a : Int} (h : 0 ≤ a) (h2 : a < l.length) (h4 : l.length ≤ 4) : spec_l00In.f a 0 (wrap64 ((l.length : Int) - 1)) = some true := in_true h (by unfold wrap64; omega)
section
variable (w : World) (o4 o5 o6 : Obj)
theorem thr4 : (((w.alloc o4).alloc o5).alloc o6).heap[w.heap.size]? = some o4 := zg (zg (heap_alloc_new _ _) _) _
theorem thr5 : (((w.alloc o4).alloc o5).alloc o6).heap[w.heap.size + 1]? = some o5 := by
  have e : (w.alloc o4).heap.size = w.heap.size + 1 := by simp
  rw [← e]
  exact zg (heap_alloc_new _ _) _
theorem thr6 : (((w.alloc o4).alloc o5).alloc o6).heap[w.heap.size + 1 + 1]? = some o6 := by
  have e : ((w.alloc o4).alloc o5).heap.size = w.heap.size + 1 + 1 := by simp
  rw [← e]
  exact heap_alloc_new _ _
theorem thr_size : (((w.alloc o4).alloc o5).alloc o6).heap.size = w.heap.size + 1 + 1 + 1 := by simp
theorem below_thr : Below w.heap.size w (((w.alloc o4).alloc o5).alloc o6) := by repeat (first | exact Below.refl _ _ | apply zh)
end
/-- What l02Move returns of a move that is one. -/
def stR (x : Int × Int × Int × Int) (a b c d : Int) : Int × Int × Int × Int × Int := if eq4 x a b c d then (0, 0, 0, 0, 4) else (x.1, x.2.1, x.2.2.1, x.2.2.2, 0)
theorem stR_same {x : Int × Int × Int × Int} {x0 x1 x2 x3 a b c d : Int} (hx : x = (x0, x1, x2, x3)) (h : (x0 == a && (x1 == b && (x2 == c && x3 == d))) = true) : stR x a b c d = (0, 0, 0, 0, 4) := by
  subst hx
  exact if_pos h
theorem stR_diff {x : Int × Int × Int × Int} {x0 x1 x2 x3 a b c d : Int} (hx : x = (x0, x1, x2, x3)) (h : (x0 == a && (x1 == b && (x2 == c && x3 == d))) = false) : stR x a b c d = (x0, x1, x2, x3, 0) := by
  subst hx
  exact if_neg (by rw [show eq4 (x0, x1, x2, x3) a b c d = false from h]; exact Bool.false_ne_true)
theorem ends5 {x : Int × Int × Int × Int} {a b c d x0 x1 x2 x3 k : Int} (h : stR x a b c d = (x0, x1, x2, x3, k)) : (Ending.returned (.tuple #[.agg #[.int .i16 x0, .int .i16 x1, .int .i16 x2, .int .i16 x3], .int .i64 k])) = .returned (.tuple #[.agg #[.int .i16 (stR x a b c d).1, .int .i16 (stR x a b c d).2.1, .int .i16 (stR x a b c d).2.2.1, .int .i16 (stR x a b c d).2.2.2.1], .int .i64 (stR x a b c d).2.2.2.2]) := by
  rw [h]
theorem w16 (x : Int) : IntKind.i16.wrap x = if x % 65536 ≥ 32768 then x % 65536 - 65536 else x % 65536 := by
  simp [IntKind.wrap, IntKind.bits, IntKind.signed]
theorem part_eq {a b r P : Int} (h0 : 0 ≤ a ∧ a < 32768) (hr : spec_l00Min.f (wrap64 a) (wrap64 (IntKind.i16.wrap b)) = some r) (hP : P = IntKind.i16.wrap r) : min a (IntKind.i16.wrap b) = P := by
  unfold spec_l00Min.f at hr
  obtain ⟨B, hB⟩ : ∃ B, B = IntKind.i16.wrap b := ⟨_, rfl⟩
  have hb : -32768 ≤ B ∧ B < 32768 := by rw [hB, w16]; split <;> omega
  rw [← hB] at hr ⊢
  have e1 : wrap64 a = a := by unfold wrap64; omega
  have e2 : wrap64 B = B := by unfold wrap64; omega
  rw [e1, e2] at hr
  have e3 : IntKind.i16.wrap a = a := by rw [w16]; split <;> omega
  have e4 : IntKind.i16.wrap B = B := by rw [w16]; split <;> omega
  subst hP
  split at hr <;> cases hr
  · rw [e3]; omega
  · rw [e4]; omega
theorem le2 (n : Nat) : n ≤ n + 1 + 1 := by omega
theorem ne23 (n : Nat) : n + 1 + 1 ≠ n + 1 + 1 + 1 := by omega
set_option maxHeartbeats 8000000 in
set_option maxRecDepth 100000 in
theorem step_pour (g0 : Nat) (A : Option Addr) (c0 : Nat) (l : List Int) (s0 s1 s2 s3 : Int) (tap : Bool) (w0 w1 w2 w3 fr tt : Int) (w : World) (hb0 : w.heap[g0]? = some (.cells #[.slice A l.length c0, .int .i16 s0, .int .i16 s1, .int .i16 s2, .int .i16 s3, .bool tap] 29 (0, 0))) (hr0 : Kd.C (Kd.int .i16) w A l.length l) (hc0 : l.length ≤ c0) (hf : 0 ≤ fr ∧ fr < 4) (ht : 0 ≤ tt ∧ tt < 4) (hlf : fr < l.length) (hl : tt < l.length) (hL : l.length ≤ 4) (hne : fr ≠ tt) (hw0 : 0 ≤ w0 ∧ w0 < 32768) (hw1 : 0 ≤ w1 ∧ w1 < 32768) (hw2 : 0 ≤ w2 ∧ w2 < 32768) (hw3 : 0 ≤ w3 ∧ w3 < 32768) :
    Calls Try.prog 76 #[.pointer (some ⟨g0, 0, none⟩), .agg #[.int .i16 w0, .int .i16 w1, .int .i16 w2, .int .i16 w3], .agg #[.int .i8 0, .int .i8 fr, .int .i8 tt]] w
      fun e w' => e = .returned (.tuple #[.agg #[.int .i16 (stR (mvP l w0 w1 w2 w3 fr tt) w0 w1 w2 w3).1, .int .i16 (stR (mvP l w0 w1 w2 w3 fr tt) w0 w1 w2 w3).2.1, .int .i16 (stR (mvP l w0 w1 w2 w3 fr tt) w0 w1 w2 w3).2.2.1, .int .i16 (stR (mvP l w0 w1 w2 w3 fr tt) w0 w1 w2 w3).2.2.2.1], .int .i64 (stR (mvP l w0 w1 w2 w3 fr tt) w0 w1 w2 w3).2.2.2.2]) ∧ Below w.heap.size w w' := by
  have hu29 := Try.underlying29
  have hu27 := Try.underlying27
  have hu80 := Try.underlying80
  obtain ⟨ad, eA, hx⟩ := Kd.at_int hr0 tt ht.1 hl
  cases eA
  have hlt := zaa hb0
  have HW := zf.mk (And.intro hw0 (And.intro hw1 (And.intro hw2 hw3)))
  clear hw0 hw1 hw2 hw3
  have HI1 := zf.mk (in_last hf.1 hlf hL)
  have HI2 := zf.mk (in_last ht.1 hl hL)
  clear hL
  rcases (show fr = 0 ∨ fr = 1 ∨ fr = 2 ∨ fr = 3 by omega) with rfl | rfl | rfl | rfl <;> rcases (show tt = 0 ∨ tt = 1 ∨ tt = 2 ∨ tt = 3 by omega) with rfl | rfl | rfl | rfl
  · exact absurd rfl hne
  · go_enter Try.func76, Try.ntmps76
    go_upto_region 1 with (fail)
    generalize hW1 : World.alloc _ _ = W1
    have H4 : W1.heap[w.heap.size]? = some (.cells #[.int .i16 w0, .int .i16 w1, .int .i16 w2, .int .i16 w3] 27 (0, 0)) := by rw [← hW1]; exact thr4 _ _ _ _
    have H5 : W1.heap[w.heap.size + 1]? = some (.cells #[.int .i8 0, .int .i8 0, .int .i8 1] 80 (0, 0)) := by rw [← hW1]; exact thr5 _ _ _ _
    have H6 : W1.heap[w.heap.size + 1 + 1]? = some (.cells #[.int .i16 0, .int .i16 0, .int .i16 0, .int .i16 0] 27 (0, 0)) := by rw [← hW1]; exact thr6 _ _ _ _
    have HB : Below w.heap.size w W1 := by rw [← hW1]; exact below_thr _ _ _ _
    have HZ : W1.heap.size = w.heap.size + 1 + 1 + 1 := by rw [← hW1]; exact thr_size _ _ _ _
    clear hW1
    have H0 := zl hb0 HB
    have hx1 := (HB.cell (World.block_lt_of_cell? w _ hx)).trans hx
    simp [Addr.add] at hx1
    have a00 : W1.cell? ⟨g0, 0, none⟩ = some (.slice (some ad) l.length c0) := (za H0 0).trans rfl
    have a40 : W1.cell? ⟨w.heap.size, 0, none⟩ = some (.int .i16 w0) := (za H4 0).trans rfl
    have a41 : W1.cell? ⟨w.heap.size, 1, none⟩ = some (.int .i16 w1) := (za H4 1).trans rfl
    have a42 : W1.cell? ⟨w.heap.size, 2, none⟩ = some (.int .i16 w2) := (za H4 2).trans rfl
    have a43 : W1.cell? ⟨w.heap.size, 3, none⟩ = some (.int .i16 w3) := (za H4 3).trans rfl
    have a50 : W1.cell? ⟨w.heap.size + 1, 0, none⟩ = some (.int .i8 0) := (za H5 0).trans rfl
    have a51 : W1.cell? ⟨w.heap.size + 1, 1, none⟩ = some (.int .i8 0) := (za H5 1).trans rfl
    have a52 : W1.cell? ⟨w.heap.size + 1, 2, none⟩ = some (.int .i8 1) := (za H5 2).trans rfl
    have HA := zf.mk (And.intro H0 (And.intro H4 (And.intro H5 (And.intro H6 (And.intro HB HZ)))))
    clear H0 H4 H5 H6 HB HZ hb0 hx hr0
    go_upto_region 6 with (first
      | (go_at_call 103
         (with_reducible refine (spec_l00In.calls _ _ _ true _ ?hh).mono ?_)
         (case hh => first | exact HI1.out | exact HI2.out | exact in_true (by decide) (by decide))
         rintro e w' ⟨rfl, ⟨nd, rfl⟩⟩)
      | go_in)
    generalize hW2 : World.drewN _ _ = W2
    have G0 : W2.heap[g0]? = some (.cells #[.slice (some ad) l.length c0, .int .i16 s0, .int .i16 s1, .int .i16 s2, .int .i16 s3, .bool tap] 29 (0, 0)) := by rw [← hW2]; exact ze HA.out.1 _
    have G4 : W2.heap[w.heap.size]? = some (.cells #[.int .i16 w0, .int .i16 w1, .int .i16 w2, .int .i16 w3] 27 (0, 0)) := by rw [← hW2]; exact ze HA.out.2.1 _
    have G5 : W2.heap[w.heap.size + 1]? = some (.cells #[.int .i8 0, .int .i8 0, .int .i8 1] 80 (0, 0)) := by rw [← hW2]; exact ze HA.out.2.2.1 _
    have G6 : W2.heap[w.heap.size + 1 + 1]? = some (.cells #[.int .i16 0, .int .i16 0, .int .i16 0, .int .i16 0] 27 (0, 0)) := by rw [← hW2]; exact ze HA.out.2.2.2.1 _
    have GB : Below w.heap.size w W2 := by rw [← hW2]; exact zc HA.out.2.2.2.2.1 _
    have GZ : W2.heap.size = w.heap.size + 1 + 1 + 1 := by rw [← hW2]; exact HA.out.2.2.2.2.2
    have hx2 : W2.cell? ⟨ad.block, ad.off + 1, none⟩ = some (.int .i16 (rd l 1)) := by rw [← hW2]; exact hx1
    clear hW2 hx1 a00 a40 a41 a42 a43 a50 a51 a52
    have a00 : W2.cell? ⟨g0, 0, none⟩ = some (.slice (some ad) l.length c0) := (za G0 0).trans rfl
    have a40 : W2.cell? ⟨w.heap.size, 0, none⟩ = some (.int .i16 w0) := (za G4 0).trans rfl
    have a41 : W2.cell? ⟨w.heap.size, 1, none⟩ = some (.int .i16 w1) := (za G4 1).trans rfl
    have a42 : W2.cell? ⟨w.heap.size, 2, none⟩ = some (.int .i16 w2) := (za G4 2).trans rfl
    have a43 : W2.cell? ⟨w.heap.size, 3, none⟩ = some (.int .i16 w3) := (za G4 3).trans rfl
    have a50 : W2.cell? ⟨w.heap.size + 1, 0, none⟩ = some (.int .i8 0) := (za G5 0).trans rfl
    have a51 : W2.cell? ⟨w.heap.size + 1, 1, none⟩ = some (.int .i8 0) := (za G5 1).trans rfl
    have a52 : W2.cell? ⟨w.heap.size + 1, 2, none⟩ = some (.int .i8 1) := (za G5 2).trans rfl
    have GA := zf.mk (And.intro G0 (And.intro G4 (And.intro G5 (And.intro G6 (And.intro GB GZ)))))
    clear G0 G4 G5 G6 GB GZ HA
    go_upto_region 7 with (fail)
    generalize hW3 : World.alloc _ _ = W3
    rw [GA.out.2.2.2.2.2]
    have K0 : W3.heap[g0]? = some (.cells #[.slice (some ad) l.length c0, .int .i16 s0, .int .i16 s1, .int .i16 s2, .int .i16 s3, .bool tap] 29 (0, 0)) := by rw [← hW3]; exact zg GA.out.1 _
    have K4 : W3.heap[w.heap.size]? = some (.cells #[.int .i16 w0, .int .i16 w1, .int .i16 w2, .int .i16 w3] 27 (0, 0)) := by rw [← hW3]; exact zg GA.out.2.1 _
    have K5 : W3.heap[w.heap.size + 1]? = some (.cells #[.int .i8 0, .int .i8 0, .int .i8 1] 80 (0, 0)) := by rw [← hW3]; exact zg GA.out.2.2.1 _
    have K6 : W3.heap[w.heap.size + 1 + 1]? = some (.cells #[.int .i16 0, .int .i16 0, .int .i16 0, .int .i16 0] 27 (0, 0)) := by rw [← hW3]; exact zg GA.out.2.2.2.1 _
    have K9 : W3.heap[w.heap.size + 1 + 1 + 1]? = some (.cells #[.int .i16 w0, .int .i16 w1, .int .i16 w2, .int .i16 w3] 27 (0, 0)) := by rw [← hW3, ← GA.out.2.2.2.2.2]; exact heap_alloc_new _ _
    have KB : Below w.heap.size w W3 := by rw [← hW3]; exact zh GA.out.2.2.2.2.1 _
    have hx3 : W3.cell? ⟨ad.block, ad.off + 1, none⟩ = some (.int .i16 (rd l 1)) := by rw [← hW3]; exact ((zh (Below.refl _ _) _).cell (World.block_lt_of_cell? W2 _ hx2)).trans hx2
    clear hW3 hx2 a00 a40 a41 a42 a43 a50 a51 a52
    have a00 : W3.cell? ⟨g0, 0, none⟩ = some (.slice (some ad) l.length c0) := (za K0 0).trans rfl
    have a40 : W3.cell? ⟨w.heap.size, 0, none⟩ = some (.int .i16 w0) := (za K4 0).trans rfl
    have a41 : W3.cell? ⟨w.heap.size, 1, none⟩ = some (.int .i16 w1) := (za K4 1).trans rfl
    have a42 : W3.cell? ⟨w.heap.size, 2, none⟩ = some (.int .i16 w2) := (za K4 2).trans rfl
    have a43 : W3.cell? ⟨w.heap.size, 3, none⟩ = some (.int .i16 w3) := (za K4 3).trans rfl
    have a50 : W3.cell? ⟨w.heap.size + 1, 0, none⟩ = some (.int .i8 0) := (za K5 0).trans rfl
    have a51 : W3.cell? ⟨w.heap.size + 1, 1, none⟩ = some (.int .i8 0) := (za K5 1).trans rfl
    have a52 : W3.cell? ⟨w.heap.size + 1, 2, none⟩ = some (.int .i8 1) := (za K5 2).trans rfl
    have a90 : W3.cell? ⟨w.heap.size + 1 + 1 + 1, 0, none⟩ = some (.int .i16 w0) := (za K9 0).trans rfl
    have f90 := zb K9 0
    have a91 : W3.cell? ⟨w.heap.size + 1 + 1 + 1, 1, none⟩ = some (.int .i16 w1) := (za K9 1).trans rfl
    have f91 := zb K9 1
    have a92 : W3.cell? ⟨w.heap.size + 1 + 1 + 1, 2, none⟩ = some (.int .i16 w2) := (za K9 2).trans rfl
    have f92 := zb K9 2
    have a93 : W3.cell? ⟨w.heap.size + 1 + 1 + 1, 3, none⟩ = some (.int .i16 w3) := (za K9 3).trans rfl
    have f93 := zb K9 3
    have KA := zf.mk (And.intro K0 (And.intro K4 (And.intro K5 (And.intro K6 (And.intro K9 KB)))))
    clear K0 K4 K5 K6 K9 KB GA
    go_upto_region 9 with (fail)
    obtain ⟨r, hr⟩ : ∃ r, spec_l00Min.f (wrap64 w0) (wrap64 (IntKind.i16.wrap (rd l 1 - w1))) = some r := by unfold spec_l00Min.f; split <;> exact ⟨_, rfl⟩
    have HR := zf.mk hr
    clear hr
    go_quiet ((go_at_call 104; exact Calls.quiet_of ((spec_l00Min.calls _ _ r _ HR.out).mono fun _ _ ⟨he, ⟨nd, hd⟩⟩ => ⟨he, nd, hd⟩)))
    obtain ⟨P, hP⟩ : ∃ P, P = IntKind.i16.wrap r := ⟨_, rfl⟩
    rw [← hP]
    have HP := zf.mk hP
    clear hP
    generalize hW4 : World.drewN _ _ = W4
    have L4 : W4.heap[w.heap.size]? = some (.cells #[.int .i16 w0, .int .i16 w1, .int .i16 w2, .int .i16 w3] 27 (0, 0)) := by rw [← hW4]; exact ze KA.out.2.1 _
    have L5 : W4.heap[w.heap.size + 1]? = some (.cells #[.int .i8 0, .int .i8 0, .int .i8 1] 80 (0, 0)) := by rw [← hW4]; exact ze KA.out.2.2.1 _
    have L6 : W4.heap[w.heap.size + 1 + 1]? = some (.cells #[.int .i16 0, .int .i16 0, .int .i16 0, .int .i16 0] 27 (0, 0)) := by rw [← hW4]; exact ze KA.out.2.2.2.1 _
    have L9 : W4.heap[w.heap.size + 1 + 1 + 1]? = some (.cells #[.int .i16 w0, .int .i16 w1, .int .i16 w2, .int .i16 w3] 27 (0, 0)) := by rw [← hW4]; exact ze KA.out.2.2.2.2.1 _
    have LB : Below w.heap.size w W4 := by rw [← hW4]; exact zc KA.out.2.2.2.2.2 _
    clear hW4 hx3 a90 a91 a92 a93 f90 f91 f92 f93 a00 a40 a41 a42 a43 a50 a51 a52
    have a50 : W4.cell? ⟨w.heap.size + 1, 0, none⟩ = some (.int .i8 0) := (za L5 0).trans rfl
    have a51 : W4.cell? ⟨w.heap.size + 1, 1, none⟩ = some (.int .i8 0) := (za L5 1).trans rfl
    have a52 : W4.cell? ⟨w.heap.size + 1, 2, none⟩ = some (.int .i8 1) := (za L5 2).trans rfl
    have a90 : W4.cell? ⟨w.heap.size + 1 + 1 + 1, 0, none⟩ = some (.int .i16 w0) := (za L9 0).trans rfl
    have f90 := zb L9 0
    have a91 : W4.cell? ⟨w.heap.size + 1 + 1 + 1, 1, none⟩ = some (.int .i16 w1) := (za L9 1).trans rfl
    have f91 := zb L9 1
    have a92 : W4.cell? ⟨w.heap.size + 1 + 1 + 1, 2, none⟩ = some (.int .i16 w2) := (za L9 2).trans rfl
    have f92 := zb L9 2
    have a93 : W4.cell? ⟨w.heap.size + 1 + 1 + 1, 3, none⟩ = some (.int .i16 w3) := (za L9 3).trans rfl
    have f93 := zb L9 3
    have LA := zf.mk (And.intro L4 (And.intro L6 (And.intro L9 LB)))
    clear L4 L5 L6 L9 LB KA
    go_upto_region 16 with (fail)
    have a40 : W4.cell? ⟨w.heap.size, 0, none⟩ = some (.int .i16 w0) := (za LA.out.1 0).trans rfl
    have a41 : W4.cell? ⟨w.heap.size, 1, none⟩ = some (.int .i16 w1) := (za LA.out.1 1).trans rfl
    have a42 : W4.cell? ⟨w.heap.size, 2, none⟩ = some (.int .i16 w2) := (za LA.out.1 2).trans rfl
    have a43 : W4.cell? ⟨w.heap.size, 3, none⟩ = some (.int .i16 w3) := (za LA.out.1 3).trans rfl
    have a60 : W4.cell? ⟨w.heap.size + 1 + 1, 0, none⟩ = some (.int .i16 0) := (za LA.out.2.1 0).trans rfl
    have f60 := zb LA.out.2.1 0
    have a61 : W4.cell? ⟨w.heap.size + 1 + 1, 1, none⟩ = some (.int .i16 0) := (za LA.out.2.1 1).trans rfl
    have f61 := zb LA.out.2.1 1
    have a62 : W4.cell? ⟨w.heap.size + 1 + 1, 2, none⟩ = some (.int .i16 0) := (za LA.out.2.1 2).trans rfl
    have f62 := zb LA.out.2.1 2
    have a63 : W4.cell? ⟨w.heap.size + 1 + 1, 3, none⟩ = some (.int .i16 0) := (za LA.out.2.1 3).trans rfl
    have f63 := zb LA.out.2.1 3
    go_wp2
    all_goals
      rename_i h
      have hm : much l w0 w1 w2 w3 0 1 = P := part_eq HW.out.1 HR.out HP.out
      have hx : mvP l w0 w1 w2 w3 0 1 = (IntKind.i16.wrap (w0 - P), IntKind.i16.wrap (w1 + P), w2, w3) := by simp [mvP, hm, st4, rd4, rd]
      have L6 := LA.out.2.1
      have LB := LA.out.2.2.2
      clear hm HR HP
      refine bodyPost_ret (zu rfl _ _ (w.heap.size + 1 + 1) 27 _ (0, 0) _ rfl (after_store L6 (ne23 _) _ _ _ _ _ _ _ _) Try.underlying27 rfl (size27 _ _ _ _)) rfl ?_
      refine ⟨ends5 ?_, by with_reducible repeat (first | refine zj ?_ (le3 _) | refine zj ?_ (le2 _) | exact LB)⟩
      first | exact stR_diff hx (by rcases h with h | h <;> simp [h]) | exact stR_same hx (by simp [h.1, h.2])
  · go_enter Try.func76, Try.ntmps76
    go_upto_region 1 with (fail)
    generalize hW1 : World.alloc _ _ = W1
    have H4 : W1.heap[w.heap.size]? = some (.cells #[.int .i16 w0, .int .i16 w1, .int .i16 w2, .int .i16 w3] 27 (0, 0)) := by rw [← hW1]; exact thr4 _ _ _ _
    have H5 : W1.heap[w.heap.size + 1]? = some (.cells #[.int .i8 0, .int .i8 0, .int .i8 2] 80 (0, 0)) := by rw [← hW1]; exact thr5 _ _ _ _
    have H6 : W1.heap[w.heap.size + 1 + 1]? = some (.cells #[.int .i16 0, .int .i16 0, .int .i16 0, .int .i16 0] 27 (0, 0)) := by rw [← hW1]; exact thr6 _ _ _ _
    have HB : Below w.heap.size w W1 := by rw [← hW1]; exact below_thr _ _ _ _
    have HZ : W1.heap.size = w.heap.size + 1 + 1 + 1 := by rw [← hW1]; exact thr_size _ _ _ _
    clear hW1
    have H0 := zl hb0 HB
    have hx1 := (HB.cell (World.block_lt_of_cell? w _ hx)).trans hx
    simp [Addr.add] at hx1
    have a00 : W1.cell? ⟨g0, 0, none⟩ = some (.slice (some ad) l.length c0) := (za H0 0).trans rfl
    have a40 : W1.cell? ⟨w.heap.size, 0, none⟩ = some (.int .i16 w0) := (za H4 0).trans rfl
    have a41 : W1.cell? ⟨w.heap.size, 1, none⟩ = some (.int .i16 w1) := (za H4 1).trans rfl
    have a42 : W1.cell? ⟨w.heap.size, 2, none⟩ = some (.int .i16 w2) := (za H4 2).trans rfl
    have a43 : W1.cell? ⟨w.heap.size, 3, none⟩ = some (.int .i16 w3) := (za H4 3).trans rfl
    have a50 : W1.cell? ⟨w.heap.size + 1, 0, none⟩ = some (.int .i8 0) := (za H5 0).trans rfl
    have a51 : W1.cell? ⟨w.heap.size + 1, 1, none⟩ = some (.int .i8 0) := (za H5 1).trans rfl
    have a52 : W1.cell? ⟨w.heap.size + 1, 2, none⟩ = some (.int .i8 2) := (za H5 2).trans rfl
    have HA := zf.mk (And.intro H0 (And.intro H4 (And.intro H5 (And.intro H6 (And.intro HB HZ)))))
    clear H0 H4 H5 H6 HB HZ hb0 hx hr0
    go_upto_region 6 with (first
      | (go_at_call 103
         (with_reducible refine (spec_l00In.calls _ _ _ true _ ?hh).mono ?_)
         (case hh => first | exact HI1.out | exact HI2.out | exact in_true (by decide) (by decide))
         rintro e w' ⟨rfl, ⟨nd, rfl⟩⟩)
      | go_in)
    generalize hW2 : World.drewN _ _ = W2
    have G0 : W2.heap[g0]? = some (.cells #[.slice (some ad) l.length c0, .int .i16 s0, .int .i16 s1, .int .i16 s2, .int .i16 s3, .bool tap] 29 (0, 0)) := by rw [← hW2]; exact ze HA.out.1 _
    have G4 : W2.heap[w.heap.size]? = some (.cells #[.int .i16 w0, .int .i16 w1, .int .i16 w2, .int .i16 w3] 27 (0, 0)) := by rw [← hW2]; exact ze HA.out.2.1 _
    have G5 : W2.heap[w.heap.size + 1]? = some (.cells #[.int .i8 0, .int .i8 0, .int .i8 2] 80 (0, 0)) := by rw [← hW2]; exact ze HA.out.2.2.1 _
    have G6 : W2.heap[w.heap.size + 1 + 1]? = some (.cells #[.int .i16 0, .int .i16 0, .int .i16 0, .int .i16 0] 27 (0, 0)) := by rw [← hW2]; exact ze HA.out.2.2.2.1 _
    have GB : Below w.heap.size w W2 := by rw [← hW2]; exact zc HA.out.2.2.2.2.1 _
    have GZ : W2.heap.size = w.heap.size + 1 + 1 + 1 := by rw [← hW2]; exact HA.out.2.2.2.2.2
    have hx2 : W2.cell? ⟨ad.block, ad.off + 2, none⟩ = some (.int .i16 (rd l 2)) := by rw [← hW2]; exact hx1
    clear hW2 hx1 a00 a40 a41 a42 a43 a50 a51 a52
    have a00 : W2.cell? ⟨g0, 0, none⟩ = some (.slice (some ad) l.length c0) := (za G0 0).trans rfl
    have a40 : W2.cell? ⟨w.heap.size, 0, none⟩ = some (.int .i16 w0) := (za G4 0).trans rfl
    have a41 : W2.cell? ⟨w.heap.size, 1, none⟩ = some (.int .i16 w1) := (za G4 1).trans rfl
    have a42 : W2.cell? ⟨w.heap.size, 2, none⟩ = some (.int .i16 w2) := (za G4 2).trans rfl
    have a43 : W2.cell? ⟨w.heap.size, 3, none⟩ = some (.int .i16 w3) := (za G4 3).trans rfl
    have a50 : W2.cell? ⟨w.heap.size + 1, 0, none⟩ = some (.int .i8 0) := (za G5 0).trans rfl
    have a51 : W2.cell? ⟨w.heap.size + 1, 1, none⟩ = some (.int .i8 0) := (za G5 1).trans rfl
    have a52 : W2.cell? ⟨w.heap.size + 1, 2, none⟩ = some (.int .i8 2) := (za G5 2).trans rfl
    have GA := zf.mk (And.intro G0 (And.intro G4 (And.intro G5 (And.intro G6 (And.intro GB GZ)))))
    clear G0 G4 G5 G6 GB GZ HA
    go_upto_region 7 with (fail)
    generalize hW3 : World.alloc _ _ = W3
    rw [GA.out.2.2.2.2.2]
    have K0 : W3.heap[g0]? = some (.cells #[.slice (some ad) l.length c0, .int .i16 s0, .int .i16 s1, .int .i16 s2, .int .i16 s3, .bool tap] 29 (0, 0)) := by rw [← hW3]; exact zg GA.out.1 _
    have K4 : W3.heap[w.heap.size]? = some (.cells #[.int .i16 w0, .int .i16 w1, .int .i16 w2, .int .i16 w3] 27 (0, 0)) := by rw [← hW3]; exact zg GA.out.2.1 _
    have K5 : W3.heap[w.heap.size + 1]? = some (.cells #[.int .i8 0, .int .i8 0, .int .i8 2] 80 (0, 0)) := by rw [← hW3]; exact zg GA.out.2.2.1 _
    have K6 : W3.heap[w.heap.size + 1 + 1]? = some (.cells #[.int .i16 0, .int .i16 0, .int .i16 0, .int .i16 0] 27 (0, 0)) := by rw [← hW3]; exact zg GA.out.2.2.2.1 _
    have K9 : W3.heap[w.heap.size + 1 + 1 + 1]? = some (.cells #[.int .i16 w0, .int .i16 w1, .int .i16 w2, .int .i16 w3] 27 (0, 0)) := by rw [← hW3, ← GA.out.2.2.2.2.2]; exact heap_alloc_new _ _
    have KB : Below w.heap.size w W3 := by rw [← hW3]; exact zh GA.out.2.2.2.2.1 _
    have hx3 : W3.cell? ⟨ad.block, ad.off + 2, none⟩ = some (.int .i16 (rd l 2)) := by rw [← hW3]; exact ((zh (Below.refl _ _) _).cell (World.block_lt_of_cell? W2 _ hx2)).trans hx2
    clear hW3 hx2 a00 a40 a41 a42 a43 a50 a51 a52
    have a00 : W3.cell? ⟨g0, 0, none⟩ = some (.slice (some ad) l.length c0) := (za K0 0).trans rfl
    have a40 : W3.cell? ⟨w.heap.size, 0, none⟩ = some (.int .i16 w0) := (za K4 0).trans rfl
    have a41 : W3.cell? ⟨w.heap.size, 1, none⟩ = some (.int .i16 w1) := (za K4 1).trans rfl
    have a42 : W3.cell? ⟨w.heap.size, 2, none⟩ = some (.int .i16 w2) := (za K4 2).trans rfl
    have a43 : W3.cell? ⟨w.heap.size, 3, none⟩ = some (.int .i16 w3) := (za K4 3).trans rfl
    have a50 : W3.cell? ⟨w.heap.size + 1, 0, none⟩ = some (.int .i8 0) := (za K5 0).trans rfl
    have a51 : W3.cell? ⟨w.heap.size + 1, 1, none⟩ = some (.int .i8 0) := (za K5 1).trans rfl
    have a52 : W3.cell? ⟨w.heap.size + 1, 2, none⟩ = some (.int .i8 2) := (za K5 2).trans rfl
    have a90 : W3.cell? ⟨w.heap.size + 1 + 1 + 1, 0, none⟩ = some (.int .i16 w0) := (za K9 0).trans rfl
    have f90 := zb K9 0
    have a91 : W3.cell? ⟨w.heap.size + 1 + 1 + 1, 1, none⟩ = some (.int .i16 w1) := (za K9 1).trans rfl
    have f91 := zb K9 1
    have a92 : W3.cell? ⟨w.heap.size + 1 + 1 + 1, 2, none⟩ = some (.int .i16 w2) := (za K9 2).trans rfl
    have f92 := zb K9 2
    have a93 : W3.cell? ⟨w.heap.size + 1 + 1 + 1, 3, none⟩ = some (.int .i16 w3) := (za K9 3).trans rfl
    have f93 := zb K9 3
    have KA := zf.mk (And.intro K0 (And.intro K4 (And.intro K5 (And.intro K6 (And.intro K9 KB)))))
    clear K0 K4 K5 K6 K9 KB GA
    go_upto_region 9 with (fail)
    obtain ⟨r, hr⟩ : ∃ r, spec_l00Min.f (wrap64 w0) (wrap64 (IntKind.i16.wrap (rd l 2 - w2))) = some r := by unfold spec_l00Min.f; split <;> exact ⟨_, rfl⟩
    have HR := zf.mk hr
    clear hr
    go_quiet ((go_at_call 104; exact Calls.quiet_of ((spec_l00Min.calls _ _ r _ HR.out).mono fun _ _ ⟨he, ⟨nd, hd⟩⟩ => ⟨he, nd, hd⟩)))
    obtain ⟨P, hP⟩ : ∃ P, P = IntKind.i16.wrap r := ⟨_, rfl⟩
    rw [← hP]
    have HP := zf.mk hP
    clear hP
    generalize hW4 : World.drewN _ _ = W4
    have L4 : W4.heap[w.heap.size]? = some (.cells #[.int .i16 w0, .int .i16 w1, .int .i16 w2, .int .i16 w3] 27 (0, 0)) := by rw [← hW4]; exact ze KA.out.2.1 _
    have L5 : W4.heap[w.heap.size + 1]? = some (.cells #[.int .i8 0, .int .i8 0, .int .i8 2] 80 (0, 0)) := by rw [← hW4]; exact ze KA.out.2.2.1 _
    have L6 : W4.heap[w.heap.size + 1 + 1]? = some (.cells #[.int .i16 0, .int .i16 0, .int .i16 0, .int .i16 0] 27 (0, 0)) := by rw [← hW4]; exact ze KA.out.2.2.2.1 _
    have L9 : W4.heap[w.heap.size + 1 + 1 + 1]? = some (.cells #[.int .i16 w0, .int .i16 w1, .int .i16 w2, .int .i16 w3] 27 (0, 0)) := by rw [← hW4]; exact ze KA.out.2.2.2.2.1 _
    have LB : Below w.heap.size w W4 := by rw [← hW4]; exact zc KA.out.2.2.2.2.2 _
    clear hW4 hx3 a90 a91 a92 a93 f90 f91 f92 f93 a00 a40 a41 a42 a43 a50 a51 a52
    have a50 : W4.cell? ⟨w.heap.size + 1, 0, none⟩ = some (.int .i8 0) := (za L5 0).trans rfl
    have a51 : W4.cell? ⟨w.heap.size + 1, 1, none⟩ = some (.int .i8 0) := (za L5 1).trans rfl
    have a52 : W4.cell? ⟨w.heap.size + 1, 2, none⟩ = some (.int .i8 2) := (za L5 2).trans rfl
    have a90 : W4.cell? ⟨w.heap.size + 1 + 1 + 1, 0, none⟩ = some (.int .i16 w0) := (za L9 0).trans rfl
    have f90 := zb L9 0
    have a91 : W4.cell? ⟨w.heap.size + 1 + 1 + 1, 1, none⟩ = some (.int .i16 w1) := (za L9 1).trans rfl
    have f91 := zb L9 1
    have a92 : W4.cell? ⟨w.heap.size + 1 + 1 + 1, 2, none⟩ = some (.int .i16 w2) := (za L9 2).trans rfl
    have f92 := zb L9 2
    have a93 : W4.cell? ⟨w.heap.size + 1 + 1 + 1, 3, none⟩ = some (.int .i16 w3) := (za L9 3).trans rfl
    have f93 := zb L9 3
    have LA := zf.mk (And.intro L4 (And.intro L6 (And.intro L9 LB)))
    clear L4 L5 L6 L9 LB KA
    go_upto_region 16 with (fail)
    have a40 : W4.cell? ⟨w.heap.size, 0, none⟩ = some (.int .i16 w0) := (za LA.out.1 0).trans rfl
    have a41 : W4.cell? ⟨w.heap.size, 1, none⟩ = some (.int .i16 w1) := (za LA.out.1 1).trans rfl
    have a42 : W4.cell? ⟨w.heap.size, 2, none⟩ = some (.int .i16 w2) := (za LA.out.1 2).trans rfl
    have a43 : W4.cell? ⟨w.heap.size, 3, none⟩ = some (.int .i16 w3) := (za LA.out.1 3).trans rfl
    have a60 : W4.cell? ⟨w.heap.size + 1 + 1, 0, none⟩ = some (.int .i16 0) := (za LA.out.2.1 0).trans rfl
    have f60 := zb LA.out.2.1 0
    have a61 : W4.cell? ⟨w.heap.size + 1 + 1, 1, none⟩ = some (.int .i16 0) := (za LA.out.2.1 1).trans rfl
    have f61 := zb LA.out.2.1 1
    have a62 : W4.cell? ⟨w.heap.size + 1 + 1, 2, none⟩ = some (.int .i16 0) := (za LA.out.2.1 2).trans rfl
    have f62 := zb LA.out.2.1 2
    have a63 : W4.cell? ⟨w.heap.size + 1 + 1, 3, none⟩ = some (.int .i16 0) := (za LA.out.2.1 3).trans rfl
    have f63 := zb LA.out.2.1 3
    go_wp2
    all_goals
      rename_i h
      have hm : much l w0 w1 w2 w3 0 2 = P := part_eq HW.out.1 HR.out HP.out
      have hx : mvP l w0 w1 w2 w3 0 2 = (IntKind.i16.wrap (w0 - P), w1, IntKind.i16.wrap (w2 + P), w3) := by simp [mvP, hm, st4, rd4, rd]
      have L6 := LA.out.2.1
      have LB := LA.out.2.2.2
      clear hm HR HP
      refine bodyPost_ret (zu rfl _ _ (w.heap.size + 1 + 1) 27 _ (0, 0) _ rfl (after_store L6 (ne23 _) _ _ _ _ _ _ _ _) Try.underlying27 rfl (size27 _ _ _ _)) rfl ?_
      refine ⟨ends5 ?_, by with_reducible repeat (first | refine zj ?_ (le3 _) | refine zj ?_ (le2 _) | exact LB)⟩
      first | exact stR_diff hx (by rcases h with h | h <;> simp [h]) | exact stR_same hx (by simp [h.1, h.2])
  · go_enter Try.func76, Try.ntmps76
    go_upto_region 1 with (fail)
    generalize hW1 : World.alloc _ _ = W1
    have H4 : W1.heap[w.heap.size]? = some (.cells #[.int .i16 w0, .int .i16 w1, .int .i16 w2, .int .i16 w3] 27 (0, 0)) := by rw [← hW1]; exact thr4 _ _ _ _
    have H5 : W1.heap[w.heap.size + 1]? = some (.cells #[.int .i8 0, .int .i8 0, .int .i8 3] 80 (0, 0)) := by rw [← hW1]; exact thr5 _ _ _ _
    have H6 : W1.heap[w.heap.size + 1 + 1]? = some (.cells #[.int .i16 0, .int .i16 0, .int .i16 0, .int .i16 0] 27 (0, 0)) := by rw [← hW1]; exact thr6 _ _ _ _
    have HB : Below w.heap.size w W1 := by rw [← hW1]; exact below_thr _ _ _ _
    have HZ : W1.heap.size = w.heap.size + 1 + 1 + 1 := by rw [← hW1]; exact thr_size _ _ _ _
    clear hW1
    have H0 := zl hb0 HB
    have hx1 := (HB.cell (World.block_lt_of_cell? w _ hx)).trans hx
    simp [Addr.add] at hx1
    have a00 : W1.cell? ⟨g0, 0, none⟩ = some (.slice (some ad) l.length c0) := (za H0 0).trans rfl
    have a40 : W1.cell? ⟨w.heap.size, 0, none⟩ = some (.int .i16 w0) := (za H4 0).trans rfl
    have a41 : W1.cell? ⟨w.heap.size, 1, none⟩ = some (.int .i16 w1) := (za H4 1).trans rfl
    have a42 : W1.cell? ⟨w.heap.size, 2, none⟩ = some (.int .i16 w2) := (za H4 2).trans rfl
    have a43 : W1.cell? ⟨w.heap.size, 3, none⟩ = some (.int .i16 w3) := (za H4 3).trans rfl
    have a50 : W1.cell? ⟨w.heap.size + 1, 0, none⟩ = some (.int .i8 0) := (za H5 0).trans rfl
    have a51 : W1.cell? ⟨w.heap.size + 1, 1, none⟩ = some (.int .i8 0) := (za H5 1).trans rfl
    have a52 : W1.cell? ⟨w.heap.size + 1, 2, none⟩ = some (.int .i8 3) := (za H5 2).trans rfl
    have HA := zf.mk (And.intro H0 (And.intro H4 (And.intro H5 (And.intro H6 (And.intro HB HZ)))))
    clear H0 H4 H5 H6 HB HZ hb0 hx hr0
    go_upto_region 6 with (first
      | (go_at_call 103
         (with_reducible refine (spec_l00In.calls _ _ _ true _ ?hh).mono ?_)
         (case hh => first | exact HI1.out | exact HI2.out | exact in_true (by decide) (by decide))
         rintro e w' ⟨rfl, ⟨nd, rfl⟩⟩)
      | go_in)
    generalize hW2 : World.drewN _ _ = W2
    have G0 : W2.heap[g0]? = some (.cells #[.slice (some ad) l.length c0, .int .i16 s0, .int .i16 s1, .int .i16 s2, .int .i16 s3, .bool tap] 29 (0, 0)) := by rw [← hW2]; exact ze HA.out.1 _
    have G4 : W2.heap[w.heap.size]? = some (.cells #[.int .i16 w0, .int .i16 w1, .int .i16 w2, .int .i16 w3] 27 (0, 0)) := by rw [← hW2]; exact ze HA.out.2.1 _
    have G5 : W2.heap[w.heap.size + 1]? = some (.cells #[.int .i8 0, .int .i8 0, .int .i8 3] 80 (0, 0)) := by rw [← hW2]; exact ze HA.out.2.2.1 _
    have G6 : W2.heap[w.heap.size + 1 + 1]? = some (.cells #[.int .i16 0, .int .i16 0, .int .i16 0, .int .i16 0] 27 (0, 0)) := by rw [← hW2]; exact ze HA.out.2.2.2.1 _
    have GB : Below w.heap.size w W2 := by rw [← hW2]; exact zc HA.out.2.2.2.2.1 _
    have GZ : W2.heap.size = w.heap.size + 1 + 1 + 1 := by rw [← hW2]; exact HA.out.2.2.2.2.2
    have hx2 : W2.cell? ⟨ad.block, ad.off + 3, none⟩ = some (.int .i16 (rd l 3)) := by rw [← hW2]; exact hx1
    clear hW2 hx1 a00 a40 a41 a42 a43 a50 a51 a52
    have a00 : W2.cell? ⟨g0, 0, none⟩ = some (.slice (some ad) l.length c0) := (za G0 0).trans rfl
    have a40 : W2.cell? ⟨w.heap.size, 0, none⟩ = some (.int .i16 w0) := (za G4 0).trans rfl
    have a41 : W2.cell? ⟨w.heap.size, 1, none⟩ = some (.int .i16 w1) := (za G4 1).trans rfl
    have a42 : W2.cell? ⟨w.heap.size, 2, none⟩ = some (.int .i16 w2) := (za G4 2).trans rfl
    have a43 : W2.cell? ⟨w.heap.size, 3, none⟩ = some (.int .i16 w3) := (za G4 3).trans rfl
    have a50 : W2.cell? ⟨w.heap.size + 1, 0, none⟩ = some (.int .i8 0) := (za G5 0).trans rfl
    have a51 : W2.cell? ⟨w.heap.size + 1, 1, none⟩ = some (.int .i8 0) := (za G5 1).trans rfl
    have a52 : W2.cell? ⟨w.heap.size + 1, 2, none⟩ = some (.int .i8 3) := (za G5 2).trans rfl
    have GA := zf.mk (And.intro G0 (And.intro G4 (And.intro G5 (And.intro G6 (And.intro GB GZ)))))
    clear G0 G4 G5 G6 GB GZ HA
    go_upto_region 7 with (fail)
    generalize hW3 : World.alloc _ _ = W3
    rw [GA.out.2.2.2.2.2]
    have K0 : W3.heap[g0]? = some (.cells #[.slice (some ad) l.length c0, .int .i16 s0, .int .i16 s1, .int .i16 s2, .int .i16 s3, .bool tap] 29 (0, 0)) := by rw [← hW3]; exact zg GA.out.1 _
    have K4 : W3.heap[w.heap.size]? = some (.cells #[.int .i16 w0, .int .i16 w1, .int .i16 w2, .int .i16 w3] 27 (0, 0)) := by rw [← hW3]; exact zg GA.out.2.1 _
    have K5 : W3.heap[w.heap.size + 1]? = some (.cells #[.int .i8 0, .int .i8 0, .int .i8 3] 80 (0, 0)) := by rw [← hW3]; exact zg GA.out.2.2.1 _
    have K6 : W3.heap[w.heap.size + 1 + 1]? = some (.cells #[.int .i16 0, .int .i16 0, .int .i16 0, .int .i16 0] 27 (0, 0)) := by rw [← hW3]; exact zg GA.out.2.2.2.1 _
    have K9 : W3.heap[w.heap.size + 1 + 1 + 1]? = some (.cells #[.int .i16 w0, .int .i16 w1, .int .i16 w2, .int .i16 w3] 27 (0, 0)) := by rw [← hW3, ← GA.out.2.2.2.2.2]; exact heap_alloc_new _ _
    have KB : Below w.heap.size w W3 := by rw [← hW3]; exact zh GA.out.2.2.2.2.1 _
    have hx3 : W3.cell? ⟨ad.block, ad.off + 3, none⟩ = some (.int .i16 (rd l 3)) := by rw [← hW3]; exact ((zh (Below.refl _ _) _).cell (World.block_lt_of_cell? W2 _ hx2)).trans hx2
    clear hW3 hx2 a00 a40 a41 a42 a43 a50 a51 a52
    have a00 : W3.cell? ⟨g0, 0, none⟩ = some (.slice (some ad) l.length c0) := (za K0 0).trans rfl
    have a40 : W3.cell? ⟨w.heap.size, 0, none⟩ = some (.int .i16 w0) := (za K4 0).trans rfl
    have a41 : W3.cell? ⟨w.heap.size, 1, none⟩ = some (.int .i16 w1) := (za K4 1).trans rfl
    have a42 : W3.cell? ⟨w.heap.size, 2, none⟩ = some (.int .i16 w2) := (za K4 2).trans rfl
    have a43 : W3.cell? ⟨w.heap.size, 3, none⟩ = some (.int .i16 w3) := (za K4 3).trans rfl
    have a50 : W3.cell? ⟨w.heap.size + 1, 0, none⟩ = some (.int .i8 0) := (za K5 0).trans rfl
    have a51 : W3.cell? ⟨w.heap.size + 1, 1, none⟩ = some (.int .i8 0) := (za K5 1).trans rfl
    have a52 : W3.cell? ⟨w.heap.size + 1, 2, none⟩ = some (.int .i8 3) := (za K5 2).trans rfl
    have a90 : W3.cell? ⟨w.heap.size + 1 + 1 + 1, 0, none⟩ = some (.int .i16 w0) := (za K9 0).trans rfl
    have f90 := zb K9 0
    have a91 : W3.cell? ⟨w.heap.size + 1 + 1 + 1, 1, none⟩ = some (.int .i16 w1) := (za K9 1).trans rfl
    have f91 := zb K9 1
    have a92 : W3.cell? ⟨w.heap.size + 1 + 1 + 1, 2, none⟩ = some (.int .i16 w2) := (za K9 2).trans rfl
    have f92 := zb K9 2
    have a93 : W3.cell? ⟨w.heap.size + 1 + 1 + 1, 3, none⟩ = some (.int .i16 w3) := (za K9 3).trans rfl
    have f93 := zb K9 3
    have KA := zf.mk (And.intro K0 (And.intro K4 (And.intro K5 (And.intro K6 (And.intro K9 KB)))))
    clear K0 K4 K5 K6 K9 KB GA
    go_upto_region 9 with (fail)
    obtain ⟨r, hr⟩ : ∃ r, spec_l00Min.f (wrap64 w0) (wrap64 (IntKind.i16.wrap (rd l 3 - w3))) = some r := by unfold spec_l00Min.f; split <;> exact ⟨_, rfl⟩
    have HR := zf.mk hr
    clear hr
    go_quiet ((go_at_call 104; exact Calls.quiet_of ((spec_l00Min.calls _ _ r _ HR.out).mono fun _ _ ⟨he, ⟨nd, hd⟩⟩ => ⟨he, nd, hd⟩)))
    obtain ⟨P, hP⟩ : ∃ P, P = IntKind.i16.wrap r := ⟨_, rfl⟩
    rw [← hP]
    have HP := zf.mk hP
    clear hP
    generalize hW4 : World.drewN _ _ = W4
    have L4 : W4.heap[w.heap.size]? = some (.cells #[.int .i16 w0, .int .i16 w1, .int .i16 w2, .int .i16 w3] 27 (0, 0)) := by rw [← hW4]; exact ze KA.out.2.1 _
    have L5 : W4.heap[w.heap.size + 1]? = some (.cells #[.int .i8 0, .int .i8 0, .int .i8 3] 80 (0, 0)) := by rw [← hW4]; exact ze KA.out.2.2.1 _
    have L6 : W4.heap[w.heap.size + 1 + 1]? = some (.cells #[.int .i16 0, .int .i16 0, .int .i16 0, .int .i16 0] 27 (0, 0)) := by rw [← hW4]; exact ze KA.out.2.2.2.1 _
    have L9 : W4.heap[w.heap.size + 1 + 1 + 1]? = some (.cells #[.int .i16 w0, .int .i16 w1, .int .i16 w2, .int .i16 w3] 27 (0, 0)) := by rw [← hW4]; exact ze KA.out.2.2.2.2.1 _
    have LB : Below w.heap.size w W4 := by rw [← hW4]; exact zc KA.out.2.2.2.2.2 _
    clear hW4 hx3 a90 a91 a92 a93 f90 f91 f92 f93 a00 a40 a41 a42 a43 a50 a51 a52
    have a50 : W4.cell? ⟨w.heap.size + 1, 0, none⟩ = some (.int .i8 0) := (za L5 0).trans rfl
    have a51 : W4.cell? ⟨w.heap.size + 1, 1, none⟩ = some (.int .i8 0) := (za L5 1).trans rfl
    have a52 : W4.cell? ⟨w.heap.size + 1, 2, none⟩ = some (.int .i8 3) := (za L5 2).trans rfl
    have a90 : W4.cell? ⟨w.heap.size + 1 + 1 + 1, 0, none⟩ = some (.int .i16 w0) := (za L9 0).trans rfl
    have f90 := zb L9 0
    have a91 : W4.cell? ⟨w.heap.size + 1 + 1 + 1, 1, none⟩ = some (.int .i16 w1) := (za L9 1).trans rfl
    have f91 := zb L9 1
    have a92 : W4.cell? ⟨w.heap.size + 1 + 1 + 1, 2, none⟩ = some (.int .i16 w2) := (za L9 2).trans rfl
    have f92 := zb L9 2
    have a93 : W4.cell? ⟨w.heap.size + 1 + 1 + 1, 3, none⟩ = some (.int .i16 w3) := (za L9 3).trans rfl
    have f93 := zb L9 3
    have LA := zf.mk (And.intro L4 (And.intro L6 (And.intro L9 LB)))
    clear L4 L5 L6 L9 LB KA
    go_upto_region 16 with (fail)
    have a40 : W4.cell? ⟨w.heap.size, 0, none⟩ = some (.int .i16 w0) := (za LA.out.1 0).trans rfl
    have a41 : W4.cell? ⟨w.heap.size, 1, none⟩ = some (.int .i16 w1) := (za LA.out.1 1).trans rfl
    have a42 : W4.cell? ⟨w.heap.size, 2, none⟩ = some (.int .i16 w2) := (za LA.out.1 2).trans rfl
    have a43 : W4.cell? ⟨w.heap.size, 3, none⟩ = some (.int .i16 w3) := (za LA.out.1 3).trans rfl
    have a60 : W4.cell? ⟨w.heap.size + 1 + 1, 0, none⟩ = some (.int .i16 0) := (za LA.out.2.1 0).trans rfl
    have f60 := zb LA.out.2.1 0
    have a61 : W4.cell? ⟨w.heap.size + 1 + 1, 1, none⟩ = some (.int .i16 0) := (za LA.out.2.1 1).trans rfl
    have f61 := zb LA.out.2.1 1
    have a62 : W4.cell? ⟨w.heap.size + 1 + 1, 2, none⟩ = some (.int .i16 0) := (za LA.out.2.1 2).trans rfl
    have f62 := zb LA.out.2.1 2
    have a63 : W4.cell? ⟨w.heap.size + 1 + 1, 3, none⟩ = some (.int .i16 0) := (za LA.out.2.1 3).trans rfl
    have f63 := zb LA.out.2.1 3
    go_wp2
    all_goals
      rename_i h
      have hm : much l w0 w1 w2 w3 0 3 = P := part_eq HW.out.1 HR.out HP.out
      have hx : mvP l w0 w1 w2 w3 0 3 = (IntKind.i16.wrap (w0 - P), w1, w2, IntKind.i16.wrap (w3 + P)) := by simp [mvP, hm, st4, rd4, rd]
      have L6 := LA.out.2.1
      have LB := LA.out.2.2.2
      clear hm HR HP
      refine bodyPost_ret (zu rfl _ _ (w.heap.size + 1 + 1) 27 _ (0, 0) _ rfl (after_store L6 (ne23 _) _ _ _ _ _ _ _ _) Try.underlying27 rfl (size27 _ _ _ _)) rfl ?_
      refine ⟨ends5 ?_, by with_reducible repeat (first | refine zj ?_ (le3 _) | refine zj ?_ (le2 _) | exact LB)⟩
      first | exact stR_diff hx (by rcases h with h | h <;> simp [h]) | exact stR_same hx (by simp [h.1, h.2])
  · go_enter Try.func76, Try.ntmps76
    go_upto_region 1 with (fail)
    generalize hW1 : World.alloc _ _ = W1
    have H4 : W1.heap[w.heap.size]? = some (.cells #[.int .i16 w0, .int .i16 w1, .int .i16 w2, .int .i16 w3] 27 (0, 0)) := by rw [← hW1]; exact thr4 _ _ _ _
    have H5 : W1.heap[w.heap.size + 1]? = some (.cells #[.int .i8 0, .int .i8 1, .int .i8 0] 80 (0, 0)) := by rw [← hW1]; exact thr5 _ _ _ _
    have H6 : W1.heap[w.heap.size + 1 + 1]? = some (.cells #[.int .i16 0, .int .i16 0, .int .i16 0, .int .i16 0] 27 (0, 0)) := by rw [← hW1]; exact thr6 _ _ _ _
    have HB : Below w.heap.size w W1 := by rw [← hW1]; exact below_thr _ _ _ _
    have HZ : W1.heap.size = w.heap.size + 1 + 1 + 1 := by rw [← hW1]; exact thr_size _ _ _ _
    clear hW1
    have H0 := zl hb0 HB
    have hx1 := (HB.cell (World.block_lt_of_cell? w _ hx)).trans hx
    simp [Addr.add] at hx1
    have a00 : W1.cell? ⟨g0, 0, none⟩ = some (.slice (some ad) l.length c0) := (za H0 0).trans rfl
    have a40 : W1.cell? ⟨w.heap.size, 0, none⟩ = some (.int .i16 w0) := (za H4 0).trans rfl
    have a41 : W1.cell? ⟨w.heap.size, 1, none⟩ = some (.int .i16 w1) := (za H4 1).trans rfl
    have a42 : W1.cell? ⟨w.heap.size, 2, none⟩ = some (.int .i16 w2) := (za H4 2).trans rfl
    have a43 : W1.cell? ⟨w.heap.size, 3, none⟩ = some (.int .i16 w3) := (za H4 3).trans rfl
    have a50 : W1.cell? ⟨w.heap.size + 1, 0, none⟩ = some (.int .i8 0) := (za H5 0).trans rfl
    have a51 : W1.cell? ⟨w.heap.size + 1, 1, none⟩ = some (.int .i8 1) := (za H5 1).trans rfl
    have a52 : W1.cell? ⟨w.heap.size + 1, 2, none⟩ = some (.int .i8 0) := (za H5 2).trans rfl
    have HA := zf.mk (And.intro H0 (And.intro H4 (And.intro H5 (And.intro H6 (And.intro HB HZ)))))
    clear H0 H4 H5 H6 HB HZ hb0 hx hr0
    go_upto_region 6 with (first
      | (go_at_call 103
         (with_reducible refine (spec_l00In.calls _ _ _ true _ ?hh).mono ?_)
         (case hh => first | exact HI1.out | exact HI2.out | exact in_true (by decide) (by decide))
         rintro e w' ⟨rfl, ⟨nd, rfl⟩⟩)
      | go_in)
    generalize hW2 : World.drewN _ _ = W2
    have G0 : W2.heap[g0]? = some (.cells #[.slice (some ad) l.length c0, .int .i16 s0, .int .i16 s1, .int .i16 s2, .int .i16 s3, .bool tap] 29 (0, 0)) := by rw [← hW2]; exact ze HA.out.1 _
    have G4 : W2.heap[w.heap.size]? = some (.cells #[.int .i16 w0, .int .i16 w1, .int .i16 w2, .int .i16 w3] 27 (0, 0)) := by rw [← hW2]; exact ze HA.out.2.1 _
    have G5 : W2.heap[w.heap.size + 1]? = some (.cells #[.int .i8 0, .int .i8 1, .int .i8 0] 80 (0, 0)) := by rw [← hW2]; exact ze HA.out.2.2.1 _
    have G6 : W2.heap[w.heap.size + 1 + 1]? = some (.cells #[.int .i16 0, .int .i16 0, .int .i16 0, .int .i16 0] 27 (0, 0)) := by rw [← hW2]; exact ze HA.out.2.2.2.1 _
    have GB : Below w.heap.size w W2 := by rw [← hW2]; exact zc HA.out.2.2.2.2.1 _
    have GZ : W2.heap.size = w.heap.size + 1 + 1 + 1 := by rw [← hW2]; exact HA.out.2.2.2.2.2
    have hx2 : W2.cell? ad = some (.int .i16 (rd l 0)) := by rw [← hW2]; exact hx1
    clear hW2 hx1 a00 a40 a41 a42 a43 a50 a51 a52
    have a00 : W2.cell? ⟨g0, 0, none⟩ = some (.slice (some ad) l.length c0) := (za G0 0).trans rfl
    have a40 : W2.cell? ⟨w.heap.size, 0, none⟩ = some (.int .i16 w0) := (za G4 0).trans rfl
    have a41 : W2.cell? ⟨w.heap.size, 1, none⟩ = some (.int .i16 w1) := (za G4 1).trans rfl
    have a42 : W2.cell? ⟨w.heap.size, 2, none⟩ = some (.int .i16 w2) := (za G4 2).trans rfl
    have a43 : W2.cell? ⟨w.heap.size, 3, none⟩ = some (.int .i16 w3) := (za G4 3).trans rfl
    have a50 : W2.cell? ⟨w.heap.size + 1, 0, none⟩ = some (.int .i8 0) := (za G5 0).trans rfl
    have a51 : W2.cell? ⟨w.heap.size + 1, 1, none⟩ = some (.int .i8 1) := (za G5 1).trans rfl
    have a52 : W2.cell? ⟨w.heap.size + 1, 2, none⟩ = some (.int .i8 0) := (za G5 2).trans rfl
    have GA := zf.mk (And.intro G0 (And.intro G4 (And.intro G5 (And.intro G6 (And.intro GB GZ)))))
    clear G0 G4 G5 G6 GB GZ HA
    go_upto_region 7 with (fail)
    generalize hW3 : World.alloc _ _ = W3
    rw [GA.out.2.2.2.2.2]
    have K0 : W3.heap[g0]? = some (.cells #[.slice (some ad) l.length c0, .int .i16 s0, .int .i16 s1, .int .i16 s2, .int .i16 s3, .bool tap] 29 (0, 0)) := by rw [← hW3]; exact zg GA.out.1 _
    have K4 : W3.heap[w.heap.size]? = some (.cells #[.int .i16 w0, .int .i16 w1, .int .i16 w2, .int .i16 w3] 27 (0, 0)) := by rw [← hW3]; exact zg GA.out.2.1 _
    have K5 : W3.heap[w.heap.size + 1]? = some (.cells #[.int .i8 0, .int .i8 1, .int .i8 0] 80 (0, 0)) := by rw [← hW3]; exact zg GA.out.2.2.1 _
    have K6 : W3.heap[w.heap.size + 1 + 1]? = some (.cells #[.int .i16 0, .int .i16 0, .int .i16 0, .int .i16 0] 27 (0, 0)) := by rw [← hW3]; exact zg GA.out.2.2.2.1 _
    have K9 : W3.heap[w.heap.size + 1 + 1 + 1]? = some (.cells #[.int .i16 w0, .int .i16 w1, .int .i16 w2, .int .i16 w3] 27 (0, 0)) := by rw [← hW3, ← GA.out.2.2.2.2.2]; exact heap_alloc_new _ _
    have KB : Below w.heap.size w W3 := by rw [← hW3]; exact zh GA.out.2.2.2.2.1 _
    have hx3 : W3.cell? ad = some (.int .i16 (rd l 0)) := by rw [← hW3]; exact ((zh (Below.refl _ _) _).cell (World.block_lt_of_cell? W2 _ hx2)).trans hx2
    clear hW3 hx2 a00 a40 a41 a42 a43 a50 a51 a52
    have a00 : W3.cell? ⟨g0, 0, none⟩ = some (.slice (some ad) l.length c0) := (za K0 0).trans rfl
    have a40 : W3.cell? ⟨w.heap.size, 0, none⟩ = some (.int .i16 w0) := (za K4 0).trans rfl
    have a41 : W3.cell? ⟨w.heap.size, 1, none⟩ = some (.int .i16 w1) := (za K4 1).trans rfl
    have a42 : W3.cell? ⟨w.heap.size, 2, none⟩ = some (.int .i16 w2) := (za K4 2).trans rfl
    have a43 : W3.cell? ⟨w.heap.size, 3, none⟩ = some (.int .i16 w3) := (za K4 3).trans rfl
    have a50 : W3.cell? ⟨w.heap.size + 1, 0, none⟩ = some (.int .i8 0) := (za K5 0).trans rfl
    have a51 : W3.cell? ⟨w.heap.size + 1, 1, none⟩ = some (.int .i8 1) := (za K5 1).trans rfl
    have a52 : W3.cell? ⟨w.heap.size + 1, 2, none⟩ = some (.int .i8 0) := (za K5 2).trans rfl
    have a90 : W3.cell? ⟨w.heap.size + 1 + 1 + 1, 0, none⟩ = some (.int .i16 w0) := (za K9 0).trans rfl
    have f90 := zb K9 0
    have a91 : W3.cell? ⟨w.heap.size + 1 + 1 + 1, 1, none⟩ = some (.int .i16 w1) := (za K9 1).trans rfl
    have f91 := zb K9 1
    have a92 : W3.cell? ⟨w.heap.size + 1 + 1 + 1, 2, none⟩ = some (.int .i16 w2) := (za K9 2).trans rfl
    have f92 := zb K9 2
    have a93 : W3.cell? ⟨w.heap.size + 1 + 1 + 1, 3, none⟩ = some (.int .i16 w3) := (za K9 3).trans rfl
    have f93 := zb K9 3
    have KA := zf.mk (And.intro K0 (And.intro K4 (And.intro K5 (And.intro K6 (And.intro K9 KB)))))
    clear K0 K4 K5 K6 K9 KB GA
    go_upto_region 9 with (fail)
    obtain ⟨r, hr⟩ : ∃ r, spec_l00Min.f (wrap64 w1) (wrap64 (IntKind.i16.wrap (rd l 0 - w0))) = some r := by unfold spec_l00Min.f; split <;> exact ⟨_, rfl⟩
    have HR := zf.mk hr
    clear hr
    go_quiet ((go_at_call 104; exact Calls.quiet_of ((spec_l00Min.calls _ _ r _ HR.out).mono fun _ _ ⟨he, ⟨nd, hd⟩⟩ => ⟨he, nd, hd⟩)))
    obtain ⟨P, hP⟩ : ∃ P, P = IntKind.i16.wrap r := ⟨_, rfl⟩
    rw [← hP]
    have HP := zf.mk hP
    clear hP
    generalize hW4 : World.drewN _ _ = W4
    have L4 : W4.heap[w.heap.size]? = some (.cells #[.int .i16 w0, .int .i16 w1, .int .i16 w2, .int .i16 w3] 27 (0, 0)) := by rw [← hW4]; exact ze KA.out.2.1 _
    have L5 : W4.heap[w.heap.size + 1]? = some (.cells #[.int .i8 0, .int .i8 1, .int .i8 0] 80 (0, 0)) := by rw [← hW4]; exact ze KA.out.2.2.1 _
    have L6 : W4.heap[w.heap.size + 1 + 1]? = some (.cells #[.int .i16 0, .int .i16 0, .int .i16 0, .int .i16 0] 27 (0, 0)) := by rw [← hW4]; exact ze KA.out.2.2.2.1 _
    have L9 : W4.heap[w.heap.size + 1 + 1 + 1]? = some (.cells #[.int .i16 w0, .int .i16 w1, .int .i16 w2, .int .i16 w3] 27 (0, 0)) := by rw [← hW4]; exact ze KA.out.2.2.2.2.1 _
    have LB : Below w.heap.size w W4 := by rw [← hW4]; exact zc KA.out.2.2.2.2.2 _
    clear hW4 hx3 a90 a91 a92 a93 f90 f91 f92 f93 a00 a40 a41 a42 a43 a50 a51 a52
    have a50 : W4.cell? ⟨w.heap.size + 1, 0, none⟩ = some (.int .i8 0) := (za L5 0).trans rfl
    have a51 : W4.cell? ⟨w.heap.size + 1, 1, none⟩ = some (.int .i8 1) := (za L5 1).trans rfl
    have a52 : W4.cell? ⟨w.heap.size + 1, 2, none⟩ = some (.int .i8 0) := (za L5 2).trans rfl
    have a90 : W4.cell? ⟨w.heap.size + 1 + 1 + 1, 0, none⟩ = some (.int .i16 w0) := (za L9 0).trans rfl
    have f90 := zb L9 0
    have a91 : W4.cell? ⟨w.heap.size + 1 + 1 + 1, 1, none⟩ = some (.int .i16 w1) := (za L9 1).trans rfl
    have f91 := zb L9 1
    have a92 : W4.cell? ⟨w.heap.size + 1 + 1 + 1, 2, none⟩ = some (.int .i16 w2) := (za L9 2).trans rfl
    have f92 := zb L9 2
    have a93 : W4.cell? ⟨w.heap.size + 1 + 1 + 1, 3, none⟩ = some (.int .i16 w3) := (za L9 3).trans rfl
    have f93 := zb L9 3
    have LA := zf.mk (And.intro L4 (And.intro L6 (And.intro L9 LB)))
    clear L4 L5 L6 L9 LB KA
    go_upto_region 16 with (fail)
    have a40 : W4.cell? ⟨w.heap.size, 0, none⟩ = some (.int .i16 w0) := (za LA.out.1 0).trans rfl
    have a41 : W4.cell? ⟨w.heap.size, 1, none⟩ = some (.int .i16 w1) := (za LA.out.1 1).trans rfl
    have a42 : W4.cell? ⟨w.heap.size, 2, none⟩ = some (.int .i16 w2) := (za LA.out.1 2).trans rfl
    have a43 : W4.cell? ⟨w.heap.size, 3, none⟩ = some (.int .i16 w3) := (za LA.out.1 3).trans rfl
    have a60 : W4.cell? ⟨w.heap.size + 1 + 1, 0, none⟩ = some (.int .i16 0) := (za LA.out.2.1 0).trans rfl
    have f60 := zb LA.out.2.1 0
    have a61 : W4.cell? ⟨w.heap.size + 1 + 1, 1, none⟩ = some (.int .i16 0) := (za LA.out.2.1 1).trans rfl
    have f61 := zb LA.out.2.1 1
    have a62 : W4.cell? ⟨w.heap.size + 1 + 1, 2, none⟩ = some (.int .i16 0) := (za LA.out.2.1 2).trans rfl
    have f62 := zb LA.out.2.1 2
    have a63 : W4.cell? ⟨w.heap.size + 1 + 1, 3, none⟩ = some (.int .i16 0) := (za LA.out.2.1 3).trans rfl
    have f63 := zb LA.out.2.1 3
    go_wp2
    all_goals
      rename_i h
      have hm : much l w0 w1 w2 w3 1 0 = P := part_eq HW.out.2.1 HR.out HP.out
      have hx : mvP l w0 w1 w2 w3 1 0 = (IntKind.i16.wrap (w0 + P), IntKind.i16.wrap (w1 - P), w2, w3) := by simp [mvP, hm, st4, rd4, rd]
      have L6 := LA.out.2.1
      have LB := LA.out.2.2.2
      clear hm HR HP
      refine bodyPost_ret (zu rfl _ _ (w.heap.size + 1 + 1) 27 _ (0, 0) _ rfl (after_store L6 (ne23 _) _ _ _ _ _ _ _ _) Try.underlying27 rfl (size27 _ _ _ _)) rfl ?_
      refine ⟨ends5 ?_, by with_reducible repeat (first | refine zj ?_ (le3 _) | refine zj ?_ (le2 _) | exact LB)⟩
      first | exact stR_diff hx (by rcases h with h | h <;> simp [h]) | exact stR_same hx (by simp [h.1, h.2])
  · exact absurd rfl hne
  · go_enter Try.func76, Try.ntmps76
    go_upto_region 1 with (fail)
    generalize hW1 : World.alloc _ _ = W1
    have H4 : W1.heap[w.heap.size]? = some (.cells #[.int .i16 w0, .int .i16 w1, .int .i16 w2, .int .i16 w3] 27 (0, 0)) := by rw [← hW1]; exact thr4 _ _ _ _
    have H5 : W1.heap[w.heap.size + 1]? = some (.cells #[.int .i8 0, .int .i8 1, .int .i8 2] 80 (0, 0)) := by rw [← hW1]; exact thr5 _ _ _ _
    have H6 : W1.heap[w.heap.size + 1 + 1]? = some (.cells #[.int .i16 0, .int .i16 0, .int .i16 0, .int .i16 0] 27 (0, 0)) := by rw [← hW1]; exact thr6 _ _ _ _
    have HB : Below w.heap.size w W1 := by rw [← hW1]; exact below_thr _ _ _ _
    have HZ : W1.heap.size = w.heap.size + 1 + 1 + 1 := by rw [← hW1]; exact thr_size _ _ _ _
    clear hW1
    have H0 := zl hb0 HB
    have hx1 := (HB.cell (World.block_lt_of_cell? w _ hx)).trans hx
    simp [Addr.add] at hx1
    have a00 : W1.cell? ⟨g0, 0, none⟩ = some (.slice (some ad) l.length c0) := (za H0 0).trans rfl
    have a40 : W1.cell? ⟨w.heap.size, 0, none⟩ = some (.int .i16 w0) := (za H4 0).trans rfl
    have a41 : W1.cell? ⟨w.heap.size, 1, none⟩ = some (.int .i16 w1) := (za H4 1).trans rfl
    have a42 : W1.cell? ⟨w.heap.size, 2, none⟩ = some (.int .i16 w2) := (za H4 2).trans rfl
    have a43 : W1.cell? ⟨w.heap.size, 3, none⟩ = some (.int .i16 w3) := (za H4 3).trans rfl
    have a50 : W1.cell? ⟨w.heap.size + 1, 0, none⟩ = some (.int .i8 0) := (za H5 0).trans rfl
    have a51 : W1.cell? ⟨w.heap.size + 1, 1, none⟩ = some (.int .i8 1) := (za H5 1).trans rfl
    have a52 : W1.cell? ⟨w.heap.size + 1, 2, none⟩ = some (.int .i8 2) := (za H5 2).trans rfl
    have HA := zf.mk (And.intro H0 (And.intro H4 (And.intro H5 (And.intro H6 (And.intro HB HZ)))))
    clear H0 H4 H5 H6 HB HZ hb0 hx hr0
    go_upto_region 6 with (first
      | (go_at_call 103
         (with_reducible refine (spec_l00In.calls _ _ _ true _ ?hh).mono ?_)
         (case hh => first | exact HI1.out | exact HI2.out | exact in_true (by decide) (by decide))
         rintro e w' ⟨rfl, ⟨nd, rfl⟩⟩)
      | go_in)
    generalize hW2 : World.drewN _ _ = W2
    have G0 : W2.heap[g0]? = some (.cells #[.slice (some ad) l.length c0, .int .i16 s0, .int .i16 s1, .int .i16 s2, .int .i16 s3, .bool tap] 29 (0, 0)) := by rw [← hW2]; exact ze HA.out.1 _
    have G4 : W2.heap[w.heap.size]? = some (.cells #[.int .i16 w0, .int .i16 w1, .int .i16 w2, .int .i16 w3] 27 (0, 0)) := by rw [← hW2]; exact ze HA.out.2.1 _
    have G5 : W2.heap[w.heap.size + 1]? = some (.cells #[.int .i8 0, .int .i8 1, .int .i8 2] 80 (0, 0)) := by rw [← hW2]; exact ze HA.out.2.2.1 _
    have G6 : W2.heap[w.heap.size + 1 + 1]? = some (.cells #[.int .i16 0, .int .i16 0, .int .i16 0, .int .i16 0] 27 (0, 0)) := by rw [← hW2]; exact ze HA.out.2.2.2.1 _
    have GB : Below w.heap.size w W2 := by rw [← hW2]; exact zc HA.out.2.2.2.2.1 _
    have GZ : W2.heap.size = w.heap.size + 1 + 1 + 1 := by rw [← hW2]; exact HA.out.2.2.2.2.2
    have hx2 : W2.cell? ⟨ad.block, ad.off + 2, none⟩ = some (.int .i16 (rd l 2)) := by rw [← hW2]; exact hx1
    clear hW2 hx1 a00 a40 a41 a42 a43 a50 a51 a52
    have a00 : W2.cell? ⟨g0, 0, none⟩ = some (.slice (some ad) l.length c0) := (za G0 0).trans rfl
    have a40 : W2.cell? ⟨w.heap.size, 0, none⟩ = some (.int .i16 w0) := (za G4 0).trans rfl
    have a41 : W2.cell? ⟨w.heap.size, 1, none⟩ = some (.int .i16 w1) := (za G4 1).trans rfl
    have a42 : W2.cell? ⟨w.heap.size, 2, none⟩ = some (.int .i16 w2) := (za G4 2).trans rfl
    have a43 : W2.cell? ⟨w.heap.size, 3, none⟩ = some (.int .i16 w3) := (za G4 3).trans rfl
    have a50 : W2.cell? ⟨w.heap.size + 1, 0, none⟩ = some (.int .i8 0) := (za G5 0).trans rfl
    have a51 : W2.cell? ⟨w.heap.size + 1, 1, none⟩ = some (.int .i8 1) := (za G5 1).trans rfl
    have a52 : W2.cell? ⟨w.heap.size + 1, 2, none⟩ = some (.int .i8 2) := (za G5 2).trans rfl
    have GA := zf.mk (And.intro G0 (And.intro G4 (And.intro G5 (And.intro G6 (And.intro GB GZ)))))
    clear G0 G4 G5 G6 GB GZ HA
    go_upto_region 7 with (fail)
    generalize hW3 : World.alloc _ _ = W3
    rw [GA.out.2.2.2.2.2]
    have K0 : W3.heap[g0]? = some (.cells #[.slice (some ad) l.length c0, .int .i16 s0, .int .i16 s1, .int .i16 s2, .int .i16 s3, .bool tap] 29 (0, 0)) := by rw [← hW3]; exact zg GA.out.1 _
    have K4 : W3.heap[w.heap.size]? = some (.cells #[.int .i16 w0, .int .i16 w1, .int .i16 w2, .int .i16 w3] 27 (0, 0)) := by rw [← hW3]; exact zg GA.out.2.1 _
    have K5 : W3.heap[w.heap.size + 1]? = some (.cells #[.int .i8 0, .int .i8 1, .int .i8 2] 80 (0, 0)) := by rw [← hW3]; exact zg GA.out.2.2.1 _
    have K6 : W3.heap[w.heap.size + 1 + 1]? = some (.cells #[.int .i16 0, .int .i16 0, .int .i16 0, .int .i16 0] 27 (0, 0)) := by rw [← hW3]; exact zg GA.out.2.2.2.1 _
    have K9 : W3.heap[w.heap.size + 1 + 1 + 1]? = some (.cells #[.int .i16 w0, .int .i16 w1, .int .i16 w2, .int .i16 w3] 27 (0, 0)) := by rw [← hW3, ← GA.out.2.2.2.2.2]; exact heap_alloc_new _ _
    have KB : Below w.heap.size w W3 := by rw [← hW3]; exact zh GA.out.2.2.2.2.1 _
    have hx3 : W3.cell? ⟨ad.block, ad.off + 2, none⟩ = some (.int .i16 (rd l 2)) := by rw [← hW3]; exact ((zh (Below.refl _ _) _).cell (World.block_lt_of_cell? W2 _ hx2)).trans hx2
    clear hW3 hx2 a00 a40 a41 a42 a43 a50 a51 a52
    have a00 : W3.cell? ⟨g0, 0, none⟩ = some (.slice (some ad) l.length c0) := (za K0 0).trans rfl
    have a40 : W3.cell? ⟨w.heap.size, 0, none⟩ = some (.int .i16 w0) := (za K4 0).trans rfl
    have a41 : W3.cell? ⟨w.heap.size, 1, none⟩ = some (.int .i16 w1) := (za K4 1).trans rfl
    have a42 : W3.cell? ⟨w.heap.size, 2, none⟩ = some (.int .i16 w2) := (za K4 2).trans rfl
    have a43 : W3.cell? ⟨w.heap.size, 3, none⟩ = some (.int .i16 w3) := (za K4 3).trans rfl
    have a50 : W3.cell? ⟨w.heap.size + 1, 0, none⟩ = some (.int .i8 0) := (za K5 0).trans rfl
    have a51 : W3.cell? ⟨w.heap.size + 1, 1, none⟩ = some (.int .i8 1) := (za K5 1).trans rfl
    have a52 : W3.cell? ⟨w.heap.size + 1, 2, none⟩ = some (.int .i8 2) := (za K5 2).trans rfl
    have a90 : W3.cell? ⟨w.heap.size + 1 + 1 + 1, 0, none⟩ = some (.int .i16 w0) := (za K9 0).trans rfl
    have f90 := zb K9 0
    have a91 : W3.cell? ⟨w.heap.size + 1 + 1 + 1, 1, none⟩ = some (.int .i16 w1) := (za K9 1).trans rfl
    have f91 := zb K9 1
    have a92 : W3.cell? ⟨w.heap.size + 1 + 1 + 1, 2, none⟩ = some (.int .i16 w2) := (za K9 2).trans rfl
    have f92 := zb K9 2
    have a93 : W3.cell? ⟨w.heap.size + 1 + 1 + 1, 3, none⟩ = some (.int .i16 w3) := (za K9 3).trans rfl
    have f93 := zb K9 3
    have KA := zf.mk (And.intro K0 (And.intro K4 (And.intro K5 (And.intro K6 (And.intro K9 KB)))))
    clear K0 K4 K5 K6 K9 KB GA
    go_upto_region 9 with (fail)
    obtain ⟨r, hr⟩ : ∃ r, spec_l00Min.f (wrap64 w1) (wrap64 (IntKind.i16.wrap (rd l 2 - w2))) = some r := by unfold spec_l00Min.f; split <;> exact ⟨_, rfl⟩
    have HR := zf.mk hr
    clear hr
    go_quiet ((go_at_call 104; exact Calls.quiet_of ((spec_l00Min.calls _ _ r _ HR.out).mono fun _ _ ⟨he, ⟨nd, hd⟩⟩ => ⟨he, nd, hd⟩)))
    obtain ⟨P, hP⟩ : ∃ P, P = IntKind.i16.wrap r := ⟨_, rfl⟩
    rw [← hP]
    have HP := zf.mk hP
    clear hP
    generalize hW4 : World.drewN _ _ = W4
    have L4 : W4.heap[w.heap.size]? = some (.cells #[.int .i16 w0, .int .i16 w1, .int .i16 w2, .int .i16 w3] 27 (0, 0)) := by rw [← hW4]; exact ze KA.out.2.1 _
    have L5 : W4.heap[w.heap.size + 1]? = some (.cells #[.int .i8 0, .int .i8 1, .int .i8 2] 80 (0, 0)) := by rw [← hW4]; exact ze KA.out.2.2.1 _
    have L6 : W4.heap[w.heap.size + 1 + 1]? = some (.cells #[.int .i16 0, .int .i16 0, .int .i16 0, .int .i16 0] 27 (0, 0)) := by rw [← hW4]; exact ze KA.out.2.2.2.1 _
    have L9 : W4.heap[w.heap.size + 1 + 1 + 1]? = some (.cells #[.int .i16 w0, .int .i16 w1, .int .i16 w2, .int .i16 w3] 27 (0, 0)) := by rw [← hW4]; exact ze KA.out.2.2.2.2.1 _
    have LB : Below w.heap.size w W4 := by rw [← hW4]; exact zc KA.out.2.2.2.2.2 _
    clear hW4 hx3 a90 a91 a92 a93 f90 f91 f92 f93 a00 a40 a41 a42 a43 a50 a51 a52
    have a50 : W4.cell? ⟨w.heap.size + 1, 0, none⟩ = some (.int .i8 0) := (za L5 0).trans rfl
    have a51 : W4.cell? ⟨w.heap.size + 1, 1, none⟩ = some (.int .i8 1) := (za L5 1).trans rfl
    have a52 : W4.cell? ⟨w.heap.size + 1, 2, none⟩ = some (.int .i8 2) := (za L5 2).trans rfl
    have a90 : W4.cell? ⟨w.heap.size + 1 + 1 + 1, 0, none⟩ = some (.int .i16 w0) := (za L9 0).trans rfl
    have f90 := zb L9 0
    have a91 : W4.cell? ⟨w.heap.size + 1 + 1 + 1, 1, none⟩ = some (.int .i16 w1) := (za L9 1).trans rfl
    have f91 := zb L9 1
    have a92 : W4.cell? ⟨w.heap.size + 1 + 1 + 1, 2, none⟩ = some (.int .i16 w2) := (za L9 2).trans rfl
    have f92 := zb L9 2
    have a93 : W4.cell? ⟨w.heap.size + 1 + 1 + 1, 3, none⟩ = some (.int .i16 w3) := (za L9 3).trans rfl
    have f93 := zb L9 3
    have LA := zf.mk (And.intro L4 (And.intro L6 (And.intro L9 LB)))
    clear L4 L5 L6 L9 LB KA
    go_upto_region 16 with (fail)
    have a40 : W4.cell? ⟨w.heap.size, 0, none⟩ = some (.int .i16 w0) := (za LA.out.1 0).trans rfl
    have a41 : W4.cell? ⟨w.heap.size, 1, none⟩ = some (.int .i16 w1) := (za LA.out.1 1).trans rfl
    have a42 : W4.cell? ⟨w.heap.size, 2, none⟩ = some (.int .i16 w2) := (za LA.out.1 2).trans rfl
    have a43 : W4.cell? ⟨w.heap.size, 3, none⟩ = some (.int .i16 w3) := (za LA.out.1 3).trans rfl
    have a60 : W4.cell? ⟨w.heap.size + 1 + 1, 0, none⟩ = some (.int .i16 0) := (za LA.out.2.1 0).trans rfl
    have f60 := zb LA.out.2.1 0
    have a61 : W4.cell? ⟨w.heap.size + 1 + 1, 1, none⟩ = some (.int .i16 0) := (za LA.out.2.1 1).trans rfl
    have f61 := zb LA.out.2.1 1
    have a62 : W4.cell? ⟨w.heap.size + 1 + 1, 2, none⟩ = some (.int .i16 0) := (za LA.out.2.1 2).trans rfl
    have f62 := zb LA.out.2.1 2
    have a63 : W4.cell? ⟨w.heap.size + 1 + 1, 3, none⟩ = some (.int .i16 0) := (za LA.out.2.1 3).trans rfl
    have f63 := zb LA.out.2.1 3
    go_wp2
    all_goals
      rename_i h
      have hm : much l w0 w1 w2 w3 1 2 = P := part_eq HW.out.2.1 HR.out HP.out
      have hx : mvP l w0 w1 w2 w3 1 2 = (w0, IntKind.i16.wrap (w1 - P), IntKind.i16.wrap (w2 + P), w3) := by simp [mvP, hm, st4, rd4, rd]
      have L6 := LA.out.2.1
      have LB := LA.out.2.2.2
      clear hm HR HP
      refine bodyPost_ret (zu rfl _ _ (w.heap.size + 1 + 1) 27 _ (0, 0) _ rfl (after_store L6 (ne23 _) _ _ _ _ _ _ _ _) Try.underlying27 rfl (size27 _ _ _ _)) rfl ?_
      refine ⟨ends5 ?_, by with_reducible repeat (first | refine zj ?_ (le3 _) | refine zj ?_ (le2 _) | exact LB)⟩
      first | exact stR_diff hx (by rcases h with h | h <;> simp [h]) | exact stR_same hx (by simp [h.1, h.2])
  · go_enter Try.func76, Try.ntmps76
    go_upto_region 1 with (fail)
    generalize hW1 : World.alloc _ _ = W1
    have H4 : W1.heap[w.heap.size]? = some (.cells #[.int .i16 w0, .int .i16 w1, .int .i16 w2, .int .i16 w3] 27 (0, 0)) := by rw [← hW1]; exact thr4 _ _ _ _
    have H5 : W1.heap[w.heap.size + 1]? = some (.cells #[.int .i8 0, .int .i8 1, .int .i8 3] 80 (0, 0)) := by rw [← hW1]; exact thr5 _ _ _ _
    have H6 : W1.heap[w.heap.size + 1 + 1]? = some (.cells #[.int .i16 0, .int .i16 0, .int .i16 0, .int .i16 0] 27 (0, 0)) := by rw [← hW1]; exact thr6 _ _ _ _
    have HB : Below w.heap.size w W1 := by rw [← hW1]; exact below_thr _ _ _ _
    have HZ : W1.heap.size = w.heap.size + 1 + 1 + 1 := by rw [← hW1]; exact thr_size _ _ _ _
    clear hW1
    have H0 := zl hb0 HB
    have hx1 := (HB.cell (World.block_lt_of_cell? w _ hx)).trans hx
    simp [Addr.add] at hx1
    have a00 : W1.cell? ⟨g0, 0, none⟩ = some (.slice (some ad) l.length c0) := (za H0 0).trans rfl
    have a40 : W1.cell? ⟨w.heap.size, 0, none⟩ = some (.int .i16 w0) := (za H4 0).trans rfl
    have a41 : W1.cell? ⟨w.heap.size, 1, none⟩ = some (.int .i16 w1) := (za H4 1).trans rfl
    have a42 : W1.cell? ⟨w.heap.size, 2, none⟩ = some (.int .i16 w2) := (za H4 2).trans rfl
    have a43 : W1.cell? ⟨w.heap.size, 3, none⟩ = some (.int .i16 w3) := (za H4 3).trans rfl
    have a50 : W1.cell? ⟨w.heap.size + 1, 0, none⟩ = some (.int .i8 0) := (za H5 0).trans rfl
    have a51 : W1.cell? ⟨w.heap.size + 1, 1, none⟩ = some (.int .i8 1) := (za H5 1).trans rfl
    have a52 : W1.cell? ⟨w.heap.size + 1, 2, none⟩ = some (.int .i8 3) := (za H5 2).trans rfl
    have HA := zf.mk (And.intro H0 (And.intro H4 (And.intro H5 (And.intro H6 (And.intro HB HZ)))))
    clear H0 H4 H5 H6 HB HZ hb0 hx hr0
    go_upto_region 6 with (first
      | (go_at_call 103
         (with_reducible refine (spec_l00In.calls _ _ _ true _ ?hh).mono ?_)
         (case hh => first | exact HI1.out | exact HI2.out | exact in_true (by decide) (by decide))
         rintro e w' ⟨rfl, ⟨nd, rfl⟩⟩)
      | go_in)
    generalize hW2 : World.drewN _ _ = W2
    have G0 : W2.heap[g0]? = some (.cells #[.slice (some ad) l.length c0, .int .i16 s0, .int .i16 s1, .int .i16 s2, .int .i16 s3, .bool tap] 29 (0, 0)) := by rw [← hW2]; exact ze HA.out.1 _
    have G4 : W2.heap[w.heap.size]? = some (.cells #[.int .i16 w0, .int .i16 w1, .int .i16 w2, .int .i16 w3] 27 (0, 0)) := by rw [← hW2]; exact ze HA.out.2.1 _
    have G5 : W2.heap[w.heap.size + 1]? = some (.cells #[.int .i8 0, .int .i8 1, .int .i8 3] 80 (0, 0)) := by rw [← hW2]; exact ze HA.out.2.2.1 _
    have G6 : W2.heap[w.heap.size + 1 + 1]? = some (.cells #[.int .i16 0, .int .i16 0, .int .i16 0, .int .i16 0] 27 (0, 0)) := by rw [← hW2]; exact ze HA.out.2.2.2.1 _
    have GB : Below w.heap.size w W2 := by rw [← hW2]; exact zc HA.out.2.2.2.2.1 _
    have GZ : W2.heap.size = w.heap.size + 1 + 1 + 1 := by rw [← hW2]; exact HA.out.2.2.2.2.2
    have hx2 : W2.cell? ⟨ad.block, ad.off + 3, none⟩ = some (.int .i16 (rd l 3)) := by rw [← hW2]; exact hx1
    clear hW2 hx1 a00 a40 a41 a42 a43 a50 a51 a52
    have a00 : W2.cell? ⟨g0, 0, none⟩ = some (.slice (some ad) l.length c0) := (za G0 0).trans rfl
    have a40 : W2.cell? ⟨w.heap.size, 0, none⟩ = some (.int .i16 w0) := (za G4 0).trans rfl
    have a41 : W2.cell? ⟨w.heap.size, 1, none⟩ = some (.int .i16 w1) := (za G4 1).trans rfl
    have a42 : W2.cell? ⟨w.heap.size, 2, none⟩ = some (.int .i16 w2) := (za G4 2).trans rfl
    have a43 : W2.cell? ⟨w.heap.size, 3, none⟩ = some (.int .i16 w3) := (za G4 3).trans rfl
    have a50 : W2.cell? ⟨w.heap.size + 1, 0, none⟩ = some (.int .i8 0) := (za G5 0).trans rfl
    have a51 : W2.cell? ⟨w.heap.size + 1, 1, none⟩ = some (.int .i8 1) := (za G5 1).trans rfl
    have a52 : W2.cell? ⟨w.heap.size + 1, 2, none⟩ = some (.int .i8 3) := (za G5 2).trans rfl
    have GA := zf.mk (And.intro G0 (And.intro G4 (And.intro G5 (And.intro G6 (And.intro GB GZ)))))
    clear G0 G4 G5 G6 GB GZ HA
    go_upto_region 7 with (fail)
    generalize hW3 : World.alloc _ _ = W3
    rw [GA.out.2.2.2.2.2]
    have K0 : W3.heap[g0]? = some (.cells #[.slice (some ad) l.length c0, .int .i16 s0, .int .i16 s1, .int .i16 s2, .int .i16 s3, .bool tap] 29 (0, 0)) := by rw [← hW3]; exact zg GA.out.1 _
    have K4 : W3.heap[w.heap.size]? = some (.cells #[.int .i16 w0, .int .i16 w1, .int .i16 w2, .int .i16 w3] 27 (0, 0)) := by rw [← hW3]; exact zg GA.out.2.1 _
    have K5 : W3.heap[w.heap.size + 1]? = some (.cells #[.int .i8 0, .int .i8 1, .int .i8 3] 80 (0, 0)) := by rw [← hW3]; exact zg GA.out.2.2.1 _
    have K6 : W3.heap[w.heap.size + 1 + 1]? = some (.cells #[.int .i16 0, .int .i16 0, .int .i16 0, .int .i16 0] 27 (0, 0)) := by rw [← hW3]; exact zg GA.out.2.2.2.1 _
    have K9 : W3.heap[w.heap.size + 1 + 1 + 1]? = some (.cells #[.int .i16 w0, .int .i16 w1, .int .i16 w2, .int .i16 w3] 27 (0, 0)) := by rw [← hW3, ← GA.out.2.2.2.2.2]; exact heap_alloc_new _ _
    have KB : Below w.heap.size w W3 := by rw [← hW3]; exact zh GA.out.2.2.2.2.1 _
    have hx3 : W3.cell? ⟨ad.block, ad.off + 3, none⟩ = some (.int .i16 (rd l 3)) := by rw [← hW3]; exact ((zh (Below.refl _ _) _).cell (World.block_lt_of_cell? W2 _ hx2)).trans hx2
    clear hW3 hx2 a00 a40 a41 a42 a43 a50 a51 a52
    have a00 : W3.cell? ⟨g0, 0, none⟩ = some (.slice (some ad) l.length c0) := (za K0 0).trans rfl
    have a40 : W3.cell? ⟨w.heap.size, 0, none⟩ = some (.int .i16 w0) := (za K4 0).trans rfl
    have a41 : W3.cell? ⟨w.heap.size, 1, none⟩ = some (.int .i16 w1) := (za K4 1).trans rfl
    have a42 : W3.cell? ⟨w.heap.size, 2, none⟩ = some (.int .i16 w2) := (za K4 2).trans rfl
    have a43 : W3.cell? ⟨w.heap.size, 3, none⟩ = some (.int .i16 w3) := (za K4 3).trans rfl
    have a50 : W3.cell? ⟨w.heap.size + 1, 0, none⟩ = some (.int .i8 0) := (za K5 0).trans rfl
    have a51 : W3.cell? ⟨w.heap.size + 1, 1, none⟩ = some (.int .i8 1) := (za K5 1).trans rfl
    have a52 : W3.cell? ⟨w.heap.size + 1, 2, none⟩ = some (.int .i8 3) := (za K5 2).trans rfl
    have a90 : W3.cell? ⟨w.heap.size + 1 + 1 + 1, 0, none⟩ = some (.int .i16 w0) := (za K9 0).trans rfl
    have f90 := zb K9 0
    have a91 : W3.cell? ⟨w.heap.size + 1 + 1 + 1, 1, none⟩ = some (.int .i16 w1) := (za K9 1).trans rfl
    have f91 := zb K9 1
    have a92 : W3.cell? ⟨w.heap.size + 1 + 1 + 1, 2, none⟩ = some (.int .i16 w2) := (za K9 2).trans rfl
    have f92 := zb K9 2
    have a93 : W3.cell? ⟨w.heap.size + 1 + 1 + 1, 3, none⟩ = some (.int .i16 w3) := (za K9 3).trans rfl
    have f93 := zb K9 3
    have KA := zf.mk (And.intro K0 (And.intro K4 (And.intro K5 (And.intro K6 (And.intro K9 KB)))))
    clear K0 K4 K5 K6 K9 KB GA
    go_upto_region 9 with (fail)
    obtain ⟨r, hr⟩ : ∃ r, spec_l00Min.f (wrap64 w1) (wrap64 (IntKind.i16.wrap (rd l 3 - w3))) = some r := by unfold spec_l00Min.f; split <;> exact ⟨_, rfl⟩
    have HR := zf.mk hr
    clear hr
    go_quiet ((go_at_call 104; exact Calls.quiet_of ((spec_l00Min.calls _ _ r _ HR.out).mono fun _ _ ⟨he, ⟨nd, hd⟩⟩ => ⟨he, nd, hd⟩)))
    obtain ⟨P, hP⟩ : ∃ P, P = IntKind.i16.wrap r := ⟨_, rfl⟩
    rw [← hP]
    have HP := zf.mk hP
    clear hP
    generalize hW4 : World.drewN _ _ = W4
    have L4 : W4.heap[w.heap.size]? = some (.cells #[.int .i16 w0, .int .i16 w1, .int .i16 w2, .int .i16 w3] 27 (0, 0)) := by rw [← hW4]; exact ze KA.out.2.1 _
    have L5 : W4.heap[w.heap.size + 1]? = some (.cells #[.int .i8 0, .int .i8 1, .int .i8 3] 80 (0, 0)) := by rw [← hW4]; exact ze KA.out.2.2.1 _
    have L6 : W4.heap[w.heap.size + 1 + 1]? = some (.cells #[.int .i16 0, .int .i16 0, .int .i16 0, .int .i16 0] 27 (0, 0)) := by rw [← hW4]; exact ze KA.out.2.2.2.1 _
    have L9 : W4.heap[w.heap.size + 1 + 1 + 1]? = some (.cells #[.int .i16 w0, .int .i16 w1, .int .i16 w2, .int .i16 w3] 27 (0, 0)) := by rw [← hW4]; exact ze KA.out.2.2.2.2.1 _
    have LB : Below w.heap.size w W4 := by rw [← hW4]; exact zc KA.out.2.2.2.2.2 _
    clear hW4 hx3 a90 a91 a92 a93 f90 f91 f92 f93 a00 a40 a41 a42 a43 a50 a51 a52
    have a50 : W4.cell? ⟨w.heap.size + 1, 0, none⟩ = some (.int .i8 0) := (za L5 0).trans rfl
    have a51 : W4.cell? ⟨w.heap.size + 1, 1, none⟩ = some (.int .i8 1) := (za L5 1).trans rfl
    have a52 : W4.cell? ⟨w.heap.size + 1, 2, none⟩ = some (.int .i8 3) := (za L5 2).trans rfl
    have a90 : W4.cell? ⟨w.heap.size + 1 + 1 + 1, 0, none⟩ = some (.int .i16 w0) := (za L9 0).trans rfl
    have f90 := zb L9 0
    have a91 : W4.cell? ⟨w.heap.size + 1 + 1 + 1, 1, none⟩ = some (.int .i16 w1) := (za L9 1).trans rfl
    have f91 := zb L9 1
    have a92 : W4.cell? ⟨w.heap.size + 1 + 1 + 1, 2, none⟩ = some (.int .i16 w2) := (za L9 2).trans rfl
    have f92 := zb L9 2
    have a93 : W4.cell? ⟨w.heap.size + 1 + 1 + 1, 3, none⟩ = some (.int .i16 w3) := (za L9 3).trans rfl
    have f93 := zb L9 3
    have LA := zf.mk (And.intro L4 (And.intro L6 (And.intro L9 LB)))
    clear L4 L5 L6 L9 LB KA
    go_upto_region 16 with (fail)
    have a40 : W4.cell? ⟨w.heap.size, 0, none⟩ = some (.int .i16 w0) := (za LA.out.1 0).trans rfl
    have a41 : W4.cell? ⟨w.heap.size, 1, none⟩ = some (.int .i16 w1) := (za LA.out.1 1).trans rfl
    have a42 : W4.cell? ⟨w.heap.size, 2, none⟩ = some (.int .i16 w2) := (za LA.out.1 2).trans rfl
    have a43 : W4.cell? ⟨w.heap.size, 3, none⟩ = some (.int .i16 w3) := (za LA.out.1 3).trans rfl
    have a60 : W4.cell? ⟨w.heap.size + 1 + 1, 0, none⟩ = some (.int .i16 0) := (za LA.out.2.1 0).trans rfl
    have f60 := zb LA.out.2.1 0
    have a61 : W4.cell? ⟨w.heap.size + 1 + 1, 1, none⟩ = some (.int .i16 0) := (za LA.out.2.1 1).trans rfl
    have f61 := zb LA.out.2.1 1
    have a62 : W4.cell? ⟨w.heap.size + 1 + 1, 2, none⟩ = some (.int .i16 0) := (za LA.out.2.1 2).trans rfl
    have f62 := zb LA.out.2.1 2
    have a63 : W4.cell? ⟨w.heap.size + 1 + 1, 3, none⟩ = some (.int .i16 0) := (za LA.out.2.1 3).trans rfl
    have f63 := zb LA.out.2.1 3
    go_wp2
    all_goals
      rename_i h
      have hm : much l w0 w1 w2 w3 1 3 = P := part_eq HW.out.2.1 HR.out HP.out
      have hx : mvP l w0 w1 w2 w3 1 3 = (w0, IntKind.i16.wrap (w1 - P), w2, IntKind.i16.wrap (w3 + P)) := by simp [mvP, hm, st4, rd4, rd]
      have L6 := LA.out.2.1
      have LB := LA.out.2.2.2
      clear hm HR HP
      refine bodyPost_ret (zu rfl _ _ (w.heap.size + 1 + 1) 27 _ (0, 0) _ rfl (after_store L6 (ne23 _) _ _ _ _ _ _ _ _) Try.underlying27 rfl (size27 _ _ _ _)) rfl ?_
      refine ⟨ends5 ?_, by with_reducible repeat (first | refine zj ?_ (le3 _) | refine zj ?_ (le2 _) | exact LB)⟩
      first | exact stR_diff hx (by rcases h with h | h <;> simp [h]) | exact stR_same hx (by simp [h.1, h.2])
  · go_enter Try.func76, Try.ntmps76
    go_upto_region 1 with (fail)
    generalize hW1 : World.alloc _ _ = W1
    have H4 : W1.heap[w.heap.size]? = some (.cells #[.int .i16 w0, .int .i16 w1, .int .i16 w2, .int .i16 w3] 27 (0, 0)) := by rw [← hW1]; exact thr4 _ _ _ _
    have H5 : W1.heap[w.heap.size + 1]? = some (.cells #[.int .i8 0, .int .i8 2, .int .i8 0] 80 (0, 0)) := by rw [← hW1]; exact thr5 _ _ _ _
    have H6 : W1.heap[w.heap.size + 1 + 1]? = some (.cells #[.int .i16 0, .int .i16 0, .int .i16 0, .int .i16 0] 27 (0, 0)) := by rw [← hW1]; exact thr6 _ _ _ _
    have HB : Below w.heap.size w W1 := by rw [← hW1]; exact below_thr _ _ _ _
    have HZ : W1.heap.size = w.heap.size + 1 + 1 + 1 := by rw [← hW1]; exact thr_size _ _ _ _
    clear hW1
    have H0 := zl hb0 HB
    have hx1 := (HB.cell (World.block_lt_of_cell? w _ hx)).trans hx
    simp [Addr.add] at hx1
    have a00 : W1.cell? ⟨g0, 0, none⟩ = some (.slice (some ad) l.length c0) := (za H0 0).trans rfl
    have a40 : W1.cell? ⟨w.heap.size, 0, none⟩ = some (.int .i16 w0) := (za H4 0).trans rfl
    have a41 : W1.cell? ⟨w.heap.size, 1, none⟩ = some (.int .i16 w1) := (za H4 1).trans rfl
    have a42 : W1.cell? ⟨w.heap.size, 2, none⟩ = some (.int .i16 w2) := (za H4 2).trans rfl
    have a43 : W1.cell? ⟨w.heap.size, 3, none⟩ = some (.int .i16 w3) := (za H4 3).trans rfl
    have a50 : W1.cell? ⟨w.heap.size + 1, 0, none⟩ = some (.int .i8 0) := (za H5 0).trans rfl
    have a51 : W1.cell? ⟨w.heap.size + 1, 1, none⟩ = some (.int .i8 2) := (za H5 1).trans rfl
    have a52 : W1.cell? ⟨w.heap.size + 1, 2, none⟩ = some (.int .i8 0) := (za H5 2).trans rfl
    have HA := zf.mk (And.intro H0 (And.intro H4 (And.intro H5 (And.intro H6 (And.intro HB HZ)))))
    clear H0 H4 H5 H6 HB HZ hb0 hx hr0
    go_upto_region 6 with (first
      | (go_at_call 103
         (with_reducible refine (spec_l00In.calls _ _ _ true _ ?hh).mono ?_)
         (case hh => first | exact HI1.out | exact HI2.out | exact in_true (by decide) (by decide))
         rintro e w' ⟨rfl, ⟨nd, rfl⟩⟩)
      | go_in)
    generalize hW2 : World.drewN _ _ = W2
    have G0 : W2.heap[g0]? = some (.cells #[.slice (some ad) l.length c0, .int .i16 s0, .int .i16 s1, .int .i16 s2, .int .i16 s3, .bool tap] 29 (0, 0)) := by rw [← hW2]; exact ze HA.out.1 _
    have G4 : W2.heap[w.heap.size]? = some (.cells #[.int .i16 w0, .int .i16 w1, .int .i16 w2, .int .i16 w3] 27 (0, 0)) := by rw [← hW2]; exact ze HA.out.2.1 _
    have G5 : W2.heap[w.heap.size + 1]? = some (.cells #[.int .i8 0, .int .i8 2, .int .i8 0] 80 (0, 0)) := by rw [← hW2]; exact ze HA.out.2.2.1 _
    have G6 : W2.heap[w.heap.size + 1 + 1]? = some (.cells #[.int .i16 0, .int .i16 0, .int .i16 0, .int .i16 0] 27 (0, 0)) := by rw [← hW2]; exact ze HA.out.2.2.2.1 _
    have GB : Below w.heap.size w W2 := by rw [← hW2]; exact zc HA.out.2.2.2.2.1 _
    have GZ : W2.heap.size = w.heap.size + 1 + 1 + 1 := by rw [← hW2]; exact HA.out.2.2.2.2.2
    have hx2 : W2.cell? ad = some (.int .i16 (rd l 0)) := by rw [← hW2]; exact hx1
    clear hW2 hx1 a00 a40 a41 a42 a43 a50 a51 a52
    have a00 : W2.cell? ⟨g0, 0, none⟩ = some (.slice (some ad) l.length c0) := (za G0 0).trans rfl
    have a40 : W2.cell? ⟨w.heap.size, 0, none⟩ = some (.int .i16 w0) := (za G4 0).trans rfl
    have a41 : W2.cell? ⟨w.heap.size, 1, none⟩ = some (.int .i16 w1) := (za G4 1).trans rfl
    have a42 : W2.cell? ⟨w.heap.size, 2, none⟩ = some (.int .i16 w2) := (za G4 2).trans rfl
    have a43 : W2.cell? ⟨w.heap.size, 3, none⟩ = some (.int .i16 w3) := (za G4 3).trans rfl
    have a50 : W2.cell? ⟨w.heap.size + 1, 0, none⟩ = some (.int .i8 0) := (za G5 0).trans rfl
    have a51 : W2.cell? ⟨w.heap.size + 1, 1, none⟩ = some (.int .i8 2) := (za G5 1).trans rfl
    have a52 : W2.cell? ⟨w.heap.size + 1, 2, none⟩ = some (.int .i8 0) := (za G5 2).trans rfl
    have GA := zf.mk (And.intro G0 (And.intro G4 (And.intro G5 (And.intro G6 (And.intro GB GZ)))))
    clear G0 G4 G5 G6 GB GZ HA
    go_upto_region 7 with (fail)
    generalize hW3 : World.alloc _ _ = W3
    rw [GA.out.2.2.2.2.2]
    have K0 : W3.heap[g0]? = some (.cells #[.slice (some ad) l.length c0, .int .i16 s0, .int .i16 s1, .int .i16 s2, .int .i16 s3, .bool tap] 29 (0, 0)) := by rw [← hW3]; exact zg GA.out.1 _
    have K4 : W3.heap[w.heap.size]? = some (.cells #[.int .i16 w0, .int .i16 w1, .int .i16 w2, .int .i16 w3] 27 (0, 0)) := by rw [← hW3]; exact zg GA.out.2.1 _
    have K5 : W3.heap[w.heap.size + 1]? = some (.cells #[.int .i8 0, .int .i8 2, .int .i8 0] 80 (0, 0)) := by rw [← hW3]; exact zg GA.out.2.2.1 _
    have K6 : W3.heap[w.heap.size + 1 + 1]? = some (.cells #[.int .i16 0, .int .i16 0, .int .i16 0, .int .i16 0] 27 (0, 0)) := by rw [← hW3]; exact zg GA.out.2.2.2.1 _
    have K9 : W3.heap[w.heap.size + 1 + 1 + 1]? = some (.cells #[.int .i16 w0, .int .i16 w1, .int .i16 w2, .int .i16 w3] 27 (0, 0)) := by rw [← hW3, ← GA.out.2.2.2.2.2]; exact heap_alloc_new _ _
    have KB : Below w.heap.size w W3 := by rw [← hW3]; exact zh GA.out.2.2.2.2.1 _
    have hx3 : W3.cell? ad = some (.int .i16 (rd l 0)) := by rw [← hW3]; exact ((zh (Below.refl _ _) _).cell (World.block_lt_of_cell? W2 _ hx2)).trans hx2
    clear hW3 hx2 a00 a40 a41 a42 a43 a50 a51 a52
    have a00 : W3.cell? ⟨g0, 0, none⟩ = some (.slice (some ad) l.length c0) := (za K0 0).trans rfl
    have a40 : W3.cell? ⟨w.heap.size, 0, none⟩ = some (.int .i16 w0) := (za K4 0).trans rfl
    have a41 : W3.cell? ⟨w.heap.size, 1, none⟩ = some (.int .i16 w1) := (za K4 1).trans rfl
    have a42 : W3.cell? ⟨w.heap.size, 2, none⟩ = some (.int .i16 w2) := (za K4 2).trans rfl
    have a43 : W3.cell? ⟨w.heap.size, 3, none⟩ = some (.int .i16 w3) := (za K4 3).trans rfl
    have a50 : W3.cell? ⟨w.heap.size + 1, 0, none⟩ = some (.int .i8 0) := (za K5 0).trans rfl
    have a51 : W3.cell? ⟨w.heap.size + 1, 1, none⟩ = some (.int .i8 2) := (za K5 1).trans rfl
    have a52 : W3.cell? ⟨w.heap.size + 1, 2, none⟩ = some (.int .i8 0) := (za K5 2).trans rfl
    have a90 : W3.cell? ⟨w.heap.size + 1 + 1 + 1, 0, none⟩ = some (.int .i16 w0) := (za K9 0).trans rfl
    have f90 := zb K9 0
    have a91 : W3.cell? ⟨w.heap.size + 1 + 1 + 1, 1, none⟩ = some (.int .i16 w1) := (za K9 1).trans rfl
    have f91 := zb K9 1
    have a92 : W3.cell? ⟨w.heap.size + 1 + 1 + 1, 2, none⟩ = some (.int .i16 w2) := (za K9 2).trans rfl
    have f92 := zb K9 2
    have a93 : W3.cell? ⟨w.heap.size + 1 + 1 + 1, 3, none⟩ = some (.int .i16 w3) := (za K9 3).trans rfl
    have f93 := zb K9 3
    have KA := zf.mk (And.intro K0 (And.intro K4 (And.intro K5 (And.intro K6 (And.intro K9 KB)))))
    clear K0 K4 K5 K6 K9 KB GA
    go_upto_region 9 with (fail)
    obtain ⟨r, hr⟩ : ∃ r, spec_l00Min.f (wrap64 w2) (wrap64 (IntKind.i16.wrap (rd l 0 - w0))) = some r := by unfold spec_l00Min.f; split <;> exact ⟨_, rfl⟩
    have HR := zf.mk hr
    clear hr
    go_quiet ((go_at_call 104; exact Calls.quiet_of ((spec_l00Min.calls _ _ r _ HR.out).mono fun _ _ ⟨he, ⟨nd, hd⟩⟩ => ⟨he, nd, hd⟩)))
    obtain ⟨P, hP⟩ : ∃ P, P = IntKind.i16.wrap r := ⟨_, rfl⟩
    rw [← hP]
    have HP := zf.mk hP
    clear hP
    generalize hW4 : World.drewN _ _ = W4
    have L4 : W4.heap[w.heap.size]? = some (.cells #[.int .i16 w0, .int .i16 w1, .int .i16 w2, .int .i16 w3] 27 (0, 0)) := by rw [← hW4]; exact ze KA.out.2.1 _
    have L5 : W4.heap[w.heap.size + 1]? = some (.cells #[.int .i8 0, .int .i8 2, .int .i8 0] 80 (0, 0)) := by rw [← hW4]; exact ze KA.out.2.2.1 _
    have L6 : W4.heap[w.heap.size + 1 + 1]? = some (.cells #[.int .i16 0, .int .i16 0, .int .i16 0, .int .i16 0] 27 (0, 0)) := by rw [← hW4]; exact ze KA.out.2.2.2.1 _
    have L9 : W4.heap[w.heap.size + 1 + 1 + 1]? = some (.cells #[.int .i16 w0, .int .i16 w1, .int .i16 w2, .int .i16 w3] 27 (0, 0)) := by rw [← hW4]; exact ze KA.out.2.2.2.2.1 _
    have LB : Below w.heap.size w W4 := by rw [← hW4]; exact zc KA.out.2.2.2.2.2 _
    clear hW4 hx3 a90 a91 a92 a93 f90 f91 f92 f93 a00 a40 a41 a42 a43 a50 a51 a52
    have a50 : W4.cell? ⟨w.heap.size + 1, 0, none⟩ = some (.int .i8 0) := (za L5 0).trans rfl
    have a51 : W4.cell? ⟨w.heap.size + 1, 1, none⟩ = some (.int .i8 2) := (za L5 1).trans rfl
    have a52 : W4.cell? ⟨w.heap.size + 1, 2, none⟩ = some (.int .i8 0) := (za L5 2).trans rfl
    have a90 : W4.cell? ⟨w.heap.size + 1 + 1 + 1, 0, none⟩ = some (.int .i16 w0) := (za L9 0).trans rfl
    have f90 := zb L9 0
    have a91 : W4.cell? ⟨w.heap.size + 1 + 1 + 1, 1, none⟩ = some (.int .i16 w1) := (za L9 1).trans rfl
    have f91 := zb L9 1
    have a92 : W4.cell? ⟨w.heap.size + 1 + 1 + 1, 2, none⟩ = some (.int .i16 w2) := (za L9 2).trans rfl
    have f92 := zb L9 2
    have a93 : W4.cell? ⟨w.heap.size + 1 + 1 + 1, 3, none⟩ = some (.int .i16 w3) := (za L9 3).trans rfl
    have f93 := zb L9 3
    have LA := zf.mk (And.intro L4 (And.intro L6 (And.intro L9 LB)))
    clear L4 L5 L6 L9 LB KA
    go_upto_region 16 with (fail)
    have a40 : W4.cell? ⟨w.heap.size, 0, none⟩ = some (.int .i16 w0) := (za LA.out.1 0).trans rfl
    have a41 : W4.cell? ⟨w.heap.size, 1, none⟩ = some (.int .i16 w1) := (za LA.out.1 1).trans rfl
    have a42 : W4.cell? ⟨w.heap.size, 2, none⟩ = some (.int .i16 w2) := (za LA.out.1 2).trans rfl
    have a43 : W4.cell? ⟨w.heap.size, 3, none⟩ = some (.int .i16 w3) := (za LA.out.1 3).trans rfl
    have a60 : W4.cell? ⟨w.heap.size + 1 + 1, 0, none⟩ = some (.int .i16 0) := (za LA.out.2.1 0).trans rfl
    have f60 := zb LA.out.2.1 0
    have a61 : W4.cell? ⟨w.heap.size + 1 + 1, 1, none⟩ = some (.int .i16 0) := (za LA.out.2.1 1).trans rfl
    have f61 := zb LA.out.2.1 1
    have a62 : W4.cell? ⟨w.heap.size + 1 + 1, 2, none⟩ = some (.int .i16 0) := (za LA.out.2.1 2).trans rfl
    have f62 := zb LA.out.2.1 2
    have a63 : W4.cell? ⟨w.heap.size + 1 + 1, 3, none⟩ = some (.int .i16 0) := (za LA.out.2.1 3).trans rfl
    have f63 := zb LA.out.2.1 3
    go_wp2
    all_goals
      rename_i h
      have hm : much l w0 w1 w2 w3 2 0 = P := part_eq HW.out.2.2.1 HR.out HP.out
      have hx : mvP l w0 w1 w2 w3 2 0 = (IntKind.i16.wrap (w0 + P), w1, IntKind.i16.wrap (w2 - P), w3) := by simp [mvP, hm, st4, rd4, rd]
      have L6 := LA.out.2.1
      have LB := LA.out.2.2.2
      clear hm HR HP
      refine bodyPost_ret (zu rfl _ _ (w.heap.size + 1 + 1) 27 _ (0, 0) _ rfl (after_store L6 (ne23 _) _ _ _ _ _ _ _ _) Try.underlying27 rfl (size27 _ _ _ _)) rfl ?_
      refine ⟨ends5 ?_, by with_reducible repeat (first | refine zj ?_ (le3 _) | refine zj ?_ (le2 _) | exact LB)⟩
      first | exact stR_diff hx (by rcases h with h | h <;> simp [h]) | exact stR_same hx (by simp [h.1, h.2])
  · go_enter Try.func76, Try.ntmps76
    go_upto_region 1 with (fail)
    generalize hW1 : World.alloc _ _ = W1
    have H4 : W1.heap[w.heap.size]? = some (.cells #[.int .i16 w0, .int .i16 w1, .int .i16 w2, .int .i16 w3] 27 (0, 0)) := by rw [← hW1]; exact thr4 _ _ _ _
    have H5 : W1.heap[w.heap.size + 1]? = some (.cells #[.int .i8 0, .int .i8 2, .int .i8 1] 80 (0, 0)) := by rw [← hW1]; exact thr5 _ _ _ _
    have H6 : W1.heap[w.heap.size + 1 + 1]? = some (.cells #[.int .i16 0, .int .i16 0, .int .i16 0, .int .i16 0] 27 (0, 0)) := by rw [← hW1]; exact thr6 _ _ _ _
    have HB : Below w.heap.size w W1 := by rw [← hW1]; exact below_thr _ _ _ _
    have HZ : W1.heap.size = w.heap.size + 1 + 1 + 1 := by rw [← hW1]; exact thr_size _ _ _ _
    clear hW1
    have H0 := zl hb0 HB
    have hx1 := (HB.cell (World.block_lt_of_cell? w _ hx)).trans hx
    simp [Addr.add] at hx1
    have a00 : W1.cell? ⟨g0, 0, none⟩ = some (.slice (some ad) l.length c0) := (za H0 0).trans rfl
    have a40 : W1.cell? ⟨w.heap.size, 0, none⟩ = some (.int .i16 w0) := (za H4 0).trans rfl
    have a41 : W1.cell? ⟨w.heap.size, 1, none⟩ = some (.int .i16 w1) := (za H4 1).trans rfl
    have a42 : W1.cell? ⟨w.heap.size, 2, none⟩ = some (.int .i16 w2) := (za H4 2).trans rfl
    have a43 : W1.cell? ⟨w.heap.size, 3, none⟩ = some (.int .i16 w3) := (za H4 3).trans rfl
    have a50 : W1.cell? ⟨w.heap.size + 1, 0, none⟩ = some (.int .i8 0) := (za H5 0).trans rfl
    have a51 : W1.cell? ⟨w.heap.size + 1, 1, none⟩ = some (.int .i8 2) := (za H5 1).trans rfl
    have a52 : W1.cell? ⟨w.heap.size + 1, 2, none⟩ = some (.int .i8 1) := (za H5 2).trans rfl
    have HA := zf.mk (And.intro H0 (And.intro H4 (And.intro H5 (And.intro H6 (And.intro HB HZ)))))
    clear H0 H4 H5 H6 HB HZ hb0 hx hr0
    go_upto_region 6 with (first
      | (go_at_call 103
         (with_reducible refine (spec_l00In.calls _ _ _ true _ ?hh).mono ?_)
         (case hh => first | exact HI1.out | exact HI2.out | exact in_true (by decide) (by decide))
         rintro e w' ⟨rfl, ⟨nd, rfl⟩⟩)
      | go_in)
    generalize hW2 : World.drewN _ _ = W2
    have G0 : W2.heap[g0]? = some (.cells #[.slice (some ad) l.length c0, .int .i16 s0, .int .i16 s1, .int .i16 s2, .int .i16 s3, .bool tap] 29 (0, 0)) := by rw [← hW2]; exact ze HA.out.1 _
    have G4 : W2.heap[w.heap.size]? = some (.cells #[.int .i16 w0, .int .i16 w1, .int .i16 w2, .int .i16 w3] 27 (0, 0)) := by rw [← hW2]; exact ze HA.out.2.1 _
    have G5 : W2.heap[w.heap.size + 1]? = some (.cells #[.int .i8 0, .int .i8 2, .int .i8 1] 80 (0, 0)) := by rw [← hW2]; exact ze HA.out.2.2.1 _
    have G6 : W2.heap[w.heap.size + 1 + 1]? = some (.cells #[.int .i16 0, .int .i16 0, .int .i16 0, .int .i16 0] 27 (0, 0)) := by rw [← hW2]; exact ze HA.out.2.2.2.1 _
    have GB : Below w.heap.size w W2 := by rw [← hW2]; exact zc HA.out.2.2.2.2.1 _
    have GZ : W2.heap.size = w.heap.size + 1 + 1 + 1 := by rw [← hW2]; exact HA.out.2.2.2.2.2
    have hx2 : W2.cell? ⟨ad.block, ad.off + 1, none⟩ = some (.int .i16 (rd l 1)) := by rw [← hW2]; exact hx1
    clear hW2 hx1 a00 a40 a41 a42 a43 a50 a51 a52
    have a00 : W2.cell? ⟨g0, 0, none⟩ = some (.slice (some ad) l.length c0) := (za G0 0).trans rfl
    have a40 : W2.cell? ⟨w.heap.size, 0, none⟩ = some (.int .i16 w0) := (za G4 0).trans rfl
    have a41 : W2.cell? ⟨w.heap.size, 1, none⟩ = some (.int .i16 w1) := (za G4 1).trans rfl
    have a42 : W2.cell? ⟨w.heap.size, 2, none⟩ = some (.int .i16 w2) := (za G4 2).trans rfl
    have a43 : W2.cell? ⟨w.heap.size, 3, none⟩ = some (.int .i16 w3) := (za G4 3).trans rfl
    have a50 : W2.cell? ⟨w.heap.size + 1, 0, none⟩ = some (.int .i8 0) := (za G5 0).trans rfl
    have a51 : W2.cell? ⟨w.heap.size + 1, 1, none⟩ = some (.int .i8 2) := (za G5 1).trans rfl
    have a52 : W2.cell? ⟨w.heap.size + 1, 2, none⟩ = some (.int .i8 1) := (za G5 2).trans rfl
    have GA := zf.mk (And.intro G0 (And.intro G4 (And.intro G5 (And.intro G6 (And.intro GB GZ)))))
    clear G0 G4 G5 G6 GB GZ HA
    go_upto_region 7 with (fail)
    generalize hW3 : World.alloc _ _ = W3
    rw [GA.out.2.2.2.2.2]
    have K0 : W3.heap[g0]? = some (.cells #[.slice (some ad) l.length c0, .int .i16 s0, .int .i16 s1, .int .i16 s2, .int .i16 s3, .bool tap] 29 (0, 0)) := by rw [← hW3]; exact zg GA.out.1 _
    have K4 : W3.heap[w.heap.size]? = some (.cells #[.int .i16 w0, .int .i16 w1, .int .i16 w2, .int .i16 w3] 27 (0, 0)) := by rw [← hW3]; exact zg GA.out.2.1 _
    have K5 : W3.heap[w.heap.size + 1]? = some (.cells #[.int .i8 0, .int .i8 2, .int .i8 1] 80 (0, 0)) := by rw [← hW3]; exact zg GA.out.2.2.1 _
    have K6 : W3.heap[w.heap.size + 1 + 1]? = some (.cells #[.int .i16 0, .int .i16 0, .int .i16 0, .int .i16 0] 27 (0, 0)) := by rw [← hW3]; exact zg GA.out.2.2.2.1 _
    have K9 : W3.heap[w.heap.size + 1 + 1 + 1]? = some (.cells #[.int .i16 w0, .int .i16 w1, .int .i16 w2, .int .i16 w3] 27 (0, 0)) := by rw [← hW3, ← GA.out.2.2.2.2.2]; exact heap_alloc_new _ _
    have KB : Below w.heap.size w W3 := by rw [← hW3]; exact zh GA.out.2.2.2.2.1 _
    have hx3 : W3.cell? ⟨ad.block, ad.off + 1, none⟩ = some (.int .i16 (rd l 1)) := by rw [← hW3]; exact ((zh (Below.refl _ _) _).cell (World.block_lt_of_cell? W2 _ hx2)).trans hx2
    clear hW3 hx2 a00 a40 a41 a42 a43 a50 a51 a52
    have a00 : W3.cell? ⟨g0, 0, none⟩ = some (.slice (some ad) l.length c0) := (za K0 0).trans rfl
    have a40 : W3.cell? ⟨w.heap.size, 0, none⟩ = some (.int .i16 w0) := (za K4 0).trans rfl
    have a41 : W3.cell? ⟨w.heap.size, 1, none⟩ = some (.int .i16 w1) := (za K4 1).trans rfl
    have a42 : W3.cell? ⟨w.heap.size, 2, none⟩ = some (.int .i16 w2) := (za K4 2).trans rfl
    have a43 : W3.cell? ⟨w.heap.size, 3, none⟩ = some (.int .i16 w3) := (za K4 3).trans rfl
    have a50 : W3.cell? ⟨w.heap.size + 1, 0, none⟩ = some (.int .i8 0) := (za K5 0).trans rfl
    have a51 : W3.cell? ⟨w.heap.size + 1, 1, none⟩ = some (.int .i8 2) := (za K5 1).trans rfl
    have a52 : W3.cell? ⟨w.heap.size + 1, 2, none⟩ = some (.int .i8 1) := (za K5 2).trans rfl
    have a90 : W3.cell? ⟨w.heap.size + 1 + 1 + 1, 0, none⟩ = some (.int .i16 w0) := (za K9 0).trans rfl
    have f90 := zb K9 0
    have a91 : W3.cell? ⟨w.heap.size + 1 + 1 + 1, 1, none⟩ = some (.int .i16 w1) := (za K9 1).trans rfl
    have f91 := zb K9 1
    have a92 : W3.cell? ⟨w.heap.size + 1 + 1 + 1, 2, none⟩ = some (.int .i16 w2) := (za K9 2).trans rfl
    have f92 := zb K9 2
    have a93 : W3.cell? ⟨w.heap.size + 1 + 1 + 1, 3, none⟩ = some (.int .i16 w3) := (za K9 3).trans rfl
    have f93 := zb K9 3
    have KA := zf.mk (And.intro K0 (And.intro K4 (And.intro K5 (And.intro K6 (And.intro K9 KB)))))
    clear K0 K4 K5 K6 K9 KB GA
    go_upto_region 9 with (fail)
    obtain ⟨r, hr⟩ : ∃ r, spec_l00Min.f (wrap64 w2) (wrap64 (IntKind.i16.wrap (rd l 1 - w1))) = some r := by unfold spec_l00Min.f; split <;> exact ⟨_, rfl⟩
    have HR := zf.mk hr
    clear hr
    go_quiet ((go_at_call 104; exact Calls.quiet_of ((spec_l00Min.calls _ _ r _ HR.out).mono fun _ _ ⟨he, ⟨nd, hd⟩⟩ => ⟨he, nd, hd⟩)))
    obtain ⟨P, hP⟩ : ∃ P, P = IntKind.i16.wrap r := ⟨_, rfl⟩
    rw [← hP]
    have HP := zf.mk hP
    clear hP
    generalize hW4 : World.drewN _ _ = W4
    have L4 : W4.heap[w.heap.size]? = some (.cells #[.int .i16 w0, .int .i16 w1, .int .i16 w2, .int .i16 w3] 27 (0, 0)) := by rw [← hW4]; exact ze KA.out.2.1 _
    have L5 : W4.heap[w.heap.size + 1]? = some (.cells #[.int .i8 0, .int .i8 2, .int .i8 1] 80 (0, 0)) := by rw [← hW4]; exact ze KA.out.2.2.1 _
    have L6 : W4.heap[w.heap.size + 1 + 1]? = some (.cells #[.int .i16 0, .int .i16 0, .int .i16 0, .int .i16 0] 27 (0, 0)) := by rw [← hW4]; exact ze KA.out.2.2.2.1 _
    have L9 : W4.heap[w.heap.size + 1 + 1 + 1]? = some (.cells #[.int .i16 w0, .int .i16 w1, .int .i16 w2, .int .i16 w3] 27 (0, 0)) := by rw [← hW4]; exact ze KA.out.2.2.2.2.1 _
    have LB : Below w.heap.size w W4 := by rw [← hW4]; exact zc KA.out.2.2.2.2.2 _
    clear hW4 hx3 a90 a91 a92 a93 f90 f91 f92 f93 a00 a40 a41 a42 a43 a50 a51 a52
    have a50 : W4.cell? ⟨w.heap.size + 1, 0, none⟩ = some (.int .i8 0) := (za L5 0).trans rfl
    have a51 : W4.cell? ⟨w.heap.size + 1, 1, none⟩ = some (.int .i8 2) := (za L5 1).trans rfl
    have a52 : W4.cell? ⟨w.heap.size + 1, 2, none⟩ = some (.int .i8 1) := (za L5 2).trans rfl
    have a90 : W4.cell? ⟨w.heap.size + 1 + 1 + 1, 0, none⟩ = some (.int .i16 w0) := (za L9 0).trans rfl
    have f90 := zb L9 0
    have a91 : W4.cell? ⟨w.heap.size + 1 + 1 + 1, 1, none⟩ = some (.int .i16 w1) := (za L9 1).trans rfl
    have f91 := zb L9 1
    have a92 : W4.cell? ⟨w.heap.size + 1 + 1 + 1, 2, none⟩ = some (.int .i16 w2) := (za L9 2).trans rfl
    have f92 := zb L9 2
    have a93 : W4.cell? ⟨w.heap.size + 1 + 1 + 1, 3, none⟩ = some (.int .i16 w3) := (za L9 3).trans rfl
    have f93 := zb L9 3
    have LA := zf.mk (And.intro L4 (And.intro L6 (And.intro L9 LB)))
    clear L4 L5 L6 L9 LB KA
    go_upto_region 16 with (fail)
    have a40 : W4.cell? ⟨w.heap.size, 0, none⟩ = some (.int .i16 w0) := (za LA.out.1 0).trans rfl
    have a41 : W4.cell? ⟨w.heap.size, 1, none⟩ = some (.int .i16 w1) := (za LA.out.1 1).trans rfl
    have a42 : W4.cell? ⟨w.heap.size, 2, none⟩ = some (.int .i16 w2) := (za LA.out.1 2).trans rfl
    have a43 : W4.cell? ⟨w.heap.size, 3, none⟩ = some (.int .i16 w3) := (za LA.out.1 3).trans rfl
    have a60 : W4.cell? ⟨w.heap.size + 1 + 1, 0, none⟩ = some (.int .i16 0) := (za LA.out.2.1 0).trans rfl
    have f60 := zb LA.out.2.1 0
    have a61 : W4.cell? ⟨w.heap.size + 1 + 1, 1, none⟩ = some (.int .i16 0) := (za LA.out.2.1 1).trans rfl
    have f61 := zb LA.out.2.1 1
    have a62 : W4.cell? ⟨w.heap.size + 1 + 1, 2, none⟩ = some (.int .i16 0) := (za LA.out.2.1 2).trans rfl
    have f62 := zb LA.out.2.1 2
    have a63 : W4.cell? ⟨w.heap.size + 1 + 1, 3, none⟩ = some (.int .i16 0) := (za LA.out.2.1 3).trans rfl
    have f63 := zb LA.out.2.1 3
    go_wp2
    all_goals
      rename_i h
      have hm : much l w0 w1 w2 w3 2 1 = P := part_eq HW.out.2.2.1 HR.out HP.out
      have hx : mvP l w0 w1 w2 w3 2 1 = (w0, IntKind.i16.wrap (w1 + P), IntKind.i16.wrap (w2 - P), w3) := by simp [mvP, hm, st4, rd4, rd]
      have L6 := LA.out.2.1
      have LB := LA.out.2.2.2
      clear hm HR HP
      refine bodyPost_ret (zu rfl _ _ (w.heap.size + 1 + 1) 27 _ (0, 0) _ rfl (after_store L6 (ne23 _) _ _ _ _ _ _ _ _) Try.underlying27 rfl (size27 _ _ _ _)) rfl ?_
      refine ⟨ends5 ?_, by with_reducible repeat (first | refine zj ?_ (le3 _) | refine zj ?_ (le2 _) | exact LB)⟩
      first | exact stR_diff hx (by rcases h with h | h <;> simp [h]) | exact stR_same hx (by simp [h.1, h.2])
  · exact absurd rfl hne
  · go_enter Try.func76, Try.ntmps76
    go_upto_region 1 with (fail)
    generalize hW1 : World.alloc _ _ = W1
    have H4 : W1.heap[w.heap.size]? = some (.cells #[.int .i16 w0, .int .i16 w1, .int .i16 w2, .int .i16 w3] 27 (0, 0)) := by rw [← hW1]; exact thr4 _ _ _ _
    have H5 : W1.heap[w.heap.size + 1]? = some (.cells #[.int .i8 0, .int .i8 2, .int .i8 3] 80 (0, 0)) := by rw [← hW1]; exact thr5 _ _ _ _
    have H6 : W1.heap[w.heap.size + 1 + 1]? = some (.cells #[.int .i16 0, .int .i16 0, .int .i16 0, .int .i16 0] 27 (0, 0)) := by rw [← hW1]; exact thr6 _ _ _ _
    have HB : Below w.heap.size w W1 := by rw [← hW1]; exact below_thr _ _ _ _
    have HZ : W1.heap.size = w.heap.size + 1 + 1 + 1 := by rw [← hW1]; exact thr_size _ _ _ _
    clear hW1
    have H0 := zl hb0 HB
    have hx1 := (HB.cell (World.block_lt_of_cell? w _ hx)).trans hx
    simp [Addr.add] at hx1
    have a00 : W1.cell? ⟨g0, 0, none⟩ = some (.slice (some ad) l.length c0) := (za H0 0).trans rfl
    have a40 : W1.cell? ⟨w.heap.size, 0, none⟩ = some (.int .i16 w0) := (za H4 0).trans rfl
    have a41 : W1.cell? ⟨w.heap.size, 1, none⟩ = some (.int .i16 w1) := (za H4 1).trans rfl
    have a42 : W1.cell? ⟨w.heap.size, 2, none⟩ = some (.int .i16 w2) := (za H4 2).trans rfl
    have a43 : W1.cell? ⟨w.heap.size, 3, none⟩ = some (.int .i16 w3) := (za H4 3).trans rfl
    have a50 : W1.cell? ⟨w.heap.size + 1, 0, none⟩ = some (.int .i8 0) := (za H5 0).trans rfl
    have a51 : W1.cell? ⟨w.heap.size + 1, 1, none⟩ = some (.int .i8 2) := (za H5 1).trans rfl
    have a52 : W1.cell? ⟨w.heap.size + 1, 2, none⟩ = some (.int .i8 3) := (za H5 2).trans rfl
    have HA := zf.mk (And.intro H0 (And.intro H4 (And.intro H5 (And.intro H6 (And.intro HB HZ)))))
    clear H0 H4 H5 H6 HB HZ hb0 hx hr0
    go_upto_region 6 with (first
      | (go_at_call 103
         (with_reducible refine (spec_l00In.calls _ _ _ true _ ?hh).mono ?_)
         (case hh => first | exact HI1.out | exact HI2.out | exact in_true (by decide) (by decide))
         rintro e w' ⟨rfl, ⟨nd, rfl⟩⟩)
      | go_in)
    generalize hW2 : World.drewN _ _ = W2
    have G0 : W2.heap[g0]? = some (.cells #[.slice (some ad) l.length c0, .int .i16 s0, .int .i16 s1, .int .i16 s2, .int .i16 s3, .bool tap] 29 (0, 0)) := by rw [← hW2]; exact ze HA.out.1 _
    have G4 : W2.heap[w.heap.size]? = some (.cells #[.int .i16 w0, .int .i16 w1, .int .i16 w2, .int .i16 w3] 27 (0, 0)) := by rw [← hW2]; exact ze HA.out.2.1 _
    have G5 : W2.heap[w.heap.size + 1]? = some (.cells #[.int .i8 0, .int .i8 2, .int .i8 3] 80 (0, 0)) := by rw [← hW2]; exact ze HA.out.2.2.1 _
    have G6 : W2.heap[w.heap.size + 1 + 1]? = some (.cells #[.int .i16 0, .int .i16 0, .int .i16 0, .int .i16 0] 27 (0, 0)) := by rw [← hW2]; exact ze HA.out.2.2.2.1 _
    have GB : Below w.heap.size w W2 := by rw [← hW2]; exact zc HA.out.2.2.2.2.1 _
    have GZ : W2.heap.size = w.heap.size + 1 + 1 + 1 := by rw [← hW2]; exact HA.out.2.2.2.2.2
    have hx2 : W2.cell? ⟨ad.block, ad.off + 3, none⟩ = some (.int .i16 (rd l 3)) := by rw [← hW2]; exact hx1
    clear hW2 hx1 a00 a40 a41 a42 a43 a50 a51 a52
    have a00 : W2.cell? ⟨g0, 0, none⟩ = some (.slice (some ad) l.length c0) := (za G0 0).trans rfl
    have a40 : W2.cell? ⟨w.heap.size, 0, none⟩ = some (.int .i16 w0) := (za G4 0).trans rfl
    have a41 : W2.cell? ⟨w.heap.size, 1, none⟩ = some (.int .i16 w1) := (za G4 1).trans rfl
    have a42 : W2.cell? ⟨w.heap.size, 2, none⟩ = some (.int .i16 w2) := (za G4 2).trans rfl
    have a43 : W2.cell? ⟨w.heap.size, 3, none⟩ = some (.int .i16 w3) := (za G4 3).trans rfl
    have a50 : W2.cell? ⟨w.heap.size + 1, 0, none⟩ = some (.int .i8 0) := (za G5 0).trans rfl
    have a51 : W2.cell? ⟨w.heap.size + 1, 1, none⟩ = some (.int .i8 2) := (za G5 1).trans rfl
    have a52 : W2.cell? ⟨w.heap.size + 1, 2, none⟩ = some (.int .i8 3) := (za G5 2).trans rfl
    have GA := zf.mk (And.intro G0 (And.intro G4 (And.intro G5 (And.intro G6 (And.intro GB GZ)))))
    clear G0 G4 G5 G6 GB GZ HA
    go_upto_region 7 with (fail)
    generalize hW3 : World.alloc _ _ = W3
    rw [GA.out.2.2.2.2.2]
    have K0 : W3.heap[g0]? = some (.cells #[.slice (some ad) l.length c0, .int .i16 s0, .int .i16 s1, .int .i16 s2, .int .i16 s3, .bool tap] 29 (0, 0)) := by rw [← hW3]; exact zg GA.out.1 _
    have K4 : W3.heap[w.heap.size]? = some (.cells #[.int .i16 w0, .int .i16 w1, .int .i16 w2, .int .i16 w3] 27 (0, 0)) := by rw [← hW3]; exact zg GA.out.2.1 _
    have K5 : W3.heap[w.heap.size + 1]? = some (.cells #[.int .i8 0, .int .i8 2, .int .i8 3] 80 (0, 0)) := by rw [← hW3]; exact zg GA.out.2.2.1 _
    have K6 : W3.heap[w.heap.size + 1 + 1]? = some (.cells #[.int .i16 0, .int .i16 0, .int .i16 0, .int .i16 0] 27 (0, 0)) := by rw [← hW3]; exact zg GA.out.2.2.2.1 _
    have K9 : W3.heap[w.heap.size + 1 + 1 + 1]? = some (.cells #[.int .i16 w0, .int .i16 w1, .int .i16 w2, .int .i16 w3] 27 (0, 0)) := by rw [← hW3, ← GA.out.2.2.2.2.2]; exact heap_alloc_new _ _
    have KB : Below w.heap.size w W3 := by rw [← hW3]; exact zh GA.out.2.2.2.2.1 _
    have hx3 : W3.cell? ⟨ad.block, ad.off + 3, none⟩ = some (.int .i16 (rd l 3)) := by rw [← hW3]; exact ((zh (Below.refl _ _) _).cell (World.block_lt_of_cell? W2 _ hx2)).trans hx2
    clear hW3 hx2 a00 a40 a41 a42 a43 a50 a51 a52
    have a00 : W3.cell? ⟨g0, 0, none⟩ = some (.slice (some ad) l.length c0) := (za K0 0).trans rfl
    have a40 : W3.cell? ⟨w.heap.size, 0, none⟩ = some (.int .i16 w0) := (za K4 0).trans rfl
    have a41 : W3.cell? ⟨w.heap.size, 1, none⟩ = some (.int .i16 w1) := (za K4 1).trans rfl
    have a42 : W3.cell? ⟨w.heap.size, 2, none⟩ = some (.int .i16 w2) := (za K4 2).trans rfl
    have a43 : W3.cell? ⟨w.heap.size, 3, none⟩ = some (.int .i16 w3) := (za K4 3).trans rfl
    have a50 : W3.cell? ⟨w.heap.size + 1, 0, none⟩ = some (.int .i8 0) := (za K5 0).trans rfl
    have a51 : W3.cell? ⟨w.heap.size + 1, 1, none⟩ = some (.int .i8 2) := (za K5 1).trans rfl
    have a52 : W3.cell? ⟨w.heap.size + 1, 2, none⟩ = some (.int .i8 3) := (za K5 2).trans rfl
    have a90 : W3.cell? ⟨w.heap.size + 1 + 1 + 1, 0, none⟩ = some (.int .i16 w0) := (za K9 0).trans rfl
    have f90 := zb K9 0
    have a91 : W3.cell? ⟨w.heap.size + 1 + 1 + 1, 1, none⟩ = some (.int .i16 w1) := (za K9 1).trans rfl
    have f91 := zb K9 1
    have a92 : W3.cell? ⟨w.heap.size + 1 + 1 + 1, 2, none⟩ = some (.int .i16 w2) := (za K9 2).trans rfl
    have f92 := zb K9 2
    have a93 : W3.cell? ⟨w.heap.size + 1 + 1 + 1, 3, none⟩ = some (.int .i16 w3) := (za K9 3).trans rfl
    have f93 := zb K9 3
    have KA := zf.mk (And.intro K0 (And.intro K4 (And.intro K5 (And.intro K6 (And.intro K9 KB)))))
    clear K0 K4 K5 K6 K9 KB GA
    go_upto_region 9 with (fail)
    obtain ⟨r, hr⟩ : ∃ r, spec_l00Min.f (wrap64 w2) (wrap64 (IntKind.i16.wrap (rd l 3 - w3))) = some r := by unfold spec_l00Min.f; split <;> exact ⟨_, rfl⟩
    have HR := zf.mk hr
    clear hr
    go_quiet ((go_at_call 104; exact Calls.quiet_of ((spec_l00Min.calls _ _ r _ HR.out).mono fun _ _ ⟨he, ⟨nd, hd⟩⟩ => ⟨he, nd, hd⟩)))
    obtain ⟨P, hP⟩ : ∃ P, P = IntKind.i16.wrap r := ⟨_, rfl⟩
    rw [← hP]
    have HP := zf.mk hP
    clear hP
    generalize hW4 : World.drewN _ _ = W4
    have L4 : W4.heap[w.heap.size]? = some (.cells #[.int .i16 w0, .int .i16 w1, .int .i16 w2, .int .i16 w3] 27 (0, 0)) := by rw [← hW4]; exact ze KA.out.2.1 _
    have L5 : W4.heap[w.heap.size + 1]? = some (.cells #[.int .i8 0, .int .i8 2, .int .i8 3] 80 (0, 0)) := by rw [← hW4]; exact ze KA.out.2.2.1 _
    have L6 : W4.heap[w.heap.size + 1 + 1]? = some (.cells #[.int .i16 0, .int .i16 0, .int .i16 0, .int .i16 0] 27 (0, 0)) := by rw [← hW4]; exact ze KA.out.2.2.2.1 _
    have L9 : W4.heap[w.heap.size + 1 + 1 + 1]? = some (.cells #[.int .i16 w0, .int .i16 w1, .int .i16 w2, .int .i16 w3] 27 (0, 0)) := by rw [← hW4]; exact ze KA.out.2.2.2.2.1 _
    have LB : Below w.heap.size w W4 := by rw [← hW4]; exact zc KA.out.2.2.2.2.2 _
    clear hW4 hx3 a90 a91 a92 a93 f90 f91 f92 f93 a00 a40 a41 a42 a43 a50 a51 a52
    have a50 : W4.cell? ⟨w.heap.size + 1, 0, none⟩ = some (.int .i8 0) := (za L5 0).trans rfl
    have a51 : W4.cell? ⟨w.heap.size + 1, 1, none⟩ = some (.int .i8 2) := (za L5 1).trans rfl
    have a52 : W4.cell? ⟨w.heap.size + 1, 2, none⟩ = some (.int .i8 3) := (za L5 2).trans rfl
    have a90 : W4.cell? ⟨w.heap.size + 1 + 1 + 1, 0, none⟩ = some (.int .i16 w0) := (za L9 0).trans rfl
    have f90 := zb L9 0
    have a91 : W4.cell? ⟨w.heap.size + 1 + 1 + 1, 1, none⟩ = some (.int .i16 w1) := (za L9 1).trans rfl
    have f91 := zb L9 1
    have a92 : W4.cell? ⟨w.heap.size + 1 + 1 + 1, 2, none⟩ = some (.int .i16 w2) := (za L9 2).trans rfl
    have f92 := zb L9 2
    have a93 : W4.cell? ⟨w.heap.size + 1 + 1 + 1, 3, none⟩ = some (.int .i16 w3) := (za L9 3).trans rfl
    have f93 := zb L9 3
    have LA := zf.mk (And.intro L4 (And.intro L6 (And.intro L9 LB)))
    clear L4 L5 L6 L9 LB KA
    go_upto_region 16 with (fail)
    have a40 : W4.cell? ⟨w.heap.size, 0, none⟩ = some (.int .i16 w0) := (za LA.out.1 0).trans rfl
    have a41 : W4.cell? ⟨w.heap.size, 1, none⟩ = some (.int .i16 w1) := (za LA.out.1 1).trans rfl
    have a42 : W4.cell? ⟨w.heap.size, 2, none⟩ = some (.int .i16 w2) := (za LA.out.1 2).trans rfl
    have a43 : W4.cell? ⟨w.heap.size, 3, none⟩ = some (.int .i16 w3) := (za LA.out.1 3).trans rfl
    have a60 : W4.cell? ⟨w.heap.size + 1 + 1, 0, none⟩ = some (.int .i16 0) := (za LA.out.2.1 0).trans rfl
    have f60 := zb LA.out.2.1 0
    have a61 : W4.cell? ⟨w.heap.size + 1 + 1, 1, none⟩ = some (.int .i16 0) := (za LA.out.2.1 1).trans rfl
    have f61 := zb LA.out.2.1 1
    have a62 : W4.cell? ⟨w.heap.size + 1 + 1, 2, none⟩ = some (.int .i16 0) := (za LA.out.2.1 2).trans rfl
    have f62 := zb LA.out.2.1 2
    have a63 : W4.cell? ⟨w.heap.size + 1 + 1, 3, none⟩ = some (.int .i16 0) := (za LA.out.2.1 3).trans rfl
    have f63 := zb LA.out.2.1 3
    go_wp2
    all_goals
      rename_i h
      have hm : much l w0 w1 w2 w3 2 3 = P := part_eq HW.out.2.2.1 HR.out HP.out
      have hx : mvP l w0 w1 w2 w3 2 3 = (w0, w1, IntKind.i16.wrap (w2 - P), IntKind.i16.wrap (w3 + P)) := by simp [mvP, hm, st4, rd4, rd]
      have L6 := LA.out.2.1
      have LB := LA.out.2.2.2
      clear hm HR HP
      refine bodyPost_ret (zu rfl _ _ (w.heap.size + 1 + 1) 27 _ (0, 0) _ rfl (after_store L6 (ne23 _) _ _ _ _ _ _ _ _) Try.underlying27 rfl (size27 _ _ _ _)) rfl ?_
      refine ⟨ends5 ?_, by with_reducible repeat (first | refine zj ?_ (le3 _) | refine zj ?_ (le2 _) | exact LB)⟩
      first | exact stR_diff hx (by rcases h with h | h <;> simp [h]) | exact stR_same hx (by simp [h.1, h.2])
  · go_enter Try.func76, Try.ntmps76
    go_upto_region 1 with (fail)
    generalize hW1 : World.alloc _ _ = W1
    have H4 : W1.heap[w.heap.size]? = some (.cells #[.int .i16 w0, .int .i16 w1, .int .i16 w2, .int .i16 w3] 27 (0, 0)) := by rw [← hW1]; exact thr4 _ _ _ _
    have H5 : W1.heap[w.heap.size + 1]? = some (.cells #[.int .i8 0, .int .i8 3, .int .i8 0] 80 (0, 0)) := by rw [← hW1]; exact thr5 _ _ _ _
    have H6 : W1.heap[w.heap.size + 1 + 1]? = some (.cells #[.int .i16 0, .int .i16 0, .int .i16 0, .int .i16 0] 27 (0, 0)) := by rw [← hW1]; exact thr6 _ _ _ _
    have HB : Below w.heap.size w W1 := by rw [← hW1]; exact below_thr _ _ _ _
    have HZ : W1.heap.size = w.heap.size + 1 + 1 + 1 := by rw [← hW1]; exact thr_size _ _ _ _
    clear hW1
    have H0 := zl hb0 HB
    have hx1 := (HB.cell (World.block_lt_of_cell? w _ hx)).trans hx
    simp [Addr.add] at hx1
    have a00 : W1.cell? ⟨g0, 0, none⟩ = some (.slice (some ad) l.length c0) := (za H0 0).trans rfl
    have a40 : W1.cell? ⟨w.heap.size, 0, none⟩ = some (.int .i16 w0) := (za H4 0).trans rfl
    have a41 : W1.cell? ⟨w.heap.size, 1, none⟩ = some (.int .i16 w1) := (za H4 1).trans rfl
    have a42 : W1.cell? ⟨w.heap.size, 2, none⟩ = some (.int .i16 w2) := (za H4 2).trans rfl
    have a43 : W1.cell? ⟨w.heap.size, 3, none⟩ = some (.int .i16 w3) := (za H4 3).trans rfl
    have a50 : W1.cell? ⟨w.heap.size + 1, 0, none⟩ = some (.int .i8 0) := (za H5 0).trans rfl
    have a51 : W1.cell? ⟨w.heap.size + 1, 1, none⟩ = some (.int .i8 3) := (za H5 1).trans rfl
    have a52 : W1.cell? ⟨w.heap.size + 1, 2, none⟩ = some (.int .i8 0) := (za H5 2).trans rfl
    have HA := zf.mk (And.intro H0 (And.intro H4 (And.intro H5 (And.intro H6 (And.intro HB HZ)))))
    clear H0 H4 H5 H6 HB HZ hb0 hx hr0
    go_upto_region 6 with (first
      | (go_at_call 103
         (with_reducible refine (spec_l00In.calls _ _ _ true _ ?hh).mono ?_)
         (case hh => first | exact HI1.out | exact HI2.out | exact in_true (by decide) (by decide))
         rintro e w' ⟨rfl, ⟨nd, rfl⟩⟩)
      | go_in)
    generalize hW2 : World.drewN _ _ = W2
    have G0 : W2.heap[g0]? = some (.cells #[.slice (some ad) l.length c0, .int .i16 s0, .int .i16 s1, .int .i16 s2, .int .i16 s3, .bool tap] 29 (0, 0)) := by rw [← hW2]; exact ze HA.out.1 _
    have G4 : W2.heap[w.heap.size]? = some (.cells #[.int .i16 w0, .int .i16 w1, .int .i16 w2, .int .i16 w3] 27 (0, 0)) := by rw [← hW2]; exact ze HA.out.2.1 _
    have G5 : W2.heap[w.heap.size + 1]? = some (.cells #[.int .i8 0, .int .i8 3, .int .i8 0] 80 (0, 0)) := by rw [← hW2]; exact ze HA.out.2.2.1 _
    have G6 : W2.heap[w.heap.size + 1 + 1]? = some (.cells #[.int .i16 0, .int .i16 0, .int .i16 0, .int .i16 0] 27 (0, 0)) := by rw [← hW2]; exact ze HA.out.2.2.2.1 _
    have GB : Below w.heap.size w W2 := by rw [← hW2]; exact zc HA.out.2.2.2.2.1 _
    have GZ : W2.heap.size = w.heap.size + 1 + 1 + 1 := by rw [← hW2]; exact HA.out.2.2.2.2.2
    have hx2 : W2.cell? ad = some (.int .i16 (rd l 0)) := by rw [← hW2]; exact hx1
    clear hW2 hx1 a00 a40 a41 a42 a43 a50 a51 a52
    have a00 : W2.cell? ⟨g0, 0, none⟩ = some (.slice (some ad) l.length c0) := (za G0 0).trans rfl
    have a40 : W2.cell? ⟨w.heap.size, 0, none⟩ = some (.int .i16 w0) := (za G4 0).trans rfl
    have a41 : W2.cell? ⟨w.heap.size, 1, none⟩ = some (.int .i16 w1) := (za G4 1).trans rfl
    have a42 : W2.cell? ⟨w.heap.size, 2, none⟩ = some (.int .i16 w2) := (za G4 2).trans rfl
    have a43 : W2.cell? ⟨w.heap.size, 3, none⟩ = some (.int .i16 w3) := (za G4 3).trans rfl
    have a50 : W2.cell? ⟨w.heap.size + 1, 0, none⟩ = some (.int .i8 0) := (za G5 0).trans rfl
    have a51 : W2.cell? ⟨w.heap.size + 1, 1, none⟩ = some (.int .i8 3) := (za G5 1).trans rfl
    have a52 : W2.cell? ⟨w.heap.size + 1, 2, none⟩ = some (.int .i8 0) := (za G5 2).trans rfl
    have GA := zf.mk (And.intro G0 (And.intro G4 (And.intro G5 (And.intro G6 (And.intro GB GZ)))))
    clear G0 G4 G5 G6 GB GZ HA
    go_upto_region 7 with (fail)
    generalize hW3 : World.alloc _ _ = W3
    rw [GA.out.2.2.2.2.2]
    have K0 : W3.heap[g0]? = some (.cells #[.slice (some ad) l.length c0, .int .i16 s0, .int .i16 s1, .int .i16 s2, .int .i16 s3, .bool tap] 29 (0, 0)) := by rw [← hW3]; exact zg GA.out.1 _
    have K4 : W3.heap[w.heap.size]? = some (.cells #[.int .i16 w0, .int .i16 w1, .int .i16 w2, .int .i16 w3] 27 (0, 0)) := by rw [← hW3]; exact zg GA.out.2.1 _
    have K5 : W3.heap[w.heap.size + 1]? = some (.cells #[.int .i8 0, .int .i8 3, .int .i8 0] 80 (0, 0)) := by rw [← hW3]; exact zg GA.out.2.2.1 _
    have K6 : W3.heap[w.heap.size + 1 + 1]? = some (.cells #[.int .i16 0, .int .i16 0, .int .i16 0, .int .i16 0] 27 (0, 0)) := by rw [← hW3]; exact zg GA.out.2.2.2.1 _
    have K9 : W3.heap[w.heap.size + 1 + 1 + 1]? = some (.cells #[.int .i16 w0, .int .i16 w1, .int .i16 w2, .int .i16 w3] 27 (0, 0)) := by rw [← hW3, ← GA.out.2.2.2.2.2]; exact heap_alloc_new _ _
    have KB : Below w.heap.size w W3 := by rw [← hW3]; exact zh GA.out.2.2.2.2.1 _
    have hx3 : W3.cell? ad = some (.int .i16 (rd l 0)) := by rw [← hW3]; exact ((zh (Below.refl _ _) _).cell (World.block_lt_of_cell? W2 _ hx2)).trans hx2
    clear hW3 hx2 a00 a40 a41 a42 a43 a50 a51 a52
    have a00 : W3.cell? ⟨g0, 0, none⟩ = some (.slice (some ad) l.length c0) := (za K0 0).trans rfl
    have a40 : W3.cell? ⟨w.heap.size, 0, none⟩ = some (.int .i16 w0) := (za K4 0).trans rfl
    have a41 : W3.cell? ⟨w.heap.size, 1, none⟩ = some (.int .i16 w1) := (za K4 1).trans rfl
    have a42 : W3.cell? ⟨w.heap.size, 2, none⟩ = some (.int .i16 w2) := (za K4 2).trans rfl
    have a43 : W3.cell? ⟨w.heap.size, 3, none⟩ = some (.int .i16 w3) := (za K4 3).trans rfl
    have a50 : W3.cell? ⟨w.heap.size + 1, 0, none⟩ = some (.int .i8 0) := (za K5 0).trans rfl
    have a51 : W3.cell? ⟨w.heap.size + 1, 1, none⟩ = some (.int .i8 3) := (za K5 1).trans rfl
    have a52 : W3.cell? ⟨w.heap.size + 1, 2, none⟩ = some (.int .i8 0) := (za K5 2).trans rfl
    have a90 : W3.cell? ⟨w.heap.size + 1 + 1 + 1, 0, none⟩ = some (.int .i16 w0) := (za K9 0).trans rfl
    have f90 := zb K9 0
    have a91 : W3.cell? ⟨w.heap.size + 1 + 1 + 1, 1, none⟩ = some (.int .i16 w1) := (za K9 1).trans rfl
    have f91 := zb K9 1
    have a92 : W3.cell? ⟨w.heap.size + 1 + 1 + 1, 2, none⟩ = some (.int .i16 w2) := (za K9 2).trans rfl
    have f92 := zb K9 2
    have a93 : W3.cell? ⟨w.heap.size + 1 + 1 + 1, 3, none⟩ = some (.int .i16 w3) := (za K9 3).trans rfl
    have f93 := zb K9 3
    have KA := zf.mk (And.intro K0 (And.intro K4 (And.intro K5 (And.intro K6 (And.intro K9 KB)))))
    clear K0 K4 K5 K6 K9 KB GA
    go_upto_region 9 with (fail)
    obtain ⟨r, hr⟩ : ∃ r, spec_l00Min.f (wrap64 w3) (wrap64 (IntKind.i16.wrap (rd l 0 - w0))) = some r := by unfold spec_l00Min.f; split <;> exact ⟨_, rfl⟩
    have HR := zf.mk hr
    clear hr
    go_quiet ((go_at_call 104; exact Calls.quiet_of ((spec_l00Min.calls _ _ r _ HR.out).mono fun _ _ ⟨he, ⟨nd, hd⟩⟩ => ⟨he, nd, hd⟩)))
    obtain ⟨P, hP⟩ : ∃ P, P = IntKind.i16.wrap r := ⟨_, rfl⟩
    rw [← hP]
    have HP := zf.mk hP
    clear hP
    generalize hW4 : World.drewN _ _ = W4
    have L4 : W4.heap[w.heap.size]? = some (.cells #[.int .i16 w0, .int .i16 w1, .int .i16 w2, .int .i16 w3] 27 (0, 0)) := by rw [← hW4]; exact ze KA.out.2.1 _
    have L5 : W4.heap[w.heap.size + 1]? = some (.cells #[.int .i8 0, .int .i8 3, .int .i8 0] 80 (0, 0)) := by rw [← hW4]; exact ze KA.out.2.2.1 _
    have L6 : W4.heap[w.heap.size + 1 + 1]? = some (.cells #[.int .i16 0, .int .i16 0, .int .i16 0, .int .i16 0] 27 (0, 0)) := by rw [← hW4]; exact ze KA.out.2.2.2.1 _
    have L9 : W4.heap[w.heap.size + 1 + 1 + 1]? = some (.cells #[.int .i16 w0, .int .i16 w1, .int .i16 w2, .int .i16 w3] 27 (0, 0)) := by rw [← hW4]; exact ze KA.out.2.2.2.2.1 _
    have LB : Below w.heap.size w W4 := by rw [← hW4]; exact zc KA.out.2.2.2.2.2 _
    clear hW4 hx3 a90 a91 a92 a93 f90 f91 f92 f93 a00 a40 a41 a42 a43 a50 a51 a52
    have a50 : W4.cell? ⟨w.heap.size + 1, 0, none⟩ = some (.int .i8 0) := (za L5 0).trans rfl
    have a51 : W4.cell? ⟨w.heap.size + 1, 1, none⟩ = some (.int .i8 3) := (za L5 1).trans rfl
    have a52 : W4.cell? ⟨w.heap.size + 1, 2, none⟩ = some (.int .i8 0) := (za L5 2).trans rfl
    have a90 : W4.cell? ⟨w.heap.size + 1 + 1 + 1, 0, none⟩ = some (.int .i16 w0) := (za L9 0).trans rfl
    have f90 := zb L9 0
    have a91 : W4.cell? ⟨w.heap.size + 1 + 1 + 1, 1, none⟩ = some (.int .i16 w1) := (za L9 1).trans rfl
    have f91 := zb L9 1
    have a92 : W4.cell? ⟨w.heap.size + 1 + 1 + 1, 2, none⟩ = some (.int .i16 w2) := (za L9 2).trans rfl
    have f92 := zb L9 2
    have a93 : W4.cell? ⟨w.heap.size + 1 + 1 + 1, 3, none⟩ = some (.int .i16 w3) := (za L9 3).trans rfl
    have f93 := zb L9 3
    have LA := zf.mk (And.intro L4 (And.intro L6 (And.intro L9 LB)))
    clear L4 L5 L6 L9 LB KA
    go_upto_region 16 with (fail)
    have a40 : W4.cell? ⟨w.heap.size, 0, none⟩ = some (.int .i16 w0) := (za LA.out.1 0).trans rfl
    have a41 : W4.cell? ⟨w.heap.size, 1, none⟩ = some (.int .i16 w1) := (za LA.out.1 1).trans rfl
    have a42 : W4.cell? ⟨w.heap.size, 2, none⟩ = some (.int .i16 w2) := (za LA.out.1 2).trans rfl
    have a43 : W4.cell? ⟨w.heap.size, 3, none⟩ = some (.int .i16 w3) := (za LA.out.1 3).trans rfl
    have a60 : W4.cell? ⟨w.heap.size + 1 + 1, 0, none⟩ = some (.int .i16 0) := (za LA.out.2.1 0).trans rfl
    have f60 := zb LA.out.2.1 0
    have a61 : W4.cell? ⟨w.heap.size + 1 + 1, 1, none⟩ = some (.int .i16 0) := (za LA.out.2.1 1).trans rfl
    have f61 := zb LA.out.2.1 1
    have a62 : W4.cell? ⟨w.heap.size + 1 + 1, 2, none⟩ = some (.int .i16 0) := (za LA.out.2.1 2).trans rfl
    have f62 := zb LA.out.2.1 2
    have a63 : W4.cell? ⟨w.heap.size + 1 + 1, 3, none⟩ = some (.int .i16 0) := (za LA.out.2.1 3).trans rfl
    have f63 := zb LA.out.2.1 3
    go_wp2
    all_goals
      rename_i h
      have hm : much l w0 w1 w2 w3 3 0 = P := part_eq HW.out.2.2.2 HR.out HP.out
      have hx : mvP l w0 w1 w2 w3 3 0 = (IntKind.i16.wrap (w0 + P), w1, w2, IntKind.i16.wrap (w3 - P)) := by simp [mvP, hm, st4, rd4, rd]
      have L6 := LA.out.2.1
      have LB := LA.out.2.2.2
      clear hm HR HP
      refine bodyPost_ret (zu rfl _ _ (w.heap.size + 1 + 1) 27 _ (0, 0) _ rfl (after_store L6 (ne23 _) _ _ _ _ _ _ _ _) Try.underlying27 rfl (size27 _ _ _ _)) rfl ?_
      refine ⟨ends5 ?_, by with_reducible repeat (first | refine zj ?_ (le3 _) | refine zj ?_ (le2 _) | exact LB)⟩
      first | exact stR_diff hx (by rcases h with h | h <;> simp [h]) | exact stR_same hx (by simp [h.1, h.2])
  · go_enter Try.func76, Try.ntmps76
    go_upto_region 1 with (fail)
    generalize hW1 : World.alloc _ _ = W1
    have H4 : W1.heap[w.heap.size]? = some (.cells #[.int .i16 w0, .int .i16 w1, .int .i16 w2, .int .i16 w3] 27 (0, 0)) := by rw [← hW1]; exact thr4 _ _ _ _
    have H5 : W1.heap[w.heap.size + 1]? = some (.cells #[.int .i8 0, .int .i8 3, .int .i8 1] 80 (0, 0)) := by rw [← hW1]; exact thr5 _ _ _ _
    have H6 : W1.heap[w.heap.size + 1 + 1]? = some (.cells #[.int .i16 0, .int .i16 0, .int .i16 0, .int .i16 0] 27 (0, 0)) := by rw [← hW1]; exact thr6 _ _ _ _
    have HB : Below w.heap.size w W1 := by rw [← hW1]; exact below_thr _ _ _ _
    have HZ : W1.heap.size = w.heap.size + 1 + 1 + 1 := by rw [← hW1]; exact thr_size _ _ _ _
    clear hW1
    have H0 := zl hb0 HB
    have hx1 := (HB.cell (World.block_lt_of_cell? w _ hx)).trans hx
    simp [Addr.add] at hx1
    have a00 : W1.cell? ⟨g0, 0, none⟩ = some (.slice (some ad) l.length c0) := (za H0 0).trans rfl
    have a40 : W1.cell? ⟨w.heap.size, 0, none⟩ = some (.int .i16 w0) := (za H4 0).trans rfl
    have a41 : W1.cell? ⟨w.heap.size, 1, none⟩ = some (.int .i16 w1) := (za H4 1).trans rfl
    have a42 : W1.cell? ⟨w.heap.size, 2, none⟩ = some (.int .i16 w2) := (za H4 2).trans rfl
    have a43 : W1.cell? ⟨w.heap.size, 3, none⟩ = some (.int .i16 w3) := (za H4 3).trans rfl
    have a50 : W1.cell? ⟨w.heap.size + 1, 0, none⟩ = some (.int .i8 0) := (za H5 0).trans rfl
    have a51 : W1.cell? ⟨w.heap.size + 1, 1, none⟩ = some (.int .i8 3) := (za H5 1).trans rfl
    have a52 : W1.cell? ⟨w.heap.size + 1, 2, none⟩ = some (.int .i8 1) := (za H5 2).trans rfl
    have HA := zf.mk (And.intro H0 (And.intro H4 (And.intro H5 (And.intro H6 (And.intro HB HZ)))))
    clear H0 H4 H5 H6 HB HZ hb0 hx hr0
    go_upto_region 6 with (first
      | (go_at_call 103
         (with_reducible refine (spec_l00In.calls _ _ _ true _ ?hh).mono ?_)
         (case hh => first | exact HI1.out | exact HI2.out | exact in_true (by decide) (by decide))
         rintro e w' ⟨rfl, ⟨nd, rfl⟩⟩)
      | go_in)
    generalize hW2 : World.drewN _ _ = W2
    have G0 : W2.heap[g0]? = some (.cells #[.slice (some ad) l.length c0, .int .i16 s0, .int .i16 s1, .int .i16 s2, .int .i16 s3, .bool tap] 29 (0, 0)) := by rw [← hW2]; exact ze HA.out.1 _
    have G4 : W2.heap[w.heap.size]? = some (.cells #[.int .i16 w0, .int .i16 w1, .int .i16 w2, .int .i16 w3] 27 (0, 0)) := by rw [← hW2]; exact ze HA.out.2.1 _
    have G5 : W2.heap[w.heap.size + 1]? = some (.cells #[.int .i8 0, .int .i8 3, .int .i8 1] 80 (0, 0)) := by rw [← hW2]; exact ze HA.out.2.2.1 _
    have G6 : W2.heap[w.heap.size + 1 + 1]? = some (.cells #[.int .i16 0, .int .i16 0, .int .i16 0, .int .i16 0] 27 (0, 0)) := by rw [← hW2]; exact ze HA.out.2.2.2.1 _
    have GB : Below w.heap.size w W2 := by rw [← hW2]; exact zc HA.out.2.2.2.2.1 _
    have GZ : W2.heap.size = w.heap.size + 1 + 1 + 1 := by rw [← hW2]; exact HA.out.2.2.2.2.2
    have hx2 : W2.cell? ⟨ad.block, ad.off + 1, none⟩ = some (.int .i16 (rd l 1)) := by rw [← hW2]; exact hx1
    clear hW2 hx1 a00 a40 a41 a42 a43 a50 a51 a52
    have a00 : W2.cell? ⟨g0, 0, none⟩ = some (.slice (some ad) l.length c0) := (za G0 0).trans rfl
    have a40 : W2.cell? ⟨w.heap.size, 0, none⟩ = some (.int .i16 w0) := (za G4 0).trans rfl
    have a41 : W2.cell? ⟨w.heap.size, 1, none⟩ = some (.int .i16 w1) := (za G4 1).trans rfl
    have a42 : W2.cell? ⟨w.heap.size, 2, none⟩ = some (.int .i16 w2) := (za G4 2).trans rfl
    have a43 : W2.cell? ⟨w.heap.size, 3, none⟩ = some (.int .i16 w3) := (za G4 3).trans rfl
    have a50 : W2.cell? ⟨w.heap.size + 1, 0, none⟩ = some (.int .i8 0) := (za G5 0).trans rfl
    have a51 : W2.cell? ⟨w.heap.size + 1, 1, none⟩ = some (.int .i8 3) := (za G5 1).trans rfl
    have a52 : W2.cell? ⟨w.heap.size + 1, 2, none⟩ = some (.int .i8 1) := (za G5 2).trans rfl
    have GA := zf.mk (And.intro G0 (And.intro G4 (And.intro G5 (And.intro G6 (And.intro GB GZ)))))
    clear G0 G4 G5 G6 GB GZ HA
    go_upto_region 7 with (fail)
    generalize hW3 : World.alloc _ _ = W3
    rw [GA.out.2.2.2.2.2]
    have K0 : W3.heap[g0]? = some (.cells #[.slice (some ad) l.length c0, .int .i16 s0, .int .i16 s1, .int .i16 s2, .int .i16 s3, .bool tap] 29 (0, 0)) := by rw [← hW3]; exact zg GA.out.1 _
    have K4 : W3.heap[w.heap.size]? = some (.cells #[.int .i16 w0, .int .i16 w1, .int .i16 w2, .int .i16 w3] 27 (0, 0)) := by rw [← hW3]; exact zg GA.out.2.1 _
    have K5 : W3.heap[w.heap.size + 1]? = some (.cells #[.int .i8 0, .int .i8 3, .int .i8 1] 80 (0, 0)) := by rw [← hW3]; exact zg GA.out.2.2.1 _
    have K6 : W3.heap[w.heap.size + 1 + 1]? = some (.cells #[.int .i16 0, .int .i16 0, .int .i16 0, .int .i16 0] 27 (0, 0)) := by rw [← hW3]; exact zg GA.out.2.2.2.1 _
    have K9 : W3.heap[w.heap.size + 1 + 1 + 1]? = some (.cells #[.int .i16 w0, .int .i16 w1, .int .i16 w2, .int .i16 w3] 27 (0, 0)) := by rw [← hW3, ← GA.out.2.2.2.2.2]; exact heap_alloc_new _ _
    have KB : Below w.heap.size w W3 := by rw [← hW3]; exact zh GA.out.2.2.2.2.1 _
    have hx3 : W3.cell? ⟨ad.block, ad.off + 1, none⟩ = some (.int .i16 (rd l 1)) := by rw [← hW3]; exact ((zh (Below.refl _ _) _).cell (World.block_lt_of_cell? W2 _ hx2)).trans hx2
    clear hW3 hx2 a00 a40 a41 a42 a43 a50 a51 a52
    have a00 : W3.cell? ⟨g0, 0, none⟩ = some (.slice (some ad) l.length c0) := (za K0 0).trans rfl
    have a40 : W3.cell? ⟨w.heap.size, 0, none⟩ = some (.int .i16 w0) := (za K4 0).trans rfl
    have a41 : W3.cell? ⟨w.heap.size, 1, none⟩ = some (.int .i16 w1) := (za K4 1).trans rfl
    have a42 : W3.cell? ⟨w.heap.size, 2, none⟩ = some (.int .i16 w2) := (za K4 2).trans rfl
    have a43 : W3.cell? ⟨w.heap.size, 3, none⟩ = some (.int .i16 w3) := (za K4 3).trans rfl
    have a50 : W3.cell? ⟨w.heap.size + 1, 0, none⟩ = some (.int .i8 0) := (za K5 0).trans rfl
    have a51 : W3.cell? ⟨w.heap.size + 1, 1, none⟩ = some (.int .i8 3) := (za K5 1).trans rfl
    have a52 : W3.cell? ⟨w.heap.size + 1, 2, none⟩ = some (.int .i8 1) := (za K5 2).trans rfl
    have a90 : W3.cell? ⟨w.heap.size + 1 + 1 + 1, 0, none⟩ = some (.int .i16 w0) := (za K9 0).trans rfl
    have f90 := zb K9 0
    have a91 : W3.cell? ⟨w.heap.size + 1 + 1 + 1, 1, none⟩ = some (.int .i16 w1) := (za K9 1).trans rfl
    have f91 := zb K9 1
    have a92 : W3.cell? ⟨w.heap.size + 1 + 1 + 1, 2, none⟩ = some (.int .i16 w2) := (za K9 2).trans rfl
    have f92 := zb K9 2
    have a93 : W3.cell? ⟨w.heap.size + 1 + 1 + 1, 3, none⟩ = some (.int .i16 w3) := (za K9 3).trans rfl
    have f93 := zb K9 3
    have KA := zf.mk (And.intro K0 (And.intro K4 (And.intro K5 (And.intro K6 (And.intro K9 KB)))))
    clear K0 K4 K5 K6 K9 KB GA
    go_upto_region 9 with (fail)
    obtain ⟨r, hr⟩ : ∃ r, spec_l00Min.f (wrap64 w3) (wrap64 (IntKind.i16.wrap (rd l 1 - w1))) = some r := by unfold spec_l00Min.f; split <;> exact ⟨_, rfl⟩
    have HR := zf.mk hr
    clear hr
    go_quiet ((go_at_call 104; exact Calls.quiet_of ((spec_l00Min.calls _ _ r _ HR.out).mono fun _ _ ⟨he, ⟨nd, hd⟩⟩ => ⟨he, nd, hd⟩)))
    obtain ⟨P, hP⟩ : ∃ P, P = IntKind.i16.wrap r := ⟨_, rfl⟩
    rw [← hP]
    have HP := zf.mk hP
    clear hP
    generalize hW4 : World.drewN _ _ = W4
    have L4 : W4.heap[w.heap.size]? = some (.cells #[.int .i16 w0, .int .i16 w1, .int .i16 w2, .int .i16 w3] 27 (0, 0)) := by rw [← hW4]; exact ze KA.out.2.1 _
    have L5 : W4.heap[w.heap.size + 1]? = some (.cells #[.int .i8 0, .int .i8 3, .int .i8 1] 80 (0, 0)) := by rw [← hW4]; exact ze KA.out.2.2.1 _
    have L6 : W4.heap[w.heap.size + 1 + 1]? = some (.cells #[.int .i16 0, .int .i16 0, .int .i16 0, .int .i16 0] 27 (0, 0)) := by rw [← hW4]; exact ze KA.out.2.2.2.1 _
    have L9 : W4.heap[w.heap.size + 1 + 1 + 1]? = some (.cells #[.int .i16 w0, .int .i16 w1, .int .i16 w2, .int .i16 w3] 27 (0, 0)) := by rw [← hW4]; exact ze KA.out.2.2.2.2.1 _
    have LB : Below w.heap.size w W4 := by rw [← hW4]; exact zc KA.out.2.2.2.2.2 _
    clear hW4 hx3 a90 a91 a92 a93 f90 f91 f92 f93 a00 a40 a41 a42 a43 a50 a51 a52
    have a50 : W4.cell? ⟨w.heap.size + 1, 0, none⟩ = some (.int .i8 0) := (za L5 0).trans rfl
    have a51 : W4.cell? ⟨w.heap.size + 1, 1, none⟩ = some (.int .i8 3) := (za L5 1).trans rfl
    have a52 : W4.cell? ⟨w.heap.size + 1, 2, none⟩ = some (.int .i8 1) := (za L5 2).trans rfl
    have a90 : W4.cell? ⟨w.heap.size + 1 + 1 + 1, 0, none⟩ = some (.int .i16 w0) := (za L9 0).trans rfl
    have f90 := zb L9 0
    have a91 : W4.cell? ⟨w.heap.size + 1 + 1 + 1, 1, none⟩ = some (.int .i16 w1) := (za L9 1).trans rfl
    have f91 := zb L9 1
    have a92 : W4.cell? ⟨w.heap.size + 1 + 1 + 1, 2, none⟩ = some (.int .i16 w2) := (za L9 2).trans rfl
    have f92 := zb L9 2
    have a93 : W4.cell? ⟨w.heap.size + 1 + 1 + 1, 3, none⟩ = some (.int .i16 w3) := (za L9 3).trans rfl
    have f93 := zb L9 3
    have LA := zf.mk (And.intro L4 (And.intro L6 (And.intro L9 LB)))
    clear L4 L5 L6 L9 LB KA
    go_upto_region 16 with (fail)
    have a40 : W4.cell? ⟨w.heap.size, 0, none⟩ = some (.int .i16 w0) := (za LA.out.1 0).trans rfl
    have a41 : W4.cell? ⟨w.heap.size, 1, none⟩ = some (.int .i16 w1) := (za LA.out.1 1).trans rfl
    have a42 : W4.cell? ⟨w.heap.size, 2, none⟩ = some (.int .i16 w2) := (za LA.out.1 2).trans rfl
    have a43 : W4.cell? ⟨w.heap.size, 3, none⟩ = some (.int .i16 w3) := (za LA.out.1 3).trans rfl
    have a60 : W4.cell? ⟨w.heap.size + 1 + 1, 0, none⟩ = some (.int .i16 0) := (za LA.out.2.1 0).trans rfl
    have f60 := zb LA.out.2.1 0
    have a61 : W4.cell? ⟨w.heap.size + 1 + 1, 1, none⟩ = some (.int .i16 0) := (za LA.out.2.1 1).trans rfl
    have f61 := zb LA.out.2.1 1
    have a62 : W4.cell? ⟨w.heap.size + 1 + 1, 2, none⟩ = some (.int .i16 0) := (za LA.out.2.1 2).trans rfl
    have f62 := zb LA.out.2.1 2
    have a63 : W4.cell? ⟨w.heap.size + 1 + 1, 3, none⟩ = some (.int .i16 0) := (za LA.out.2.1 3).trans rfl
    have f63 := zb LA.out.2.1 3
    go_wp2
    all_goals
      rename_i h
      have hm : much l w0 w1 w2 w3 3 1 = P := part_eq HW.out.2.2.2 HR.out HP.out
      have hx : mvP l w0 w1 w2 w3 3 1 = (w0, IntKind.i16.wrap (w1 + P), w2, IntKind.i16.wrap (w3 - P)) := by simp [mvP, hm, st4, rd4, rd]
      have L6 := LA.out.2.1
      have LB := LA.out.2.2.2
      clear hm HR HP
      refine bodyPost_ret (zu rfl _ _ (w.heap.size + 1 + 1) 27 _ (0, 0) _ rfl (after_store L6 (ne23 _) _ _ _ _ _ _ _ _) Try.underlying27 rfl (size27 _ _ _ _)) rfl ?_
      refine ⟨ends5 ?_, by with_reducible repeat (first | refine zj ?_ (le3 _) | refine zj ?_ (le2 _) | exact LB)⟩
      first | exact stR_diff hx (by rcases h with h | h <;> simp [h]) | exact stR_same hx (by simp [h.1, h.2])
  · go_enter Try.func76, Try.ntmps76
    go_upto_region 1 with (fail)
    generalize hW1 : World.alloc _ _ = W1
    have H4 : W1.heap[w.heap.size]? = some (.cells #[.int .i16 w0, .int .i16 w1, .int .i16 w2, .int .i16 w3] 27 (0, 0)) := by rw [← hW1]; exact thr4 _ _ _ _
    have H5 : W1.heap[w.heap.size + 1]? = some (.cells #[.int .i8 0, .int .i8 3, .int .i8 2] 80 (0, 0)) := by rw [← hW1]; exact thr5 _ _ _ _
    have H6 : W1.heap[w.heap.size + 1 + 1]? = some (.cells #[.int .i16 0, .int .i16 0, .int .i16 0, .int .i16 0] 27 (0, 0)) := by rw [← hW1]; exact thr6 _ _ _ _
    have HB : Below w.heap.size w W1 := by rw [← hW1]; exact below_thr _ _ _ _
    have HZ : W1.heap.size = w.heap.size + 1 + 1 + 1 := by rw [← hW1]; exact thr_size _ _ _ _
    clear hW1
    have H0 := zl hb0 HB
    have hx1 := (HB.cell (World.block_lt_of_cell? w _ hx)).trans hx
    simp [Addr.add] at hx1
    have a00 : W1.cell? ⟨g0, 0, none⟩ = some (.slice (some ad) l.length c0) := (za H0 0).trans rfl
    have a40 : W1.cell? ⟨w.heap.size, 0, none⟩ = some (.int .i16 w0) := (za H4 0).trans rfl
    have a41 : W1.cell? ⟨w.heap.size, 1, none⟩ = some (.int .i16 w1) := (za H4 1).trans rfl
    have a42 : W1.cell? ⟨w.heap.size, 2, none⟩ = some (.int .i16 w2) := (za H4 2).trans rfl
    have a43 : W1.cell? ⟨w.heap.size, 3, none⟩ = some (.int .i16 w3) := (za H4 3).trans rfl
    have a50 : W1.cell? ⟨w.heap.size + 1, 0, none⟩ = some (.int .i8 0) := (za H5 0).trans rfl
    have a51 : W1.cell? ⟨w.heap.size + 1, 1, none⟩ = some (.int .i8 3) := (za H5 1).trans rfl
    have a52 : W1.cell? ⟨w.heap.size + 1, 2, none⟩ = some (.int .i8 2) := (za H5 2).trans rfl
    have HA := zf.mk (And.intro H0 (And.intro H4 (And.intro H5 (And.intro H6 (And.intro HB HZ)))))
    clear H0 H4 H5 H6 HB HZ hb0 hx hr0
    go_upto_region 6 with (first
      | (go_at_call 103
         (with_reducible refine (spec_l00In.calls _ _ _ true _ ?hh).mono ?_)
         (case hh => first | exact HI1.out | exact HI2.out | exact in_true (by decide) (by decide))
         rintro e w' ⟨rfl, ⟨nd, rfl⟩⟩)
      | go_in)
    generalize hW2 : World.drewN _ _ = W2
    have G0 : W2.heap[g0]? = some (.cells #[.slice (some ad) l.length c0, .int .i16 s0, .int .i16 s1, .int .i16 s2, .int .i16 s3, .bool tap] 29 (0, 0)) := by rw [← hW2]; exact ze HA.out.1 _
    have G4 : W2.heap[w.heap.size]? = some (.cells #[.int .i16 w0, .int .i16 w1, .int .i16 w2, .int .i16 w3] 27 (0, 0)) := by rw [← hW2]; exact ze HA.out.2.1 _
    have G5 : W2.heap[w.heap.size + 1]? = some (.cells #[.int .i8 0, .int .i8 3, .int .i8 2] 80 (0, 0)) := by rw [← hW2]; exact ze HA.out.2.2.1 _
    have G6 : W2.heap[w.heap.size + 1 + 1]? = some (.cells #[.int .i16 0, .int .i16 0, .int .i16 0, .int .i16 0] 27 (0, 0)) := by rw [← hW2]; exact ze HA.out.2.2.2.1 _
    have GB : Below w.heap.size w W2 := by rw [← hW2]; exact zc HA.out.2.2.2.2.1 _
    have GZ : W2.heap.size = w.heap.size + 1 + 1 + 1 := by rw [← hW2]; exact HA.out.2.2.2.2.2
    have hx2 : W2.cell? ⟨ad.block, ad.off + 2, none⟩ = some (.int .i16 (rd l 2)) := by rw [← hW2]; exact hx1
    clear hW2 hx1 a00 a40 a41 a42 a43 a50 a51 a52
    have a00 : W2.cell? ⟨g0, 0, none⟩ = some (.slice (some ad) l.length c0) := (za G0 0).trans rfl
    have a40 : W2.cell? ⟨w.heap.size, 0, none⟩ = some (.int .i16 w0) := (za G4 0).trans rfl
    have a41 : W2.cell? ⟨w.heap.size, 1, none⟩ = some (.int .i16 w1) := (za G4 1).trans rfl
    have a42 : W2.cell? ⟨w.heap.size, 2, none⟩ = some (.int .i16 w2) := (za G4 2).trans rfl
    have a43 : W2.cell? ⟨w.heap.size, 3, none⟩ = some (.int .i16 w3) := (za G4 3).trans rfl
    have a50 : W2.cell? ⟨w.heap.size + 1, 0, none⟩ = some (.int .i8 0) := (za G5 0).trans rfl
    have a51 : W2.cell? ⟨w.heap.size + 1, 1, none⟩ = some (.int .i8 3) := (za G5 1).trans rfl
    have a52 : W2.cell? ⟨w.heap.size + 1, 2, none⟩ = some (.int .i8 2) := (za G5 2).trans rfl
    have GA := zf.mk (And.intro G0 (And.intro G4 (And.intro G5 (And.intro G6 (And.intro GB GZ)))))
    clear G0 G4 G5 G6 GB GZ HA
    go_upto_region 7 with (fail)
    generalize hW3 : World.alloc _ _ = W3
    rw [GA.out.2.2.2.2.2]
    have K0 : W3.heap[g0]? = some (.cells #[.slice (some ad) l.length c0, .int .i16 s0, .int .i16 s1, .int .i16 s2, .int .i16 s3, .bool tap] 29 (0, 0)) := by rw [← hW3]; exact zg GA.out.1 _
    have K4 : W3.heap[w.heap.size]? = some (.cells #[.int .i16 w0, .int .i16 w1, .int .i16 w2, .int .i16 w3] 27 (0, 0)) := by rw [← hW3]; exact zg GA.out.2.1 _
    have K5 : W3.heap[w.heap.size + 1]? = some (.cells #[.int .i8 0, .int .i8 3, .int .i8 2] 80 (0, 0)) := by rw [← hW3]; exact zg GA.out.2.2.1 _
    have K6 : W3.heap[w.heap.size + 1 + 1]? = some (.cells #[.int .i16 0, .int .i16 0, .int .i16 0, .int .i16 0] 27 (0, 0)) := by rw [← hW3]; exact zg GA.out.2.2.2.1 _
    have K9 : W3.heap[w.heap.size + 1 + 1 + 1]? = some (.cells #[.int .i16 w0, .int .i16 w1, .int .i16 w2, .int .i16 w3] 27 (0, 0)) := by rw [← hW3, ← GA.out.2.2.2.2.2]; exact heap_alloc_new _ _
    have KB : Below w.heap.size w W3 := by rw [← hW3]; exact zh GA.out.2.2.2.2.1 _
    have hx3 : W3.cell? ⟨ad.block, ad.off + 2, none⟩ = some (.int .i16 (rd l 2)) := by rw [← hW3]; exact ((zh (Below.refl _ _) _).cell (World.block_lt_of_cell? W2 _ hx2)).trans hx2
    clear hW3 hx2 a00 a40 a41 a42 a43 a50 a51 a52
    have a00 : W3.cell? ⟨g0, 0, none⟩ = some (.slice (some ad) l.length c0) := (za K0 0).trans rfl
    have a40 : W3.cell? ⟨w.heap.size, 0, none⟩ = some (.int .i16 w0) := (za K4 0).trans rfl
    have a41 : W3.cell? ⟨w.heap.size, 1, none⟩ = some (.int .i16 w1) := (za K4 1).trans rfl
    have a42 : W3.cell? ⟨w.heap.size, 2, none⟩ = some (.int .i16 w2) := (za K4 2).trans rfl
    have a43 : W3.cell? ⟨w.heap.size, 3, none⟩ = some (.int .i16 w3) := (za K4 3).trans rfl
    have a50 : W3.cell? ⟨w.heap.size + 1, 0, none⟩ = some (.int .i8 0) := (za K5 0).trans rfl
    have a51 : W3.cell? ⟨w.heap.size + 1, 1, none⟩ = some (.int .i8 3) := (za K5 1).trans rfl
    have a52 : W3.cell? ⟨w.heap.size + 1, 2, none⟩ = some (.int .i8 2) := (za K5 2).trans rfl
    have a90 : W3.cell? ⟨w.heap.size + 1 + 1 + 1, 0, none⟩ = some (.int .i16 w0) := (za K9 0).trans rfl
    have f90 := zb K9 0
    have a91 : W3.cell? ⟨w.heap.size + 1 + 1 + 1, 1, none⟩ = some (.int .i16 w1) := (za K9 1).trans rfl
    have f91 := zb K9 1
    have a92 : W3.cell? ⟨w.heap.size + 1 + 1 + 1, 2, none⟩ = some (.int .i16 w2) := (za K9 2).trans rfl
    have f92 := zb K9 2
    have a93 : W3.cell? ⟨w.heap.size + 1 + 1 + 1, 3, none⟩ = some (.int .i16 w3) := (za K9 3).trans rfl
    have f93 := zb K9 3
    have KA := zf.mk (And.intro K0 (And.intro K4 (And.intro K5 (And.intro K6 (And.intro K9 KB)))))
    clear K0 K4 K5 K6 K9 KB GA
    go_upto_region 9 with (fail)
    obtain ⟨r, hr⟩ : ∃ r, spec_l00Min.f (wrap64 w3) (wrap64 (IntKind.i16.wrap (rd l 2 - w2))) = some r := by unfold spec_l00Min.f; split <;> exact ⟨_, rfl⟩
    have HR := zf.mk hr
    clear hr
    go_quiet ((go_at_call 104; exact Calls.quiet_of ((spec_l00Min.calls _ _ r _ HR.out).mono fun _ _ ⟨he, ⟨nd, hd⟩⟩ => ⟨he, nd, hd⟩)))
    obtain ⟨P, hP⟩ : ∃ P, P = IntKind.i16.wrap r := ⟨_, rfl⟩
    rw [← hP]
    have HP := zf.mk hP
    clear hP
    generalize hW4 : World.drewN _ _ = W4
    have L4 : W4.heap[w.heap.size]? = some (.cells #[.int .i16 w0, .int .i16 w1, .int .i16 w2, .int .i16 w3] 27 (0, 0)) := by rw [← hW4]; exact ze KA.out.2.1 _
    have L5 : W4.heap[w.heap.size + 1]? = some (.cells #[.int .i8 0, .int .i8 3, .int .i8 2] 80 (0, 0)) := by rw [← hW4]; exact ze KA.out.2.2.1 _
    have L6 : W4.heap[w.heap.size + 1 + 1]? = some (.cells #[.int .i16 0, .int .i16 0, .int .i16 0, .int .i16 0] 27 (0, 0)) := by rw [← hW4]; exact ze KA.out.2.2.2.1 _
    have L9 : W4.heap[w.heap.size + 1 + 1 + 1]? = some (.cells #[.int .i16 w0, .int .i16 w1, .int .i16 w2, .int .i16 w3] 27 (0, 0)) := by rw [← hW4]; exact ze KA.out.2.2.2.2.1 _
    have LB : Below w.heap.size w W4 := by rw [← hW4]; exact zc KA.out.2.2.2.2.2 _
    clear hW4 hx3 a90 a91 a92 a93 f90 f91 f92 f93 a00 a40 a41 a42 a43 a50 a51 a52
    have a50 : W4.cell? ⟨w.heap.size + 1, 0, none⟩ = some (.int .i8 0) := (za L5 0).trans rfl
    have a51 : W4.cell? ⟨w.heap.size + 1, 1, none⟩ = some (.int .i8 3) := (za L5 1).trans rfl
    have a52 : W4.cell? ⟨w.heap.size + 1, 2, none⟩ = some (.int .i8 2) := (za L5 2).trans rfl
    have a90 : W4.cell? ⟨w.heap.size + 1 + 1 + 1, 0, none⟩ = some (.int .i16 w0) := (za L9 0).trans rfl
    have f90 := zb L9 0
    have a91 : W4.cell? ⟨w.heap.size + 1 + 1 + 1, 1, none⟩ = some (.int .i16 w1) := (za L9 1).trans rfl
    have f91 := zb L9 1
    have a92 : W4.cell? ⟨w.heap.size + 1 + 1 + 1, 2, none⟩ = some (.int .i16 w2) := (za L9 2).trans rfl
    have f92 := zb L9 2
    have a93 : W4.cell? ⟨w.heap.size + 1 + 1 + 1, 3, none⟩ = some (.int .i16 w3) := (za L9 3).trans rfl
    have f93 := zb L9 3
    have LA := zf.mk (And.intro L4 (And.intro L6 (And.intro L9 LB)))
    clear L4 L5 L6 L9 LB KA
    go_upto_region 16 with (fail)
    have a40 : W4.cell? ⟨w.heap.size, 0, none⟩ = some (.int .i16 w0) := (za LA.out.1 0).trans rfl
    have a41 : W4.cell? ⟨w.heap.size, 1, none⟩ = some (.int .i16 w1) := (za LA.out.1 1).trans rfl
    have a42 : W4.cell? ⟨w.heap.size, 2, none⟩ = some (.int .i16 w2) := (za LA.out.1 2).trans rfl
    have a43 : W4.cell? ⟨w.heap.size, 3, none⟩ = some (.int .i16 w3) := (za LA.out.1 3).trans rfl
    have a60 : W4.cell? ⟨w.heap.size + 1 + 1, 0, none⟩ = some (.int .i16 0) := (za LA.out.2.1 0).trans rfl
    have f60 := zb LA.out.2.1 0
    have a61 : W4.cell? ⟨w.heap.size + 1 + 1, 1, none⟩ = some (.int .i16 0) := (za LA.out.2.1 1).trans rfl
    have f61 := zb LA.out.2.1 1
    have a62 : W4.cell? ⟨w.heap.size + 1 + 1, 2, none⟩ = some (.int .i16 0) := (za LA.out.2.1 2).trans rfl
    have f62 := zb LA.out.2.1 2
    have a63 : W4.cell? ⟨w.heap.size + 1 + 1, 3, none⟩ = some (.int .i16 0) := (za LA.out.2.1 3).trans rfl
    have f63 := zb LA.out.2.1 3
    go_wp2
    all_goals
      rename_i h
      have hm : much l w0 w1 w2 w3 3 2 = P := part_eq HW.out.2.2.2 HR.out HP.out
      have hx : mvP l w0 w1 w2 w3 3 2 = (w0, w1, IntKind.i16.wrap (w2 + P), IntKind.i16.wrap (w3 - P)) := by simp [mvP, hm, st4, rd4, rd]
      have L6 := LA.out.2.1
      have LB := LA.out.2.2.2
      clear hm HR HP
      refine bodyPost_ret (zu rfl _ _ (w.heap.size + 1 + 1) 27 _ (0, 0) _ rfl (after_store L6 (ne23 _) _ _ _ _ _ _ _ _) Try.underlying27 rfl (size27 _ _ _ _)) rfl ?_
      refine ⟨ends5 ?_, by with_reducible repeat (first | refine zj ?_ (le3 _) | refine zj ?_ (le2 _) | exact LB)⟩
      first | exact stR_diff hx (by rcases h with h | h <;> simp [h]) | exact stR_same hx (by simp [h.1, h.2])
  · exact absurd rfl hne
end Go.Proofs.Yteciomagemjjaaa.J
