/- The reference's l02Move: the water behind a move. -/
import Derived.Test.YteciomagemjjaaaLMovedJ
import Derived.Test.YteciomagemjjaaaJx7
import Derived.Test.YteciomagemjjaaaJx11
namespace Go.Proofs.Yteciomagemjjaaa.J
open Go.RowKit Go.Proofs.YteciomagemjjaaaW.PrintWords Go.Proofs.YteciomagemjjaaaW.PrintLast Go.Proofs.YteciomagemjjaaaW.PrintMore
attribute [local go_sem] zna zpa zua zva zia zja zqa zoa   -- for this text's walks alone
attribute [local go_sem high] eqA27
set_option linter.unusedVariables false
set_option linter.unusedSimpArgs false
theorem zxc {a b c : Int} (h : b ≤ a) (h2 : a ≤ c) : spec_l00In.f a b c = some true := by
  unfold spec_l00In.f
  rw [if_pos h, decide_eq_true h2]
theorem zwb {l : List Int} {a : Int} (h : 0 ≤ a) (h2 : a < l.length) (h4 : l.length ≤ 4) : spec_l00In.f a 0 (wrap64 ((l.length : Int) - 1)) = some true := zxc h (by unfold wrap64; omega)
section
variable (w : World) (o4 o5 o6 : Obj)
theorem thr4 : (((w.alloc o4).alloc o5).alloc o6).heap[w.heap.size]? = some o4 := zc (zc (heap_alloc_new _ _) _) _
theorem thr5 : (((w.alloc o4).alloc o5).alloc o6).heap[w.heap.size + 1]? = some o5 := by
  have e : (w.alloc o4).heap.size = w.heap.size + 1 := by simp
  rw [← e]
  exact zc (heap_alloc_new _ _) _
theorem thr6 : (((w.alloc o4).alloc o5).alloc o6).heap[w.heap.size + 1 + 1]? = some o6 := by
  have e : ((w.alloc o4).alloc o5).heap.size = w.heap.size + 1 + 1 := by simp
  rw [← e]
  exact heap_alloc_new _ _
theorem thr_size : (((w.alloc o4).alloc o5).alloc o6).heap.size = w.heap.size + 1 + 1 + 1 := by simp
theorem below_thr : Below w.heap.size w (((w.alloc o4).alloc o5).alloc o6) := by repeat (first | exact Below.refl _ _ | apply zw)
end
section
variable {w W W' : World} {o4 o5 o6 o : Obj} {g t n : Nat} {a b c d e f : Value} {ad : Addr} {v : Option Value}
theorem thr4e (h : ((w.alloc o4).alloc o5).alloc o6 = W) : W.heap[w.heap.size]? = some o4 := by rw [← h]; exact thr4 _ _ _ _
theorem thr5e (h : ((w.alloc o4).alloc o5).alloc o6 = W) : W.heap[w.heap.size + 1]? = some o5 := by rw [← h]; exact thr5 _ _ _ _
theorem thr6e (h : ((w.alloc o4).alloc o5).alloc o6 = W) : W.heap[w.heap.size + 1 + 1]? = some o6 := by rw [← h]; exact thr6 _ _ _ _
theorem zdf (h : ((w.alloc o4).alloc o5).alloc o6 = W) : Below w.heap.size w W := by rw [← h]; exact below_thr _ _ _ _
theorem zye (h : ((w.alloc o4).alloc o5).alloc o6 = W) : W.heap.size = w.heap.size + 1 + 1 + 1 := by rw [← h]; exact thr_size _ _ _ _
theorem k6_0 (h : W.heap[g]? = some (.cells #[a, b, c, d, e, f] t (0, 0))) : W.cell? ⟨g, 0, none⟩ = some a := (zb h 0).trans rfl
theorem k4_c (h : W.heap[g]? = some (.cells #[a, b, c, d] t (0, 0))) : W.cell? ⟨g, 0, none⟩ = some a ∧ W.cell? ⟨g, 1, none⟩ = some b ∧ W.cell? ⟨g, 2, none⟩ = some c ∧ W.cell? ⟨g, 3, none⟩ = some d := ⟨(zb h 0).trans rfl, (zb h 1).trans rfl, (zb h 2).trans rfl, (zb h 3).trans rfl⟩
theorem k3_c (h : W.heap[g]? = some (.cells #[a, b, c] t (0, 0))) : W.cell? ⟨g, 0, none⟩ = some a ∧ W.cell? ⟨g, 1, none⟩ = some b ∧ W.cell? ⟨g, 2, none⟩ = some c := ⟨(zb h 0).trans rfl, (zb h 1).trans rfl, (zb h 2).trans rfl⟩
theorem kf_c {cs : Array Value} (h : W.heap[g]? = some (.cells cs t (0, 0))) : W.frozen? ⟨g, 0, none⟩ = false ∧ W.frozen? ⟨g, 1, none⟩ = false ∧ W.frozen? ⟨g, 2, none⟩ = false ∧ W.frozen? ⟨g, 3, none⟩ = false := ⟨zg h 0, zg h 1, zg h 2, zg h 3⟩
theorem zyb (h : W.drewN n = W') (k : W.heap[g]? = some o) : W'.heap[g]? = some o := by rw [← h]; exact ze k _
theorem dr_cell (h : W.drewN n = W') (k : W.cell? ad = v) : W'.cell? ad = v := by rw [← h]; exact k
theorem zde (h : W.drewN n = W') (k : Below w.heap.size w W) : Below w.heap.size w W' := by rw [← h]; exact zo k _
theorem dr_size (h : W.drewN n = W') {m : Nat} (k : W.heap.size = m) : W'.heap.size = m := by rw [← h]; exact k
theorem zjc (h : W.alloc o4 = W') (k : W.heap[g]? = some o) : W'.heap[g]? = some o := by rw [← h]; exact zc k _
theorem al_cell (h : W.alloc o4 = W') {u : Value} (k : W.cell? ad = some u) : W'.cell? ad = some u := by rw [← h]; exact ((zw (Below.refl _ _) _).cell (World.block_lt_of_cell? W _ k)).trans k
theorem al_below (h : W.alloc o4 = W') (k : Below w.heap.size w W) : Below w.heap.size w W' := by rw [← h]; exact zw k _
theorem al_new (h : W.alloc o4 = W') {m : Nat} (k : W.heap.size = m) : W'.heap[m]? = some o4 := by rw [← h, ← k]; exact heap_alloc_new _ _
end
theorem r40 (a b c d : Int) : rd4 a b c d 0 = a := rfl
theorem r41 (a b c d : Int) : rd4 a b c d 1 = b := rfl
theorem r42 (a b c d : Int) : rd4 a b c d 2 = c := rfl
theorem r43 (a b c d : Int) : rd4 a b c d 3 = d := rfl
theorem s40 (a b c d v : Int) : st4 a b c d 0 v = (v, b, c, d) := rfl
theorem s41 (a b c d v : Int) : st4 a b c d 1 v = (a, v, c, d) := rfl
theorem s42 (a b c d v : Int) : st4 a b c d 2 v = (a, b, v, d) := rfl
theorem s43 (a b c d v : Int) : st4 a b c d 3 v = (a, b, c, v) := rfl
/-- What l02Move returns of a move that is one. -/
def stR (x : Int × Int × Int × Int) (a b c d : Int) : Int × Int × Int × Int × Int := if eq4 x a b c d then (0, 0, 0, 0, 4) else (x.1, x.2.1, x.2.2.1, x.2.2.2, 0)
theorem stR_same {x : Int × Int × Int × Int} {x0 x1 x2 x3 a b c d : Int} (hx : x = (x0, x1, x2, x3)) (h : (x0 == a && (x1 == b && (x2 == c && x3 == d))) = true) : stR x a b c d = (0, 0, 0, 0, 4) := by
  subst hx
  exact if_pos h
theorem stR_diff {x : Int × Int × Int × Int} {x0 x1 x2 x3 a b c d : Int} (hx : x = (x0, x1, x2, x3)) (h : (x0 == a && (x1 == b && (x2 == c && x3 == d))) = false) : stR x a b c d = (x0, x1, x2, x3, 0) := by
  subst hx
  exact if_neg (by rw [show eq4 (x0, x1, x2, x3) a b c d = false from h]; exact Bool.false_ne_true)
theorem ends5 {x : Int × Int × Int × Int} {a b c d x0 x1 x2 x3 k : Int} (h : stR x a b c d = (x0, x1, x2, x3, k)) : (Ending.returned (.tuple #[.agg #[.int .i16 x0, .int .i16 x1, .int .i16 x2, .int .i16 x3], .int .i64 k])) = .returned (.tuple #[.agg #[.int .i16 (stR x a b c d).1, .int .i16 (stR x a b c d).2.1, .int .i16 (stR x a b c d).2.2.1, .int .i16 (stR x a b c d).2.2.2.1], .int .i64 (stR x a b c d).2.2.2.2]) := by
  rw [h]
theorem w16 (x : Int) : IntKind.i16.wrap x = if x % 65536 ≥ 32768 then x % 65536 - 65536 else x % 65536 := by
  simp [IntKind.wrap, IntKind.bits, IntKind.signed]
theorem part_eq {a b r P : Int} (h0 : 0 ≤ a ∧ a < 32768) (hr : spec_l00Min.f (wrap64 a) (wrap64 (IntKind.i16.wrap b)) = some r) (hP : P = IntKind.i16.wrap r) : min a (IntKind.i16.wrap b) = P := by
  unfold spec_l00Min.f at hr
  obtain ⟨B, hB⟩ : ∃ B, B = IntKind.i16.wrap b := ⟨_, rfl⟩
  have hb : -32768 ≤ B ∧ B < 32768 := by rw [hB, w16]; split <;> omega
  rw [← hB] at hr ⊢
  have e1 : wrap64 a = a := by unfold wrap64; omega
  have e2 : wrap64 B = B := by unfold wrap64; omega
  rw [e1, e2] at hr
  have e3 : IntKind.i16.wrap a = a := by rw [w16]; split <;> omega
  have e4 : IntKind.i16.wrap B = B := by rw [w16]; split <;> omega
  subst hP
  split at hr <;> cases hr
  · rw [e3]; omega
  · rw [e4]; omega
theorem rd4_r {a b c d : Int} (ha : 0 ≤ a ∧ a < 32768) (hb : 0 ≤ b ∧ b < 32768) (hc : 0 ≤ c ∧ c < 32768) (hd : 0 ≤ d ∧ d < 32768) {i : Int} (hi : 0 ≤ i ∧ i < 4) : 0 ≤ rd4 a b c d i ∧ rd4 a b c d i < 32768 := by
  rcases (show i = 0 ∨ i = 1 ∨ i = 2 ∨ i = 3 by omega) with rfl | rfl | rfl | rfl
  · exact ha
  · exact hb
  · exact hc
  · exact hd
theorem min_some (a b : Int) : ∃ r, spec_l00Min.f a b = some r := by unfold spec_l00Min.f; split <;> exact ⟨_, rfl⟩
theorem mvPe {l : List Int} {a b c d fr tt P : Int} (h : much l a b c d fr tt = P) : mvP l a b c d fr tt = st4 (st4 a b c d fr (IntKind.i16.wrap (rd4 a b c d fr - P))).1 (st4 a b c d fr (IntKind.i16.wrap (rd4 a b c d fr - P))).2.1 (st4 a b c d fr (IntKind.i16.wrap (rd4 a b c d fr - P))).2.2.1 (st4 a b c d fr (IntKind.i16.wrap (rd4 a b c d fr - P))).2.2.2 tt (IntKind.i16.wrap (rd4 (st4 a b c d fr (IntKind.i16.wrap (rd4 a b c d fr - P))).1 (st4 a b c d fr (IntKind.i16.wrap (rd4 a b c d fr - P))).2.1 (st4 a b c d fr (IntKind.i16.wrap (rd4 a b c d fr - P))).2.2.1 (st4 a b c d fr (IntKind.i16.wrap (rd4 a b c d fr - P))).2.2.2 tt + P)) := by
  unfold mvP
  rw [h]
theorem le2 (n : Nat) : n ≤ n + 1 + 1 := by omega
theorem ne23 (n : Nat) : n + 1 + 1 ≠ n + 1 + 1 + 1 := by omega
set_option maxHeartbeats 8000000 in
set_option maxRecDepth 100000 in
theorem step_pour (g0 : Nat) (A : Option Addr) (c0 : Nat) (l : List Int) (s0 s1 s2 s3 : Int) (tap : Bool) (w0 w1 w2 w3 fr tt : Int) (w : World) (hb0 : w.heap[g0]? = some (.cells #[.slice A l.length c0, .int .i16 s0, .int .i16 s1, .int .i16 s2, .int .i16 s3, .bool tap] 29 (0, 0))) (hr0 : Kd.C (Kd.int .i16) w A l.length l) (hc0 : l.length ≤ c0) (hf : 0 ≤ fr ∧ fr < 4) (ht : 0 ≤ tt ∧ tt < 4) (hlf : fr < l.length) (hl : tt < l.length) (hL : l.length ≤ 4) (hne : fr ≠ tt) (hw0 : 0 ≤ w0 ∧ w0 < 32768) (hw1 : 0 ≤ w1 ∧ w1 < 32768) (hw2 : 0 ≤ w2 ∧ w2 < 32768) (hw3 : 0 ≤ w3 ∧ w3 < 32768) :
    Calls Try.prog 76 #[.pointer (some ⟨g0, 0, none⟩), .agg #[.int .i16 w0, .int .i16 w1, .int .i16 w2, .int .i16 w3], .agg #[.int .i8 0, .int .i8 fr, .int .i8 tt]] w
      fun e w' => e = .returned (.tuple #[.agg #[.int .i16 (stR (mvP l w0 w1 w2 w3 fr tt) w0 w1 w2 w3).1, .int .i16 (stR (mvP l w0 w1 w2 w3 fr tt) w0 w1 w2 w3).2.1, .int .i16 (stR (mvP l w0 w1 w2 w3 fr tt) w0 w1 w2 w3).2.2.1, .int .i16 (stR (mvP l w0 w1 w2 w3 fr tt) w0 w1 w2 w3).2.2.2.1], .int .i64 (stR (mvP l w0 w1 w2 w3 fr tt) w0 w1 w2 w3).2.2.2.2]) ∧ Below w.heap.size w w' := by
  have hu29 := Try.underlying29
  have hu27 := Try.underlying27
  have hu80 := Try.underlying80
  obtain ⟨ad, eA, hx⟩ := Kd.at_int hr0 tt ht.1 hl
  cases eA
  have hlt := zfb hb0
  have HW := za.mk (And.intro hw0 (And.intro hw1 (And.intro hw2 hw3)))
  clear hw0 hw1 hw2 hw3
  have HI1 := za.mk (zwb hf.1 hlf hL)
  have HI2 := za.mk (zwb ht.1 hl hL)
  clear hL
  have HMN := za.mk (min_some (wrap64 (rd4 w0 w1 w2 w3 fr)) (wrap64 (IntKind.i16.wrap (rd l tt - rd4 w0 w1 w2 w3 tt))))
  have HPE : za (∀ r P, spec_l00Min.f (wrap64 (rd4 w0 w1 w2 w3 fr)) (wrap64 (IntKind.i16.wrap (rd l tt - rd4 w0 w1 w2 w3 tt))) = some r → P = IntKind.i16.wrap r → mvP l w0 w1 w2 w3 fr tt = st4 (st4 w0 w1 w2 w3 fr (IntKind.i16.wrap (rd4 w0 w1 w2 w3 fr - P))).1 (st4 w0 w1 w2 w3 fr (IntKind.i16.wrap (rd4 w0 w1 w2 w3 fr - P))).2.1 (st4 w0 w1 w2 w3 fr (IntKind.i16.wrap (rd4 w0 w1 w2 w3 fr - P))).2.2.1 (st4 w0 w1 w2 w3 fr (IntKind.i16.wrap (rd4 w0 w1 w2 w3 fr - P))).2.2.2 tt (IntKind.i16.wrap (rd4 (st4 w0 w1 w2 w3 fr (IntKind.i16.wrap (rd4 w0 w1 w2 w3 fr - P))).1 (st4 w0 w1 w2 w3 fr (IntKind.i16.wrap (rd4 w0 w1 w2 w3 fr - P))).2.1 (st4 w0 w1 w2 w3 fr (IntKind.i16.wrap (rd4 w0 w1 w2 w3 fr - P))).2.2.1 (st4 w0 w1 w2 w3 fr (IntKind.i16.wrap (rd4 w0 w1 w2 w3 fr - P))).2.2.2 tt + P))) :=
    ⟨fun r P h1 h2 => mvPe (part_eq (rd4_r HW.out.1 HW.out.2.1 HW.out.2.2.1 HW.out.2.2.2 hf) h1 h2)⟩
  rcases (show fr = 0 ∨ fr = 1 ∨ fr = 2 ∨ fr = 3 by omega) with rfl | rfl | rfl | rfl <;> rcases (show tt = 0 ∨ tt = 1 ∨ tt = 2 ∨ tt = 3 by omega) with rfl | rfl | rfl | rfl
  all_goals (try exact absurd rfl hne)
  all_goals
    simp only [r40, r41, r42, r43, s40, s41, s42, s43] at HMN HPE
    go_enter Try.func76, Try.ntmps76
    go_upto_region 1 with (fail)
    generalize hW1 : World.alloc _ _ = W1
    have H4 := thr4e hW1
    have H5 := thr5e hW1
    have H6 := thr6e hW1
    have HB := zdf hW1
    have HZ := zye hW1
    clear hW1
    have H0 := zca hb0 HB
    have hx1 := (HB.cell (World.block_lt_of_cell? w _ hx)).trans hx
    simp [Addr.add] at hx1
    have a00 := k6_0 H0
    obtain ⟨a40, a41, a42, a43⟩ := k4_c H4
    obtain ⟨a50, a51, a52⟩ := k3_c H5
    have HA := za.mk (And.intro H0 (And.intro H4 (And.intro H5 (And.intro H6 (And.intro HB HZ)))))
    clear H0 H4 H5 H6 HB HZ hb0 hx hr0
    go_upto_region 6 with (first
      | (go_at_call 103
         (with_reducible refine (spec_l00In.calls _ _ _ true _ ?hh).mono ?_)
         (case hh => first | exact HI1.out | exact HI2.out | exact zxc (by decide) (by decide))
         rintro e w' ⟨rfl, ⟨nd, rfl⟩⟩)
      | go_in)
    generalize hW2 : World.drewN _ _ = W2
    have G0 := zyb hW2 HA.out.1
    have G4 := zyb hW2 HA.out.2.1
    have G5 := zyb hW2 HA.out.2.2.1
    have G6 := zyb hW2 HA.out.2.2.2.1
    have GB := zde hW2 HA.out.2.2.2.2.1
    have GZ := dr_size hW2 HA.out.2.2.2.2.2
    have hx2 := dr_cell hW2 hx1
    clear hW2 hx1 a00 a40 a41 a42 a43 a50 a51 a52
    have a00 := k6_0 G0
    obtain ⟨a40, a41, a42, a43⟩ := k4_c G4
    obtain ⟨a50, a51, a52⟩ := k3_c G5
    have GA := za.mk (And.intro G0 (And.intro G4 (And.intro G5 (And.intro G6 (And.intro GB GZ)))))
    clear G0 G4 G5 G6 GB GZ HA
    go_upto_region 7 with (fail)
    generalize hW3 : World.alloc _ _ = W3
    rw [GA.out.2.2.2.2.2]
    have K0 := zjc hW3 GA.out.1
    have K4 := zjc hW3 GA.out.2.1
    have K5 := zjc hW3 GA.out.2.2.1
    have K6 := zjc hW3 GA.out.2.2.2.1
    have K9 := al_new hW3 GA.out.2.2.2.2.2
    have KB := al_below hW3 GA.out.2.2.2.2.1
    have hx3 := al_cell hW3 hx2
    clear hW3 hx2 a00 a40 a41 a42 a43 a50 a51 a52
    have a00 := k6_0 K0
    obtain ⟨a40, a41, a42, a43⟩ := k4_c K4
    obtain ⟨a50, a51, a52⟩ := k3_c K5
    obtain ⟨a90, a91, a92, a93⟩ := k4_c K9
    obtain ⟨f90, f91, f92, f93⟩ := kf_c K9
    have KA := za.mk (And.intro K0 (And.intro K4 (And.intro K5 (And.intro K6 (And.intro K9 KB)))))
    clear K0 K4 K5 K6 K9 KB GA
    go_upto_region 9 with (fail)
    obtain ⟨r, hr⟩ := HMN.out
    have HR := za.mk hr
    clear hr HMN
    go_quiet ((go_at_call 104; exact Calls.quiet_of ((spec_l00Min.calls _ _ r _ HR.out).mono fun _ _ ⟨he, ⟨nd, hd⟩⟩ => ⟨he, nd, hd⟩)))
    obtain ⟨P, hP⟩ : ∃ P, P = IntKind.i16.wrap r := ⟨_, rfl⟩
    rw [← hP]
    have HP := za.mk hP
    clear hP
    generalize hW4 : World.drewN _ _ = W4
    have L4 := zyb hW4 KA.out.2.1
    have L5 := zyb hW4 KA.out.2.2.1
    have L6 := zyb hW4 KA.out.2.2.2.1
    have L9 := zyb hW4 KA.out.2.2.2.2.1
    have LB := zde hW4 KA.out.2.2.2.2.2
    clear hW4 hx3 a90 a91 a92 a93 f90 f91 f92 f93 a00 a40 a41 a42 a43 a50 a51 a52
    obtain ⟨a50, a51, a52⟩ := k3_c L5
    obtain ⟨a90, a91, a92, a93⟩ := k4_c L9
    obtain ⟨f90, f91, f92, f93⟩ := kf_c L9
    have LA := za.mk (And.intro L4 (And.intro L6 (And.intro L9 LB)))
    clear L4 L5 L6 L9 LB KA
    go_upto_region 16 with (fail)
    obtain ⟨a40, a41, a42, a43⟩ := k4_c LA.out.1
    obtain ⟨a60, a61, a62, a63⟩ := k4_c LA.out.2.1
    obtain ⟨f60, f61, f62, f63⟩ := kf_c LA.out.2.1
    go_wp2
    all_goals
      rename_i h
      have hx := HPE.out _ _ HR.out HP.out
      have L6 := LA.out.2.1
      have LB := LA.out.2.2.2
      clear HR HP
      refine bodyPost_ret (zha rfl _ _ (w.heap.size + 1 + 1) 27 _ (0, 0) _ rfl (zla L6 (ne23 _) _ _ _ _ _ _ _ _) Try.underlying27 rfl (zeb _ _ _ _)) rfl ?_
      refine ⟨ends5 ?_, by with_reducible repeat (first | refine zt ?_ (le3 _) | refine zt ?_ (le2 _) | exact LB)⟩
      first | exact stR_diff hx (by rcases h with h | h <;> simp [h]) | exact stR_same hx (by simp [h.1, h.2])
end Go.Proofs.Yteciomagemjjaaa.J
