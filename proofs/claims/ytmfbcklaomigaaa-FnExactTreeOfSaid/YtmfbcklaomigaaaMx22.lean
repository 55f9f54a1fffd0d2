-- Written by wip/tools/myprint.py.
import Derived.Test.YtmfbcklaomigaaaMx0
import Derived.Test.YtmfbcklaomigaaaLLoad
import Derived.Test.YtmfbcklaomigaaaMx1
import Derived.Test.YtmfbcklaomigaaaMx13
namespace Go.Proofs.Ytmfbcklaomigaaa.M
open Go.RowKit Go.Proofs.YtmfbcklaomigaaaW.PrintWords Go.Proofs.YtmfbcklaomigaaaW.PrintLast Go.Proofs.YtmfbcklaomigaaaW.PrintMore
attribute [local go_sem] zrb zqb zkc zhc zlb zkb ztb zub
set_option linter.unusedVariables false
set_option linter.unusedSimpArgs false
attribute [local go_sem high] eqA43
def spec_l04Decode.l0 : Nat → List (S38) → Int → Int → Int → List (S43) → Int → Int → Int → Int → Option (Int × Bool × Bool)
 | 0, _, _, _, _, _, _, _, _, _ => none
 | k + 1, x6, x7, x1000, x1001, x1002, x295000, x295001, x295002, x295003 => if x7 < (x6.length : Int) then (if 0 ≤ x7 then ((spec_l04Seen.f k x1000 x1001 x1002 ((zha x6 x7).f0) ((zha x6 x7).f1)).bind fun bt300 => (if (bt300.1 == x295000 && (bt300.2.1 == x295001 && (bt300.2.2.1 == x295002 && (bt300.2.2.2 == x295003)))) = true then (some ((zha x6 x7).f0, (zha x6 x7).f1, true)) else (spec_l04Decode.l0 k x6 (wrap64 (x7 + 1)) x1000 x1001 x1002 x295000 x295001 x295002 x295003))) else (none)) else (some (0, false, false))
def spec_l04Decode.f (k : Nat) (a0_0 : Int) (a0_1 : Int) (l0_2 : List (S43)) (a1_0 : Int) (a1_1 : Int) (a1_2 : Int) (a1_3 : Int) : Option (Int × Bool × Bool) := (spec_l04Cases.f k a0_0 a0_1 l0_2).bind fun t296 => (spec_l04Decode.l0 k t296 0 a0_0 a0_1 l0_2 a1_0 a1_1 a1_2 a1_3)
def spec_l04Decode.T5 : Bool × List (List Nat × List Nat) := (true, [([], []), ([], []), ([], []), ([1, 2], [1, 2]), ([3], [3]), ([0, 4], [0, 4]), ([], []), ([5, 6], [5, 6])])
def spec_l04Decode.B5 : List Nat := [0, 0, 0, 6, 14, 31, 0, 127]
theorem spec_l04Decode.tab5 : rtab .any (zqe Try.f71 5) = spec_l04Decode.T5 := by kernel_rfl
theorem spec_l04Decode.bits5 : zgb spec_l04Decode.T5.2 spec_l04Decode.B5 = true := by kernel_rfl
set_option maxHeartbeats 8000000 in
set_option maxRecDepth 100000 in
theorem spec_l04Decode.calls (k : Nat) (g0 : Nat) (a0_0 : Int) (a0_1 : Int) (A0_2 : Option Addr) (c0_2 : Nat) (l0_2 : List (S43)) (a1_0 : Int) (a1_1 : Int) (a1_2 : Int) (a1_3 : Int) (r1 : Int) (r2 : Bool) (r3 : Bool) (w : World) (hb0 : w.heap[g0]? = some (.cells #[.int .i8 a0_0, .int .i8 a0_1, .slice A0_2 l0_2.length c0_2] 28 (0, 0))) (hr0_2 : Kd.C k43 w A0_2 l0_2.length l0_2) (hc0_2 : l0_2.length ≤ c0_2) (h : spec_l04Decode.f k a0_0 a0_1 l0_2 a1_0 a1_1 a1_2 a1_3 = some (r1, r2, r3)) :
  Calls Try.prog 71 #[.pointer (some ⟨g0, 0, none⟩), .agg #[.int .i8 a1_0, .int .i8 a1_1, .int .i8 a1_2, .int .i8 a1_3]] w fun e w' => e = .returned (.tuple #[.agg #[.int .i8 r1, .bool r2], .bool r3]) ∧ Below w.heap.size w w' := by
 have hu43 := Try.underlying43
 have hu38 := Try.underlying38
 have HR0_2 := ze.mk hr0_2
 have HC0_2 := ze.mk hc0_2
 clear hr0_2 hc0_2
 have BK0 := ze.mk hb0
 clear hb0
 have HB := ze.mk (Below.refl w.heap.size w)
 have H : ((spec_l04Cases.f k a0_0 a0_1 l0_2).bind fun t296 => (spec_l04Decode.l0 k t296 0 a0_0 a0_1 l0_2 a1_0 a1_1 a1_2 a1_3)) = some (r1, r2, r3) := h
 clear h
 replace H := Option.bind_eq_some_iff.mp H
 obtain ⟨t296, A30, H⟩ := H
 replace H : (spec_l04Decode.l0 k t296 0 a0_0 a0_1 l0_2 a1_0 a1_1 a1_2 a1_3) = some (r1, r2, r3) := H
 have A3 := ze.mk A30
 clear A30
 have H' := ze.mk H
 clear H
 go_enter Try.func71, Try.ntmps71
 go_wp2_with (first | ((with_reducible refine zu (N := 3) rfl ?_); refine zr ?hg (N := 3) ?hd (cs := #[.int .i8 a1_0, .int .i8 a1_1, .int .i8 a1_2, .int .i8 a1_3]) (t := 43) ?hr ?_; (case hd => rfl); (case hg => rfl); (case hr => first | (go_simp; done) | (go_simp; rfl)); intro gb294 hg w4 hbox hb; have n0_ := ze.mk (zk (g := g0) (o := .cells #[.int .i8 a0_0, .int .i8 a0_1, .slice A0_2 l0_2.length c0_2] 28 (0, 0)) (by (with_reducible repeat (first | refine zb ?_ _ | refine zd ?_ | refine za ?_ _)); exact BK0.out) hb); obtain ⟨n1_, n3_⟩ := bx (by repeat (first | (with_reducible first | exact HB.out | apply zg | apply zc | apply zf) | exact HB.out)) hb hg; have n2_ := ze.mk (hbox); have n4_ := n3_; have n5_ := ze.mk ((by rw [hg]; exact Nat.ne_of_lt (zba (g := g0) (o := .cells #[.int .i8 a0_0, .int .i8 a0_1, .slice A0_2 l0_2.length c0_2] 28 (0, 0)) (by (with_reducible repeat (first | refine zb ?_ _ | refine zd ?_ | refine za ?_ _)); exact BK0.out)) : g0 ≠ gb294)); have n6_ := ze.mk ((by rw [hg]; exact Nat.ne_of_gt (zba (g := g0) (o := .cells #[.int .i8 a0_0, .int .i8 a0_1, .slice A0_2 l0_2.length c0_2] 28 (0, 0)) (by (with_reducible repeat (first | refine zb ?_ _ | refine zd ?_ | refine za ?_ _)); exact BK0.out)) : gb294 ≠ g0)); clear BK0; clear HB; have BK0 := n0_; have HB := n1_; have BK294 := n2_; have GW294 := n3_; have GE294 := n4_; have NB0_294 := n5_; have NB294_0 := n6_; clear n0_ n1_ n2_ n3_ n4_ n5_ n6_; clear hb hbox hg) | ((with_reducible refine zu (N := 4) rfl ?_); refine zr ?hg (N := 4) ?hd (cs := #[.int .i8 0, .bool false]) (t := 38) ?hr ?_; (case hd => rfl); (case hg => rfl); (case hr => first | (go_simp; done) | (go_simp; rfl)); intro gb295 hg w5 hbox hb; have n0_ := ze.mk (zk (g := g0) (o := .cells #[.int .i8 a0_0, .int .i8 a0_1, .slice A0_2 l0_2.length c0_2] 28 (0, 0)) (by (with_reducible repeat (first | refine zb ?_ _ | refine zd ?_ | refine za ?_ _)); exact BK0.out) hb); have n1_ := ze.mk (zk (by (with_reducible repeat (first | refine zb ?_ _ | refine zd ?_ | refine za ?_ _)); exact BK294.out) hb); obtain ⟨n2_, n4_⟩ := bx (by repeat (first | (with_reducible first | exact HB.out | apply zg | apply zc | apply zf | refine zi ?_ GE294.out) | exact HB.out)) hb hg; have n3_ := ze.mk (hbox); have n5_ := n4_; have n6_ := ze.mk ((by rw [hg]; exact Nat.ne_of_lt (zba (g := g0) (o := .cells #[.int .i8 a0_0, .int .i8 a0_1, .slice A0_2 l0_2.length c0_2] 28 (0, 0)) (by (with_reducible repeat (first | refine zb ?_ _ | refine zd ?_ | refine za ?_ _)); exact BK0.out)) : g0 ≠ gb295)); have n7_ := ze.mk ((by rw [hg]; exact Nat.ne_of_gt (zba (g := g0) (o := .cells #[.int .i8 a0_0, .int .i8 a0_1, .slice A0_2 l0_2.length c0_2] 28 (0, 0)) (by (with_reducible repeat (first | refine zb ?_ _ | refine zd ?_ | refine za ?_ _)); exact BK0.out)) : gb295 ≠ g0)); have n8_ := ze.mk ((by rw [hg]; exact Nat.ne_of_lt (zba (by (with_reducible repeat (first | refine zb ?_ _ | refine zd ?_ | refine za ?_ _)); exact BK294.out)) : gb294 ≠ gb295)); have n9_ := ze.mk n8_.out.symm; clear BK0; clear BK294; clear HB; have BK0 := n0_; have BK294 := n1_; have HB := n2_; have BK295 := n3_; have GW295 := n4_; have GE295 := n5_; have NB0_295 := n6_; have NB295_0 := n7_; have NB294_295 := n8_; have NB295_294 := n9_; clear n0_ n1_ n2_ n3_ n4_ n5_ n6_ n7_ n8_ n9_; clear hb hbox hg) | ((with_reducible refine zs (f := 81) rfl ?_); refine zda (some 9) rfl rfl Try.func81 (by kernel_rfl) rfl #[.pointer (some ⟨g0, 0, none⟩)] rfl (by (try simp only [List.map_toArray, List.map_cons, List.map_nil]); first | done | rfl | (simp only [List.length_drop, List.length_take]; rfl)) ?_; (with_reducible refine (spec_l04Cases.calls k g0 a0_0 a0_1 A0_2 c0_2 l0_2 t296 _ ?side1 ?side2 ?side3 A3.out).mono ?_); (case side1 => (with_reducible repeat (first | refine zb ?_ _ | refine zd ?_ | refine za ?_ _)); exact BK0.out); (case side2 => repeat (first | exact (Kd.C_below HR0_2.out HB.out) | (with_reducible refine Kd.C_alloc ?_ _) | (with_reducible refine Kd.C_drewN ?_ _) | (with_reducible refine Kd.C_drew ?_))); (case side3 => exact HC0_2.out); rintro e w6 ⟨v297, rfl, ho0, hb⟩; refine ⟨_, rfl, ?_⟩; have n0_ := ze.mk (Kd.R_lower (Kd.R_newB ho0 (g := gb295) (o := .cells #[.int .i8 0, .bool false] 38 (0, 0)) (by (with_reducible repeat (first | refine zb ?_ _ | refine zd ?_ | refine za ?_ _)); exact BK295.out)) (zaa (by repeat (first | (with_reducible first | exact HB.out | apply zg | apply zc | apply zf | refine zi ?_ GE294.out | refine zi ?_ GE295.out) | exact HB.out)))); have n1_ := ze.mk (zk (g := g0) (o := .cells #[.int .i8 a0_0, .int .i8 a0_1, .slice A0_2 l0_2.length c0_2] 28 (0, 0)) (by (with_reducible repeat (first | refine zb ?_ _ | refine zd ?_ | refine za ?_ _)); exact BK0.out) hb); have n2_ := ze.mk (zk (by (with_reducible repeat (first | refine zb ?_ _ | refine zd ?_ | refine za ?_ _)); exact BK294.out) hb); have n3_ := ze.mk (zk (by (with_reducible repeat (first | refine zb ?_ _ | refine zd ?_ | refine za ?_ _)); exact BK295.out) hb); have n4_ := ze.mk (zt (by repeat (first | (with_reducible first | exact HB.out | apply zg | apply zc | apply zf | refine zi ?_ GE294.out | refine zi ?_ GE295.out) | exact HB.out)) hb); clear BK0; clear BK294; clear BK295; clear HB; have HO298 := n0_; have BK0 := n1_; have BK294 := n2_; have BK295 := n3_; have HB := n4_; clear n0_ n1_ n2_ n3_ n4_; (try clear hb); (try clear hb2); (try clear hk); (try clear hi); (try clear ho0)))
 go_loopg [7] k (fun kq v7 w' => ∃ (x7_1 : Int) (x1000_1 : Int) (x1001_1 : Int) (x296000_1 : Int) (x296001_1 : Bool), v7 = .int .i64 x7_1 ∧ ze (spec_l04Decode.l0 kq t296 x7_1 x1000_1 x1001_1 l0_2 a1_0 a1_1 a1_2 a1_3 = some (r1, r2, r3)) ∧ ze (kq ≤ k) ∧ ze (Kd.R k38 38 w' w.heap.size (fun k_ => k_ ≠ gb295) v297 t296) ∧ ze (w'.heap[g0]? = some (.cells #[.int .i8 x1000_1, .int .i8 x1001_1, (.slice A0_2 l0_2.length c0_2)] 28 (0, 0))) ∧ ze (w'.heap[gb294]? = some (.cells #[.int .i8 a1_0, .int .i8 a1_1, .int .i8 a1_2, .int .i8 a1_3] 43 (0, 0))) ∧ ze (w'.heap[gb295]? = some (.cells #[.int .i8 x296000_1, .bool x296001_1] 38 (0, 0))) ∧ ze (Below w.heap.size w w'))
 case atStart => exact ⟨(0), (a0_0), (a0_1), (0), (false), (by first | rfl | (simp; done) | (simp [*]; done)), H', ⟨Nat.le_refl _⟩, ⟨by (with_reducible repeat (first | apply Kd.R_alloc | apply Kd.R_drewN | apply Kd.R_drew)); exact Kd.R_mono HO298.out (fun _ hk => hk.2)⟩, ⟨by (with_reducible repeat (first | refine zb ?_ _ | refine zd ?_ | refine za ?_ _)); exact BK0.out⟩, ⟨by (with_reducible repeat (first | refine zb ?_ _ | refine zd ?_ | refine za ?_ _)); exact BK294.out⟩, ⟨by (with_reducible repeat (first | refine zb ?_ _ | refine zd ?_ | refine za ?_ _)); exact BK295.out⟩, ⟨by repeat (first | (with_reducible first | exact HB.out | apply zg | apply zc | apply zf | refine zi ?_ GE294.out | refine zi ?_ GE295.out) | exact HB.out)⟩⟩
 case round =>
  clear H'
  try clear p2
  obtain ⟨x7_1, x1000_1, x1001_1, x296000_1, x296001_1, rfl, HA, HK1, HO_6, BK0, BK294, BK295, HB⟩ := hrel
  cases gk with
  | zero => exact absurd HA.out (by simp [spec_l04Decode.l0])
  | succ k1 =>
   have H := HA.out
   clear HA
   simp only [spec_l04Decode.l0] at H
   by_cases c7 : x7_1 < (t296.length : Int)
   ·rw [if_pos c7] at H
    have c7b0 : decide (x7_1 < (t296.length : Int)) = true := decide_eq_true c7
    clear c7
    by_cases c8 : 0 ≤ x7_1
    ·rw [if_pos c8] at H
     have c8b0 : decide (0 ≤ x7_1) = true := decide_eq_true c8
     clear c8
     replace H := Option.bind_eq_some_iff.mp H
     obtain ⟨⟨t300, t301, t302, t303⟩, A90, H⟩ := H
     replace H : (if (t300 == a1_0 && (t301 == a1_1 && (t302 == a1_2 && (t303 == a1_3)))) = true then (some ((zha t296 x7_1).f0, (zha t296 x7_1).f1, true)) else (spec_l04Decode.l0 k1 t296 (wrap64 (x7_1 + 1)) x1000_1 x1001_1 l0_2 a1_0 a1_1 a1_2 a1_3)) = some (r1, r2, r3) := H
     have A9 := ze.mk A90
     clear A90
     by_cases c10 : (t300 == a1_0 && (t301 == a1_1 && (t302 == a1_2 && (t303 == a1_3)))) = true
     ·rw [if_pos c10] at H
      have c10b0 : (t300 == a1_0 && (t301 == a1_1 && (t302 == a1_2 && (t303 == a1_3)))) = true := c10
      (try (have c10b1 : decide (t300 = a1_0 && (t301 == a1_1 && (t302 == a1_2 && (t303 == a1_3)))) = true := by simpa using c10))
      (try (have c10b2 : (t300 == a1_0 && (t301 == a1_1 && (t302 == a1_2 && (t303 == a1_3)))) = true := by simpa using c10))
      clear c10
      simp only [Option.some.injEq, Prod.mk.injEq] at H
      obtain ⟨rfl, rfl, rfl⟩ := H
      obtain ⟨Ao11, co11, eo11⟩ := Kd.R_slice HO_6.out
      subst eo11
      try go_wp2
      have n0_ := ze.mk (Kd.R_drew HO_6.out)
      have n1_ := ze.mk (zd BK0.out)
      have n2_ := ze.mk (zd BK294.out)
      have n3_ := ze.mk (zd BK295.out)
      have n4_ := ze.mk (zf HB.out)
      clear HO_6
      clear BK0
      clear BK294
      clear BK295
      clear HB
      have HO_6 := n0_
      have BK0 := n1_
      have BK294 := n2_
      have BK295 := n3_
      have HB := n4_
      clear n0_ n1_ n2_ n3_ n4_
      have p299 : 0 ≤ (x7_1 : Int) := od (by first | (with_reducible assumption) | assumption)
      have q299 : x7_1 < (t296.length : Int) := od (by first | (with_reducible assumption) | assumption)
      obtain ⟨ad299, e299, u1_0, u1_1⟩ := zne (Kd.R_reads' HO_6.out).2.2 x7_1 p299 q299
      cases e299
      replace p299 := eq_true p299
      replace q299 := eq_true q299
      refine zfb (n := 8) (S := fun w' => w'.cell? ⟨gb294, 0, none⟩ = some (.int .i8 a1_0) ∧ w'.cell? ⟨gb294, 1, none⟩ = some (.int .i8 a1_1) ∧ w'.cell? ⟨gb294, 2, none⟩ = some (.int .i8 a1_2) ∧ w'.cell? ⟨gb294, 3, none⟩ = some (.int .i8 a1_3) ∧ w'.cell? (ad299.add ((x7_1).toNat * 2)) = some (.int .i8 ((zha t296 x7_1).f0)) ∧ w'.cell? ⟨(ad299.add ((x7_1).toNat * 2)).block, (ad299.add ((x7_1).toNat * 2)).off + 1, none⟩ = some (.bool ((zha t296 x7_1).f1))) (ds := []) (fm 8 0) (by kernel_rfl) rfl rfl ⟨(zo BK294.out 0).trans rfl, (zo BK294.out 1).trans rfl, (zo BK294.out 2).trans rfl, (zo BK294.out 3).trans rfl, u1_0, u1_1⟩ (fun hHeld => ?_); refine zoa spec_l04Decode.tab5 spec_l04Decode.bits5 (fun HT_ HW_ => ?_)
      generalize wr.drew = w12 at HO_6 BK0 BK294 BK295 HB u1_0 u1_1 hHeld ⊢
      refine pb 0 16 (fm 8 1) rfl rfl HT_.out (by kernel_rfl) pq (by rfl) (by intro w'; go_simp; with_reducible rfl) (by simp only [Act.put, ea, eb, ec, zy, zz]; rfl) ?_
      refine pb 1 17 (fm 8 2) rfl rfl HT_.out (by kernel_rfl) pq (by rfl) (by intro w'; go_simp; with_reducible rfl) (by simp only [Act.put, ea, eb, ec, zy, zz]; rfl) ?_
      refine pb 2 18 (fm 8 3) rfl rfl HT_.out (by kernel_rfl) pq (by rfl) (by intro w'; go_simp; with_reducible rfl) (by simp only [Act.put, ea, eb, ec, zy, zz]; rfl) ?_
      refine pb 3 19 (fm 8 4) rfl rfl HT_.out (by kernel_rfl) pq (by rfl) (by intro w'; go_simp; with_reducible rfl) (by simp only [Act.put, ea, eb, ec, zy, zz]; rfl) ?_
      refine take_ (i := 4) (N := some 20) (v := ?_) (a' := ?_) (fm 8 5) rfl rfl (zka HT_.out HW_.out (by kernel_rfl)) (fun _ _ _ h => h) (Or.inl ⟨by rfl, ?_⟩) hHeld ?_ ?_
      rotate_left
      ·rintro w' ⟨s0, s1, s2, s3, s4, s5⟩
       go_simp
       with_reducible rfl
      rotate_left
      ·simp only [Act.put, List.setIfInBounds_toArray, List.set_cons_zero, List.set_cons_succ, zy, zz]
       rfl
      refine take_ (i := 6) (N := some 22) (v := ?_) (a' := ?_) #[T, T, T, T, T, F, T, F] rfl rfl (zka HT_.out HW_.out (by kernel_rfl)) (fun _ _ _ h => h) (Or.inl ⟨by rfl, ?_⟩) hHeld ?_ ?_
      rotate_left
      ·rintro w' ⟨s0, s1, s2, s3, s4, s5⟩
       go_simp
       with_reducible rfl
      rotate_left
      ·simp only [Act.put, List.setIfInBounds_toArray, List.set_cons_zero, List.set_cons_succ, zy, zz]
       rfl
      refine one_ (i := 5) (N := some 21) (fm 8 7) rfl rfl (zta HT_.out (by kernel_rfl)) (by decide) (fun K hK => ?_)
      refine zdb Try.func77 (by kernel_rfl) rfl #[.pointer (some ⟨g0, 0, none⟩), .agg #[.int .i8 ((zha t296 x7_1).f0), .bool ((zha t296 x7_1).f1)]] (by rfl) rfl rfl (by (try simp only [List.map_toArray, List.map_cons, List.map_nil]); first | done | rfl | (simp only [List.length_drop, List.length_take]; rfl)) ?_
      with_reducible refine (spec_l04Seen.calls k1 g0 x1000_1 x1001_1 A0_2 c0_2 l0_2 ((zha t296 x7_1).f0) ((zha t296 x7_1).f1) t300 t301 t302 t303 _ ?side1 ?side2 ?side3 A9.out).mono ?_
      (case side1 => (with_reducible repeat (first | refine zb ?_ _ | refine zd ?_ | refine za ?_ _)); exact BK0.out)
      (case side2 => repeat (first | exact (Kd.C_below HR0_2.out HB.out) | (with_reducible refine Kd.C_alloc ?_ _) | (with_reducible refine Kd.C_drewN ?_ _) | (with_reducible refine Kd.C_drew ?_)))
      (case side3 => exact HC0_2.out)
      rintro e w13 ⟨rfl, hb⟩
      have HS4_ := (hb.cell (World.block_lt_of_cell? _ _ (hHeld.2.2.2.2.1))).trans (hHeld.2.2.2.2.1)
      have HS5_ := (hb.cell (World.block_lt_of_cell? _ _ (hHeld.2.2.2.2.2))).trans (hHeld.2.2.2.2.2)
      refine ⟨_, rfl, ?_⟩
      have n0_ := ze.mk (Kd.R_below (by (with_reducible repeat (first | apply Kd.R_alloc | apply Kd.R_drewN | apply Kd.R_drew)); exact HO_6.out) hb)
      have n1_ := ze.mk (zk (g := g0) (o := .cells #[.int .i8 x1000_1, .int .i8 x1001_1, .slice A0_2 l0_2.length c0_2] 28 (0, 0)) (by (with_reducible repeat (first | refine zb ?_ _ | refine zd ?_ | refine za ?_ _)); exact BK0.out) hb)
      have n2_ := ze.mk (zk (by (with_reducible repeat (first | refine zb ?_ _ | refine zd ?_ | refine za ?_ _)); exact BK294.out) hb)
      have n3_ := ze.mk (zk (by (with_reducible repeat (first | refine zb ?_ _ | refine zd ?_ | refine za ?_ _)); exact BK295.out) hb)
      have n4_ := ze.mk (zt (by repeat (first | (with_reducible first | exact HB.out | apply zg | apply zc | apply zf | refine zi ?_ GE294.out | refine zi ?_ GE295.out) | exact HB.out)) hb)
      clear HO_6
      clear BK0
      clear BK294
      clear BK295
      clear HB
      have HO_6 := n0_
      have BK0 := n1_
      have BK294 := n2_
      have BK295 := n3_
      have HB := n4_
      clear n0_ n1_ n2_ n3_ n4_
      (try clear hb)
      (try clear hb2)
      (try clear hk)
      (try clear hi)
      refine hK.out _ _ ⟨(zo BK294.out 0).trans rfl, (zo BK294.out 1).trans rfl, (zo BK294.out 2).trans rfl, (zo BK294.out 3).trans rfl, HS4_, HS5_⟩ (fun hHeld => ?_)
      clear hK K
      refine zpa (a' := ?_) ?_ ?_
      rotate_left
      ·show Act.put _ (some 21) _ = _
       simp only [Act.put, List.setIfInBounds_toArray, List.set_cons_zero, List.set_cons_succ, zy, zz]
       rfl
      refine pb 7 23 (fm 8 8) rfl rfl HT_.out (by kernel_rfl) pq (by rfl) (by intro w'; go_simp; with_reducible rfl) (by simp only [Act.put, ea, eb, ec, zy, zz]; rfl) ?_
      refine zxb (zcb HT_.out (by kernel_rfl)) ?_
      have p304 : 0 ≤ (x7_1 : Int) := od (by first | (with_reducible assumption) | assumption)
      have q304 : x7_1 < (t296.length : Int) := od (by first | (with_reducible assumption) | assumption)
      obtain ⟨ad304, e304, u2_0, u2_1⟩ := zne (Kd.R_reads' HO_6.out).2.2 x7_1 p304 q304
      obtain rfl : ad299 = ad304 := (by injection e304)
      replace p304 := eq_true p304
      replace q304 := eq_true q304
      have hnb14 := NB295_0.out
      have hnc14 := NB0_295.out
      have hnb15 := NB295_294.out
      have hnc15 := NB294_295.out
      obtain ⟨y1_0, y1_1, z1_0, z1_1⟩ := cf2 BK295.out
      try go_wp2
      refine bodyPost_ret (zcc rfl _ _ gb295 38 #[.int .i8 ((zha t296 x7_1).f0), .bool ((zha t296 x7_1).f1)] (0, 0) _ rfl (by (with_reducible repeat (first | refine zb ?_ _ | refine zd ?_ | refine za ?_ _)); refine zp (cs := #[.int .i8 ((zha t296 x7_1).f0), .bool x296001_1]) ?_ 1 _ rfl; (with_reducible repeat (first | refine zb ?_ _ | refine zd ?_ | refine za ?_ _)); refine zp (cs := #[.int .i8 x296000_1, .bool x296001_1]) ?_ 0 _ rfl; (with_reducible repeat (first | refine zb ?_ _ | refine zd ?_ | refine za ?_ _)); exact BK295.out) Try.underlying38 rfl (by kernel_rfl)) rfl ?_
      exact ⟨by first | rfl | (simp [zn, zm] <;> rfl) | (simp [*, zn, zm] <;> rfl), by repeat (first | (with_reducible first | exact HB.out | apply zg | apply zc | apply zf | refine zi ?_ GE294.out | refine zi ?_ GE295.out) | exact HB.out)⟩
     rw [if_neg c10] at H
     have c10b0 : (t300 == a1_0 && (t301 == a1_1 && (t302 == a1_2 && (t303 == a1_3)))) = false := by simpa using c10
     (try (have c10b1 : decide (t300 = a1_0 && (t301 == a1_1 && (t302 == a1_2 && (t303 == a1_3)))) = false := by simpa using c10))
     (try (have c10b2 : (t300 == a1_0 && (t301 == a1_1 && (t302 == a1_2 && (t303 == a1_3)))) = false := by simpa using c10))
     (try (have c10b3 : ¬ (t300 = a1_0 && (t301 == a1_1 && (t302 == a1_2 && (t303 == a1_3)))) := by simpa using c10))
     clear c10
     have H' := ze.mk H
     clear H
     obtain ⟨Ao17, co17, eo17⟩ := Kd.R_slice HO_6.out
     subst eo17
     try go_wp2
     have n0_ := ze.mk (Kd.R_drew HO_6.out)
     have n1_ := ze.mk (zd BK0.out)
     have n2_ := ze.mk (zd BK294.out)
     have n3_ := ze.mk (zd BK295.out)
     have n4_ := ze.mk (zf HB.out)
     clear HO_6
     clear BK0
     clear BK294
     clear BK295
     clear HB
     have HO_6 := n0_
     have BK0 := n1_
     have BK294 := n2_
     have BK295 := n3_
     have HB := n4_
     clear n0_ n1_ n2_ n3_ n4_
     have p299 : 0 ≤ (x7_1 : Int) := od (by first | (with_reducible assumption) | assumption)
     have q299 : x7_1 < (t296.length : Int) := od (by first | (with_reducible assumption) | assumption)
     obtain ⟨ad299, e299, u1_0, u1_1⟩ := zne (Kd.R_reads' HO_6.out).2.2 x7_1 p299 q299
     cases e299
     replace p299 := eq_true p299
     replace q299 := eq_true q299
     refine zfb (n := 8) (S := fun w' => w'.cell? ⟨gb294, 0, none⟩ = some (.int .i8 a1_0) ∧ w'.cell? ⟨gb294, 1, none⟩ = some (.int .i8 a1_1) ∧ w'.cell? ⟨gb294, 2, none⟩ = some (.int .i8 a1_2) ∧ w'.cell? ⟨gb294, 3, none⟩ = some (.int .i8 a1_3) ∧ w'.cell? (ad299.add ((x7_1).toNat * 2)) = some (.int .i8 ((zha t296 x7_1).f0)) ∧ w'.cell? ⟨(ad299.add ((x7_1).toNat * 2)).block, (ad299.add ((x7_1).toNat * 2)).off + 1, none⟩ = some (.bool ((zha t296 x7_1).f1))) (ds := []) (fm 8 0) (by kernel_rfl) rfl rfl ⟨(zo BK294.out 0).trans rfl, (zo BK294.out 1).trans rfl, (zo BK294.out 2).trans rfl, (zo BK294.out 3).trans rfl, u1_0, u1_1⟩ (fun hHeld => ?_); refine zoa spec_l04Decode.tab5 spec_l04Decode.bits5 (fun HT_ HW_ => ?_)
     generalize wr.drew = w18 at HO_6 BK0 BK294 BK295 HB u1_0 u1_1 hHeld ⊢
     refine pb 0 16 (fm 8 1) rfl rfl HT_.out (by kernel_rfl) pq (by rfl) (by intro w'; go_simp; with_reducible rfl) (by simp only [Act.put, ea, eb, ec, zy, zz]; rfl) ?_
     refine pb 1 17 (fm 8 2) rfl rfl HT_.out (by kernel_rfl) pq (by rfl) (by intro w'; go_simp; with_reducible rfl) (by simp only [Act.put, ea, eb, ec, zy, zz]; rfl) ?_
     refine pb 2 18 (fm 8 3) rfl rfl HT_.out (by kernel_rfl) pq (by rfl) (by intro w'; go_simp; with_reducible rfl) (by simp only [Act.put, ea, eb, ec, zy, zz]; rfl) ?_
     refine pb 3 19 (fm 8 4) rfl rfl HT_.out (by kernel_rfl) pq (by rfl) (by intro w'; go_simp; with_reducible rfl) (by simp only [Act.put, ea, eb, ec, zy, zz]; rfl) ?_
     refine take_ (i := 4) (N := some 20) (v := ?_) (a' := ?_) (fm 8 5) rfl rfl (zka HT_.out HW_.out (by kernel_rfl)) (fun _ _ _ h => h) (Or.inl ⟨by rfl, ?_⟩) hHeld ?_ ?_
     rotate_left
     ·rintro w' ⟨s0, s1, s2, s3, s4, s5⟩
      go_simp
      with_reducible rfl
     rotate_left
     ·simp only [Act.put, List.setIfInBounds_toArray, List.set_cons_zero, List.set_cons_succ, zy, zz]
      rfl
     refine take_ (i := 6) (N := some 22) (v := ?_) (a' := ?_) #[T, T, T, T, T, F, T, F] rfl rfl (zka HT_.out HW_.out (by kernel_rfl)) (fun _ _ _ h => h) (Or.inl ⟨by rfl, ?_⟩) hHeld ?_ ?_
     rotate_left
     ·rintro w' ⟨s0, s1, s2, s3, s4, s5⟩
      go_simp
      with_reducible rfl
     rotate_left
     ·simp only [Act.put, List.setIfInBounds_toArray, List.set_cons_zero, List.set_cons_succ, zy, zz]
      rfl
     refine one_ (i := 5) (N := some 21) (fm 8 7) rfl rfl (zta HT_.out (by kernel_rfl)) (by decide) (fun K hK => ?_)
     refine zdb Try.func77 (by kernel_rfl) rfl #[.pointer (some ⟨g0, 0, none⟩), .agg #[.int .i8 ((zha t296 x7_1).f0), .bool ((zha t296 x7_1).f1)]] (by rfl) rfl rfl (by (try simp only [List.map_toArray, List.map_cons, List.map_nil]); first | done | rfl | (simp only [List.length_drop, List.length_take]; rfl)) ?_
     with_reducible refine (spec_l04Seen.calls k1 g0 x1000_1 x1001_1 A0_2 c0_2 l0_2 ((zha t296 x7_1).f0) ((zha t296 x7_1).f1) t300 t301 t302 t303 _ ?side1 ?side2 ?side3 A9.out).mono ?_
     (case side1 => (with_reducible repeat (first | refine zb ?_ _ | refine zd ?_ | refine za ?_ _)); exact BK0.out)
     (case side2 => repeat (first | exact (Kd.C_below HR0_2.out HB.out) | (with_reducible refine Kd.C_alloc ?_ _) | (with_reducible refine Kd.C_drewN ?_ _) | (with_reducible refine Kd.C_drew ?_)))
     (case side3 => exact HC0_2.out)
     rintro e w19 ⟨rfl, hb⟩
     have HS4_ := (hb.cell (World.block_lt_of_cell? _ _ (hHeld.2.2.2.2.1))).trans (hHeld.2.2.2.2.1)
     have HS5_ := (hb.cell (World.block_lt_of_cell? _ _ (hHeld.2.2.2.2.2))).trans (hHeld.2.2.2.2.2)
     refine ⟨_, rfl, ?_⟩
     have n0_ := ze.mk (Kd.R_below (by (with_reducible repeat (first | apply Kd.R_alloc | apply Kd.R_drewN | apply Kd.R_drew)); exact HO_6.out) hb)
     have n1_ := ze.mk (zk (g := g0) (o := .cells #[.int .i8 x1000_1, .int .i8 x1001_1, .slice A0_2 l0_2.length c0_2] 28 (0, 0)) (by (with_reducible repeat (first | refine zb ?_ _ | refine zd ?_ | refine za ?_ _)); exact BK0.out) hb)
     have n2_ := ze.mk (zk (by (with_reducible repeat (first | refine zb ?_ _ | refine zd ?_ | refine za ?_ _)); exact BK294.out) hb)
     have n3_ := ze.mk (zk (by (with_reducible repeat (first | refine zb ?_ _ | refine zd ?_ | refine za ?_ _)); exact BK295.out) hb)
     have n4_ := ze.mk (zt (by repeat (first | (with_reducible first | exact HB.out | apply zg | apply zc | apply zf | refine zi ?_ GE294.out | refine zi ?_ GE295.out) | exact HB.out)) hb)
     clear HO_6
     clear BK0
     clear BK294
     clear BK295
     clear HB
     have HO_6 := n0_
     have BK0 := n1_
     have BK294 := n2_
     have BK295 := n3_
     have HB := n4_
     clear n0_ n1_ n2_ n3_ n4_
     (try clear hb)
     (try clear hb2)
     (try clear hk)
     (try clear hi)
     refine hK.out _ _ ⟨(zo BK294.out 0).trans rfl, (zo BK294.out 1).trans rfl, (zo BK294.out 2).trans rfl, (zo BK294.out 3).trans rfl, HS4_, HS5_⟩ (fun hHeld => ?_)
     clear hK K
     refine zpa (a' := ?_) ?_ ?_
     rotate_left
     ·show Act.put _ (some 21) _ = _
      simp only [Act.put, List.setIfInBounds_toArray, List.set_cons_zero, List.set_cons_succ, zy, zz]
      rfl
     refine pb 7 23 (fm 8 8) rfl rfl HT_.out (by kernel_rfl) pq (by rfl) (by intro w'; go_simp; with_reducible rfl) (by simp only [Act.put, ea, eb, ec, zy, zz]; rfl) ?_
     refine zxb (zcb HT_.out (by kernel_rfl)) ?_
     try go_wp2
     go_roundg k1
     case measure => have := HK1.out; omega
     case rel => exact ⟨(wrap64 (x7_1 + 1)), (x1000_1), (x1001_1), (x296000_1), (x296001_1), (by first | rfl | (simp; done) | (simp [*]; done)), H', ⟨by have := HK1.out; omega⟩, ⟨by (with_reducible repeat (first | apply Kd.R_alloc | apply Kd.R_drewN | apply Kd.R_drew)); exact HO_6.out⟩, ⟨by (with_reducible repeat (first | refine zb ?_ _ | refine zd ?_ | refine za ?_ _)); exact BK0.out⟩, ⟨by (with_reducible repeat (first | refine zb ?_ _ | refine zd ?_ | refine za ?_ _)); exact BK294.out⟩, ⟨by (with_reducible repeat (first | refine zb ?_ _ | refine zd ?_ | refine za ?_ _)); exact BK295.out⟩, ⟨by repeat (first | (with_reducible first | exact HB.out | apply zg | apply zc | apply zf | refine zi ?_ GE294.out | refine zi ?_ GE295.out) | exact HB.out)⟩⟩
    rw [if_neg c8] at H
    exact absurd H (by simp)
   rw [if_neg c7] at H
   have c7b0 : decide (x7_1 < (t296.length : Int)) = false := decide_eq_false c7
   clear c7
   simp only [Option.some.injEq, Prod.mk.injEq] at H
   obtain ⟨rfl, rfl, rfl⟩ := H
   obtain ⟨Ao20, co20, eo20⟩ := Kd.R_slice HO_6.out
   subst eo20
   have hnb21 := NB295_0.out
   have hnc21 := NB0_295.out
   have hnb22 := NB295_294.out
   have hnc22 := NB294_295.out
   obtain ⟨y2_0, y2_1, z2_0, z2_1⟩ := cf2 BK295.out
   go_wp2
   refine bodyPost_ret (zcc rfl _ _ gb295 38 #[.int .i8 0, .bool false] (0, 0) _ rfl (by (with_reducible repeat (first | refine zb ?_ _ | refine zd ?_ | refine za ?_ _)); refine zp (cs := #[.int .i8 0, .bool x296001_1]) ?_ 1 _ rfl; (with_reducible repeat (first | refine zb ?_ _ | refine zd ?_ | refine za ?_ _)); refine zp (cs := #[.int .i8 x296000_1, .bool x296001_1]) ?_ 0 _ rfl; (with_reducible repeat (first | refine zb ?_ _ | refine zd ?_ | refine za ?_ _)); exact BK295.out) Try.underlying38 rfl (by kernel_rfl)) rfl ?_
   exact ⟨by first | rfl | (simp [zn, zm] <;> rfl) | (simp [*, zn, zm] <;> rfl), by repeat (first | (with_reducible first | exact HB.out | apply zg | apply zc | apply zf | refine zi ?_ GE294.out | refine zi ?_ GE295.out) | exact HB.out)⟩
attribute [local go_sem high] eqA96
mutual
def spec_TreeOf.j1 : Nat → Bool → Int → Int → List (S43) → Option ((List (S102)) × Int)
 | 0, _, _, _, _ => none
 | k + 1, x4, x306000, x306001, x306002 => if x4 = true then (spec_TreeOf.l1 k (([] : List (S102))) 0 0 x306000 x306001 x306002) else (some ((([] : List (S102))), 4))
def spec_TreeOf.l1 : Nat → List (S102) → Int → Int → Int → Int → List (S43) → Option ((List (S102)) × Int)
 | 0, _, _, _, _, _, _ => none
 | k + 1, x6, x7, x8, x306000, x306001, x306002 => if x8 < (wrap64 (x306000)) then ((spec_l03Power.f k x8).bind fun t334 => (spec_TreeOf.l2 k x6 x8 (wrap64 (x7 + t334)) 0 x306000 x306001 x306002)) else (spec_TreeOf.l4 k x6 0 x306000 x306001 x306002)
def spec_TreeOf.l2 : Nat → List (S102) → Int → Int → Int → Int → Int → List (S43) → Option ((List (S102)) × Int)
 | 0, _, _, _, _, _, _, _ => none
 | k + 1, x6, x8, x9, x10, x306000, x306001, x306002 => (spec_l03Power.f k x8).bind fun t335 => (if x10 < t335 then ((spec_l04Pans.f k x306000 x306001 x306002 x8).bind fun bt336 => (spec_TreeOf.l3 k x6 x8 x9 x10 0 x306000 x306001 x306002 bt336.1 bt336.2.1 bt336.2.2.1 bt336.2.2.2.1 bt336.2.2.2.2.1 bt336.2.2.2.2.2.1 bt336.2.2.2.2.2.2.1 bt336.2.2.2.2.2.2.2.1 bt336.2.2.2.2.2.2.2.2.1 bt336.2.2.2.2.2.2.2.2.2.1 bt336.2.2.2.2.2.2.2.2.2.2.1 bt336.2.2.2.2.2.2.2.2.2.2.2.1 bt336.2.2.2.2.2.2.2.2.2.2.2.2.1 bt336.2.2.2.2.2.2.2.2.2.2.2.2.2 0 0 0 0 false false)) else (spec_TreeOf.l1 k x6 x9 (wrap64 (x8 + 1)) x306000 x306001 x306002))
def spec_TreeOf.l3 : Nat → List (S102) → Int → Int → Int → Int → Int → Int → List (S43) → Int → Int → Int → Int → Int → Int → Int → Int → Int → Int → Int → Int → Int → Int → Int → Int → Int → Int → Bool → Bool → Option ((List (S102)) × Int)
 | 0, _, _, _, _, _, _, _, _, _, _, _, _, _, _, _, _, _, _, _, _, _, _, _, _, _, _, _, _ => none
 | k + 1, x6, x8, x9, x10, x12, x306000, x306001, x306002, x351000, x351001, x351002, x351003, x351004, x351005, x351006, x351007, x351008, x351009, x351010, x351011, x351012, x351013, x351014, x351015, x351016, x351017, x351018, x351019 => if x12 < 3 then (if 0 ≤ x12 then (spec_TreeOf.l3 k x6 x8 x9 x10 (wrap64 (x12 + 1)) x306000 x306001 x306002 x351000 x351001 x351002 x351003 x351004 x351005 x351006 x351007 x351008 x351009 x351010 x351011 x351012 x351013 (zv x12 0 (IntKind.i16.wrap (wrap64 ((wrap64 (x9 + (wrap64 (3 * x10)))) + x12))) x351014) (zv x12 1 (IntKind.i16.wrap (wrap64 ((wrap64 (x9 + (wrap64 (3 * x10)))) + x12))) x351015) (zv x12 2 (IntKind.i16.wrap (wrap64 ((wrap64 (x9 + (wrap64 (3 * x10)))) + x12))) x351016) x351017 x351018 x351019) else (none)) else (if x6.length < 5864062014805 then (spec_TreeOf.l2 k (x6 ++ [(⟨(⟨x351000, x351001, x351002, x351003, x351004, x351005, x351006, x351007, x351008, x351009, x351010, x351011, x351012, x351013⟩ : S96), (⟨x351014, x351015, x351016⟩ : S100), (⟨x351017, x351018⟩ : S38), x351019⟩ : S102)]) x8 x9 (wrap64 (x10 + 1)) x306000 x306001 x306002) else (none))
def spec_TreeOf.l4 : Nat → List (S102) → Int → Int → Int → List (S43) → Option ((List (S102)) × Int)
 | 0, _, _, _, _, _ => none
 | k + 1, x6, x13, x306000, x306001, x306002 => (spec_l03Power.f k (wrap64 (x306000))).bind fun t356 => (if x13 < t356 then ((spec_l04At.f k (wrap64 (x306000)) x13).bind fun bt357 => ((spec_l04Decode.f k x306000 x306001 x306002 bt357.1 bt357.2.1 bt357.2.2.1 bt357.2.2.2).bind fun bt361 => (if bt361.2.2 = true then (if x6.length < 5864062014805 then (spec_TreeOf.l4 k (x6 ++ [(⟨(⟨0, 0, 0, 0, 0, 0, 0, 0, 0, 0, 0, 0, 0, 0⟩ : S96), (⟨0, 0, 0⟩ : S100), (⟨bt361.1, bt361.2.1⟩ : S38), true⟩ : S102)]) (wrap64 (x13 + 1)) x306000 x306001 x306002) else (none)) else (if x6.length < 5864062014805 then (spec_TreeOf.l4 k (x6 ++ [(⟨(⟨0, 0, 0, 0, 0, 0, 0, 0, 0, 0, 0, 0, 0, 0⟩ : S96), (⟨0, 0, 0⟩ : S100), (⟨(-1), false⟩ : S38), true⟩ : S102)]) (wrap64 (x13 + 1)) x306000 x306001 x306002) else (none))))) else (some (x6, 0)))
def spec_TreeOf.l0 : Nat → Bool → Int → Int → Int → List (S43) → Option ((List (S102)) × Int)
 | 0, _, _, _, _, _ => none
 | k + 1, x4, x5, x306000, x306001, x306002 => if x5 < (wrap64 (x306000)) then (if x4 = true then ((spec_l04Pans.f k x306000 x306001 x306002 x5).bind fun bt314 => (spec_TreeOf.l0 k (!(bt314.1 == 0) || (!(bt314.2.1 == 0) || (!(bt314.2.2.1 == 0) || (!(bt314.2.2.2.1 == 0) || (!(bt314.2.2.2.2.1 == 0) || (!(bt314.2.2.2.2.2.1 == 0) || (!(bt314.2.2.2.2.2.2.1 == 0) || (!(bt314.2.2.2.2.2.2.2.1 == 0) || (!(bt314.2.2.2.2.2.2.2.2.1 == 0) || (!(bt314.2.2.2.2.2.2.2.2.2.1 == 0) || (!(bt314.2.2.2.2.2.2.2.2.2.2.1 == 0) || (!(bt314.2.2.2.2.2.2.2.2.2.2.2.1 == 0) || (!(bt314.2.2.2.2.2.2.2.2.2.2.2.2.1 == 0) || (!(bt314.2.2.2.2.2.2.2.2.2.2.2.2.2 == 0))))))))))))))) (wrap64 (x5 + 1)) x306000 x306001 x306002)) else (spec_TreeOf.j1 k x4 x306000 x306001 x306002)) else (spec_TreeOf.j1 k x4 x306000 x306001 x306002)
end
def spec_TreeOf.f (k : Nat) (a0_0 : Int) (a0_1 : Int) (l0_2 : List (S43)) : Option ((List (S102)) × Int) := (spec_l04Ok.f k a0_0 a0_1 l0_2).bind fun t306 => (if t306 = true then (if (l0_2.length : Int) > 13 then (some ((([] : List (S102))), 2)) else ((spec_l04Balanced.f k a0_0 a0_1 l0_2).bind fun t313 => (spec_TreeOf.l0 k t313 0 a0_0 a0_1 l0_2))) else (some ((([] : List (S102))), 1)))
set_option maxHeartbeats 8000000 in
set_option maxRecDepth 100000 in
theorem spec_TreeOf.calls (k : Nat) (a0_0 : Int) (a0_1 : Int) (A0_2 : Option Addr) (c0_2 : Nat) (l0_2 : List (S43)) (r1 : List (S102)) (r2 : Int) (w : World) (hr0_2 : Kd.C k43 w A0_2 l0_2.length l0_2) (hc0_2 : l0_2.length ≤ c0_2) (h : spec_TreeOf.f k a0_0 a0_1 l0_2 = some (r1, r2)) :
  Calls Try.prog 22 #[.agg #[.int .i8 a0_0, .int .i8 a0_1, .slice A0_2 l0_2.length c0_2]] w fun e w' => ∃ v0_ : Value, e = .returned (.tuple #[v0_, .int .i64 r2]) ∧ Kd.R k102 102 w' w.heap.size (fun _ => True) v0_ r1 ∧ Below w.heap.size w w' := by
 have hu28 := Try.underlying28
 have hu96 := Try.underlying96
 have hu102 := Try.underlying102
 have hu38 := Try.underlying38
 have HR0_2 := ze.mk hr0_2
 have HC0_2 := ze.mk hc0_2
 clear hr0_2 hc0_2
 have HB := ze.mk (Below.refl w.heap.size w)
 have H : ((spec_l04Ok.f k a0_0 a0_1 l0_2).bind fun t306 => (if t306 = true then (if (l0_2.length : Int) > 13 then (some ((([] : List (S102))), 2)) else ((spec_l04Balanced.f k a0_0 a0_1 l0_2).bind fun t313 => (spec_TreeOf.l0 k t313 0 a0_0 a0_1 l0_2))) else (some ((([] : List (S102))), 1)))) = some (r1, r2) := h
 clear h
 replace H := Option.bind_eq_some_iff.mp H
 obtain ⟨t306, A20, H⟩ := H
 replace H : (if t306 = true then (if (l0_2.length : Int) > 13 then (some ((([] : List (S102))), 2)) else ((spec_l04Balanced.f k a0_0 a0_1 l0_2).bind fun t313 => (spec_TreeOf.l0 k t313 0 a0_0 a0_1 l0_2))) else (some ((([] : List (S102))), 1))) = some (r1, r2) := H
 have A2 := ze.mk A20
 clear A20
 by_cases c3 : t306 = true
 ·subst c3
  have H1 : (if (l0_2.length : Int) > 13 then (some ((([] : List (S102))), 2)) else ((spec_l04Balanced.f k a0_0 a0_1 l0_2).bind fun t313 => (spec_TreeOf.l0 k t313 0 a0_0 a0_1 l0_2))) = some (r1, r2) := by rw [if_pos rfl] at H; exact H
  clear H
  have H := H1
  clear H1
  by_cases c4 : (l0_2.length : Int) > 13
  ·rw [if_pos c4] at H
   have c4b0 : decide (13 < (l0_2.length : Int)) = true := decide_eq_true c4
   have c4b1 : decide (13 < l0_2.length) = true := decide_eq_true (by omega)
   clear c4
   obtain ⟨y310, hy310⟩ : ∃ y_ : List (S102), y_ = (([] : List (S102))) := ⟨_, rfl⟩
   replace H : (some (y310, 2)) = some (r1, r2) := by first | (rw [hy310]; with_reducible exact H) | (have H2_ := (Option.bind_some _ _).symm.trans H; rw [hy310]; with_reducible exact H2_) | (have H2_ := (Option.bind_some _ _).symm.trans H; with_reducible exact H2_) | with_reducible exact H | (rw [hy310]; exact H) | exact H
   have Ny310 := ze.mk hy310
   clear hy310
   simp only [Option.some.injEq, Prod.mk.injEq] at H
   obtain ⟨rfl, rfl⟩ := H
   go_enter Try.func22, Try.ntmps22
   go_wp2_with (first | ((with_reducible refine zu (N := 1) rfl ?_); refine zr ?hg (N := 1) ?hd (cs := #[.int .i8 a0_0, .int .i8 a0_1, .slice A0_2 l0_2.length c0_2]) (t := 28) ?hr ?_; (case hd => rfl); (case hg => rfl); (case hr => first | (go_simp; done) | (go_simp; rfl)); intro gb305 hg w5 hbox hb; obtain ⟨n0_, n2_⟩ := bx (by repeat (first | (with_reducible first | exact HB.out | apply zg | apply zc | apply zf) | exact HB.out)) hb hg; have n1_ := ze.mk (hbox); have n3_ := n2_; clear HB; have HB := n0_; have BK305 := n1_; have GW305 := n2_; have GE305 := n3_; clear n0_ n1_ n2_ n3_; clear hb hbox hg) | ((with_reducible refine zs (f := 59) rfl ?_); refine zda (some 16) rfl rfl Try.func59 (by kernel_rfl) rfl #[.pointer (some ⟨gb305, 0, none⟩)] rfl (by (try simp only [List.map_toArray, List.map_cons, List.map_nil]); first | done | rfl | (simp only [List.length_drop, List.length_take]; rfl)) ?_; (with_reducible refine (spec_l04Ok.calls k gb305 a0_0 a0_1 A0_2 c0_2 l0_2 true _ ?side1 ?side2 ?side3 A2.out).mono ?_); (case side1 => (with_reducible repeat (first | refine zb ?_ _ | refine zd ?_ | refine za ?_ _)); exact BK305.out); (case side2 => repeat (first | exact (Kd.C_below HR0_2.out HB.out) | (with_reducible refine Kd.C_alloc ?_ _) | (with_reducible refine Kd.C_drewN ?_ _) | (with_reducible refine Kd.C_drew ?_))); (case side3 => exact HC0_2.out); rintro e w6 ⟨rfl, hb⟩; refine ⟨_, rfl, ?_⟩; have n0_ := ze.mk (zk (by (with_reducible repeat (first | refine zb ?_ _ | refine zd ?_ | refine za ?_ _)); exact BK305.out) hb); have n1_ := ze.mk (zt (by repeat (first | (with_reducible first | exact HB.out | apply zg | apply zc | apply zf | refine zi ?_ GE305.out) | exact HB.out)) hb); clear BK305; clear HB; have BK305 := n0_; have HB := n1_; clear n0_ n1_; (try clear hb); (try clear hb2); (try clear hk); (try clear hi); obtain ⟨y1_0, y1_1, y1_2, z1_0, z1_1, z1_2⟩ := cf3 BK305.out) | ((with_reducible refine zu (N := 23) rfl ?_); refine Kd.R_lit k102 _ 102 ?hg (N := 23) ?hd (xs := ([] : List (S102))) (inner := []) (ok := fun _ => True) (okp := fun _ => True) ?hr ?hp (fun _ hk => hk) trivial (Below.refl _ _) (Nat.le_refl _) (by simp) ?_; (case hd => rfl); (case hg => rfl); (case hr => first | (go_simp; done) | (go_simp; rfl)); (case hp => exact (Reps.none _ _)); intro v311 w8 ho9 hb hg_ hnew_; clear hg_ hnew_; (first | rw [← Ny310.out] at ho9 | (simp only [Int.reduceToNat] at ho9; rw [← Ny310.out] at ho9)); have n0_ := ze.mk (Kd.R_lower ho9 (zaa (by repeat (first | (with_reducible first | exact HB.out | apply zg | apply zc | apply zf | refine zi ?_ GE305.out) | exact HB.out)))); have n1_ := ze.mk (zk (by (with_reducible repeat (first | refine zb ?_ _ | refine zd ?_ | refine za ?_ _)); exact BK305.out) hb); have n2_ := ze.mk (zt (by repeat (first | (with_reducible first | exact HB.out | apply zg | apply zc | apply zf | refine zi ?_ GE305.out) | exact HB.out)) hb); clear BK305; clear HB; have HO312 := n0_; have BK305 := n1_; have HB := n2_; clear n0_ n1_ n2_; clear hb ho9))
   go_ret2
   exact ⟨_, by first | rfl | (simp [zn, zm] <;> rfl) | (simp [*, zn, zm] <;> rfl), by (with_reducible repeat (first | apply Kd.R_alloc | apply Kd.R_drewN | apply Kd.R_drew)); exact HO312.out, by repeat (first | (with_reducible first | exact HB.out | apply zg | apply zc | apply zf | refine zi ?_ GE305.out) | exact HB.out)⟩
  rw [if_neg c4] at H
  have c4b0 : decide (13 < (l0_2.length : Int)) = false := decide_eq_false c4
  have c4b1 : decide (13 < l0_2.length) = false := decide_eq_false (by omega)
  clear c4
  replace H := Option.bind_eq_some_iff.mp H
  obtain ⟨t313, A100, H⟩ := H
  replace H : (spec_TreeOf.l0 k t313 0 a0_0 a0_1 l0_2) = some (r1, r2) := H
  have A10 := ze.mk A100
  clear A100
  have HC11 := ze.mk H
  clear H
  go_enter Try.func22, Try.ntmps22
  go_upto_block 0 with (first | ((with_reducible refine zu (N := 1) rfl ?_); refine zr ?hg (N := 1) ?hd (cs := #[.int .i8 a0_0, .int .i8 a0_1, .slice A0_2 l0_2.length c0_2]) (t := 28) ?hr ?_; (case hd => rfl); (case hg => rfl); (case hr => first | (go_simp; done) | (go_simp; rfl)); intro gb305 hg w12 hbox hb; obtain ⟨n0_, n2_⟩ := bx (by repeat (first | (with_reducible first | exact HB.out | apply zg | apply zc | apply zf) | exact HB.out)) hb hg; have n1_ := ze.mk (hbox); have n3_ := n2_; clear HB; have HB := n0_; have BK305 := n1_; have GW305 := n2_; have GE305 := n3_; clear n0_ n1_ n2_ n3_; clear hb hbox hg) | ((with_reducible refine zs (f := 59) rfl ?_); refine zda (some 16) rfl rfl Try.func59 (by kernel_rfl) rfl #[.pointer (some ⟨gb305, 0, none⟩)] rfl (by (try simp only [List.map_toArray, List.map_cons, List.map_nil]); first | done | rfl | (simp only [List.length_drop, List.length_take]; rfl)) ?_; (with_reducible refine (spec_l04Ok.calls k gb305 a0_0 a0_1 A0_2 c0_2 l0_2 true _ ?side1 ?side2 ?side3 A2.out).mono ?_); (case side1 => (with_reducible repeat (first | refine zb ?_ _ | refine zd ?_ | refine za ?_ _)); exact BK305.out); (case side2 => repeat (first | exact (Kd.C_below HR0_2.out HB.out) | (with_reducible refine Kd.C_alloc ?_ _) | (with_reducible refine Kd.C_drewN ?_ _) | (with_reducible refine Kd.C_drew ?_))); (case side3 => exact HC0_2.out); rintro e w13 ⟨rfl, hb⟩; refine ⟨_, rfl, ?_⟩; have n0_ := ze.mk (zk (by (with_reducible repeat (first | refine zb ?_ _ | refine zd ?_ | refine za ?_ _)); exact BK305.out) hb); have n1_ := ze.mk (zt (by repeat (first | (with_reducible first | exact HB.out | apply zg | apply zc | apply zf | refine zi ?_ GE305.out) | exact HB.out)) hb); clear BK305; clear HB; have BK305 := n0_; have HB := n1_; clear n0_ n1_; (try clear hb); (try clear hb2); (try clear hk); (try clear hi); obtain ⟨y2_0, y2_1, y2_2, z2_0, z2_1, z2_2⟩ := cf3 BK305.out) | ((with_reducible refine zs (f := 69) rfl ?_); refine zda (some 24) rfl rfl Try.func69 (by kernel_rfl) rfl #[.pointer (some ⟨gb305, 0, none⟩)] rfl (by (try simp only [List.map_toArray, List.map_cons, List.map_nil]); first | done | rfl | (simp only [List.length_drop, List.length_take]; rfl)) ?_; (with_reducible refine (spec_l04Balanced.calls k gb305 a0_0 a0_1 A0_2 c0_2 l0_2 t313 _ ?side1 ?side2 ?side3 A10.out).mono ?_); (case side1 => (with_reducible repeat (first | refine zb ?_ _ | refine zd ?_ | refine za ?_ _)); exact BK305.out); (case side2 => repeat (first | exact (Kd.C_below HR0_2.out HB.out) | (with_reducible refine Kd.C_alloc ?_ _) | (with_reducible refine Kd.C_drewN ?_ _) | (with_reducible refine Kd.C_drew ?_))); (case side3 => exact HC0_2.out); rintro e w' ⟨rfl, ⟨nd, rfl⟩⟩; refine ⟨_, rfl, ?_⟩))
  (try simp only [Act.put, List.setIfInBounds_toArray, List.set_cons_zero, List.set_cons_succ])
  go_cut [4] (fun v4 wc => ∃ (kq : Nat) (x4_10 : Bool) (x306000_10 : Int) (x306001_10 : Int), v4 = .bool x4_10 ∧ ze (spec_TreeOf.j1 kq x4_10 x306000_10 x306001_10 l0_2 = some (r1, r2)) ∧ ze (kq ≤ k) ∧ ze (wc.heap[gb305]? = some (.cells #[.int .i8 x306000_10, .int .i8 x306001_10, (.slice A0_2 l0_2.length c0_2)] 28 (0, 0))) ∧ ze (Below w.heap.size w wc))
  case first =>
   have H := HC11.out
   clear HC11
   have H' := ze.mk H
   clear H
   go_wp2
   go_loopg [4, 5] k (fun kq v4 v5 w' => ∃ (x4_1 : Bool) (x5_1 : Int) (x306000_1 : Int) (x306001_1 : Int), v4 = .bool x4_1 ∧ v5 = .int .i64 x5_1 ∧ ze (spec_TreeOf.l0 kq x4_1 x5_1 x306000_1 x306001_1 l0_2 = some (r1, r2)) ∧ ze (kq ≤ k) ∧ ze (w'.heap[gb305]? = some (.cells #[.int .i8 x306000_1, .int .i8 x306001_1, (.slice A0_2 l0_2.length c0_2)] 28 (0, 0))) ∧ ze (Below w.heap.size w w'))
   case atStart => exact ⟨(t313), (0), (a0_0), (a0_1), (by first | rfl | (simp; done) | (simp [*]; done)), (by first | rfl | (simp; done) | (simp [*]; done)), H', ⟨Nat.le_refl _⟩, ⟨by (with_reducible repeat (first | refine zb ?_ _ | refine zd ?_ | refine za ?_ _)); exact BK305.out⟩, ⟨by repeat (first | (with_reducible first | exact HB.out | apply zg | apply zc | apply zf | refine zi ?_ GE305.out) | exact HB.out)⟩⟩
   case round =>
    clear H'
    try clear c2
    try clear p2
    try clear c3
    try clear c4
    try clear c4b0
    try clear c4b1
    try clear c5
    try clear c6
    try clear y2_0 y2_1 y2_2
    try clear y1_0 y1_1 y1_2
    try clear z2_0 z2_1 z2_2
    try clear z1_0 z1_1 z1_2
    obtain ⟨x4_1, x5_1, x306000_1, x306001_1, rfl, rfl, HA, HK1, BK305, HB⟩ := hrel
    cases gk with
    | zero => exact absurd HA.out (by simp [spec_TreeOf.l0])
    | succ k1 =>
     have H := HA.out
     clear HA
     simp only [spec_TreeOf.l0] at H
     by_cases c15 : x5_1 < (wrap64 (x306000_1))
     ·rw [if_pos c15] at H
      have c15b0 : decide (x5_1 < (wrap64 (x306000_1))) = true := decide_eq_true c15
      (try (have c15b1 : decide (x5_1 < (IntKind.i64.wrap (x306000_1))) = true := by have h_ : decide (x5_1 < (wrap64 (x306000_1))) = true := decide_eq_true c15; simpa only [zy, zz] using h_))
      clear c15
      (first | rw [c15b0] | (simp only [zy, zz]; rw [c15b0]) | skip)
      by_cases c16 : x4_1 = true
      ·subst c16
       have H1 : ((spec_l04Pans.f k1 x306000_1 x306001_1 l0_2 x5_1).bind fun bt314 => (spec_TreeOf.l0 k1 (!(bt314.1 == 0) || (!(bt314.2.1 == 0) || (!(bt314.2.2.1 == 0) || (!(bt314.2.2.2.1 == 0) || (!(bt314.2.2.2.2.1 == 0) || (!(bt314.2.2.2.2.2.1 == 0) || (!(bt314.2.2.2.2.2.2.1 == 0) || (!(bt314.2.2.2.2.2.2.2.1 == 0) || (!(bt314.2.2.2.2.2.2.2.2.1 == 0) || (!(bt314.2.2.2.2.2.2.2.2.2.1 == 0) || (!(bt314.2.2.2.2.2.2.2.2.2.2.1 == 0) || (!(bt314.2.2.2.2.2.2.2.2.2.2.2.1 == 0) || (!(bt314.2.2.2.2.2.2.2.2.2.2.2.2.1 == 0) || (!(bt314.2.2.2.2.2.2.2.2.2.2.2.2.2 == 0))))))))))))))) (wrap64 (x5_1 + 1)) x306000_1 x306001_1 l0_2)) = some (r1, r2) := by rw [if_pos rfl] at H; exact H
       clear H
       have H := H1
       clear H1
       replace H := Option.bind_eq_some_iff.mp H
       obtain ⟨⟨t314, t315, t316, t317, t318, t319, t320, t321, t322, t323, t324, t325, t326, t327⟩, A170, H⟩ := H
       replace H : (spec_TreeOf.l0 k1 (!(t314 == 0) || (!(t315 == 0) || (!(t316 == 0) || (!(t317 == 0) || (!(t318 == 0) || (!(t319 == 0) || (!(t320 == 0) || (!(t321 == 0) || (!(t322 == 0) || (!(t323 == 0) || (!(t324 == 0) || (!(t325 == 0) || (!(t326 == 0) || (!(t327 == 0))))))))))))))) (wrap64 (x5_1 + 1)) x306000_1 x306001_1 l0_2) = some (r1, r2) := H
       have A17 := ze.mk A170
       clear A170
       have H' := ze.mk H
       clear H
       obtain ⟨y3_0, y3_1, y3_2, z3_0, z3_1, z3_2⟩ := cf3 BK305.out
       go_wp2_with (first | ((with_reducible refine zs (f := 70) rfl ?_); refine zda (some 36) rfl rfl Try.func70 (by kernel_rfl) rfl #[.pointer (some ⟨gb305, 0, none⟩), .int .i64 x5_1] rfl (by (try simp only [List.map_toArray, List.map_cons, List.map_nil]); first | done | rfl | (simp only [List.length_drop, List.length_take]; rfl)) ?_; (with_reducible refine (spec_l04Pans.calls k1 gb305 x306000_1 x306001_1 A0_2 c0_2 l0_2 x5_1 t314 t315 t316 t317 t318 t319 t320 t321 t322 t323 t324 t325 t326 t327 _ ?side1 ?side2 ?side3 A17.out).mono ?_); (case side1 => (with_reducible repeat (first | refine zb ?_ _ | refine zd ?_ | refine za ?_ _)); exact BK305.out); (case side2 => repeat (first | exact (Kd.C_below HR0_2.out HB.out) | (with_reducible refine Kd.C_alloc ?_ _) | (with_reducible refine Kd.C_drewN ?_ _) | (with_reducible refine Kd.C_drew ?_))); (case side3 => exact HC0_2.out); rintro e w19 ⟨rfl, hb⟩; refine ⟨_, rfl, ?_⟩; have n0_ := ze.mk (zk (by (with_reducible repeat (first | refine zb ?_ _ | refine zd ?_ | refine za ?_ _)); exact BK305.out) hb); have n1_ := ze.mk (zt (by repeat (first | (with_reducible first | exact HB.out | apply zg | apply zc | apply zf | refine zi ?_ GE305.out) | exact HB.out)) hb); clear BK305; clear HB; have BK305 := n0_; have HB := n1_; clear n0_ n1_; (try clear hb); (try clear hb2); (try clear hk); (try clear hi)))
       go_roundg k1
       case measure => have := HK1.out; omega
       case rel => exact ⟨((!(t314 == 0) || (!(t315 == 0) || (!(t316 == 0) || (!(t317 == 0) || (!(t318 == 0) || (!(t319 == 0) || (!(t320 == 0) || (!(t321 == 0) || (!(t322 == 0) || (!(t323 == 0) || (!(t324 == 0) || (!(t325 == 0) || (!(t326 == 0) || (!(t327 == 0)))))))))))))))), (wrap64 (x5_1 + 1)), (x306000_1), (x306001_1), (by first | rfl | (simp; done) | (simp [*]; done)), (by first | rfl | (simp; done) | (simp [*]; done)), H', ⟨by have := HK1.out; omega⟩, ⟨by (with_reducible repeat (first | refine zb ?_ _ | refine zd ?_ | refine za ?_ _)); exact BK305.out⟩, ⟨by repeat (first | (with_reducible first | exact HB.out | apply zg | apply zc | apply zf | refine zi ?_ GE305.out) | exact HB.out)⟩⟩
      replace c16 := Bool.eq_false_iff.mpr c16
      subst c16
      have H1 : (spec_TreeOf.j1 k1 false x306000_1 x306001_1 l0_2) = some (r1, r2) := by rw [if_neg (show ¬ (false = true) by decide)] at H; exact H
      clear H
      have H := H1
      clear H1
      have H' := ze.mk H
      clear H
      obtain ⟨y4_0, y4_1, y4_2, z4_0, z4_1, z4_2⟩ := cf3 BK305.out
      go_wp2
      go_meet
      case rel => exact ⟨_, (false), (x306000_1), (x306001_1), (by first | rfl | (simp; done) | (simp [*]; done)), H', ⟨by have := HK1.out; first | omega | exact Nat.le_refl _⟩, ⟨by (with_reducible repeat (first | refine zb ?_ _ | refine zd ?_ | refine za ?_ _)); exact BK305.out⟩, ⟨by repeat (first | (with_reducible first | exact HB.out | apply zg | apply zc | apply zf | refine zi ?_ GE305.out) | exact HB.out)⟩⟩
     rw [if_neg c15] at H
     have c15b0 : decide (x5_1 < (wrap64 (x306000_1))) = false := decide_eq_false c15
     (try (have c15b1 : decide (x5_1 < (IntKind.i64.wrap (x306000_1))) = false := by have h_ : decide (x5_1 < (wrap64 (x306000_1))) = false := decide_eq_false c15; simpa only [zy, zz] using h_))
     clear c15
     (first | rw [c15b0] | (simp only [zy, zz]; rw [c15b0]) | skip)
     have H' := ze.mk H
     clear H
     obtain ⟨y5_0, y5_1, y5_2, z5_0, z5_1, z5_2⟩ := cf3 BK305.out
     go_wp2
     go_meet
     case rel => exact ⟨_, (x4_1), (x306000_1), (x306001_1), (by first | rfl | (simp; done) | (simp [*]; done)), H', ⟨by have := HK1.out; first | omega | exact Nat.le_refl _⟩, ⟨by (with_reducible repeat (first | refine zb ?_ _ | refine zd ?_ | refine za ?_ _)); exact BK305.out⟩, ⟨by repeat (first | (with_reducible first | exact HB.out | apply zg | apply zc | apply zf | refine zi ?_ GE305.out) | exact HB.out)⟩⟩
  case rest =>
   clear HC11
   try clear c1
   try clear c2
   try clear p2
   try clear c3
   try clear c4
   try clear c4b0
   try clear c4b1
   try clear c5
   try clear c6
   try clear p6
   try clear c7
   try clear c15
   try clear c15b0
   try clear c15b1
   try clear c16
   try clear y2_0 y2_1 y2_2
   try clear y3_0 y3_1 y3_2
   try clear y4_0 y4_1 y4_2
   try clear y5_0 y5_1 y5_2
   try clear y1_0 y1_1 y1_2
   try clear z2_0 z2_1 z2_2
   try clear z3_0 z3_1 z3_2
   try clear z4_0 z4_1 z4_2
   try clear z5_0 z5_1 z5_2
   try clear z1_0 z1_1 z1_2
   try clear p2
   obtain ⟨kq, x4_10, x306000_10, x306001_10, rfl, HA, HJ10, BK305, HB⟩ := hcut
   cases kq with
   | zero => exact absurd HA.out (by simp [spec_TreeOf.j1])
   | succ kj10 =>
    have H := HA.out
    clear HA
    simp only [spec_TreeOf.j1] at H
    by_cases c22 : x4_10 = true
    ·subst c22
     have H1 : (spec_TreeOf.l1 kj10 (([] : List (S102))) 0 0 x306000_10 x306001_10 l0_2) = some (r1, r2) := by rw [if_pos rfl] at H; exact H
     clear H
     have H := H1
     clear H1
     obtain ⟨y331, hy331⟩ : ∃ y_ : List (S102), y_ = (([] : List (S102))) := ⟨_, rfl⟩
     replace H : (spec_TreeOf.l1 kj10 y331 0 0 x306000_10 x306001_10 l0_2) = some (r1, r2) := by first | (rw [hy331]; with_reducible exact H) | (have H2_ := (Option.bind_some _ _).symm.trans H; rw [hy331]; with_reducible exact H2_) | (have H2_ := (Option.bind_some _ _).symm.trans H; with_reducible exact H2_) | with_reducible exact H | (rw [hy331]; exact H) | exact H
     have Ny331 := ze.mk hy331
     clear hy331
     have H' := ze.mk H
     clear H
     go_wp2_with (first | ((with_reducible refine zu (N := 42) rfl ?_); refine Kd.R_lit k102 _ 102 ?hg (N := 42) ?hd (xs := ([] : List (S102))) (inner := []) (ok := fun _ => True) (okp := fun _ => True) ?hr ?hp (fun _ hk => hk) trivial (Below.refl _ _) (Nat.le_refl _) (by simp) ?_; (case hd => rfl); (case hg => rfl); (case hr => first | (go_simp; done) | (go_simp; rfl)); (case hp => exact (Reps.none _ _)); intro v332 w23 ho24 hb hg_ hnew_; clear hg_ hnew_; (first | rw [← Ny331.out] at ho24 | (simp only [Int.reduceToNat] at ho24; rw [← Ny331.out] at ho24)); have n0_ := ze.mk (Kd.R_lower ho24 (zaa (by repeat (first | (with_reducible first | exact HB.out | apply zg | apply zc | apply zf | refine zi ?_ GE305.out) | exact HB.out)))); have n1_ := ze.mk (zk (by (with_reducible repeat (first | refine zb ?_ _ | refine zd ?_ | refine za ?_ _)); exact BK305.out) hb); have n2_ := ze.mk (zt (by repeat (first | (with_reducible first | exact HB.out | apply zg | apply zc | apply zf | refine zi ?_ GE305.out) | exact HB.out)) hb); clear BK305; clear HB; have HO333 := n0_; have BK305 := n1_; have HB := n2_; clear n0_ n1_ n2_; clear hb ho24))
     go_loopg [6, 7, 8] kj10 (fun kq v6 v7 v8 w' => ∃ (x6_2 : List (S102)) (x7_2 : Int) (x8_2 : Int) (x306000_2 : Int) (x306001_2 : Int), v7 = .int .i64 x7_2 ∧ v8 = .int .i64 x8_2 ∧ ze (spec_TreeOf.l1 kq x6_2 x7_2 x8_2 x306000_2 x306001_2 l0_2 = some (r1, r2)) ∧ ze (kq ≤ kj10) ∧ ze (Kd.R k102 102 w' w.heap.size (fun _ => True) v6 x6_2) ∧ ze (w'.heap[gb305]? = some (.cells #[.int .i8 x306000_2, .int .i8 x306001_2, (.slice A0_2 l0_2.length c0_2)] 28 (0, 0))) ∧ ze (Below w.heap.size w w'))
     case atStart => exact ⟨(y331), (0), (0), (x306000_10), (x306001_10), (by first | rfl | (simp; done) | (simp [*]; done)), (by first | rfl | (simp; done) | (simp [*]; done)), H', ⟨Nat.le_refl _⟩, ⟨by (with_reducible repeat (first | apply Kd.R_alloc | apply Kd.R_drewN | apply Kd.R_drew)); exact HO333.out⟩, ⟨by (with_reducible repeat (first | refine zb ?_ _ | refine zd ?_ | refine za ?_ _)); exact BK305.out⟩, ⟨by repeat (first | (with_reducible first | exact HB.out | apply zg | apply zc | apply zf | refine zi ?_ GE305.out) | exact HB.out)⟩⟩
     case round =>
      clear H'
      try clear c1
      try clear c2
      try clear p2
      try clear c3
      try clear c4
      try clear c4b0
      try clear c4b1
      try clear c5
      try clear c6
      try clear p6
      try clear c7
      try clear c15
      try clear c15b0
      try clear c15b1
      try clear c16
      try clear c22
      try clear y2_0 y2_1 y2_2
      try clear y3_0 y3_1 y3_2
      try clear y4_0 y4_1 y4_2
      try clear y5_0 y5_1 y5_2
      try clear y1_0 y1_1 y1_2
      try clear z2_0 z2_1 z2_2
      try clear z3_0 z3_1 z3_2
      try clear z4_0 z4_1 z4_2
      try clear z5_0 z5_1 z5_2
      try clear z1_0 z1_1 z1_2
      try clear p2
      try clear p6
      obtain ⟨x6_2, x7_2, x8_2, x306000_2, x306001_2, rfl, rfl, HA, HK2, HO_6, BK305, HB⟩ := hrel
      cases gk with
      | zero => exact absurd HA.out (by simp [spec_TreeOf.l1])
      | succ k2 =>
       have H := HA.out
       clear HA
       simp only [spec_TreeOf.l1] at H
       by_cases c25 : x8_2 < (wrap64 (x306000_2))
       ·rw [if_pos c25] at H
        have c25b0 : decide (x8_2 < (wrap64 (x306000_2))) = true := decide_eq_true c25
        (try (have c25b1 : decide (x8_2 < (IntKind.i64.wrap (x306000_2))) = true := by have h_ : decide (x8_2 < (wrap64 (x306000_2))) = true := decide_eq_true c25; simpa only [zy, zz] using h_))
        clear c25
        replace H := Option.bind_eq_some_iff.mp H
        obtain ⟨t334, A260, H⟩ := H
        replace H : (spec_TreeOf.l2 k2 x6_2 x8_2 (wrap64 (x7_2 + t334)) 0 x306000_2 x306001_2 l0_2) = some (r1, r2) := H
        have A26 := ze.mk A260
        clear A260
        have H' := ze.mk H
        clear H
        obtain ⟨y6_0, y6_1, y6_2, z6_0, z6_1, z6_2⟩ := cf3 BK305.out
        go_wp2_with (first | ((with_reducible refine zs (f := 52) rfl ?_); refine zda (some 52) rfl rfl Try.func52 (by kernel_rfl) rfl #[.int .i64 x8_2] rfl (by (try simp only [List.map_toArray, List.map_cons, List.map_nil]); first | done | rfl | (simp only [List.length_drop, List.length_take]; rfl)) ?_; (with_reducible refine (spec_l03Power.calls k2 x8_2 t334 _ A26.out).mono ?_); rintro e w' ⟨rfl, ⟨nd, rfl⟩⟩; refine ⟨_, rfl, ?_⟩))
        go_loopg [6, 10] k2 (fun kq v6 v10 w' => ∃ (x6_3 : List (S102)) (x10_3 : Int) (x306000_3 : Int) (x306001_3 : Int), v10 = .int .i64 x10_3 ∧ ze (spec_TreeOf.l2 kq x6_3 x8_2 (wrap64 (x7_2 + t334)) x10_3 x306000_3 x306001_3 l0_2 = some (r1, r2)) ∧ ze (kq ≤ k2) ∧ ze (Kd.R k102 102 w' w.heap.size (fun _ => True) v6 x6_3) ∧ ze (w'.heap[gb305]? = some (.cells #[.int .i8 x306000_3, .int .i8 x306001_3, (.slice A0_2 l0_2.length c0_2)] 28 (0, 0))) ∧ ze (Below w.heap.size w w'))
        case atStart => exact ⟨(x6_2), (0), (x306000_2), (x306001_2), (by first | rfl | (simp; done) | (simp [*]; done)), H', ⟨Nat.le_refl _⟩, ⟨by (with_reducible repeat (first | apply Kd.R_alloc | apply Kd.R_drewN | apply Kd.R_drew)); exact HO_6.out⟩, ⟨by (with_reducible repeat (first | refine zb ?_ _ | refine zd ?_ | refine za ?_ _)); exact BK305.out⟩, ⟨by repeat (first | (with_reducible first | exact HB.out | apply zg | apply zc | apply zf | refine zi ?_ GE305.out) | exact HB.out)⟩⟩
        case round =>
         clear H'
         try clear c1
         try clear c2
         try clear p2
         try clear c3
         try clear c4
         try clear c4b0
         try clear c4b1
         try clear c5
         try clear c6
         try clear p6
         try clear c7
         try clear c15
         try clear c15b0
         try clear c15b1
         try clear c16
         try clear c22
         try clear c25
         try clear c25b0
         try clear c25b1
         try clear y2_0 y2_1 y2_2
         try clear y3_0 y3_1 y3_2
         try clear y4_0 y4_1 y4_2
         try clear y5_0 y5_1 y5_2
         try clear y6_0 y6_1 y6_2
         try clear y1_0 y1_1 y1_2
         try clear z2_0 z2_1 z2_2
         try clear z3_0 z3_1 z3_2
         try clear z4_0 z4_1 z4_2
         try clear z5_0 z5_1 z5_2
         try clear z6_0 z6_1 z6_2
         try clear z1_0 z1_1 z1_2
         try clear p2
         try clear p6
         obtain ⟨x6_3, x10_3, x306000_3, x306001_3, rfl, HA, HK3, HO_6, BK305, HB⟩ := hrel
         cases gk with
         | zero => exact absurd HA.out (by simp [spec_TreeOf.l2])
         | succ k3 =>
          have H := HA.out
          clear HA
          simp only [spec_TreeOf.l2] at H
          replace H := Option.bind_eq_some_iff.mp H
          obtain ⟨t335, A280, H⟩ := H
          replace H : (if x10_3 < t335 then ((spec_l04Pans.f k3 x306000_3 x306001_3 l0_2 x8_2).bind fun bt336 => (spec_TreeOf.l3 k3 x6_3 x8_2 (wrap64 (x7_2 + t334)) x10_3 0 x306000_3 x306001_3 l0_2 bt336.1 bt336.2.1 bt336.2.2.1 bt336.2.2.2.1 bt336.2.2.2.2.1 bt336.2.2.2.2.2.1 bt336.2.2.2.2.2.2.1 bt336.2.2.2.2.2.2.2.1 bt336.2.2.2.2.2.2.2.2.1 bt336.2.2.2.2.2.2.2.2.2.1 bt336.2.2.2.2.2.2.2.2.2.2.1 bt336.2.2.2.2.2.2.2.2.2.2.2.1 bt336.2.2.2.2.2.2.2.2.2.2.2.2.1 bt336.2.2.2.2.2.2.2.2.2.2.2.2.2 0 0 0 0 false false)) else (spec_TreeOf.l1 k3 x6_3 (wrap64 (x7_2 + t334)) (wrap64 (x8_2 + 1)) x306000_3 x306001_3 l0_2)) = some (r1, r2) := H
          have A28 := ze.mk A280
          clear A280
          by_cases c29 : x10_3 < t335
          ·rw [if_pos c29] at H
           have c29b0 : decide (x10_3 < t335) = true := decide_eq_true c29
           clear c29
           replace H := Option.bind_eq_some_iff.mp H
           obtain ⟨⟨t336, t337, t338, t339, t340, t341, t342, t343, t344, t345, t346, t347, t348, t349⟩, A300, H⟩ := H
           replace H : (spec_TreeOf.l3 k3 x6_3 x8_2 (wrap64 (x7_2 + t334)) x10_3 0 x306000_3 x306001_3 l0_2 t336 t337 t338 t339 t340 t341 t342 t343 t344 t345 t346 t347 t348 t349 0 0 0 0 false false) = some (r1, r2) := H
           have A30 := ze.mk A300
           clear A300
           have H' := ze.mk H
           clear H
           go_wp2_with (first | ((with_reducible refine zja (t := 102) (p := 11) rfl ?_); refine zrc (g := gb350) (T := 102) (t := 102) (cur := #[.int .i8 0, .int .i8 0, .int .i8 0, .int .i8 0, .int .i8 0, .int .i8 0, .int .i8 0, .int .i8 0, .int .i8 0, .int .i8 0, .int .i8 0, .int .i8 0, .int .i8 0, .int .i8 0, .int .i16 0, .int .i16 0, .int .i16 0, .int .i8 0, .bool false, .bool false]) (x := ?sx1) (y := ?sy1) (c0 := .int .i8 t336) (c1 := .int .i8 t337) (c2 := .int .i8 t338) (c3 := .int .i8 t339) (c4 := .int .i8 t340) (c5 := .int .i8 t341) (c6 := .int .i8 t342) (c7 := .int .i8 t343) (c8 := .int .i8 t344) (c9 := .int .i8 t345) (c10 := .int .i8 t346) (c11 := .int .i8 t347) (c12 := .int .i8 t348) (c13 := .int .i8 t349) (c14 := .int .i16 0) (c15 := .int .i16 0) (c16 := .int .i16 0) (c17 := .int .i8 0) (c18 := .bool false) (c19 := .bool false) ?sa1 ?sb1 ?sc1 ?sd1 ?se1 ?sf1 BK350.out rfl ?sg1 ?_; (case sa1 => rfl); (case sb1 => rfl); (case sc1 => rfl); (case sd1 => rfl); (case se1 => rfl); (case sf1 => kernel_rfl); (case sg1 => rfl)) | ((with_reducible refine zs (f := 52) rfl ?_); refine zda (some 56) rfl rfl Try.func52 (by kernel_rfl) rfl #[.int .i64 x8_2] rfl (by (try simp only [List.map_toArray, List.map_cons, List.map_nil]); first | done | rfl | (simp only [List.length_drop, List.length_take]; rfl)) ?_; (with_reducible refine (spec_l03Power.calls k3 x8_2 t335 _ A28.out).mono ?_); rintro e w' ⟨rfl, ⟨nd, rfl⟩⟩; refine ⟨_, rfl, ?_⟩; (try (rw [zxc wr]; generalize hq_ : World.drewN wr _ = wr; have n0_ : ze (Kd.R k102 102 wr w.heap.size (fun _ => True) u6 x6_3) := ⟨by rw [← hq_]; exact (by (with_reducible repeat (first | apply Kd.R_alloc | apply Kd.R_drewN | apply Kd.R_drew)); exact HO_6.out)⟩; have n1_ : ze (wr.heap[gb305]? = some (.cells #[.int .i8 x306000_3, .int .i8 x306001_3, .slice A0_2 l0_2.length c0_2] 28 (0, 0))) := ⟨by rw [← hq_]; exact (by (with_reducible repeat (first | refine zb ?_ _ | refine zd ?_ | refine za ?_ _)); exact BK305.out)⟩; have n2_ : ze (Below w.heap.size w wr) := ⟨by rw [← hq_]; exact (by repeat (first | (with_reducible first | exact HB.out | apply zg | apply zc | apply zf | refine zi ?_ GE305.out) | exact HB.out))⟩; clear HO_6 BK305 HB hq_; have HO_6 := n0_; have BK305 := n1_; have HB := n2_; clear n0_ n1_ n2_))) | ((with_reducible refine zs (f := 70) rfl ?_); refine zda (some 61) rfl rfl Try.func70 (by kernel_rfl) rfl #[.pointer (some ⟨gb305, 0, none⟩), .int .i64 x8_2] rfl (by (try simp only [List.map_toArray, List.map_cons, List.map_nil]); first | done | rfl | (simp only [List.length_drop, List.length_take]; rfl)) ?_; (with_reducible refine (spec_l04Pans.calls k3 gb305 x306000_3 x306001_3 A0_2 c0_2 l0_2 x8_2 t336 t337 t338 t339 t340 t341 t342 t343 t344 t345 t346 t347 t348 t349 _ ?side1 ?side2 ?side3 A30.out).mono ?_); (case side1 => (with_reducible repeat (first | refine zb ?_ _ | refine zd ?_ | refine za ?_ _)); exact BK305.out); (case side2 => repeat (first | exact (Kd.C_below HR0_2.out HB.out) | (with_reducible refine Kd.C_alloc ?_ _) | (with_reducible refine Kd.C_drewN ?_ _) | (with_reducible refine Kd.C_drew ?_))); (case side3 => exact HC0_2.out); rintro e w31 ⟨rfl, hb⟩; refine ⟨_, rfl, ?_⟩; have n0_ := ze.mk (Kd.R_below (by (with_reducible repeat (first | apply Kd.R_alloc | apply Kd.R_drewN | apply Kd.R_drew)); exact HO_6.out) hb); have n1_ := ze.mk (zk (by (with_reducible repeat (first | refine zb ?_ _ | refine zd ?_ | refine za ?_ _)); exact BK305.out) hb); have n2_ := ze.mk (zt (by repeat (first | (with_reducible first | exact HB.out | apply zg | apply zc | apply zf | refine zi ?_ GE305.out) | exact HB.out)) hb); clear HO_6; clear BK305; clear HB; have HO_6 := n0_; have BK305 := n1_; have HB := n2_; clear n0_ n1_ n2_; (try clear hb); (try clear hb2); (try clear hk); (try clear hi)) | ((with_reducible refine zu (N := 11) rfl ?_); refine zr ?hg (N := 11) ?hd (cs := #[.int .i8 0, .int .i8 0, .int .i8 0, .int .i8 0, .int .i8 0, .int .i8 0, .int .i8 0, .int .i8 0, .int .i8 0, .int .i8 0, .int .i8 0, .int .i8 0, .int .i8 0, .int .i8 0, .int .i16 0, .int .i16 0, .int .i16 0, .int .i8 0, .bool false, .bool false]) (t := 102) ?hr ?_; (case hd => rfl); (case hg => rfl); (case hr => first | (go_simp; done) | (go_simp; rfl)); intro gb350 hg w32 hbox hb; have n0_ := ze.mk (Kd.R_below (Kd.R_elderB (by (with_reducible repeat (first | apply Kd.R_alloc | apply Kd.R_drewN | apply Kd.R_drew)); exact HO_6.out) gb350 (Nat.le_of_eq hg.symm)) hb); have n1_ := ze.mk (zk (by (with_reducible repeat (first | refine zb ?_ _ | refine zd ?_ | refine za ?_ _)); exact BK305.out) hb); obtain ⟨n2_, n4_⟩ := bx (by repeat (first | (with_reducible first | exact HB.out | apply zg | apply zc | apply zf | refine zi ?_ GE305.out) | exact HB.out)) hb hg; have n3_ := ze.mk (hbox); have n5_ := n4_; have n6_ := ze.mk ((by rw [hg]; exact Nat.ne_of_lt (zba (by (with_reducible repeat (first | refine zb ?_ _ | refine zd ?_ | refine za ?_ _)); exact BK305.out)) : gb305 ≠ gb350)); have n7_ := ze.mk n6_.out.symm; clear HO_6; clear BK305; clear HB; have HO_6 := n0_; have BK305 := n1_; have HB := n2_; have BK350 := n3_; have GW350 := n4_; have GE350 := n5_; have NB305_350 := n6_; have NB350_305 := n7_; clear n0_ n1_ n2_ n3_ n4_ n5_ n6_ n7_; clear hb hbox hg; have hnb33 := NB350_305.out; have hnc33 := NB305_350.out; obtain ⟨y7_0, y7_1, y7_2, y7_3, y7_4, y7_5, y7_6, y7_7, y7_8, y7_9, y7_10, y7_11, y7_12, y7_13, y7_14, y7_15, y7_16, y7_17, y7_18, y7_19, z7_0, z7_1, z7_2, z7_3, z7_4, z7_5, z7_6, z7_7, z7_8, z7_9, z7_10, z7_11, z7_12, z7_13, z7_14, z7_15, z7_16, z7_17, z7_18, z7_19⟩ := cf20 BK350.out))
           go_loopg [12] k3 (fun kq v12 w' => ∃ (x12_4 : Int) (x351014_4 : Int) (x351015_4 : Int) (x351016_4 : Int), v12 = .int .i64 x12_4 ∧ ze (spec_TreeOf.l3 kq x6_3 x8_2 (wrap64 (x7_2 + t334)) x10_3 x12_4 x306000_3 x306001_3 l0_2 t336 t337 t338 t339 t340 t341 t342 t343 t344 t345 t346 t347 t348 t349 x351014_4 x351015_4 x351016_4 0 false false = some (r1, r2)) ∧ ze (kq ≤ k3) ∧ ze (Kd.R k102 102 w' w.heap.size (fun k_ => k_ ≠ gb350) u6 x6_3) ∧ ze (w'.heap[gb305]? = some (.cells #[.int .i8 x306000_3, .int .i8 x306001_3, (.slice A0_2 l0_2.length c0_2)] 28 (0, 0))) ∧ ze (w'.heap[gb350]? = some (.cells #[.int .i8 t336, .int .i8 t337, .int .i8 t338, .int .i8 t339, .int .i8 t340, .int .i8 t341, .int .i8 t342, .int .i8 t343, .int .i8 t344, .int .i8 t345, .int .i8 t346, .int .i8 t347, .int .i8 t348, .int .i8 t349, .int .i16 x351014_4, .int .i16 x351015_4, .int .i16 x351016_4, .int .i8 0, .bool false, .bool false] 102 (0, 0))) ∧ ze (Below w.heap.size w w'))
           case atStart => exact ⟨(0), (0), (0), (0), (by first | rfl | (simp; done) | (simp [*]; done)), H', ⟨Nat.le_refl _⟩, ⟨by (with_reducible repeat (first | apply Kd.R_alloc | apply Kd.R_drewN | apply Kd.R_drew)); exact Kd.R_mono (Kd.R_far (p := ⟨gb350, 19, none⟩) (Kd.R_far (p := ⟨gb350, 18, none⟩) (Kd.R_far (p := ⟨gb350, 17, none⟩) (Kd.R_far (p := ⟨gb350, 16, none⟩) (Kd.R_far (p := ⟨gb350, 15, none⟩) (Kd.R_far (p := ⟨gb350, 14, none⟩) (Kd.R_far (p := ⟨gb350, 13, none⟩) (Kd.R_far (p := ⟨gb350, 12, none⟩) (Kd.R_far (p := ⟨gb350, 11, none⟩) (Kd.R_far (p := ⟨gb350, 10, none⟩) (Kd.R_far (p := ⟨gb350, 9, none⟩) (Kd.R_far (p := ⟨gb350, 8, none⟩) (Kd.R_far (p := ⟨gb350, 7, none⟩) (Kd.R_far (p := ⟨gb350, 6, none⟩) (Kd.R_far (p := ⟨gb350, 5, none⟩) (Kd.R_far (p := ⟨gb350, 4, none⟩) (Kd.R_far (p := ⟨gb350, 3, none⟩) (Kd.R_far (p := ⟨gb350, 2, none⟩) (Kd.R_far (p := ⟨gb350, 1, none⟩) (Kd.R_far (p := ⟨gb350, 0, none⟩) (Kd.R_mono HO_6.out (fun k_ hk => (⟨hk, hk.2⟩ : _ ∧ k_ ≠ gb350))) (fun _ hk => hk.2) (.int .i8 t336)) (fun _ hk => hk.2) (.int .i8 t337)) (fun _ hk => hk.2) (.int .i8 t338)) (fun _ hk => hk.2) (.int .i8 t339)) (fun _ hk => hk.2) (.int .i8 t340)) (fun _ hk => hk.2) (.int .i8 t341)) (fun _ hk => hk.2) (.int .i8 t342)) (fun _ hk => hk.2) (.int .i8 t343)) (fun _ hk => hk.2) (.int .i8 t344)) (fun _ hk => hk.2) (.int .i8 t345)) (fun _ hk => hk.2) (.int .i8 t346)) (fun _ hk => hk.2) (.int .i8 t347)) (fun _ hk => hk.2) (.int .i8 t348)) (fun _ hk => hk.2) (.int .i8 t349)) (fun _ hk => hk.2) (.int .i16 0)) (fun _ hk => hk.2) (.int .i16 0)) (fun _ hk => hk.2) (.int .i16 0)) (fun _ hk => hk.2) (.int .i8 0)) (fun _ hk => hk.2) (.bool false)) (fun _ hk => hk.2) (.bool false)) (fun _ hk => hk.1.2)⟩, ⟨by (with_reducible repeat (first | refine zb ?_ _ | refine zd ?_ | refine za ?_ _)); refine zq ?_ NB305_350.out _; (with_reducible repeat (first | refine zb ?_ _ | refine zd ?_ | refine za ?_ _)); refine zq ?_ NB305_350.out _; (with_reducible repeat (first | refine zb ?_ _ | refine zd ?_ | refine za ?_ _)); refine zq ?_ NB305_350.out _; (with_reducible repeat (first | refine zb ?_ _ | refine zd ?_ | refine za ?_ _)); refine zq ?_ NB305_350.out _; (with_reducible repeat (first | refine zb ?_ _ | refine zd ?_ | refine za ?_ _)); refine zq ?_ NB305_350.out _; (with_reducible repeat (first | refine zb ?_ _ | refine zd ?_ | refine za ?_ _)); refine zq ?_ NB305_350.out _; (with_reducible repeat (first | refine zb ?_ _ | refine zd ?_ | refine za ?_ _)); refine zq ?_ NB305_350.out _; (with_reducible repeat (first | refine zb ?_ _ | refine zd ?_ | refine za ?_ _)); refine zq ?_ NB305_350.out _; (with_reducible repeat (first | refine zb ?_ _ | refine zd ?_ | refine za ?_ _)); refine zq ?_ NB305_350.out _; (with_reducible repeat (first | refine zb ?_ _ | refine zd ?_ | refine za ?_ _)); refine zq ?_ NB305_350.out _; (with_reducible repeat (first | refine zb ?_ _ | refine zd ?_ | refine za ?_ _)); refine zq ?_ NB305_350.out _; (with_reducible repeat (first | refine zb ?_ _ | refine zd ?_ | refine za ?_ _)); refine zq ?_ NB305_350.out _; (with_reducible repeat (first | refine zb ?_ _ | refine zd ?_ | refine za ?_ _)); refine zq ?_ NB305_350.out _; (with_reducible repeat (first | refine zb ?_ _ | refine zd ?_ | refine za ?_ _)); refine zq ?_ NB305_350.out _; (with_reducible repeat (first | refine zb ?_ _ | refine zd ?_ | refine za ?_ _)); refine zq ?_ NB305_350.out _; (with_reducible repeat (first | refine zb ?_ _ | refine zd ?_ | refine za ?_ _)); refine zq ?_ NB305_350.out _; (with_reducible repeat (first | refine zb ?_ _ | refine zd ?_ | refine za ?_ _)); refine zq ?_ NB305_350.out _; (with_reducible repeat (first | refine zb ?_ _ | refine zd ?_ | refine za ?_ _)); refine zq ?_ NB305_350.out _; (with_reducible repeat (first | refine zb ?_ _ | refine zd ?_ | refine za ?_ _)); refine zq ?_ NB305_350.out _; (with_reducible repeat (first | refine zb ?_ _ | refine zd ?_ | refine za ?_ _)); refine zq ?_ NB305_350.out _; (with_reducible repeat (first | refine zb ?_ _ | refine zd ?_ | refine za ?_ _)); exact BK305.out⟩, ⟨by (with_reducible repeat (first | refine zb ?_ _ | refine zd ?_ | refine za ?_ _)); refine zp (cs := #[.int .i8 t336, .int .i8 t337, .int .i8 t338, .int .i8 t339, .int .i8 t340, .int .i8 t341, .int .i8 t342, .int .i8 t343, .int .i8 t344, .int .i8 t345, .int .i8 t346, .int .i8 t347, .int .i8 t348, .int .i8 t349, .int .i16 0, .int .i16 0, .int .i16 0, .int .i8 0, .bool false, .bool false]) ?_ 19 _ rfl; (with_reducible repeat (first | refine zb ?_ _ | refine zd ?_ | refine za ?_ _)); refine zp (cs := #[.int .i8 t336, .int .i8 t337, .int .i8 t338, .int .i8 t339, .int .i8 t340, .int .i8 t341, .int .i8 t342, .int .i8 t343, .int .i8 t344, .int .i8 t345, .int .i8 t346, .int .i8 t347, .int .i8 t348, .int .i8 t349, .int .i16 0, .int .i16 0, .int .i16 0, .int .i8 0, .bool false, .bool false]) ?_ 18 _ rfl; (with_reducible repeat (first | refine zb ?_ _ | refine zd ?_ | refine za ?_ _)); refine zp (cs := #[.int .i8 t336, .int .i8 t337, .int .i8 t338, .int .i8 t339, .int .i8 t340, .int .i8 t341, .int .i8 t342, .int .i8 t343, .int .i8 t344, .int .i8 t345, .int .i8 t346, .int .i8 t347, .int .i8 t348, .int .i8 t349, .int .i16 0, .int .i16 0, .int .i16 0, .int .i8 0, .bool false, .bool false]) ?_ 17 _ rfl; (with_reducible repeat (first | refine zb ?_ _ | refine zd ?_ | refine za ?_ _)); refine zp (cs := #[.int .i8 t336, .int .i8 t337, .int .i8 t338, .int .i8 t339, .int .i8 t340, .int .i8 t341, .int .i8 t342, .int .i8 t343, .int .i8 t344, .int .i8 t345, .int .i8 t346, .int .i8 t347, .int .i8 t348, .int .i8 t349, .int .i16 0, .int .i16 0, .int .i16 0, .int .i8 0, .bool false, .bool false]) ?_ 16 _ rfl; (with_reducible repeat (first | refine zb ?_ _ | refine zd ?_ | refine za ?_ _)); refine zp (cs := #[.int .i8 t336, .int .i8 t337, .int .i8 t338, .int .i8 t339, .int .i8 t340, .int .i8 t341, .int .i8 t342, .int .i8 t343, .int .i8 t344, .int .i8 t345, .int .i8 t346, .int .i8 t347, .int .i8 t348, .int .i8 t349, .int .i16 0, .int .i16 0, .int .i16 0, .int .i8 0, .bool false, .bool false]) ?_ 15 _ rfl; (with_reducible repeat (first | refine zb ?_ _ | refine zd ?_ | refine za ?_ _)); refine zp (cs := #[.int .i8 t336, .int .i8 t337, .int .i8 t338, .int .i8 t339, .int .i8 t340, .int .i8 t341, .int .i8 t342, .int .i8 t343, .int .i8 t344, .int .i8 t345, .int .i8 t346, .int .i8 t347, .int .i8 t348, .int .i8 t349, .int .i16 0, .int .i16 0, .int .i16 0, .int .i8 0, .bool false, .bool false]) ?_ 14 _ rfl; (with_reducible repeat (first | refine zb ?_ _ | refine zd ?_ | refine za ?_ _)); refine zp (cs := #[.int .i8 t336, .int .i8 t337, .int .i8 t338, .int .i8 t339, .int .i8 t340, .int .i8 t341, .int .i8 t342, .int .i8 t343, .int .i8 t344, .int .i8 t345, .int .i8 t346, .int .i8 t347, .int .i8 t348, .int .i8 0, .int .i16 0, .int .i16 0, .int .i16 0, .int .i8 0, .bool false, .bool false]) ?_ 13 _ rfl; (with_reducible repeat (first | refine zb ?_ _ | refine zd ?_ | refine za ?_ _)); refine zp (cs := #[.int .i8 t336, .int .i8 t337, .int .i8 t338, .int .i8 t339, .int .i8 t340, .int .i8 t341, .int .i8 t342, .int .i8 t343, .int .i8 t344, .int .i8 t345, .int .i8 t346, .int .i8 t347, .int .i8 0, .int .i8 0, .int .i16 0, .int .i16 0, .int .i16 0, .int .i8 0, .bool false, .bool false]) ?_ 12 _ rfl; (with_reducible repeat (first | refine zb ?_ _ | refine zd ?_ | refine za ?_ _)); refine zp (cs := #[.int .i8 t336, .int .i8 t337, .int .i8 t338, .int .i8 t339, .int .i8 t340, .int .i8 t341, .int .i8 t342, .int .i8 t343, .int .i8 t344, .int .i8 t345, .int .i8 t346, .int .i8 0, .int .i8 0, .int .i8 0, .int .i16 0, .int .i16 0, .int .i16 0, .int .i8 0, .bool false, .bool false]) ?_ 11 _ rfl; (with_reducible repeat (first | refine zb ?_ _ | refine zd ?_ | refine za ?_ _)); refine zp (cs := #[.int .i8 t336, .int .i8 t337, .int .i8 t338, .int .i8 t339, .int .i8 t340, .int .i8 t341, .int .i8 t342, .int .i8 t343, .int .i8 t344, .int .i8 t345, .int .i8 0, .int .i8 0, .int .i8 0, .int .i8 0, .int .i16 0, .int .i16 0, .int .i16 0, .int .i8 0, .bool false, .bool false]) ?_ 10 _ rfl; (with_reducible repeat (first | refine zb ?_ _ | refine zd ?_ | refine za ?_ _)); refine zp (cs := #[.int .i8 t336, .int .i8 t337, .int .i8 t338, .int .i8 t339, .int .i8 t340, .int .i8 t341, .int .i8 t342, .int .i8 t343, .int .i8 t344, .int .i8 0, .int .i8 0, .int .i8 0, .int .i8 0, .int .i8 0, .int .i16 0, .int .i16 0, .int .i16 0, .int .i8 0, .bool false, .bool false]) ?_ 9 _ rfl; (with_reducible repeat (first | refine zb ?_ _ | refine zd ?_ | refine za ?_ _)); refine zp (cs := #[.int .i8 t336, .int .i8 t337, .int .i8 t338, .int .i8 t339, .int .i8 t340, .int .i8 t341, .int .i8 t342, .int .i8 t343, .int .i8 0, .int .i8 0, .int .i8 0, .int .i8 0, .int .i8 0, .int .i8 0, .int .i16 0, .int .i16 0, .int .i16 0, .int .i8 0, .bool false, .bool false]) ?_ 8 _ rfl; (with_reducible repeat (first | refine zb ?_ _ | refine zd ?_ | refine za ?_ _)); refine zp (cs := #[.int .i8 t336, .int .i8 t337, .int .i8 t338, .int .i8 t339, .int .i8 t340, .int .i8 t341, .int .i8 t342, .int .i8 0, .int .i8 0, .int .i8 0, .int .i8 0, .int .i8 0, .int .i8 0, .int .i8 0, .int .i16 0, .int .i16 0, .int .i16 0, .int .i8 0, .bool false, .bool false]) ?_ 7 _ rfl; (with_reducible repeat (first | refine zb ?_ _ | refine zd ?_ | refine za ?_ _)); refine zp (cs := #[.int .i8 t336, .int .i8 t337, .int .i8 t338, .int .i8 t339, .int .i8 t340, .int .i8 t341, .int .i8 0, .int .i8 0, .int .i8 0, .int .i8 0, .int .i8 0, .int .i8 0, .int .i8 0, .int .i8 0, .int .i16 0, .int .i16 0, .int .i16 0, .int .i8 0, .bool false, .bool false]) ?_ 6 _ rfl; (with_reducible repeat (first | refine zb ?_ _ | refine zd ?_ | refine za ?_ _)); refine zp (cs := #[.int .i8 t336, .int .i8 t337, .int .i8 t338, .int .i8 t339, .int .i8 t340, .int .i8 0, .int .i8 0, .int .i8 0, .int .i8 0, .int .i8 0, .int .i8 0, .int .i8 0, .int .i8 0, .int .i8 0, .int .i16 0, .int .i16 0, .int .i16 0, .int .i8 0, .bool false, .bool false]) ?_ 5 _ rfl; (with_reducible repeat (first | refine zb ?_ _ | refine zd ?_ | refine za ?_ _)); refine zp (cs := #[.int .i8 t336, .int .i8 t337, .int .i8 t338, .int .i8 t339, .int .i8 0, .int .i8 0, .int .i8 0, .int .i8 0, .int .i8 0, .int .i8 0, .int .i8 0, .int .i8 0, .int .i8 0, .int .i8 0, .int .i16 0, .int .i16 0, .int .i16 0, .int .i8 0, .bool false, .bool false]) ?_ 4 _ rfl; (with_reducible repeat (first | refine zb ?_ _ | refine zd ?_ | refine za ?_ _)); refine zp (cs := #[.int .i8 t336, .int .i8 t337, .int .i8 t338, .int .i8 0, .int .i8 0, .int .i8 0, .int .i8 0, .int .i8 0, .int .i8 0, .int .i8 0, .int .i8 0, .int .i8 0, .int .i8 0, .int .i8 0, .int .i16 0, .int .i16 0, .int .i16 0, .int .i8 0, .bool false, .bool false]) ?_ 3 _ rfl; (with_reducible repeat (first | refine zb ?_ _ | refine zd ?_ | refine za ?_ _)); refine zp (cs := #[.int .i8 t336, .int .i8 t337, .int .i8 0, .int .i8 0, .int .i8 0, .int .i8 0, .int .i8 0, .int .i8 0, .int .i8 0, .int .i8 0, .int .i8 0, .int .i8 0, .int .i8 0, .int .i8 0, .int .i16 0, .int .i16 0, .int .i16 0, .int .i8 0, .bool false, .bool false]) ?_ 2 _ rfl; (with_reducible repeat (first | refine zb ?_ _ | refine zd ?_ | refine za ?_ _)); refine zp (cs := #[.int .i8 t336, .int .i8 0, .int .i8 0, .int .i8 0, .int .i8 0, .int .i8 0, .int .i8 0, .int .i8 0, .int .i8 0, .int .i8 0, .int .i8 0, .int .i8 0, .int .i8 0, .int .i8 0, .int .i16 0, .int .i16 0, .int .i16 0, .int .i8 0, .bool false, .bool false]) ?_ 1 _ rfl; (with_reducible repeat (first | refine zb ?_ _ | refine zd ?_ | refine za ?_ _)); refine zp (cs := #[.int .i8 0, .int .i8 0, .int .i8 0, .int .i8 0, .int .i8 0, .int .i8 0, .int .i8 0, .int .i8 0, .int .i8 0, .int .i8 0, .int .i8 0, .int .i8 0, .int .i8 0, .int .i8 0, .int .i16 0, .int .i16 0, .int .i16 0, .int .i8 0, .bool false, .bool false]) ?_ 0 _ rfl; (with_reducible repeat (first | refine zb ?_ _ | refine zd ?_ | refine za ?_ _)); exact BK350.out⟩, ⟨by repeat (first | (with_reducible first | exact HB.out | apply zg | apply zc | apply zf | refine zi ?_ GE305.out | refine zi ?_ GE350.out) | exact HB.out)⟩⟩
           case round =>
            clear H'
            try clear c1
            try clear c2
            try clear p2
            try clear c3
            try clear c4
            try clear c4b0
            try clear c4b1
            try clear c5
            try clear c6
            try clear p6
            try clear c7
            try clear c15
            try clear c15b0
            try clear c15b1
            try clear c16
            try clear c22
            try clear c25
            try clear c25b0
            try clear c25b1
            try clear c29
            try clear c29b0
            try clear c33
            try clear y2_0 y2_1 y2_2
            try clear y3_0 y3_1 y3_2
            try clear y4_0 y4_1 y4_2
            try clear y5_0 y5_1 y5_2
            try clear y6_0 y6_1 y6_2
            try clear y7_0 y7_1 y7_10 y7_11 y7_12 y7_13 y7_14 y7_15 y7_16 y7_17 y7_18 y7_19 y7_2 y7_3 y7_4 y7_5 y7_6 y7_7 y7_8 y7_9
            try clear y1_0 y1_1 y1_2
            try clear z2_0 z2_1 z2_2
            try clear z3_0 z3_1 z3_2
            try clear z4_0 z4_1 z4_2
            try clear z5_0 z5_1 z5_2
            try clear z6_0 z6_1 z6_2
            try clear z7_0 z7_1 z7_10 z7_11 z7_12 z7_13 z7_14 z7_15 z7_16 z7_17 z7_18 z7_19 z7_2 z7_3 z7_4 z7_5 z7_6 z7_7 z7_8 z7_9
            try clear z1_0 z1_1 z1_2
            try clear p2
            try clear p6
            obtain ⟨x12_4, x351014_4, x351015_4, x351016_4, rfl, HA, HK4, HO_6, BK305, BK350, HB⟩ := hrel
            cases gk with
            | zero => exact absurd HA.out (by simp [spec_TreeOf.l3])
            | succ k4 =>
             have H := HA.out
             clear HA
             simp only [spec_TreeOf.l3] at H
             by_cases c35 : x12_4 < 3
             ·rw [if_pos c35] at H
              have c35b0 : decide (x12_4 < 3) = true := decide_eq_true c35
              clear c35
              by_cases c36 : 0 ≤ x12_4
              ·rw [if_pos c36] at H
               have c36b0 : decide (0 ≤ x12_4) = true := decide_eq_true c36
               clear c36
               have H' := ze.mk H
               clear H
               have p37 : 0 ≤ (x12_4 : Int) := od (by first | (with_reducible assumption) | assumption)
               have q37 : x12_4 < (3 : Int) := od (by first | (with_reducible assumption) | assumption)
               replace p37 := eq_true p37
               replace q37 := eq_true q37
               have hnb38 := NB350_305.out
               have hnc38 := NB305_350.out
               obtain ⟨y8_0, y8_1, y8_2, y8_3, y8_4, y8_5, y8_6, y8_7, y8_8, y8_9, y8_10, y8_11, y8_12, y8_13, y8_14, y8_15, y8_16, y8_17, y8_18, y8_19, z8_0, z8_1, z8_2, z8_3, z8_4, z8_5, z8_6, z8_7, z8_8, z8_9, z8_10, z8_11, z8_12, z8_13, z8_14, z8_15, z8_16, z8_17, z8_18, z8_19⟩ := cf20 BK350.out
               go_wp2_with (first | ((with_reducible refine zja (t := 99) (p := 76) rfl ?_); have u1_0 : wr.cell? ⟨gb350, 14 + (x12_4).toNat, none⟩ = some (.int .i16 (rd [x351014_4, x351015_4, x351016_4] x12_4)) := (zo BK350.out _).trans (by rcases (show (x12_4 : Int) = 0 ∨ (x12_4 : Int) = 1 ∨ (x12_4 : Int) = 2 by have hp_ : 0 ≤ (x12_4 : Int) := od (by first | (with_reducible assumption) | assumption); have hq_ : x12_4 < (3 : Int) := od (by first | (with_reducible assumption) | assumption); omega) with h_ | h_ | h_ <;> rw [h_] <;> rfl); have z9_0 := zw BK350.out (14 + (x12_4).toNat); refine zia (t := 99) (p := 76) (v := ?vo_w41) (w1 := (wr.setCell ⟨gb350, 14 + (x12_4).toNat, none⟩ (.int .i16 (IntKind.i16.wrap (wrap64 ((wrap64 ((wrap64 (x7_2 + t334)) + (wrap64 (3 * x10_3)))) + x12_4)))))) ?hg ?ho ?hn ?hr ?_; (case ho => rfl); (case hg => rfl); (case hn => rfl); (case hr => first | (go_simp; done) | (go_simp; rfl)); intro w41 hw; have n0_ : ze (Kd.R k102 102 w41 w.heap.size (fun k_ => k_ ≠ gb350) u6 x6_3) := ⟨(by rw [hw]; exact (by (with_reducible repeat (first | apply Kd.R_alloc | apply Kd.R_drewN | apply Kd.R_drew)); exact Kd.R_mono (Kd.R_far (p := ⟨gb350, 14 + (x12_4).toNat, none⟩) (Kd.R_mono HO_6.out (fun k_ hk => (⟨hk, hk⟩ : _ ∧ k_ ≠ gb350))) (fun _ hk => hk.2) (.int .i16 (IntKind.i16.wrap (wrap64 ((wrap64 ((wrap64 (x7_2 + t334)) + (wrap64 (3 * x10_3)))) + x12_4))))) (fun _ hk => hk.1)))⟩; have n1_ : ze (w41.heap[gb305]? = some (.cells #[.int .i8 x306000_3, .int .i8 x306001_3, .slice A0_2 l0_2.length c0_2] 28 (0, 0))) := ⟨(by rw [hw]; exact (by (with_reducible repeat (first | refine zb ?_ _ | refine zd ?_ | refine za ?_ _)); refine zq ?_ NB305_350.out _; (with_reducible repeat (first | refine zb ?_ _ | refine zd ?_ | refine za ?_ _)); exact BK305.out))⟩; have n2_ : ze (w41.heap[gb350]? = some (.cells #[.int .i8 t336, .int .i8 t337, .int .i8 t338, .int .i8 t339, .int .i8 t340, .int .i8 t341, .int .i8 t342, .int .i8 t343, .int .i8 t344, .int .i8 t345, .int .i8 t346, .int .i8 t347, .int .i8 t348, .int .i8 t349, .int .i16 (zv x12_4 0 (IntKind.i16.wrap (wrap64 ((wrap64 ((wrap64 (x7_2 + t334)) + (wrap64 (3 * x10_3)))) + x12_4))) x351014_4), .int .i16 (zv x12_4 1 (IntKind.i16.wrap (wrap64 ((wrap64 ((wrap64 (x7_2 + t334)) + (wrap64 (3 * x10_3)))) + x12_4))) x351015_4), .int .i16 (zv x12_4 2 (IntKind.i16.wrap (wrap64 ((wrap64 ((wrap64 (x7_2 + t334)) + (wrap64 (3 * x10_3)))) + x12_4))) x351016_4), .int .i8 0, .bool false, .bool false] 102 (0, 0))) := ⟨(by rw [hw]; exact (by (with_reducible repeat (first | refine zb ?_ _ | refine zd ?_ | refine za ?_ _)); refine zp (cs := #[.int .i8 t336, .int .i8 t337, .int .i8 t338, .int .i8 t339, .int .i8 t340, .int .i8 t341, .int .i8 t342, .int .i8 t343, .int .i8 t344, .int .i8 t345, .int .i8 t346, .int .i8 t347, .int .i8 t348, .int .i8 t349, .int .i16 x351014_4, .int .i16 x351015_4, .int .i16 x351016_4, .int .i8 0, .bool false, .bool false]) ?_ (14 + (x12_4).toNat) _ (by rcases (show (x12_4 : Int) = 0 ∨ (x12_4 : Int) = 1 ∨ (x12_4 : Int) = 2 by have hp_ : 0 ≤ (x12_4 : Int) := od (by first | (with_reducible assumption) | assumption); have hq_ : x12_4 < (3 : Int) := od (by first | (with_reducible assumption) | assumption); omega) with h_ | h_ | h_ <;> rw [h_] <;> rfl); (with_reducible repeat (first | refine zb ?_ _ | refine zd ?_ | refine za ?_ _)); exact BK350.out))⟩; have n3_ : ze (Below w.heap.size w w41) := ⟨(by rw [hw]; exact (by repeat (first | (with_reducible first | exact HB.out | apply zg | apply zc | apply zf | refine zi ?_ GE305.out | refine zi ?_ GE350.out) | exact HB.out)))⟩; clear hw; clear HO_6; clear BK305; clear BK350; clear HB; have HO_6 := n0_; have BK305 := n1_; have BK350 := n2_; have HB := n3_; clear n0_ n1_ n2_ n3_))
               go_roundg k4
               case measure => have := HJ10.out; have := HK2.out; have := HK3.out; have := HK4.out; omega
               case rel => exact ⟨(wrap64 (x12_4 + 1)), ((zv x12_4 0 (IntKind.i16.wrap (wrap64 ((wrap64 ((wrap64 (x7_2 + t334)) + (wrap64 (3 * x10_3)))) + x12_4))) x351014_4)), ((zv x12_4 1 (IntKind.i16.wrap (wrap64 ((wrap64 ((wrap64 (x7_2 + t334)) + (wrap64 (3 * x10_3)))) + x12_4))) x351015_4)), ((zv x12_4 2 (IntKind.i16.wrap (wrap64 ((wrap64 ((wrap64 (x7_2 + t334)) + (wrap64 (3 * x10_3)))) + x12_4))) x351016_4)), (by first | rfl | (simp; done) | (simp [*]; done)), H', ⟨by have := HJ10.out; have := HK2.out; have := HK3.out; have := HK4.out; omega⟩, ⟨by (with_reducible repeat (first | apply Kd.R_alloc | apply Kd.R_drewN | apply Kd.R_drew)); exact HO_6.out⟩, ⟨by (with_reducible repeat (first | refine zb ?_ _ | refine zd ?_ | refine za ?_ _)); exact BK305.out⟩, ⟨by (with_reducible repeat (first | refine zb ?_ _ | refine zd ?_ | refine za ?_ _)); exact BK350.out⟩, ⟨by repeat (first | (with_reducible first | exact HB.out | apply zg | apply zc | apply zf | refine zi ?_ GE305.out | refine zi ?_ GE350.out) | exact HB.out)⟩⟩
              rw [if_neg c36] at H
              exact absurd H (by simp)
             rw [if_neg c35] at H
             have c35b0 : decide (x12_4 < 3) = false := decide_eq_false c35
             clear c35
             by_cases c42 : x6_3.length < 5864062014805
             ·rw [if_pos c42] at H
              have LMc42 := ze.mk c42
              clear c42
              obtain ⟨y353, hy353⟩ : ∃ y_ : List (S102), y_ = (x6_3 ++ [(⟨(⟨t336, t337, t338, t339, t340, t341, t342, t343, t344, t345, t346, t347, t348, t349⟩ : S96), (⟨x351014_4, x351015_4, x351016_4⟩ : S100), (⟨0, false⟩ : S38), false⟩ : S102)]) := ⟨_, rfl⟩
              replace H : (spec_TreeOf.l2 k4 y353 x8_2 (wrap64 (x7_2 + t334)) (wrap64 (x10_3 + 1)) x306000_3 x306001_3 l0_2) = some (r1, r2) := by first | (rw [hy353]; with_reducible exact H) | (have H2_ := (Option.bind_some _ _).symm.trans H; rw [hy353]; with_reducible exact H2_) | (have H2_ := (Option.bind_some _ _).symm.trans H; with_reducible exact H2_) | with_reducible exact H | (rw [hy353]; exact H) | exact H
              have Ny353 := ze.mk hy353
              clear hy353
              have H' := ze.mk H
              clear H
              have hnb43 := NB350_305.out
              have hnc43 := NB305_350.out
              obtain ⟨y9_0, y9_1, y9_2, y9_3, y9_4, y9_5, y9_6, y9_7, y9_8, y9_9, y9_10, y9_11, y9_12, y9_13, y9_14, y9_15, y9_16, y9_17, y9_18, y9_19, z10_0, z10_1, z10_2, z10_3, z10_4, z10_5, z10_6, z10_7, z10_8, z10_9, z10_10, z10_11, z10_12, z10_13, z10_14, z10_15, z10_16, z10_17, z10_18, z10_19⟩ := cf20 BK350.out
              go_wp2_with (first | ((with_reducible refine zu (N := 78) rfl ?_); refine zlc (T := 102) (x := ?rx2) ?ra2 ?rb2 ?rc2 BK350.out hu102 ?rd2 ?re2 ?_; (case ra2 => rfl); (case rb2 => rfl); (case rc2 => rfl); (case rd2 => rfl); (case re2 => kernel_rfl)) | ((with_reducible refine zga (b := .append) (xs := #[.tmp 77, .tmp 79]) rfl ?_); at_builtin; refine Kd.R_append k102 (w0 := w) w.heap.size rfl (.tmp 77) (.tmp 79) 51 102 (.agg #[(.int .i8 0), (.int .i8 0), (.int .i8 0), (.int .i8 0), (.int .i8 0), (.int .i8 0), (.int .i8 0), (.int .i8 0), (.int .i8 0), (.int .i8 0), (.int .i8 0), (.int .i8 0), (.int .i8 0), (.int .i8 0), (.int .i16 0), (.int .i16 0), (.int .i16 0), (.int .i8 0), (.bool false), (.bool false)]) 24 rfl Try.underlying51 zyc rfl (by decide) (by omega) u6 x6_3 (⟨(⟨t336, t337, t338, t339, t340, t341, t342, t343, t344, t345, t346, t347, t348, t349⟩ : S96), (⟨x351014_4, x351015_4, x351016_4⟩ : S100), (⟨0, false⟩ : S38), false⟩ : S102) [.int .i8 t336, .int .i8 t337, .int .i8 t338, .int .i8 t339, .int .i8 t340, .int .i8 t341, .int .i8 t342, .int .i8 t343, .int .i8 t344, .int .i8 t345, .int .i8 t346, .int .i8 t347, .int .i8 t348, .int .i8 t349, .int .i16 x351014_4, .int .i16 x351015_4, .int .i16 x351016_4, .int .i8 0, .bool false, .bool false] (fun k_ => k_ ≠ gb350) (fun _ => False) rfl rfl ?aP (fun _ hk => hk.elim) ?aF ?aO ?aB ?aS ?aL ?_; (case aP => exact zza _ _ _ (⟨(⟨t336, t337, t338, t339, t340, t341, t342, t343, t344, t345, t346, t347, t348, t349⟩ : S96), (⟨x351014_4, x351015_4, x351016_4⟩ : S100), (⟨0, false⟩ : S38), false⟩ : S102)); (case aB => exact (by repeat (first | (with_reducible first | exact HB.out | apply zg | apply zc | apply zf | refine zi ?_ GE305.out | refine zi ?_ GE350.out) | exact HB.out))); (case aF => exact (fun k_ hk => Kd.freshB (g := gb350) (o := .cells #[.int .i8 t336, .int .i8 t337, .int .i8 t338, .int .i8 t339, .int .i8 t340, .int .i8 t341, .int .i8 t342, .int .i8 t343, .int .i8 t344, .int .i8 t345, .int .i8 t346, .int .i8 t347, .int .i8 t348, .int .i8 t349, .int .i16 x351014_4, .int .i16 x351015_4, .int .i16 x351016_4, .int .i8 0, .bool false, .bool false] 102 (0, 0)) (by (with_reducible repeat (first | refine zb ?_ _ | refine zd ?_ | refine za ?_ _)); exact BK350.out) k_ hk)); (case aO => exact (by (with_reducible repeat (first | apply Kd.R_alloc | apply Kd.R_drewN | apply Kd.R_drew)); exact HO_6.out)); (case aS => exact (zaa (by repeat (first | (with_reducible first | exact HB.out | apply zg | apply zc | apply zf | refine zi ?_ GE305.out | refine zi ?_ GE350.out) | exact HB.out)))); (case aL => have := LMc42.out; omega); intro v354 w45 ho hb hg hat; rw [← Ny353.out] at ho; have n0_ := ze.mk (zla (g := gb305) (o := .cells #[.int .i8 x306000_3, .int .i8 x306001_3, .slice A0_2 l0_2.length c0_2] 28 (0, 0)) (by (with_reducible repeat (first | refine zb ?_ _ | refine zd ?_ | refine za ?_ _)); exact BK305.out) hg (Kd.R_ne HO_6.out BK305.out (by decide))); have n1_ := ze.mk (zla (g := gb350) (o := .cells #[.int .i8 t336, .int .i8 t337, .int .i8 t338, .int .i8 t339, .int .i8 t340, .int .i8 t341, .int .i8 t342, .int .i8 t343, .int .i8 t344, .int .i8 t345, .int .i8 t346, .int .i8 t347, .int .i8 t348, .int .i8 t349, .int .i16 x351014_4, .int .i16 x351015_4, .int .i16 x351016_4, .int .i8 0, .bool false, .bool false] 102 (0, 0)) (by (with_reducible repeat (first | refine zb ?_ _ | refine zd ?_ | refine za ?_ _)); exact BK350.out) hg (Kd.R_away HO_6.out (fun _ hk => hk))); have n2_ := ze.mk (hb); have n3_ := ze.mk (ho); clear BK305; clear BK350; clear HB; clear HO_6; have BK305 := n0_; have BK350 := n1_; have HB := n2_; have HO355 := n3_; clear n0_ n1_ n2_ n3_; clear ho hb hg hat))
              go_roundg k4
              case measure => have := HJ10.out; have := HK2.out; have := HK3.out; have := HK4.out; omega
              case rel => exact ⟨(y353), (wrap64 (x10_3 + 1)), (x306000_3), (x306001_3), (by first | rfl | (simp; done) | (simp [*]; done)), H', ⟨by have := HJ10.out; have := HK2.out; have := HK3.out; have := HK4.out; omega⟩, ⟨by (with_reducible repeat (first | apply Kd.R_alloc | apply Kd.R_drewN | apply Kd.R_drew)); exact Kd.R_mono HO355.out (fun _ hk => trivial)⟩, ⟨by (with_reducible repeat (first | refine zb ?_ _ | refine zd ?_ | refine za ?_ _)); exact BK305.out⟩, ⟨by repeat (first | (with_reducible first | exact HB.out | apply zg | apply zc | apply zf | refine zi ?_ GE305.out | refine zi ?_ GE350.out) | exact HB.out)⟩⟩
             rw [if_neg c42] at H
             exact absurd H (by simp)
          rw [if_neg c29] at H
          have c29b0 : decide (x10_3 < t335) = false := decide_eq_false c29
          clear c29
          have H' := ze.mk H
          clear H
          go_wp2_with (first | ((with_reducible refine zs (f := 52) rfl ?_); refine zda (some 56) rfl rfl Try.func52 (by kernel_rfl) rfl #[.int .i64 x8_2] rfl (by (try simp only [List.map_toArray, List.map_cons, List.map_nil]); first | done | rfl | (simp only [List.length_drop, List.length_take]; rfl)) ?_; (with_reducible refine (spec_l03Power.calls k3 x8_2 t335 _ A28.out).mono ?_); rintro e w' ⟨rfl, ⟨nd, rfl⟩⟩; refine ⟨_, rfl, ?_⟩))
          go_roundg k3
          case measure => have := HJ10.out; have := HK2.out; have := HK3.out; omega
          case rel => exact ⟨(x6_3), ((wrap64 (x7_2 + t334))), (wrap64 (x8_2 + 1)), (x306000_3), (x306001_3), (by first | rfl | (simp; done) | (simp [*]; done)), (by first | rfl | (simp; done) | (simp [*]; done)), H', ⟨by have := HJ10.out; have := HK2.out; have := HK3.out; omega⟩, ⟨by (with_reducible repeat (first | apply Kd.R_alloc | apply Kd.R_drewN | apply Kd.R_drew)); exact HO_6.out⟩, ⟨by (with_reducible repeat (first | refine zb ?_ _ | refine zd ?_ | refine za ?_ _)); exact BK305.out⟩, ⟨by repeat (first | (with_reducible first | exact HB.out | apply zg | apply zc | apply zf | refine zi ?_ GE305.out) | exact HB.out)⟩⟩
       rw [if_neg c25] at H
       have c25b0 : decide (x8_2 < (wrap64 (x306000_2))) = false := decide_eq_false c25
       (try (have c25b1 : decide (x8_2 < (IntKind.i64.wrap (x306000_2))) = false := by have h_ : decide (x8_2 < (wrap64 (x306000_2))) = false := decide_eq_false c25; simpa only [zy, zz] using h_))
       clear c25
       have H' := ze.mk H
       clear H
       obtain ⟨y10_0, y10_1, y10_2, z11_0, z11_1, z11_2⟩ := cf3 BK305.out
       go_wp2
       go_loopg [6, 13] k2 (fun kq v6 v13 w' => ∃ (x6_3 : List (S102)) (x13_3 : Int) (x306000_3 : Int) (x306001_3 : Int), v13 = .int .i64 x13_3 ∧ ze (spec_TreeOf.l4 kq x6_3 x13_3 x306000_3 x306001_3 l0_2 = some (r1, r2)) ∧ ze (kq ≤ k2) ∧ ze (Kd.R k102 102 w' w.heap.size (fun _ => True) v6 x6_3) ∧ ze (w'.heap[gb305]? = some (.cells #[.int .i8 x306000_3, .int .i8 x306001_3, (.slice A0_2 l0_2.length c0_2)] 28 (0, 0))) ∧ ze (Below w.heap.size w w'))
       case atStart => exact ⟨(x6_2), (0), (x306000_2), (x306001_2), (by first | rfl | (simp; done) | (simp [*]; done)), H', ⟨Nat.le_refl _⟩, ⟨by (with_reducible repeat (first | apply Kd.R_alloc | apply Kd.R_drewN | apply Kd.R_drew)); exact HO_6.out⟩, ⟨by (with_reducible repeat (first | refine zb ?_ _ | refine zd ?_ | refine za ?_ _)); exact BK305.out⟩, ⟨by repeat (first | (with_reducible first | exact HB.out | apply zg | apply zc | apply zf | refine zi ?_ GE305.out) | exact HB.out)⟩⟩
       case round =>
        clear H'
        try clear c1
        try clear c2
        try clear p2
        try clear c3
        try clear p3
        try clear q3
        try clear c4
        try clear c4b0
        try clear c4b1
        try clear hx4
        try clear c5
        try clear c6
        try clear p6
        try clear c7
        try clear c15
        try clear c15b0
        try clear c15b1
        try clear c16
        try clear c22
        try clear c25
        try clear c25b0
        try clear c25b1
        try clear c29
        try clear c29b0
        try clear c33
        try clear c35
        try clear c35b0
        try clear c36
        try clear c36b0
        try clear p37
        try clear q37
        try clear c38
        try clear hx40
        try clear c42
        try clear c43
        try clear y2_0 y2_1 y2_2
        try clear y3_0 y3_1 y3_2
        try clear y4_0 y4_1 y4_2
        try clear y5_0 y5_1 y5_2
        try clear y6_0 y6_1 y6_2
        try clear y7_0 y7_1 y7_10 y7_11 y7_12 y7_13 y7_14 y7_15 y7_16 y7_17 y7_18 y7_19 y7_2 y7_3 y7_4 y7_5 y7_6 y7_7 y7_8 y7_9
        try clear y8_0 y8_1 y8_10 y8_11 y8_12 y8_13 y8_14 y8_15 y8_16 y8_17 y8_18 y8_19 y8_2 y8_3 y8_4 y8_5 y8_6 y8_7 y8_8 y8_9
        try clear y9_0 y9_1 y9_10 y9_11 y9_12 y9_13 y9_14 y9_15 y9_16 y9_17 y9_18 y9_19 y9_2 y9_3 y9_4 y9_5 y9_6 y9_7 y9_8 y9_9
        try clear y10_0 y10_1 y10_2
        try clear y1_0 y1_1 y1_2
        try clear z2_0 z2_1 z2_2
        try clear z3_0 z3_1 z3_2
        try clear z4_0 z4_1 z4_2
        try clear z5_0 z5_1 z5_2
        try clear z6_0 z6_1 z6_2
        try clear z7_0 z7_1 z7_10 z7_11 z7_12 z7_13 z7_14 z7_15 z7_16 z7_17 z7_18 z7_19 z7_2 z7_3 z7_4 z7_5 z7_6 z7_7 z7_8 z7_9
        try clear z8_0 z8_1 z8_10 z8_11 z8_12 z8_13 z8_14 z8_15 z8_16 z8_17 z8_18 z8_19 z8_2 z8_3 z8_4 z8_5 z8_6 z8_7 z8_8 z8_9
        try clear z9_0
        try clear z10_0 z10_1 z10_10 z10_11 z10_12 z10_13 z10_14 z10_15 z10_16 z10_17 z10_18 z10_19 z10_2 z10_3 z10_4 z10_5 z10_6 z10_7 z10_8 z10_9
        try clear z11_0 z11_1 z11_2
        try clear z1_0 z1_1 z1_2
        try clear u1_0
        try clear p2
        try clear p37
        try clear p6
        try clear q37
        obtain ⟨x6_3, x13_3, x306000_3, x306001_3, rfl, HA, HK3, HO_6, BK305, HB⟩ := hrel
        cases gk with
        | zero => exact absurd HA.out (by simp [spec_TreeOf.l4])
        | succ k3 =>
         have H := HA.out
         clear HA
         simp only [spec_TreeOf.l4] at H
         replace H := Option.bind_eq_some_iff.mp H
         obtain ⟨t356, A470, H⟩ := H
         replace H : (if x13_3 < t356 then ((spec_l04At.f k3 (wrap64 (x306000_3)) x13_3).bind fun bt357 => ((spec_l04Decode.f k3 x306000_3 x306001_3 l0_2 bt357.1 bt357.2.1 bt357.2.2.1 bt357.2.2.2).bind fun bt361 => (if bt361.2.2 = true then (if x6_3.length < 5864062014805 then (spec_TreeOf.l4 k3 (x6_3 ++ [(⟨(⟨0, 0, 0, 0, 0, 0, 0, 0, 0, 0, 0, 0, 0, 0⟩ : S96), (⟨0, 0, 0⟩ : S100), (⟨bt361.1, bt361.2.1⟩ : S38), true⟩ : S102)]) (wrap64 (x13_3 + 1)) x306000_3 x306001_3 l0_2) else (none)) else (if x6_3.length < 5864062014805 then (spec_TreeOf.l4 k3 (x6_3 ++ [(⟨(⟨0, 0, 0, 0, 0, 0, 0, 0, 0, 0, 0, 0, 0, 0⟩ : S96), (⟨0, 0, 0⟩ : S100), (⟨(-1), false⟩ : S38), true⟩ : S102)]) (wrap64 (x13_3 + 1)) x306000_3 x306001_3 l0_2) else (none))))) else (some (x6_3, 0))) = some (r1, r2) := H
         have A47 := ze.mk A470
         clear A470
         by_cases c48 : x13_3 < t356
         ·rw [if_pos c48] at H
          have c48b0 : decide (x13_3 < t356) = true := decide_eq_true c48
          clear c48
          replace H := Option.bind_eq_some_iff.mp H
          obtain ⟨⟨t357, t358, t359, t360⟩, A490, H⟩ := H
          replace H : ((spec_l04Decode.f k3 x306000_3 x306001_3 l0_2 t357 t358 t359 t360).bind fun bt361 => (if bt361.2.2 = true then (if x6_3.length < 5864062014805 then (spec_TreeOf.l4 k3 (x6_3 ++ [(⟨(⟨0, 0, 0, 0, 0, 0, 0, 0, 0, 0, 0, 0, 0, 0⟩ : S96), (⟨0, 0, 0⟩ : S100), (⟨bt361.1, bt361.2.1⟩ : S38), true⟩ : S102)]) (wrap64 (x13_3 + 1)) x306000_3 x306001_3 l0_2) else (none)) else (if x6_3.length < 5864062014805 then (spec_TreeOf.l4 k3 (x6_3 ++ [(⟨(⟨0, 0, 0, 0, 0, 0, 0, 0, 0, 0, 0, 0, 0, 0⟩ : S96), (⟨0, 0, 0⟩ : S100), (⟨(-1), false⟩ : S38), true⟩ : S102)]) (wrap64 (x13_3 + 1)) x306000_3 x306001_3 l0_2) else (none)))) = some (r1, r2) := H
          have A49 := ze.mk A490
          clear A490
          replace H := Option.bind_eq_some_iff.mp H
          obtain ⟨⟨t361, t362, t363⟩, A500, H⟩ := H
          replace H : (if t363 = true then (if x6_3.length < 5864062014805 then (spec_TreeOf.l4 k3 (x6_3 ++ [(⟨(⟨0, 0, 0, 0, 0, 0, 0, 0, 0, 0, 0, 0, 0, 0⟩ : S96), (⟨0, 0, 0⟩ : S100), (⟨t361, t362⟩ : S38), true⟩ : S102)]) (wrap64 (x13_3 + 1)) x306000_3 x306001_3 l0_2) else (none)) else (if x6_3.length < 5864062014805 then (spec_TreeOf.l4 k3 (x6_3 ++ [(⟨(⟨0, 0, 0, 0, 0, 0, 0, 0, 0, 0, 0, 0, 0, 0⟩ : S96), (⟨0, 0, 0⟩ : S100), (⟨(-1), false⟩ : S38), true⟩ : S102)]) (wrap64 (x13_3 + 1)) x306000_3 x306001_3 l0_2) else (none))) = some (r1, r2) := H
          have A50 := ze.mk A500
          clear A500
          by_cases c51 : t363 = true
          ·subst c51
           have H1 : (if x6_3.length < 5864062014805 then (spec_TreeOf.l4 k3 (x6_3 ++ [(⟨(⟨0, 0, 0, 0, 0, 0, 0, 0, 0, 0, 0, 0, 0, 0⟩ : S96), (⟨0, 0, 0⟩ : S100), (⟨t361, t362⟩ : S38), true⟩ : S102)]) (wrap64 (x13_3 + 1)) x306000_3 x306001_3 l0_2) else (none)) = some (r1, r2) := by rw [if_pos rfl] at H; exact H
           clear H
           have H := H1
           clear H1
           by_cases c52 : x6_3.length < 5864062014805
           ·rw [if_pos c52] at H
            have LMc52 := ze.mk c52
            clear c52
            obtain ⟨y365, hy365⟩ : ∃ y_ : List (S102), y_ = (x6_3 ++ [(⟨(⟨0, 0, 0, 0, 0, 0, 0, 0, 0, 0, 0, 0, 0, 0⟩ : S96), (⟨0, 0, 0⟩ : S100), (⟨t361, t362⟩ : S38), true⟩ : S102)]) := ⟨_, rfl⟩
            replace H : (spec_TreeOf.l4 k3 y365 (wrap64 (x13_3 + 1)) x306000_3 x306001_3 l0_2) = some (r1, r2) := by first | (rw [hy365]; with_reducible exact H) | (have H2_ := (Option.bind_some _ _).symm.trans H; rw [hy365]; with_reducible exact H2_) | (have H2_ := (Option.bind_some _ _).symm.trans H; with_reducible exact H2_) | with_reducible exact H | (rw [hy365]; exact H) | exact H
            have Ny365 := ze.mk hy365
            clear hy365
            have H' := ze.mk H
            clear H
            obtain ⟨y11_0, y11_1, y11_2, z12_0, z12_1, z12_2⟩ := cf3 BK305.out
            go_wp2_with (first | ((with_reducible refine zs (f := 52) rfl ?_); refine zda (some 86) rfl rfl Try.func52 (by kernel_rfl) rfl #[.int .i64 (wrap64 (x306000_3))] rfl (by (try simp only [List.map_toArray, List.map_cons, List.map_nil]); first | done | rfl | (simp only [List.length_drop, List.length_take]; rfl)) ?_; (with_reducible refine (spec_l03Power.calls k3 (wrap64 (x306000_3)) t356 _ A47.out).mono ?_); rintro e w' ⟨rfl, ⟨nd, rfl⟩⟩; refine ⟨_, rfl, ?_⟩; (try (rw [zxc wr]; generalize hq_ : World.drewN wr _ = wr; have n0_ : ze (Kd.R k102 102 wr w.heap.size (fun _ => True) u6 x6_3) := ⟨by rw [← hq_]; exact (by (with_reducible repeat (first | apply Kd.R_alloc | apply Kd.R_drewN | apply Kd.R_drew)); exact HO_6.out)⟩; have n1_ : ze (wr.heap[gb305]? = some (.cells #[.int .i8 x306000_3, .int .i8 x306001_3, .slice A0_2 l0_2.length c0_2] 28 (0, 0))) := ⟨by rw [← hq_]; exact (by (with_reducible repeat (first | refine zb ?_ _ | refine zd ?_ | refine za ?_ _)); exact BK305.out)⟩; have n2_ : ze (Below w.heap.size w wr) := ⟨by rw [← hq_]; exact (by repeat (first | (with_reducible first | exact HB.out | apply zg | apply zc | apply zf | refine zi ?_ GE305.out) | exact HB.out))⟩; clear HO_6 BK305 HB hq_; have HO_6 := n0_; have BK305 := n1_; have HB := n2_; clear n0_ n1_ n2_)); obtain ⟨y12_0, y12_1, y12_2, z13_0, z13_1, z13_2⟩ := cf3 BK305.out) | ((with_reducible refine zs (f := 53) rfl ?_); refine zda (some 95) rfl rfl Try.func53 (by kernel_rfl) rfl #[.int .i64 (wrap64 (x306000_3)), .int .i64 x13_3] rfl (by (try simp only [List.map_toArray, List.map_cons, List.map_nil]); first | done | rfl | (simp only [List.length_drop, List.length_take]; rfl)) ?_; (with_reducible refine (spec_l04At.calls k3 (wrap64 (x306000_3)) x13_3 t357 t358 t359 t360 _ A49.out).mono ?_); rintro e w55 ⟨rfl, hb⟩; refine ⟨_, rfl, ?_⟩; have n0_ := ze.mk (Kd.R_below (by (with_reducible repeat (first | apply Kd.R_alloc | apply Kd.R_drewN | apply Kd.R_drew)); exact HO_6.out) hb); have n1_ := ze.mk (zk (by (with_reducible repeat (first | refine zb ?_ _ | refine zd ?_ | refine za ?_ _)); exact BK305.out) hb); have n2_ := ze.mk (zt (by repeat (first | (with_reducible first | exact HB.out | apply zg | apply zc | apply zf | refine zi ?_ GE305.out) | exact HB.out)) hb); clear HO_6; clear BK305; clear HB; have HO_6 := n0_; have BK305 := n1_; have HB := n2_; clear n0_ n1_ n2_; (try clear hb); (try clear hb2); (try clear hk); (try clear hi)) | ((with_reducible refine zs (f := 71) rfl ?_); refine zda (some 96) rfl rfl Try.func71 (by kernel_rfl) rfl #[.pointer (some ⟨gb305, 0, none⟩), .agg #[.int .i8 t357, .int .i8 t358, .int .i8 t359, .int .i8 t360]] rfl (by (try simp only [List.map_toArray, List.map_cons, List.map_nil]); first | done | rfl | (simp only [List.length_drop, List.length_take]; rfl)) ?_; (with_reducible refine (spec_l04Decode.calls k3 gb305 x306000_3 x306001_3 A0_2 c0_2 l0_2 t357 t358 t359 t360 t361 t362 true _ ?side1 ?side2 ?side3 A50.out).mono ?_); (case side1 => (with_reducible repeat (first | refine zb ?_ _ | refine zd ?_ | refine za ?_ _)); exact BK305.out); (case side2 => repeat (first | exact (Kd.C_below HR0_2.out HB.out) | (with_reducible refine Kd.C_alloc ?_ _) | (with_reducible refine Kd.C_drewN ?_ _) | (with_reducible refine Kd.C_drew ?_))); (case side3 => exact HC0_2.out); rintro e w56 ⟨rfl, hb⟩; refine ⟨_, rfl, ?_⟩; have n0_ := ze.mk (Kd.R_below (by (with_reducible repeat (first | apply Kd.R_alloc | apply Kd.R_drewN | apply Kd.R_drew)); exact HO_6.out) hb); have n1_ := ze.mk (zk (by (with_reducible repeat (first | refine zb ?_ _ | refine zd ?_ | refine za ?_ _)); exact BK305.out) hb); have n2_ := ze.mk (zt (by repeat (first | (with_reducible first | exact HB.out | apply zg | apply zc | apply zf | refine zi ?_ GE305.out) | exact HB.out)) hb); clear HO_6; clear BK305; clear HB; have HO_6 := n0_; have BK305 := n1_; have HB := n2_; clear n0_ n1_ n2_; (try clear hb); (try clear hb2); (try clear hk); (try clear hi)) | ((with_reducible refine zu (N := 14) rfl ?_); refine zr ?hg (N := 14) ?hd (cs := #[.int .i8 0, .bool false]) (t := 38) ?hr ?_; (case hd => rfl); (case hg => rfl); (case hr => first | (go_simp; done) | (go_simp; rfl)); intro gb364 hg w57 hbox hb; have n0_ := ze.mk (Kd.R_below (by (with_reducible repeat (first | apply Kd.R_alloc | apply Kd.R_drewN | apply Kd.R_drew)); exact HO_6.out) hb); have n1_ := ze.mk (zk (by (with_reducible repeat (first | refine zb ?_ _ | refine zd ?_ | refine za ?_ _)); exact BK305.out) hb); obtain ⟨n2_, n4_⟩ := bx (by repeat (first | (with_reducible first | exact HB.out | apply zg | apply zc | apply zf | refine zi ?_ GE305.out) | exact HB.out)) hb hg; have n3_ := ze.mk (hbox); have n5_ := n4_; have n6_ := ze.mk ((by rw [hg]; exact Nat.ne_of_lt (zba (by (with_reducible repeat (first | refine zb ?_ _ | refine zd ?_ | refine za ?_ _)); exact BK305.out)) : gb305 ≠ gb364)); have n7_ := ze.mk n6_.out.symm; clear HO_6; clear BK305; clear HB; have HO_6 := n0_; have BK305 := n1_; have HB := n2_; have BK364 := n3_; have GW364 := n4_; have GE364 := n5_; have NB305_364 := n6_; have NB364_305 := n7_; clear n0_ n1_ n2_ n3_ n4_ n5_ n6_ n7_; clear hb hbox hg; have hnb58 := NB364_305.out; have hnc58 := NB305_364.out; obtain ⟨y13_0, y13_1, z14_0, z14_1⟩ := cf2 BK364.out; have hs_59 := set2 y13_0 y13_1) | ((with_reducible refine zga (b := .append) (xs := #[.tmp 102, .tmp 105]) rfl ?_); at_builtin; refine Kd.R_append k102 (w0 := w) w.heap.size rfl (.tmp 102) (.tmp 105) 51 102 (.agg #[(.int .i8 0), (.int .i8 0), (.int .i8 0), (.int .i8 0), (.int .i8 0), (.int .i8 0), (.int .i8 0), (.int .i8 0), (.int .i8 0), (.int .i8 0), (.int .i8 0), (.int .i8 0), (.int .i8 0), (.int .i8 0), (.int .i16 0), (.int .i16 0), (.int .i16 0), (.int .i8 0), (.bool false), (.bool false)]) 24 rfl Try.underlying51 zyc rfl (by decide) (by omega) u6 x6_3 (⟨(⟨0, 0, 0, 0, 0, 0, 0, 0, 0, 0, 0, 0, 0, 0⟩ : S96), (⟨0, 0, 0⟩ : S100), (⟨t361, t362⟩ : S38), true⟩ : S102) [.int .i8 0, .int .i8 0, .int .i8 0, .int .i8 0, .int .i8 0, .int .i8 0, .int .i8 0, .int .i8 0, .int .i8 0, .int .i8 0, .int .i8 0, .int .i8 0, .int .i8 0, .int .i8 0, .int .i16 0, .int .i16 0, .int .i16 0, .int .i8 t361, .bool t362, .bool true] (fun _ => True) (fun _ => False) rfl (by first | (go_simp; done) | (go_simp; rfl)) ?aP (fun _ hk => hk.elim) ?aF ?aO ?aB ?aS ?aL ?_; (case aP => exact zza _ _ _ (⟨(⟨0, 0, 0, 0, 0, 0, 0, 0, 0, 0, 0, 0, 0, 0⟩ : S96), (⟨0, 0, 0⟩ : S100), (⟨t361, t362⟩ : S38), true⟩ : S102)); (case aB => exact (by repeat (first | (with_reducible first | exact HB.out | apply zg | apply zc | apply zf | refine zi ?_ GE305.out | refine zi ?_ GE364.out) | exact HB.out))); (case aF => exact (fun _ _ => trivial)); (case aO => exact (by (with_reducible repeat (first | apply Kd.R_alloc | apply Kd.R_drewN | apply Kd.R_drew)); exact Kd.R_mono (Kd.R_far (p := ⟨gb364, 1, none⟩) (Kd.R_far (p := ⟨gb364, 0, none⟩) (Kd.R_types HO_6.out BK364.out (by decide)) (fun _ hk => hk.2) (.int .i8 t361)) (fun _ hk => hk.2) (.bool t362)) (fun _ hk => trivial))); (case aS => exact (zaa (by repeat (first | (with_reducible first | exact HB.out | apply zg | apply zc | apply zf | refine zi ?_ GE305.out | refine zi ?_ GE364.out) | exact HB.out)))); (case aL => have := LMc52.out; omega); intro v366 w60 ho hb hg hat; rw [← Ny365.out] at ho; have n0_ := ze.mk (zla (g := gb305) (o := .cells #[.int .i8 x306000_3, .int .i8 x306001_3, .slice A0_2 l0_2.length c0_2] 28 (0, 0)) (by (with_reducible repeat (first | refine zb ?_ _ | refine zd ?_ | refine za ?_ _)); refine zq ?_ NB305_364.out _; (with_reducible repeat (first | refine zb ?_ _ | refine zd ?_ | refine za ?_ _)); refine zq ?_ NB305_364.out _; (with_reducible repeat (first | refine zb ?_ _ | refine zd ?_ | refine za ?_ _)); exact BK305.out) hg (Kd.R_ne HO_6.out BK305.out (by decide))); have n1_ := ze.mk (zla (g := gb364) (o := .cells #[.int .i8 t361, .bool t362] 38 (0, 0)) (by (with_reducible repeat (first | refine zb ?_ _ | refine zd ?_ | refine za ?_ _)); refine zp (cs := #[.int .i8 t361, .bool false]) ?_ 1 _ rfl; (with_reducible repeat (first | refine zb ?_ _ | refine zd ?_ | refine za ?_ _)); refine zp (cs := #[.int .i8 0, .bool false]) ?_ 0 _ rfl; (with_reducible repeat (first | refine zb ?_ _ | refine zd ?_ | refine za ?_ _)); exact BK364.out) hg (Kd.R_ne HO_6.out BK364.out (by decide))); have n2_ := ze.mk (hb); have n3_ := ze.mk (ho); clear BK305; clear BK364; clear HB; clear HO_6; have BK305 := n0_; have BK364 := n1_; have HB := n2_; have HO367 := n3_; clear n0_ n1_ n2_ n3_; clear ho hb hg hat))
            go_roundg k3
            case measure => have := HJ10.out; have := HK2.out; have := HK3.out; omega
            case rel => exact ⟨(y365), (wrap64 (x13_3 + 1)), (x306000_3), (x306001_3), (by first | rfl | (simp; done) | (simp [*]; done)), H', ⟨by have := HJ10.out; have := HK2.out; have := HK3.out; omega⟩, ⟨by (with_reducible repeat (first | apply Kd.R_alloc | apply Kd.R_drewN | apply Kd.R_drew)); exact HO367.out⟩, ⟨by (with_reducible repeat (first | refine zb ?_ _ | refine zd ?_ | refine za ?_ _)); exact BK305.out⟩, ⟨by repeat (first | (with_reducible first | exact HB.out | apply zg | apply zc | apply zf | refine zi ?_ GE305.out | refine zi ?_ GE364.out) | exact HB.out)⟩⟩
           rw [if_neg c52] at H
           exact absurd H (by simp)
          replace c51 := Bool.eq_false_iff.mpr c51
          subst c51
          have H1 : (if x6_3.length < 5864062014805 then (spec_TreeOf.l4 k3 (x6_3 ++ [(⟨(⟨0, 0, 0, 0, 0, 0, 0, 0, 0, 0, 0, 0, 0, 0⟩ : S96), (⟨0, 0, 0⟩ : S100), (⟨(-1), false⟩ : S38), true⟩ : S102)]) (wrap64 (x13_3 + 1)) x306000_3 x306001_3 l0_2) else (none)) = some (r1, r2) := by rw [if_neg (show ¬ (false = true) by decide)] at H; exact H
          clear H
          have H := H1
          clear H1
          by_cases c61 : x6_3.length < 5864062014805
          ·rw [if_pos c61] at H
           have LMc61 := ze.mk c61
           clear c61
           obtain ⟨y368, hy368⟩ : ∃ y_ : List (S102), y_ = (x6_3 ++ [(⟨(⟨0, 0, 0, 0, 0, 0, 0, 0, 0, 0, 0, 0, 0, 0⟩ : S96), (⟨0, 0, 0⟩ : S100), (⟨(-1), false⟩ : S38), true⟩ : S102)]) := ⟨_, rfl⟩
           replace H : (spec_TreeOf.l4 k3 y368 (wrap64 (x13_3 + 1)) x306000_3 x306001_3 l0_2) = some (r1, r2) := by first | (rw [hy368]; with_reducible exact H) | (have H2_ := (Option.bind_some _ _).symm.trans H; rw [hy368]; with_reducible exact H2_) | (have H2_ := (Option.bind_some _ _).symm.trans H; with_reducible exact H2_) | with_reducible exact H | (rw [hy368]; exact H) | exact H
           have Ny368 := ze.mk hy368
           clear hy368
           have H' := ze.mk H
           clear H
           obtain ⟨y14_0, y14_1, y14_2, z15_0, z15_1, z15_2⟩ := cf3 BK305.out
           go_wp2_with (first | ((with_reducible refine zs (f := 52) rfl ?_); refine zda (some 86) rfl rfl Try.func52 (by kernel_rfl) rfl #[.int .i64 (wrap64 (x306000_3))] rfl (by (try simp only [List.map_toArray, List.map_cons, List.map_nil]); first | done | rfl | (simp only [List.length_drop, List.length_take]; rfl)) ?_; (with_reducible refine (spec_l03Power.calls k3 (wrap64 (x306000_3)) t356 _ A47.out).mono ?_); rintro e w' ⟨rfl, ⟨nd, rfl⟩⟩; refine ⟨_, rfl, ?_⟩; (try (rw [zxc wr]; generalize hq_ : World.drewN wr _ = wr; have n0_ : ze (Kd.R k102 102 wr w.heap.size (fun _ => True) u6 x6_3) := ⟨by rw [← hq_]; exact (by (with_reducible repeat (first | apply Kd.R_alloc | apply Kd.R_drewN | apply Kd.R_drew)); exact HO_6.out)⟩; have n1_ : ze (wr.heap[gb305]? = some (.cells #[.int .i8 x306000_3, .int .i8 x306001_3, .slice A0_2 l0_2.length c0_2] 28 (0, 0))) := ⟨by rw [← hq_]; exact (by (with_reducible repeat (first | refine zb ?_ _ | refine zd ?_ | refine za ?_ _)); exact BK305.out)⟩; have n2_ : ze (Below w.heap.size w wr) := ⟨by rw [← hq_]; exact (by repeat (first | (with_reducible first | exact HB.out | apply zg | apply zc | apply zf | refine zi ?_ GE305.out) | exact HB.out))⟩; clear HO_6 BK305 HB hq_; have HO_6 := n0_; have BK305 := n1_; have HB := n2_; clear n0_ n1_ n2_)); obtain ⟨y15_0, y15_1, y15_2, z16_0, z16_1, z16_2⟩ := cf3 BK305.out) | ((with_reducible refine zs (f := 53) rfl ?_); refine zda (some 95) rfl rfl Try.func53 (by kernel_rfl) rfl #[.int .i64 (wrap64 (x306000_3)), .int .i64 x13_3] rfl (by (try simp only [List.map_toArray, List.map_cons, List.map_nil]); first | done | rfl | (simp only [List.length_drop, List.length_take]; rfl)) ?_; (with_reducible refine (spec_l04At.calls k3 (wrap64 (x306000_3)) x13_3 t357 t358 t359 t360 _ A49.out).mono ?_); rintro e w64 ⟨rfl, hb⟩; refine ⟨_, rfl, ?_⟩; have n0_ := ze.mk (Kd.R_below (by (with_reducible repeat (first | apply Kd.R_alloc | apply Kd.R_drewN | apply Kd.R_drew)); exact HO_6.out) hb); have n1_ := ze.mk (zk (by (with_reducible repeat (first | refine zb ?_ _ | refine zd ?_ | refine za ?_ _)); exact BK305.out) hb); have n2_ := ze.mk (zt (by repeat (first | (with_reducible first | exact HB.out | apply zg | apply zc | apply zf | refine zi ?_ GE305.out) | exact HB.out)) hb); clear HO_6; clear BK305; clear HB; have HO_6 := n0_; have BK305 := n1_; have HB := n2_; clear n0_ n1_ n2_; (try clear hb); (try clear hb2); (try clear hk); (try clear hi)) | ((with_reducible refine zs (f := 71) rfl ?_); refine zda (some 96) rfl rfl Try.func71 (by kernel_rfl) rfl #[.pointer (some ⟨gb305, 0, none⟩), .agg #[.int .i8 t357, .int .i8 t358, .int .i8 t359, .int .i8 t360]] rfl (by (try simp only [List.map_toArray, List.map_cons, List.map_nil]); first | done | rfl | (simp only [List.length_drop, List.length_take]; rfl)) ?_; (with_reducible refine (spec_l04Decode.calls k3 gb305 x306000_3 x306001_3 A0_2 c0_2 l0_2 t357 t358 t359 t360 t361 t362 false _ ?side1 ?side2 ?side3 A50.out).mono ?_); (case side1 => (with_reducible repeat (first | refine zb ?_ _ | refine zd ?_ | refine za ?_ _)); exact BK305.out); (case side2 => repeat (first | exact (Kd.C_below HR0_2.out HB.out) | (with_reducible refine Kd.C_alloc ?_ _) | (with_reducible refine Kd.C_drewN ?_ _) | (with_reducible refine Kd.C_drew ?_))); (case side3 => exact HC0_2.out); rintro e w65 ⟨rfl, hb⟩; refine ⟨_, rfl, ?_⟩; have n0_ := ze.mk (Kd.R_below (by (with_reducible repeat (first | apply Kd.R_alloc | apply Kd.R_drewN | apply Kd.R_drew)); exact HO_6.out) hb); have n1_ := ze.mk (zk (by (with_reducible repeat (first | refine zb ?_ _ | refine zd ?_ | refine za ?_ _)); exact BK305.out) hb); have n2_ := ze.mk (zt (by repeat (first | (with_reducible first | exact HB.out | apply zg | apply zc | apply zf | refine zi ?_ GE305.out) | exact HB.out)) hb); clear HO_6; clear BK305; clear HB; have HO_6 := n0_; have BK305 := n1_; have HB := n2_; clear n0_ n1_ n2_; (try clear hb); (try clear hb2); (try clear hk); (try clear hi)) | ((with_reducible refine zu (N := 14) rfl ?_); refine zr ?hg (N := 14) ?hd (cs := #[.int .i8 0, .bool false]) (t := 38) ?hr ?_; (case hd => rfl); (case hg => rfl); (case hr => first | (go_simp; done) | (go_simp; rfl)); intro gb364 hg w66 hbox hb; have n0_ := ze.mk (Kd.R_below (by (with_reducible repeat (first | apply Kd.R_alloc | apply Kd.R_drewN | apply Kd.R_drew)); exact HO_6.out) hb); have n1_ := ze.mk (zk (by (with_reducible repeat (first | refine zb ?_ _ | refine zd ?_ | refine za ?_ _)); exact BK305.out) hb); obtain ⟨n2_, n4_⟩ := bx (by repeat (first | (with_reducible first | exact HB.out | apply zg | apply zc | apply zf | refine zi ?_ GE305.out) | exact HB.out)) hb hg; have n3_ := ze.mk (hbox); have n5_ := n4_; have n6_ := ze.mk ((by rw [hg]; exact Nat.ne_of_lt (zba (by (with_reducible repeat (first | refine zb ?_ _ | refine zd ?_ | refine za ?_ _)); exact BK305.out)) : gb305 ≠ gb364)); have n7_ := ze.mk n6_.out.symm; clear HO_6; clear BK305; clear HB; have HO_6 := n0_; have BK305 := n1_; have HB := n2_; have BK364 := n3_; have GW364 := n4_; have GE364 := n5_; have NB305_364 := n6_; have NB364_305 := n7_; clear n0_ n1_ n2_ n3_ n4_ n5_ n6_ n7_; clear hb hbox hg; have hnb67 := NB364_305.out; have hnc67 := NB305_364.out; obtain ⟨y16_0, y16_1, z17_0, z17_1⟩ := cf2 BK364.out; have hs_68 := set2 y16_0 y16_1) | ((with_reducible refine zga (b := .append) (xs := #[.tmp 102, .tmp 105]) rfl ?_); at_builtin; refine Kd.R_append k102 (w0 := w) w.heap.size rfl (.tmp 102) (.tmp 105) 51 102 (.agg #[(.int .i8 0), (.int .i8 0), (.int .i8 0), (.int .i8 0), (.int .i8 0), (.int .i8 0), (.int .i8 0), (.int .i8 0), (.int .i8 0), (.int .i8 0), (.int .i8 0), (.int .i8 0), (.int .i8 0), (.int .i8 0), (.int .i16 0), (.int .i16 0), (.int .i16 0), (.int .i8 0), (.bool false), (.bool false)]) 24 rfl Try.underlying51 zyc rfl (by decide) (by omega) u6 x6_3 (⟨(⟨0, 0, 0, 0, 0, 0, 0, 0, 0, 0, 0, 0, 0, 0⟩ : S96), (⟨0, 0, 0⟩ : S100), (⟨(-1), false⟩ : S38), true⟩ : S102) [.int .i8 0, .int .i8 0, .int .i8 0, .int .i8 0, .int .i8 0, .int .i8 0, .int .i8 0, .int .i8 0, .int .i8 0, .int .i8 0, .int .i8 0, .int .i8 0, .int .i8 0, .int .i8 0, .int .i16 0, .int .i16 0, .int .i16 0, .int .i8 (-1), .bool false, .bool true] (fun _ => True) (fun _ => False) rfl (by first | (go_simp; done) | (go_simp; rfl)) ?aP (fun _ hk => hk.elim) ?aF ?aO ?aB ?aS ?aL ?_; (case aP => exact zza _ _ _ (⟨(⟨0, 0, 0, 0, 0, 0, 0, 0, 0, 0, 0, 0, 0, 0⟩ : S96), (⟨0, 0, 0⟩ : S100), (⟨(-1), false⟩ : S38), true⟩ : S102)); (case aB => exact (by repeat (first | (with_reducible first | exact HB.out | apply zg | apply zc | apply zf | refine zi ?_ GE305.out | refine zi ?_ GE364.out) | exact HB.out))); (case aF => exact (fun _ _ => trivial)); (case aO => exact (by (with_reducible repeat (first | apply Kd.R_alloc | apply Kd.R_drewN | apply Kd.R_drew)); exact Kd.R_mono (Kd.R_far (p := ⟨gb364, 1, none⟩) (Kd.R_far (p := ⟨gb364, 0, none⟩) (Kd.R_far (p := ⟨gb364, 1, none⟩) (Kd.R_far (p := ⟨gb364, 0, none⟩) (Kd.R_types HO_6.out BK364.out (by decide)) (fun _ hk => hk.2) (.int .i8 t361)) (fun _ hk => hk.2) (.bool t362)) (fun _ hk => hk.2) (.int .i8 (-1))) (fun _ hk => hk.2) (.bool false)) (fun _ hk => trivial))); (case aS => exact (zaa (by repeat (first | (with_reducible first | exact HB.out | apply zg | apply zc | apply zf | refine zi ?_ GE305.out | refine zi ?_ GE364.out) | exact HB.out)))); (case aL => have := LMc61.out; omega); intro v369 w69 ho hb hg hat; rw [← Ny368.out] at ho; have n0_ := ze.mk (zla (g := gb305) (o := .cells #[.int .i8 x306000_3, .int .i8 x306001_3, .slice A0_2 l0_2.length c0_2] 28 (0, 0)) (by (with_reducible repeat (first | refine zb ?_ _ | refine zd ?_ | refine za ?_ _)); refine zq ?_ NB305_364.out _; (with_reducible repeat (first | refine zb ?_ _ | refine zd ?_ | refine za ?_ _)); refine zq ?_ NB305_364.out _; (with_reducible repeat (first | refine zb ?_ _ | refine zd ?_ | refine za ?_ _)); refine zq ?_ NB305_364.out _; (with_reducible repeat (first | refine zb ?_ _ | refine zd ?_ | refine za ?_ _)); refine zq ?_ NB305_364.out _; (with_reducible repeat (first | refine zb ?_ _ | refine zd ?_ | refine za ?_ _)); exact BK305.out) hg (Kd.R_ne HO_6.out BK305.out (by decide))); have n1_ := ze.mk (zla (g := gb364) (o := .cells #[.int .i8 (-1), .bool false] 38 (0, 0)) (by (with_reducible repeat (first | refine zb ?_ _ | refine zd ?_ | refine za ?_ _)); refine zp (cs := #[.int .i8 (-1), .bool t362]) ?_ 1 _ rfl; (with_reducible repeat (first | refine zb ?_ _ | refine zd ?_ | refine za ?_ _)); refine zp (cs := #[.int .i8 t361, .bool t362]) ?_ 0 _ rfl; (with_reducible repeat (first | refine zb ?_ _ | refine zd ?_ | refine za ?_ _)); refine zp (cs := #[.int .i8 t361, .bool false]) ?_ 1 _ rfl; (with_reducible repeat (first | refine zb ?_ _ | refine zd ?_ | refine za ?_ _)); refine zp (cs := #[.int .i8 0, .bool false]) ?_ 0 _ rfl; (with_reducible repeat (first | refine zb ?_ _ | refine zd ?_ | refine za ?_ _)); exact BK364.out) hg (Kd.R_ne HO_6.out BK364.out (by decide))); have n2_ := ze.mk (hb); have n3_ := ze.mk (ho); clear BK305; clear BK364; clear HB; clear HO_6; have BK305 := n0_; have BK364 := n1_; have HB := n2_; have HO370 := n3_; clear n0_ n1_ n2_ n3_; clear ho hb hg hat))
           go_roundg k3
           case measure => have := HJ10.out; have := HK2.out; have := HK3.out; omega
           case rel => exact ⟨(y368), (wrap64 (x13_3 + 1)), (x306000_3), (x306001_3), (by first | rfl | (simp; done) | (simp [*]; done)), H', ⟨by have := HJ10.out; have := HK2.out; have := HK3.out; omega⟩, ⟨by (with_reducible repeat (first | apply Kd.R_alloc | apply Kd.R_drewN | apply Kd.R_drew)); exact HO370.out⟩, ⟨by (with_reducible repeat (first | refine zb ?_ _ | refine zd ?_ | refine za ?_ _)); exact BK305.out⟩, ⟨by repeat (first | (with_reducible first | exact HB.out | apply zg | apply zc | apply zf | refine zi ?_ GE305.out | refine zi ?_ GE364.out) | exact HB.out)⟩⟩
          rw [if_neg c61] at H
          exact absurd H (by simp)
         rw [if_neg c48] at H
         have c48b0 : decide (x13_3 < t356) = false := decide_eq_false c48
         clear c48
         simp only [Option.some.injEq, Prod.mk.injEq] at H
         obtain ⟨rfl, rfl⟩ := H
         obtain ⟨y17_0, y17_1, y17_2, z18_0, z18_1, z18_2⟩ := cf3 BK305.out
         go_wp2_with (first | ((with_reducible refine zs (f := 52) rfl ?_); refine zda (some 86) rfl rfl Try.func52 (by kernel_rfl) rfl #[.int .i64 (wrap64 (x306000_3))] rfl (by (try simp only [List.map_toArray, List.map_cons, List.map_nil]); first | done | rfl | (simp only [List.length_drop, List.length_take]; rfl)) ?_; (with_reducible refine (spec_l03Power.calls k3 (wrap64 (x306000_3)) t356 _ A47.out).mono ?_); rintro e w' ⟨rfl, ⟨nd, rfl⟩⟩; refine ⟨_, rfl, ?_⟩))
         go_ret2
         exact ⟨_, by first | rfl | (simp [zn, zm] <;> rfl) | (simp [*, zn, zm] <;> rfl), by (with_reducible repeat (first | apply Kd.R_alloc | apply Kd.R_drewN | apply Kd.R_drew)); exact HO_6.out, by repeat (first | (with_reducible first | exact HB.out | apply zg | apply zc | apply zf | refine zi ?_ GE305.out) | exact HB.out)⟩
    replace c22 := Bool.eq_false_iff.mpr c22
    subst c22
    have H1 : (some ((([] : List (S102))), 4)) = some (r1, r2) := by rw [if_neg (show ¬ (false = true) by decide)] at H; exact H
    clear H
    have H := H1
    clear H1
    obtain ⟨y328, hy328⟩ : ∃ y_ : List (S102), y_ = (([] : List (S102))) := ⟨_, rfl⟩
    replace H : (some (y328, 4)) = some (r1, r2) := by first | (rw [hy328]; with_reducible exact H) | (have H2_ := (Option.bind_some _ _).symm.trans H; rw [hy328]; with_reducible exact H2_) | (have H2_ := (Option.bind_some _ _).symm.trans H; with_reducible exact H2_) | with_reducible exact H | (rw [hy328]; exact H) | exact H
    have Ny328 := ze.mk hy328
    clear hy328
    simp only [Option.some.injEq, Prod.mk.injEq] at H
    obtain ⟨rfl, rfl⟩ := H
    go_wp2_with (first | ((with_reducible refine zu (N := 41) rfl ?_); refine Kd.R_lit k102 _ 102 ?hg (N := 41) ?hd (xs := ([] : List (S102))) (inner := []) (ok := fun _ => True) (okp := fun _ => True) ?hr ?hp (fun _ hk => hk) trivial (Below.refl _ _) (Nat.le_refl _) (by simp) ?_; (case hd => rfl); (case hg => rfl); (case hr => first | (go_simp; done) | (go_simp; rfl)); (case hp => exact (Reps.none _ _)); intro v329 w71 ho72 hb hg_ hnew_; clear hg_ hnew_; (first | rw [← Ny328.out] at ho72 | (simp only [Int.reduceToNat] at ho72; rw [← Ny328.out] at ho72)); have n0_ := ze.mk (Kd.R_lower ho72 (zaa (by repeat (first | (with_reducible first | exact HB.out | apply zg | apply zc | apply zf | refine zi ?_ GE305.out) | exact HB.out)))); have n1_ := ze.mk (zk (by (with_reducible repeat (first | refine zb ?_ _ | refine zd ?_ | refine za ?_ _)); exact BK305.out) hb); have n2_ := ze.mk (zt (by repeat (first | (with_reducible first | exact HB.out | apply zg | apply zc | apply zf | refine zi ?_ GE305.out) | exact HB.out)) hb); clear BK305; clear HB; have HO330 := n0_; have BK305 := n1_; have HB := n2_; clear n0_ n1_ n2_; clear hb ho72))
    go_ret2
    exact ⟨_, by first | rfl | (simp [zn, zm] <;> rfl) | (simp [*, zn, zm] <;> rfl), by (with_reducible repeat (first | apply Kd.R_alloc | apply Kd.R_drewN | apply Kd.R_drew)); exact HO330.out, by repeat (first | (with_reducible first | exact HB.out | apply zg | apply zc | apply zf | refine zi ?_ GE305.out) | exact HB.out)⟩
 replace c3 := Bool.eq_false_iff.mpr c3
 subst c3
 have H1 : (some ((([] : List (S102))), 1)) = some (r1, r2) := by rw [if_neg (show ¬ (false = true) by decide)] at H; exact H
 clear H
 have H := H1
 clear H1
 obtain ⟨y307, hy307⟩ : ∃ y_ : List (S102), y_ = (([] : List (S102))) := ⟨_, rfl⟩
 replace H : (some (y307, 1)) = some (r1, r2) := by first | (rw [hy307]; with_reducible exact H) | (have H2_ := (Option.bind_some _ _).symm.trans H; rw [hy307]; with_reducible exact H2_) | (have H2_ := (Option.bind_some _ _).symm.trans H; with_reducible exact H2_) | with_reducible exact H | (rw [hy307]; exact H) | exact H
 have Ny307 := ze.mk hy307
 clear hy307
 simp only [Option.some.injEq, Prod.mk.injEq] at H
 obtain ⟨rfl, rfl⟩ := H
 go_enter Try.func22, Try.ntmps22
 go_wp2_with (first | ((with_reducible refine zu (N := 1) rfl ?_); refine zr ?hg (N := 1) ?hd (cs := #[.int .i8 a0_0, .int .i8 a0_1, .slice A0_2 l0_2.length c0_2]) (t := 28) ?hr ?_; (case hd => rfl); (case hg => rfl); (case hr => first | (go_simp; done) | (go_simp; rfl)); intro gb305 hg w73 hbox hb; obtain ⟨n0_, n2_⟩ := bx (by repeat (first | (with_reducible first | exact HB.out | apply zg | apply zc | apply zf) | exact HB.out)) hb hg; have n1_ := ze.mk (hbox); have n3_ := n2_; clear HB; have HB := n0_; have BK305 := n1_; have GW305 := n2_; have GE305 := n3_; clear n0_ n1_ n2_ n3_; clear hb hbox hg) | ((with_reducible refine zs (f := 59) rfl ?_); refine zda (some 16) rfl rfl Try.func59 (by kernel_rfl) rfl #[.pointer (some ⟨gb305, 0, none⟩)] rfl (by (try simp only [List.map_toArray, List.map_cons, List.map_nil]); first | done | rfl | (simp only [List.length_drop, List.length_take]; rfl)) ?_; (with_reducible refine (spec_l04Ok.calls k gb305 a0_0 a0_1 A0_2 c0_2 l0_2 false _ ?side1 ?side2 ?side3 A2.out).mono ?_); (case side1 => (with_reducible repeat (first | refine zb ?_ _ | refine zd ?_ | refine za ?_ _)); exact BK305.out); (case side2 => repeat (first | exact (Kd.C_below HR0_2.out HB.out) | (with_reducible refine Kd.C_alloc ?_ _) | (with_reducible refine Kd.C_drewN ?_ _) | (with_reducible refine Kd.C_drew ?_))); (case side3 => exact HC0_2.out); rintro e w74 ⟨rfl, hb⟩; refine ⟨_, rfl, ?_⟩; have n0_ := ze.mk (zk (by (with_reducible repeat (first | refine zb ?_ _ | refine zd ?_ | refine za ?_ _)); exact BK305.out) hb); have n1_ := ze.mk (zt (by repeat (first | (with_reducible first | exact HB.out | apply zg | apply zc | apply zf | refine zi ?_ GE305.out) | exact HB.out)) hb); clear BK305; clear HB; have BK305 := n0_; have HB := n1_; clear n0_ n1_; (try clear hb); (try clear hb2); (try clear hk); (try clear hi)) | ((with_reducible refine zu (N := 18) rfl ?_); refine Kd.R_lit k102 _ 102 ?hg (N := 18) ?hd (xs := ([] : List (S102))) (inner := []) (ok := fun _ => True) (okp := fun _ => True) ?hr ?hp (fun _ hk => hk) trivial (Below.refl _ _) (Nat.le_refl _) (by simp) ?_; (case hd => rfl); (case hg => rfl); (case hr => first | (go_simp; done) | (go_simp; rfl)); (case hp => exact (Reps.none _ _)); intro v308 w75 ho76 hb hg_ hnew_; clear hg_ hnew_; (first | rw [← Ny307.out] at ho76 | (simp only [Int.reduceToNat] at ho76; rw [← Ny307.out] at ho76)); have n0_ := ze.mk (Kd.R_lower ho76 (zaa (by repeat (first | (with_reducible first | exact HB.out | apply zg | apply zc | apply zf | refine zi ?_ GE305.out) | exact HB.out)))); have n1_ := ze.mk (zk (by (with_reducible repeat (first | refine zb ?_ _ | refine zd ?_ | refine za ?_ _)); exact BK305.out) hb); have n2_ := ze.mk (zt (by repeat (first | (with_reducible first | exact HB.out | apply zg | apply zc | apply zf | refine zi ?_ GE305.out) | exact HB.out)) hb); clear BK305; clear HB; have HO309 := n0_; have BK305 := n1_; have HB := n2_; clear n0_ n1_ n2_; clear hb ho76))
 go_ret2
 exact ⟨_, by first | rfl | (simp [zn, zm] <;> rfl) | (simp [*, zn, zm] <;> rfl), by (with_reducible repeat (first | apply Kd.R_alloc | apply Kd.R_drewN | apply Kd.R_drew)); exact HO309.out, by repeat (first | (with_reducible first | exact HB.out | apply zg | apply zc | apply zf | refine zi ?_ GE305.out) | exact HB.out)⟩
def laws_szWordS.f (l0 : List (S42)) (a1 : Int) : Option (Int) := if (wrap64 (a1 - (l0.length : Int))) < 0 then (some (-1)) else (some (wrap64 (a1 - (l0.length : Int))))
set_option maxHeartbeats 8000000 in
set_option maxRecDepth 100000 in
theorem laws_szWordS.calls (A0 : Option Addr) (c0 : Nat) (l0 : List (S42)) (a1 : Int) (r : Int) (w : World) (hr0 : Kd.C k42 w A0 l0.length l0) (hc0 : l0.length ≤ c0) (h : laws_szWordS.f l0 a1 = some r) :
  Calls Try.prog 87 #[.slice A0 l0.length c0, .int .i64 a1] w fun e w' => e = .returned (.int .i64 r) ∧ zca w w' := by
 have HR0 := ze.mk hr0
 have HC0 := ze.mk hc0
 clear hr0 hc0
 have H : (if (wrap64 (a1 - (l0.length : Int))) < 0 then (some (-1)) else (some (wrap64 (a1 - (l0.length : Int))))) = some r := h
 clear h
 by_cases c3 : (wrap64 (a1 - (l0.length : Int))) < 0
 ·rw [if_pos c3] at H
  have c3b0 : decide ((wrap64 (a1 - (l0.length : Int))) < 0) = true := decide_eq_true c3
  (try (have c3b1 : decide ((IntKind.i64.wrap (a1 - (l0.length : Int))) < 0) = true := by have h_ : decide ((wrap64 (a1 - (l0.length : Int))) < 0) = true := decide_eq_true c3; simpa only [zy, zz] using h_))
  clear c3
  obtain rfl := Option.some.inj H
  go_enter Try.func87, Try.ntmps87
  go_wp2
  go_ret
  exact ⟨by first | rfl | (simp; done) | (simp [*]; done), by repeat (first | exact zca.refl _ | apply zca.step)⟩
 rw [if_neg c3] at H
 have c3b0 : decide ((wrap64 (a1 - (l0.length : Int))) < 0) = false := decide_eq_false c3
 (try (have c3b1 : decide ((IntKind.i64.wrap (a1 - (l0.length : Int))) < 0) = false := by have h_ : decide ((wrap64 (a1 - (l0.length : Int))) < 0) = false := decide_eq_false c3; simpa only [zy, zz] using h_))
 clear c3
 obtain rfl := Option.some.inj H
 go_enter Try.func87, Try.ntmps87
 go_wp2
 go_ret
 exact ⟨by first | rfl | (simp; done) | (simp [*]; done), by repeat (first | exact zca.refl _ | apply zca.step)⟩
def laws_szFixed.f (a0_0 : Int) (a0_1 : Int) (l0_2 : List (S42)) (a1 : Int) : Option (Int) := (laws_szWordS.f l0_2 a1).bind fun t372 => (if t372 < 0 then (some (-1)) else (some t372))
set_option maxHeartbeats 8000000 in
set_option maxRecDepth 100000 in
theorem laws_szFixed.calls (a0_0 : Int) (a0_1 : Int) (A0_2 : Option Addr) (c0_2 : Nat) (l0_2 : List (S42)) (a1 : Int) (r : Int) (w : World) (hr0_2 : Kd.C k42 w A0_2 l0_2.length l0_2) (hc0_2 : l0_2.length ≤ c0_2) (h : laws_szFixed.f a0_0 a0_1 l0_2 a1 = some r) :
  Calls Try.prog 32 #[.agg #[.int .i8 a0_0, .int .i8 a0_1, .slice A0_2 l0_2.length c0_2], .int .i64 a1] w fun e w' => e = .returned (.int .i64 r) ∧ Below w.heap.size w w' := by
 have hu67 := Try.underlying67
 have HR0_2 := ze.mk hr0_2
 have HC0_2 := ze.mk hc0_2
 clear hr0_2 hc0_2
 have HB := ze.mk (Below.refl w.heap.size w)
 have H : ((laws_szWordS.f l0_2 a1).bind fun t372 => (if t372 < 0 then (some (-1)) else (some t372))) = some r := h
 clear h
 replace H := Option.bind_eq_some_iff.mp H
 obtain ⟨t372, A30, H⟩ := H
 replace H : (if t372 < 0 then (some (-1)) else (some t372)) = some r := H
 have A3 := ze.mk A30
 clear A30
 by_cases c4 : t372 < 0
 ·rw [if_pos c4] at H
  have c4b0 : decide (t372 < 0) = true := decide_eq_true c4
  clear c4
  obtain rfl := Option.some.inj H
  go_enter Try.func32, Try.ntmps32
  go_wp2_with (first | ((with_reducible refine zu (N := 2) rfl ?_); refine zr ?hg (N := 2) ?hd (cs := #[.int .i8 a0_0, .int .i8 a0_1, .slice A0_2 l0_2.length c0_2]) (t := 67) ?hr ?_; (case hd => rfl); (case hg => rfl); (case hr => first | (go_simp; done) | (go_simp; rfl)); intro gb371 hg w5 hbox hb; obtain ⟨n0_, n2_⟩ := bx (by repeat (first | (with_reducible first | exact HB.out | apply zg | apply zc | apply zf) | exact HB.out)) hb hg; have n1_ := ze.mk (hbox); have n3_ := n2_; clear HB; have HB := n0_; have BK371 := n1_; have GW371 := n2_; have GE371 := n3_; clear n0_ n1_ n2_ n3_; clear hb hbox hg; obtain ⟨y1_0, y1_1, y1_2, z1_0, z1_1, z1_2⟩ := cf3 BK371.out) | ((with_reducible refine zs (f := 87) rfl ?_); refine zda (some 8) rfl rfl Try.func87 (by kernel_rfl) rfl #[.slice A0_2 l0_2.length c0_2, .int .i64 a1] rfl (by (try simp only [List.map_toArray, List.map_cons, List.map_nil]); first | done | rfl | (simp only [List.length_drop, List.length_take]; rfl)) ?_; (with_reducible refine (laws_szWordS.calls _ _ l0_2 a1 t372 _ ?side1 ?side2 A3.out).mono ?_); (case side1 => repeat (first | exact (Kd.C_below HR0_2.out HB.out) | (with_reducible refine Kd.C_alloc ?_ _) | (with_reducible refine Kd.C_drewN ?_ _) | (with_reducible refine Kd.C_drew ?_))); (case side2 => exact HC0_2.out); rintro e w' ⟨rfl, ⟨nd, rfl⟩⟩; refine ⟨_, rfl, ?_⟩))
  go_ret
  exact ⟨by first | rfl | (simp [zn, zm] <;> rfl) | (simp [*, zn, zm] <;> rfl), by repeat (first | (with_reducible first | exact HB.out | apply zg | apply zc | apply zf | refine zi ?_ GE371.out) | exact HB.out)⟩
 rw [if_neg c4] at H
 have c4b0 : decide (t372 < 0) = false := decide_eq_false c4
 clear c4
 obtain rfl := Option.some.inj H
 go_enter Try.func32, Try.ntmps32
 go_wp2_with (first | ((with_reducible refine zu (N := 2) rfl ?_); refine zr ?hg (N := 2) ?hd (cs := #[.int .i8 a0_0, .int .i8 a0_1, .slice A0_2 l0_2.length c0_2]) (t := 67) ?hr ?_; (case hd => rfl); (case hg => rfl); (case hr => first | (go_simp; done) | (go_simp; rfl)); intro gb371 hg w7 hbox hb; obtain ⟨n0_, n2_⟩ := bx (by repeat (first | (with_reducible first | exact HB.out | apply zg | apply zc | apply zf) | exact HB.out)) hb hg; have n1_ := ze.mk (hbox); have n3_ := n2_; clear HB; have HB := n0_; have BK371 := n1_; have GW371 := n2_; have GE371 := n3_; clear n0_ n1_ n2_ n3_; clear hb hbox hg; obtain ⟨y2_0, y2_1, y2_2, z2_0, z2_1, z2_2⟩ := cf3 BK371.out) | ((with_reducible refine zs (f := 87) rfl ?_); refine zda (some 8) rfl rfl Try.func87 (by kernel_rfl) rfl #[.slice A0_2 l0_2.length c0_2, .int .i64 a1] rfl (by (try simp only [List.map_toArray, List.map_cons, List.map_nil]); first | done | rfl | (simp only [List.length_drop, List.length_take]; rfl)) ?_; (with_reducible refine (laws_szWordS.calls _ _ l0_2 a1 t372 _ ?side1 ?side2 A3.out).mono ?_); (case side1 => repeat (first | exact (Kd.C_below HR0_2.out HB.out) | (with_reducible refine Kd.C_alloc ?_ _) | (with_reducible refine Kd.C_drewN ?_ _) | (with_reducible refine Kd.C_drew ?_))); (case side2 => exact HC0_2.out); rintro e w' ⟨rfl, ⟨nd, rfl⟩⟩; refine ⟨_, rfl, ?_⟩))
 go_ret
 exact ⟨by first | rfl | (simp [zn, zm] <;> rfl) | (simp [*, zn, zm] <;> rfl), by repeat (first | (with_reducible first | exact HB.out | apply zg | apply zc | apply zf | refine zi ?_ GE371.out) | exact HB.out)⟩
def laws_toWord.l0 : Nat → Int → Int → Int → Int → Int → Int → Int → Int → Int → Option (Int × Int × Int × Int)
 | 0, _, _, _, _, _, _, _, _, _ => none
 | k + 1, x4, x374000, x374001, x374002, x374003, x376000, x376001, x376002, x376003 => if x4 < 4 then (if 0 ≤ x4 then (laws_toWord.l0 k (wrap64 (x4 + 1)) x374000 x374001 x374002 x374003 (zv x4 0 (rd [x374000, x374001, x374002, x374003] x4) x376000) (zv x4 1 (rd [x374000, x374001, x374002, x374003] x4) x376001) (zv x4 2 (rd [x374000, x374001, x374002, x374003] x4) x376002) (zv x4 3 (rd [x374000, x374001, x374002, x374003] x4) x376003)) else (none)) else (some (x376000, x376001, x376002, x376003))
def laws_toWord.f (k : Nat) (a0_0 : Int) (a0_1 : Int) (a0_2 : Int) (a0_3 : Int) : Option (Int × Int × Int × Int) := laws_toWord.l0 k 0 a0_0 a0_1 a0_2 a0_3 0 0 0 0
set_option maxHeartbeats 8000000 in
set_option maxRecDepth 100000 in
theorem laws_toWord.calls (k : Nat) (a0_0 : Int) (a0_1 : Int) (a0_2 : Int) (a0_3 : Int) (r1 : Int) (r2 : Int) (r3 : Int) (r4 : Int) (w : World) (h : laws_toWord.f k a0_0 a0_1 a0_2 a0_3 = some (r1, r2, r3, r4)) :
  Calls Try.prog 106 #[.agg #[.int .i8 a0_0, .int .i8 a0_1, .int .i8 a0_2, .int .i8 a0_3]] w fun e w' => e = .returned (.agg #[.int .i8 r1, .int .i8 r2, .int .i8 r3, .int .i8 r4]) ∧ Below w.heap.size w w' := by
 have hu42 := Try.underlying42
 have hu43 := Try.underlying43
 have HB := ze.mk (Below.refl w.heap.size w)
 have H : (laws_toWord.l0 k 0 a0_0 a0_1 a0_2 a0_3 0 0 0 0) = some (r1, r2, r3, r4) := h
 clear h
 have H' := ze.mk H
 clear H
 go_enter Try.func106, Try.ntmps106
 go_wp2_with (first | ((with_reducible refine zu (N := 1) rfl ?_); refine zr ?hg (N := 1) ?hd (cs := #[.int .i8 a0_0, .int .i8 a0_1, .int .i8 a0_2, .int .i8 a0_3]) (t := 42) ?hr ?_; (case hd => rfl); (case hg => rfl); (case hr => first | (go_simp; done) | (go_simp; rfl)); intro gb373 hg w2 hbox hb; obtain ⟨n0_, n2_⟩ := bx (by repeat (first | (with_reducible first | exact HB.out | apply zg | apply zc | apply zf) | exact HB.out)) hb hg; have n1_ := ze.mk (hbox); have n3_ := n2_; clear HB; have HB := n0_; have BK373 := n1_; have GW373 := n2_; have GE373 := n3_; clear n0_ n1_ n2_ n3_; clear hb hbox hg) | ((with_reducible refine zu (N := 2) rfl ?_); refine zr ?hg (N := 2) ?hd (cs := #[.int .i8 0, .int .i8 0, .int .i8 0, .int .i8 0]) (t := 43) ?hr ?_; (case hd => rfl); (case hg => rfl); (case hr => first | (go_simp; done) | (go_simp; rfl)); intro gb374 hg w3 hbox hb; have n0_ := ze.mk (zk (by (with_reducible repeat (first | refine zb ?_ _ | refine zd ?_ | refine za ?_ _)); exact BK373.out) hb); obtain ⟨n1_, n3_⟩ := bx (by repeat (first | (with_reducible first | exact HB.out | apply zg | apply zc | apply zf | refine zi ?_ GE373.out) | exact HB.out)) hb hg; have n2_ := ze.mk (hbox); have n4_ := n3_; have n5_ := ze.mk ((by rw [hg]; exact Nat.ne_of_lt (zba (by (with_reducible repeat (first | refine zb ?_ _ | refine zd ?_ | refine za ?_ _)); exact BK373.out)) : gb373 ≠ gb374)); have n6_ := ze.mk n5_.out.symm; clear BK373; clear HB; have BK373 := n0_; have HB := n1_; have BK374 := n2_; have GW374 := n3_; have GE374 := n4_; have NB373_374 := n5_; have NB374_373 := n6_; clear n0_ n1_ n2_ n3_ n4_ n5_ n6_; clear hb hbox hg) | ((with_reducible refine zu (N := 3) rfl ?_); refine zr ?hg (N := 3) ?hd (cs := #[.int .i8 0, .int .i8 0, .int .i8 0, .int .i8 0]) (t := 43) ?hr ?_; (case hd => rfl); (case hg => rfl); (case hr => first | (go_simp; done) | (go_simp; rfl)); intro gb375 hg w4 hbox hb; have n0_ := ze.mk (zk (by (with_reducible repeat (first | refine zb ?_ _ | refine zd ?_ | refine za ?_ _)); exact BK373.out) hb); have n1_ := ze.mk (zk (by (with_reducible repeat (first | refine zb ?_ _ | refine zd ?_ | refine za ?_ _)); exact BK374.out) hb); obtain ⟨n2_, n4_⟩ := bx (by repeat (first | (with_reducible first | exact HB.out | apply zg | apply zc | apply zf | refine zi ?_ GE373.out | refine zi ?_ GE374.out) | exact HB.out)) hb hg; have n3_ := ze.mk (hbox); have n5_ := n4_; have n6_ := ze.mk ((by rw [hg]; exact Nat.ne_of_lt (zba (by (with_reducible repeat (first | refine zb ?_ _ | refine zd ?_ | refine za ?_ _)); exact BK373.out)) : gb373 ≠ gb375)); have n7_ := ze.mk n6_.out.symm; have n8_ := ze.mk ((by rw [hg]; exact Nat.ne_of_lt (zba (by (with_reducible repeat (first | refine zb ?_ _ | refine zd ?_ | refine za ?_ _)); exact BK374.out)) : gb374 ≠ gb375)); have n9_ := ze.mk n8_.out.symm; clear BK373; clear BK374; clear HB; have BK373 := n0_; have BK374 := n1_; have HB := n2_; have BK375 := n3_; have GW375 := n4_; have GE375 := n5_; have NB373_375 := n6_; have NB375_373 := n7_; have NB374_375 := n8_; have NB375_374 := n9_; clear n0_ n1_ n2_ n3_ n4_ n5_ n6_ n7_ n8_ n9_; clear hb hbox hg))
 go_loopg [4] k (fun kq v4 w' => ∃ (x4_1 : Int) (x376000_1 : Int) (x376001_1 : Int) (x376002_1 : Int) (x376003_1 : Int), v4 = .int .i64 x4_1 ∧ ze (laws_toWord.l0 kq x4_1 a0_0 a0_1 a0_2 a0_3 x376000_1 x376001_1 x376002_1 x376003_1 = some (r1, r2, r3, r4)) ∧ ze (kq ≤ k) ∧ ze (w'.heap[gb373]? = some (.cells #[.int .i8 a0_0, .int .i8 a0_1, .int .i8 a0_2, .int .i8 a0_3] 42 (0, 0))) ∧ ze (w'.heap[gb374]? = some (.cells #[.int .i8 0, .int .i8 0, .int .i8 0, .int .i8 0] 43 (0, 0))) ∧ ze (w'.heap[gb375]? = some (.cells #[.int .i8 x376000_1, .int .i8 x376001_1, .int .i8 x376002_1, .int .i8 x376003_1] 43 (0, 0))) ∧ ze (Below w.heap.size w w'))
 case atStart => exact ⟨(0), (0), (0), (0), (0), (by first | rfl | (simp; done) | (simp [*]; done)), H', ⟨Nat.le_refl _⟩, ⟨by (with_reducible repeat (first | refine zb ?_ _ | refine zd ?_ | refine za ?_ _)); exact BK373.out⟩, ⟨by (with_reducible repeat (first | refine zb ?_ _ | refine zd ?_ | refine za ?_ _)); exact BK374.out⟩, ⟨by (with_reducible repeat (first | refine zb ?_ _ | refine zd ?_ | refine za ?_ _)); exact BK375.out⟩, ⟨by repeat (first | (with_reducible first | exact HB.out | apply zg | apply zc | apply zf | refine zi ?_ GE373.out | refine zi ?_ GE374.out | refine zi ?_ GE375.out) | exact HB.out)⟩⟩
 case round =>
  clear H'
  try clear c1
  try clear p2
  obtain ⟨x4_1, x376000_1, x376001_1, x376002_1, x376003_1, rfl, HA, HK1, BK373, BK374, BK375, HB⟩ := hrel
  cases gk with
  | zero => exact absurd HA.out (by simp [laws_toWord.l0])
  | succ k1 =>
   have H := HA.out
   clear HA
   simp only [laws_toWord.l0] at H
   by_cases c5 : x4_1 < 4
   ·rw [if_pos c5] at H
    have c5b0 : decide (x4_1 < 4) = true := decide_eq_true c5
    clear c5
    by_cases c6 : 0 ≤ x4_1
    ·rw [if_pos c6] at H
     have c6b0 : decide (0 ≤ x4_1) = true := decide_eq_true c6
     clear c6
     have H' := ze.mk H
     clear H
     have p7 : 0 ≤ (x4_1 : Int) := od (by first | (with_reducible assumption) | assumption)
     have q7 : x4_1 < (4 : Int) := od (by first | (with_reducible assumption) | assumption)
     replace p7 := eq_true p7
     replace q7 := eq_true q7
     have hnb8 := NB373_374.out
     have hnc8 := NB374_373.out
     have hnb9 := NB373_375.out
     have hnc9 := NB375_373.out
     obtain ⟨y3_0, y3_1, y3_2, y3_3, z3_0, z3_1, z3_2, z3_3⟩ := cf4 BK373.out
     have u1_0 : wr.cell? ⟨gb373, (x4_1).toNat, none⟩ = some (.int .i8 (rd [a0_0, a0_1, a0_2, a0_3] x4_1)) := (zo BK373.out _).trans (by rcases (show (x4_1 : Int) = 0 ∨ (x4_1 : Int) = 1 ∨ (x4_1 : Int) = 2 ∨ (x4_1 : Int) = 3 by have hp_ : 0 ≤ (x4_1 : Int) := od (by first | (with_reducible assumption) | assumption); have hq_ : x4_1 < (4 : Int) := od (by first | (with_reducible assumption) | assumption); omega) with h_ | h_ | h_ | h_ <;> rw [h_] <;> rfl)
     have p12 : 0 ≤ (x4_1 : Int) := od (by first | (with_reducible assumption) | assumption)
     have q12 : x4_1 < (4 : Int) := od (by first | (with_reducible assumption) | assumption)
     replace p12 := eq_true p12
     replace q12 := eq_true q12
     have hnb13 := NB375_374.out
     have hnc13 := NB374_375.out
     obtain ⟨y4_0, y4_1, y4_2, y4_3, z4_0, z4_1, z4_2, z4_3⟩ := cf4 BK375.out
     go_wp2_with (first | ((with_reducible refine zja (t := 25) (p := 13) rfl ?_); have u2_0 : wr.cell? ⟨gb375, (x4_1).toNat, none⟩ = some (.int .i8 (rd [x376000_1, x376001_1, x376002_1, x376003_1] x4_1)) := (zo BK375.out _).trans (by rcases (show (x4_1 : Int) = 0 ∨ (x4_1 : Int) = 1 ∨ (x4_1 : Int) = 2 ∨ (x4_1 : Int) = 3 by have hp_ : 0 ≤ (x4_1 : Int) := od (by first | (with_reducible assumption) | assumption); have hq_ : x4_1 < (4 : Int) := od (by first | (with_reducible assumption) | assumption); omega) with h_ | h_ | h_ | h_ <;> rw [h_] <;> rfl); have z5_0 := zw BK375.out ((x4_1).toNat); refine zia (t := 25) (p := 13) (v := ?vo_w16) (w1 := (wr.setCell ⟨gb375, (x4_1).toNat, none⟩ (.int .i8 (rd [a0_0, a0_1, a0_2, a0_3] x4_1)))) ?hg ?ho ?hn ?hr ?_; (case ho => rfl); (case hg => rfl); (case hn => rfl); (case hr => first | (go_simp; done) | (go_simp; rfl)); intro w16 hw; have n0_ : ze (w16.heap[gb373]? = some (.cells #[.int .i8 a0_0, .int .i8 a0_1, .int .i8 a0_2, .int .i8 a0_3] 42 (0, 0))) := ⟨(by rw [hw]; exact (by (with_reducible repeat (first | refine zb ?_ _ | refine zd ?_ | refine za ?_ _)); refine zq ?_ NB373_375.out _; (with_reducible repeat (first | refine zb ?_ _ | refine zd ?_ | refine za ?_ _)); exact BK373.out))⟩; have n1_ : ze (w16.heap[gb374]? = some (.cells #[.int .i8 0, .int .i8 0, .int .i8 0, .int .i8 0] 43 (0, 0))) := ⟨(by rw [hw]; exact (by (with_reducible repeat (first | refine zb ?_ _ | refine zd ?_ | refine za ?_ _)); refine zq ?_ NB374_375.out _; (with_reducible repeat (first | refine zb ?_ _ | refine zd ?_ | refine za ?_ _)); exact BK374.out))⟩; have n2_ : ze (w16.heap[gb375]? = some (.cells #[.int .i8 (zv x4_1 0 (rd [a0_0, a0_1, a0_2, a0_3] x4_1) x376000_1), .int .i8 (zv x4_1 1 (rd [a0_0, a0_1, a0_2, a0_3] x4_1) x376001_1), .int .i8 (zv x4_1 2 (rd [a0_0, a0_1, a0_2, a0_3] x4_1) x376002_1), .int .i8 (zv x4_1 3 (rd [a0_0, a0_1, a0_2, a0_3] x4_1) x376003_1)] 43 (0, 0))) := ⟨(by rw [hw]; exact (by (with_reducible repeat (first | refine zb ?_ _ | refine zd ?_ | refine za ?_ _)); refine zp (cs := #[.int .i8 x376000_1, .int .i8 x376001_1, .int .i8 x376002_1, .int .i8 x376003_1]) ?_ ((x4_1).toNat) _ (by rcases (show (x4_1 : Int) = 0 ∨ (x4_1 : Int) = 1 ∨ (x4_1 : Int) = 2 ∨ (x4_1 : Int) = 3 by have hp_ : 0 ≤ (x4_1 : Int) := od (by first | (with_reducible assumption) | assumption); have hq_ : x4_1 < (4 : Int) := od (by first | (with_reducible assumption) | assumption); omega) with h_ | h_ | h_ | h_ <;> rw [h_] <;> rfl); (with_reducible repeat (first | refine zb ?_ _ | refine zd ?_ | refine za ?_ _)); exact BK375.out))⟩; have n3_ : ze (Below w.heap.size w w16) := ⟨(by rw [hw]; exact (by repeat (first | (with_reducible first | exact HB.out | apply zg | apply zc | apply zf | refine zi ?_ GE373.out | refine zi ?_ GE374.out | refine zi ?_ GE375.out) | exact HB.out)))⟩; clear hw; clear BK373; clear BK374; clear BK375; clear HB; have BK373 := n0_; have BK374 := n1_; have BK375 := n2_; have HB := n3_; clear n0_ n1_ n2_ n3_))
     go_roundg k1
     case measure => have := HK1.out; omega
     case rel => exact ⟨(wrap64 (x4_1 + 1)), ((zv x4_1 0 (rd [a0_0, a0_1, a0_2, a0_3] x4_1) x376000_1)), ((zv x4_1 1 (rd [a0_0, a0_1, a0_2, a0_3] x4_1) x376001_1)), ((zv x4_1 2 (rd [a0_0, a0_1, a0_2, a0_3] x4_1) x376002_1)), ((zv x4_1 3 (rd [a0_0, a0_1, a0_2, a0_3] x4_1) x376003_1)), (by first | rfl | (simp; done) | (simp [*]; done)), H', ⟨by have := HK1.out; omega⟩, ⟨by (with_reducible repeat (first | refine zb ?_ _ | refine zd ?_ | refine za ?_ _)); exact BK373.out⟩, ⟨by (with_reducible repeat (first | refine zb ?_ _ | refine zd ?_ | refine za ?_ _)); exact BK374.out⟩, ⟨by (with_reducible repeat (first | refine zb ?_ _ | refine zd ?_ | refine za ?_ _)); exact BK375.out⟩, ⟨by repeat (first | (with_reducible first | exact HB.out | apply zg | apply zc | apply zf | refine zi ?_ GE373.out | refine zi ?_ GE374.out | refine zi ?_ GE375.out) | exact HB.out)⟩⟩
    rw [if_neg c6] at H
    exact absurd H (by simp)
   rw [if_neg c5] at H
   have c5b0 : decide (x4_1 < 4) = false := decide_eq_false c5
   clear c5
   simp only [Option.some.injEq, Prod.mk.injEq] at H
   obtain ⟨rfl, rfl, rfl, rfl⟩ := H
   have hnb17 := NB375_373.out
   have hnc17 := NB373_375.out
   have hnb18 := NB375_374.out
   have hnc18 := NB374_375.out
   obtain ⟨y5_0, y5_1, y5_2, y5_3, z6_0, z6_1, z6_2, z6_3⟩ := cf4 BK375.out
   have hnb20 := NB374_373.out
   have hnc20 := NB373_374.out
   obtain ⟨y6_0, y6_1, y6_2, y6_3, z7_0, z7_1, z7_2, z7_3⟩ := cf4 BK374.out
   go_wp2
   refine bodyPost_ret (results_cell_row rfl _ _ gb374 43 #[.int .i8 x376000_1, .int .i8 x376001_1, .int .i8 x376002_1, .int .i8 x376003_1] (0, 0) _ rfl (by (with_reducible repeat (first | refine zb ?_ _ | refine zd ?_ | refine za ?_ _)); refine zp (cs := #[.int .i8 x376000_1, .int .i8 x376001_1, .int .i8 x376002_1, .int .i8 0]) ?_ 3 _ rfl; (with_reducible repeat (first | refine zb ?_ _ | refine zd ?_ | refine za ?_ _)); refine zp (cs := #[.int .i8 x376000_1, .int .i8 x376001_1, .int .i8 0, .int .i8 0]) ?_ 2 _ rfl; (with_reducible repeat (first | refine zb ?_ _ | refine zd ?_ | refine za ?_ _)); refine zp (cs := #[.int .i8 x376000_1, .int .i8 0, .int .i8 0, .int .i8 0]) ?_ 1 _ rfl; (with_reducible repeat (first | refine zb ?_ _ | refine zd ?_ | refine za ?_ _)); refine zp (cs := #[.int .i8 0, .int .i8 0, .int .i8 0, .int .i8 0]) ?_ 0 _ rfl; (with_reducible repeat (first | refine zb ?_ _ | refine zd ?_ | refine za ?_ _)); exact BK374.out) Try.underlying43 rfl (by kernel_rfl)) rfl ?_
   exact ⟨by first | rfl | (simp [zn, zm] <;> rfl) | (simp [*, zn, zm] <;> rfl), by repeat (first | (with_reducible first | exact HB.out | apply zg | apply zc | apply zf | refine zi ?_ GE373.out | refine zi ?_ GE374.out | refine zi ?_ GE375.out) | exact HB.out)⟩
def laws_toWordS.l0 : Nat → List (S42) → List (S43) → Int → Option ((List (S43)))
 | 0, _, _, _ => none
 | k + 1, x0, x3, x4 => if x4 < (x0.length : Int) then (if 0 ≤ x4 then ((laws_toWord.f k ((zua x0 x4).f0) ((zua x0 x4).f1) ((zua x0 x4).f2) ((zua x0 x4).f3)).bind fun bt384 => (if x4 < (x3.length : Int) then (laws_toWordS.l0 k x0 (x3.set (x4 : Int).toNat (⟨bt384.1, bt384.2.1, bt384.2.2.1, bt384.2.2.2⟩ : S43)) (wrap64 (x4 + 1))) else (none))) else (none)) else (some x3)
def laws_toWordS.f (k : Nat) (l0 : List (S42)) : Option ((List (S43))) := if 0 ≤ (l0.length : Int) then (if ((l0.length : Int) : Int).toNat ≤ 70368744177664 then (laws_toWordS.l0 k l0 (List.replicate ((l0.length : Int) : Int).toNat z43) 0) else (none)) else (none)
set_option maxHeartbeats 8000000 in
set_option maxRecDepth 100000 in
theorem laws_toWordS.calls (k : Nat) (A0 : Option Addr) (c0 : Nat) (l0 : List (S42)) (r : List (S43)) (w : World) (hr0 : Kd.C k42 w A0 l0.length l0) (hc0 : l0.length ≤ c0) (h : laws_toWordS.f k l0 = some r) :
  Calls Try.prog 88 #[.slice A0 l0.length c0] w fun e w' => ∃ v0_ : Value, e = .returned (v0_) ∧ Kd.R k43 43 w' w.heap.size (fun _ => True) v0_ r ∧ Below w.heap.size w w' := by
 have hu42 := Try.underlying42
 have hu43 := Try.underlying43
 have HR0 := ze.mk hr0
 have HC0 := ze.mk hc0
 clear hr0 hc0
 have HB := ze.mk (Below.refl w.heap.size w)
 have H : (if 0 ≤ (l0.length : Int) then (if ((l0.length : Int) : Int).toNat ≤ 70368744177664 then (laws_toWordS.l0 k l0 (List.replicate ((l0.length : Int) : Int).toNat z43) 0) else (none)) else (none)) = some r := h
 clear h
 by_cases c2 : 0 ≤ (l0.length : Int)
 ·rw [if_pos c2] at H
  have c2b0 := eq_true c2
  have c2b1 : decide (0 ≤ (l0.length : Int)) = true := decide_eq_true c2
  clear c2
  by_cases c3 : ((l0.length : Int) : Int).toNat ≤ 70368744177664
  ·rw [if_pos c3] at H
   have c3b0 := eq_true c3
   have c3b1 : decide (((l0.length : Int) : Int).toNat ≤ 70368744177664) = true := decide_eq_true c3
   clear c3
   obtain ⟨y380, hy380⟩ : ∃ y_ : List (S43), y_ = (List.replicate ((l0.length : Int) : Int).toNat z43) := ⟨_, rfl⟩
   replace H : (laws_toWordS.l0 k l0 y380 0) = some r := by first | (rw [hy380]; with_reducible exact H) | (have H2_ := (Option.bind_some _ _).symm.trans H; rw [hy380]; with_reducible exact H2_) | (have H2_ := (Option.bind_some _ _).symm.trans H; with_reducible exact H2_) | with_reducible exact H | (rw [hy380]; exact H) | exact H
   have Ny380 := ze.mk hy380
   clear hy380
   have H' := ze.mk H
   clear H
   go_enter Try.func88, Try.ntmps88
   go_wp2_with (first | ((with_reducible refine zu (N := 7) rfl ?_); refine Kd.R_make k43 _ 43 rfl (N := 7) rfl 26 _ _ rfl (l0.length : Int) rfl rfl Try.underlying26 (.agg #[(.int .i8 0), (.int .i8 0), (.int .i8 0), (.int .i8 0)]) 4 info43 rfl (by decide) (by omega) z43 (ok := fun _ => True) (okp := fun _ => True) (zye _ _ _ z43 ) (fun _ hk => hk) trivial (od (by first | (with_reducible assumption) | assumption)) (Nat.le_trans (Nat.mul_le_mul_right _ (od (by first | (with_reducible assumption) | assumption) : (l0.length : Int).toNat ≤ 70368744177664)) (by omega)) (Below.refl _ _) (Nat.le_refl _) ?_; intro v381 w4 ho5 hb hg_ hnew_; clear hg_ hnew_; (first | rw [← Ny380.out] at ho5 | (simp only [Int.reduceToNat] at ho5; rw [← Ny380.out] at ho5)); have n0_ := ze.mk (Kd.R_lower ho5 (zaa (by repeat (first | (with_reducible first | exact HB.out | apply zg | apply zc | apply zf) | exact HB.out)))); have n1_ := ze.mk (zt (by repeat (first | (with_reducible first | exact HB.out | apply zg | apply zc | apply zf) | exact HB.out)) hb); clear HB; have HO382 := n0_; have HB := n1_; clear n0_ n1_; clear hb ho5))
   go_loopg [4] k (fun kq v4 w' => ∃ (x3_1 : List (S43)) (x4_1 : Int), v4 = .int .i64 x4_1 ∧ ze (laws_toWordS.l0 kq l0 x3_1 x4_1 = some r) ∧ ze (kq ≤ k) ∧ ze (Kd.R k43 43 w' w.heap.size (fun _ => True) v381 x3_1) ∧ ze (Below w.heap.size w w'))
   case atStart => exact ⟨(y380), (0), (by first | rfl | (simp; done) | (simp [*]; done)), H', ⟨Nat.le_refl _⟩, ⟨by (with_reducible repeat (first | apply Kd.R_alloc | apply Kd.R_drewN | apply Kd.R_drew)); exact HO382.out⟩, ⟨by repeat (first | (with_reducible first | exact HB.out | apply zg | apply zc | apply zf) | exact HB.out)⟩⟩
   case round =>
    clear H'
    try clear c2
    try clear c2b0
    try clear c2b1
    try clear p2
    try clear c3
    try clear c3b0
    try clear c3b1
    obtain ⟨x3_1, x4_1, rfl, HA, HK1, HO_3, HB⟩ := hrel
    cases gk with
    | zero => exact absurd HA.out (by simp [laws_toWordS.l0])
    | succ k1 =>
     have H := HA.out
     clear HA
     simp only [laws_toWordS.l0] at H
     by_cases c6 : x4_1 < (l0.length : Int)
     ·rw [if_pos c6] at H
      have c6b0 : decide (x4_1 < (l0.length : Int)) = true := decide_eq_true c6
      clear c6
      by_cases c7 : 0 ≤ x4_1
      ·rw [if_pos c7] at H
       have c7b0 : decide (0 ≤ x4_1) = true := decide_eq_true c7
       clear c7
       replace H := Option.bind_eq_some_iff.mp H
       obtain ⟨⟨t384, t385, t386, t387⟩, A80, H⟩ := H
       replace H : (if x4_1 < (x3_1.length : Int) then (laws_toWordS.l0 k1 l0 (x3_1.set (x4_1 : Int).toNat (⟨t384, t385, t386, t387⟩ : S43)) (wrap64 (x4_1 + 1))) else (none)) = some r := H
       have A8 := ze.mk A80
       clear A80
       by_cases c9 : x4_1 < (x3_1.length : Int)
       ·rw [if_pos c9] at H
        have c9b0 : decide (x4_1 < (x3_1.length : Int)) = true := decide_eq_true c9
        clear c9
        obtain ⟨y388, hy388⟩ : ∃ y_ : List (S43), y_ = (x3_1.set (x4_1 : Int).toNat (⟨t384, t385, t386, t387⟩ : S43)) := ⟨_, rfl⟩
        replace H : (laws_toWordS.l0 k1 l0 y388 (wrap64 (x4_1 + 1))) = some r := by first | (rw [hy388]; with_reducible exact H) | (have H2_ := (Option.bind_some _ _).symm.trans H; rw [hy388]; with_reducible exact H2_) | (have H2_ := (Option.bind_some _ _).symm.trans H; with_reducible exact H2_) | with_reducible exact H | (rw [hy388]; exact H) | exact H
        have Ny388 := ze.mk hy388
        clear hy388
        have H' := ze.mk H
        clear H
        have p383 : 0 ≤ (x4_1 : Int) := od (by first | (with_reducible assumption) | assumption)
        have q383 : x4_1 < (l0.length : Int) := od (by first | (with_reducible assumption) | assumption)
        obtain ⟨ad383, e383, u3_0, u3_1, u3_2, u3_3⟩ := ac_T42 HB.out HR0.out x4_1 p383 q383
        cases e383
        replace p383 := eq_true p383
        replace q383 := eq_true q383
        go_wp2_with (first | ((with_reducible refine zs (f := 106) rfl ?_); refine zda (some 20) rfl rfl Try.func106 (by kernel_rfl) rfl #[.agg #[.int .i8 ((zua l0 x4_1).f0), .int .i8 ((zua l0 x4_1).f1), .int .i8 ((zua l0 x4_1).f2), .int .i8 ((zua l0 x4_1).f3)]] rfl (by (try simp only [List.map_toArray, List.map_cons, List.map_nil]); first | done | rfl | (simp only [List.length_drop, List.length_take]; rfl)) ?_; (with_reducible refine (laws_toWord.calls k1 ((zua l0 x4_1).f0) ((zua l0 x4_1).f1) ((zua l0 x4_1).f2) ((zua l0 x4_1).f3) t384 t385 t386 t387 _ A8.out).mono ?_); rintro e w11 ⟨rfl, hb⟩; refine ⟨_, rfl, ?_⟩; have n0_ := ze.mk (Kd.R_below (by (with_reducible repeat (first | apply Kd.R_alloc | apply Kd.R_drewN | apply Kd.R_drew)); exact HO_3.out) hb); have n1_ := ze.mk (zt (by repeat (first | (with_reducible first | exact HB.out | apply zg | apply zc | apply zf) | exact HB.out)) hb); clear HO_3; clear HB; have HO_3 := n0_; have HB := n1_; clear n0_ n1_; (try clear hb); (try clear hb2); (try clear hk); (try clear hi); have p10 : 0 ≤ (x4_1 : Int) := od (by first | (with_reducible assumption) | assumption); have q10 : (x4_1 : Int) < ((x3_1.length : Int) : Int) := od (by first | (with_reducible assumption) | assumption); obtain ⟨go10, co10, eo10, gb10, gl10, cl10, HG10⟩ := Kd.R_form HO_3.out (by omega); (first | cases eo10 | (injection eo10 with ea_ en_ ec_; (first | subst ea_ | (injection ea_ with ea_; subst ea_)); subst ec_; clear en_)); have GB10 := ze.mk gb10; have GG10 := ze.mk HG10; clear gb10 gl10 HG10; obtain ⟨ce10, hcl10, hM10, hcc10, hfr10⟩ := Kd.R_elem HO_3.out z43 (x4_1 : Int) p10 q10; obtain rfl := zoc hM10; have u4_0 : w11.cell? ⟨go10, (x4_1 : Int).toNat * 4, none⟩ = some (.int .i8 ((zj x3_1 x4_1).f0)) := hcc10 0 _ rfl; have u4_1 : w11.cell? ⟨go10, (x4_1 : Int).toNat * 4 + 1, none⟩ = some (.int .i8 ((zj x3_1 x4_1).f1)) := hcc10 1 _ rfl; have u4_2 : w11.cell? ⟨go10, (x4_1 : Int).toNat * 4 + 2, none⟩ = some (.int .i8 ((zj x3_1 x4_1).f2)) := hcc10 2 _ rfl; have u4_3 : w11.cell? ⟨go10, (x4_1 : Int).toNat * 4 + 3, none⟩ = some (.int .i8 ((zj x3_1 x4_1).f3)) := hcc10 3 _ rfl; have t1_0 : w11.frozen? ⟨go10, (x4_1 : Int).toNat * 4, none⟩ = false := hfr10 0; have t1_1 : w11.frozen? ⟨go10, (x4_1 : Int).toNat * 4 + 1, none⟩ = false := hfr10 1; have t1_2 : w11.frozen? ⟨go10, (x4_1 : Int).toNat * 4 + 2, none⟩ = false := hfr10 2; have t1_3 : w11.frozen? ⟨go10, (x4_1 : Int).toNat * 4 + 3, none⟩ = false := hfr10 3; clear hcl10 hcc10 hfr10 hM10; replace p10 := eq_true p10; replace q10 := eq_true q10; have HX12 := ze.mk (show Kd.R k43 43 w11 w.heap.size (fun _ => True) (.slice (some ⟨go10, 0, none⟩) x3_1.length co10) x3_1 from (by (with_reducible repeat (first | apply Kd.R_alloc | apply Kd.R_drewN | apply Kd.R_drew)); exact HO_3.out)); obtain ⟨ce12, hcl12, hM12, hcc12, hfr12⟩ := Kd.R_elem HX12.out z43 (x4_1 : Int) (od (by first | (with_reducible assumption) | assumption)) (by have h_ : (x4_1 : Int) < ((x3_1.length : Int) : Int) := od (by first | (with_reducible assumption) | assumption); first | exact h_ | (have e_ := (Kd.R_reads' HO_3.out).1; omega) | simpa using h_); obtain rfl := zoc hM12; have HP12 := Kd.R_seg HX12.out (x4_1 : Int) (od (by first | (with_reducible assumption) | assumption)) (by have h_ : (x4_1 : Int) < ((x3_1.length : Int) : Int) := od (by first | (with_reducible assumption) | assumption); first | exact h_ | (have e_ := (Kd.R_reads' HO_3.out).1; omega) | simpa using h_) (seg := [.int .i8 t384, .int .i8 t385, .int .i8 t386, .int .i8 t387]) (j := 0) hcl12 hcc12 (show 4 ≤ 4 from by decide) (x' := (⟨t384, t385, t386, t387⟩ : S43)) (zye _ _ _ (⟨t384, t385, t386, t387⟩ : S43) ) (fun _ hk => hk); have u5_0 := hcc12 0 _ rfl; (try simp only [show (k43).sz = 4 from rfl, Nat.mul_one, Nat.add_zero] at u5_0); have t2_0 := hfr12 0; (try simp only [show (k43).sz = 4 from rfl, Nat.mul_one, Nat.add_zero] at t2_0); have u5_1 := hcc12 1 _ rfl; (try simp only [show (k43).sz = 4 from rfl, Nat.mul_one, Nat.add_zero] at u5_1); have t2_1 := hfr12 1; (try simp only [show (k43).sz = 4 from rfl, Nat.mul_one, Nat.add_zero] at t2_1); have u5_2 := hcc12 2 _ rfl; (try simp only [show (k43).sz = 4 from rfl, Nat.mul_one, Nat.add_zero] at u5_2); have t2_2 := hfr12 2; (try simp only [show (k43).sz = 4 from rfl, Nat.mul_one, Nat.add_zero] at t2_2); have u5_3 := hcc12 3 _ rfl; (try simp only [show (k43).sz = 4 from rfl, Nat.mul_one, Nat.add_zero] at u5_3); have t2_3 := hfr12 3; (try simp only [show (k43).sz = 4 from rfl, Nat.mul_one, Nat.add_zero] at t2_3); clear hcl12 hcc12 hfr12 hM12) | ((with_reducible refine zja (t := 43) (p := 21) rfl ?_); refine zia (t := 43) (p := 21) (v := ?vo_w13) (w1 := ((((w11.setCell ⟨go10, (x4_1 : Int).toNat * 4, none⟩ (.int .i8 t384)).setCell ⟨go10, (x4_1 : Int).toNat * 4 + 1, none⟩ (.int .i8 t385)).setCell ⟨go10, (x4_1 : Int).toNat * 4 + 2, none⟩ (.int .i8 t386)).setCell ⟨go10, (x4_1 : Int).toNat * 4 + 3, none⟩ (.int .i8 t387))) ?hg ?ho ?hn ?hr ?_; (case ho => rfl); (case hg => rfl); (case hn => rfl); (case hr => first | (go_simp; done) | (go_simp; rfl)); intro w13 hw; have hg : w11.grownBy w13 (some go10) := (by rw [hw]; exact HP12.2); have hp_ : Kd.R k43 43 w13 w.heap.size (fun _ => True) (.slice (some ⟨go10, 0, none⟩) x3_1.length co10) y388 := (by rw [hw, Ny388.out]; exact HP12.1); clear HP12; have n0_ := ze.mk (hp_); have n1_ := ze.mk ((by rw [hw]; exact zi (zi (zi (zi (HB.out) GB10.out) GB10.out) GB10.out) GB10.out : Below w.heap.size w w13)); clear HO_3; clear HB; have HO_3 := n0_; have HB := n1_; clear n0_ n1_; clear hg hw hp_))
        go_roundg k1
        case measure => have := HK1.out; omega
        case rel => exact ⟨(y388), (wrap64 (x4_1 + 1)), (by first | rfl | (simp; done) | (simp [*]; done)), H', ⟨by have := HK1.out; omega⟩, ⟨by (with_reducible repeat (first | apply Kd.R_alloc | apply Kd.R_drewN | apply Kd.R_drew)); exact HO_3.out⟩, ⟨by repeat (first | (with_reducible first | exact HB.out | apply zg | apply zc | apply zf) | exact HB.out)⟩⟩
       rw [if_neg c9] at H
       exact absurd H (by simp)
      rw [if_neg c7] at H
      exact absurd H (by simp)
     rw [if_neg c6] at H
     have c6b0 : decide (x4_1 < (l0.length : Int)) = false := decide_eq_false c6
     clear c6
     obtain rfl := Option.some.inj H
     go_wp2
     go_ret
     exact ⟨_, by first | rfl | (simp [zn, zm] <;> rfl) | (simp [*, zn, zm] <;> rfl), by (with_reducible repeat (first | apply Kd.R_alloc | apply Kd.R_drewN | apply Kd.R_drew)); exact HO_3.out, by repeat (first | (with_reducible first | exact HB.out | apply zg | apply zc | apply zf) | exact HB.out)⟩
  rw [if_neg c3] at H
  exact absurd H (by simp)
 rw [if_neg c2] at H
 exact absurd H (by simp)
def laws_toFixed.f (k : Nat) (a0_0 : Int) (a0_1 : Int) (l0_2 : List (S42)) : Option (Int × Int × (List (S43))) := (laws_toWordS.f k l0_2).bind fun t392 => (some (a0_0, a0_1, t392))
set_option maxHeartbeats 8000000 in
set_option maxRecDepth 100000 in
theorem laws_toFixed.calls (k : Nat) (a0_0 : Int) (a0_1 : Int) (A0_2 : Option Addr) (c0_2 : Nat) (l0_2 : List (S42)) (r1 : Int) (r2 : Int) (r3 : List (S43)) (w : World) (hr0_2 : Kd.C k42 w A0_2 l0_2.length l0_2) (hc0_2 : l0_2.length ≤ c0_2) (h : laws_toFixed.f k a0_0 a0_1 l0_2 = some (r1, r2, r3)) :
  Calls Try.prog 33 #[.agg #[.int .i8 a0_0, .int .i8 a0_1, .slice A0_2 l0_2.length c0_2]] w fun e w' => ∃ v2_ : Value, e = .returned (.agg #[.int .i8 r1, .int .i8 r2, v2_]) ∧ Kd.R k43 43 w' w.heap.size (fun _ => True) v2_ r3 ∧ Below w.heap.size w w' := by
 have hu67 := Try.underlying67
 have hu28 := Try.underlying28
 have HR0_2 := ze.mk hr0_2
 have HC0_2 := ze.mk hc0_2
 clear hr0_2 hc0_2
 have HB := ze.mk (Below.refl w.heap.size w)
 have H : ((laws_toWordS.f k l0_2).bind fun t392 => (some (a0_0, a0_1, t392))) = some (r1, r2, r3) := h
 clear h
 replace H := Option.bind_eq_some_iff.mp H
 obtain ⟨t392, A20, H⟩ := H
 replace H : (some (a0_0, a0_1, t392)) = some (r1, r2, r3) := H
 have A2 := ze.mk A20
 clear A20
 simp only [Option.some.injEq, Prod.mk.injEq] at H
 obtain ⟨rfl, rfl, rfl⟩ := H
 go_enter Try.func33, Try.ntmps33
 go_wp2_with (first | ((with_reducible refine zu (N := 1) rfl ?_); refine zr ?hg (N := 1) ?hd (cs := #[.int .i8 a0_0, .int .i8 a0_1, .slice A0_2 l0_2.length c0_2]) (t := 67) ?hr ?_; (case hd => rfl); (case hg => rfl); (case hr => first | (go_simp; done) | (go_simp; rfl)); intro gb389 hg w3 hbox hb; obtain ⟨n0_, n2_⟩ := bx (by repeat (first | (with_reducible first | exact HB.out | apply zg | apply zc | apply zf) | exact HB.out)) hb hg; have n1_ := ze.mk (hbox); have n3_ := n2_; clear HB; have HB := n0_; have BK389 := n1_; have GW389 := n2_; have GE389 := n3_; clear n0_ n1_ n2_ n3_; clear hb hbox hg) | ((with_reducible refine zu (N := 2) rfl ?_); refine zr ?hg (N := 2) ?hd (cs := #[.int .i8 0, .int .i8 0, .slice none 0 0]) (t := 28) ?hr ?_; (case hd => rfl); (case hg => rfl); (case hr => first | (go_simp; done) | (go_simp; rfl)); intro gb390 hg w4 hbox hb; have n0_ := ze.mk (zk (by (with_reducible repeat (first | refine zb ?_ _ | refine zd ?_ | refine za ?_ _)); exact BK389.out) hb); obtain ⟨n1_, n3_⟩ := bx (by repeat (first | (with_reducible first | exact HB.out | apply zg | apply zc | apply zf | refine zi ?_ GE389.out) | exact HB.out)) hb hg; have n2_ := ze.mk (hbox); have n4_ := n3_; have n5_ := ze.mk ((by rw [hg]; exact Nat.ne_of_lt (zba (by (with_reducible repeat (first | refine zb ?_ _ | refine zd ?_ | refine za ?_ _)); exact BK389.out)) : gb389 ≠ gb390)); have n6_ := ze.mk n5_.out.symm; clear BK389; clear HB; have BK389 := n0_; have HB := n1_; have BK390 := n2_; have GW390 := n3_; have GE390 := n4_; have NB389_390 := n5_; have NB390_389 := n6_; clear n0_ n1_ n2_ n3_ n4_ n5_ n6_; clear hb hbox hg) | ((with_reducible refine zu (N := 3) rfl ?_); refine zr ?hg (N := 3) ?hd (cs := #[.int .i8 0, .int .i8 0, .slice none 0 0]) (t := 28) ?hr ?_; (case hd => rfl); (case hg => rfl); (case hr => first | (go_simp; done) | (go_simp; rfl)); intro gb391 hg w5 hbox hb; have n0_ := ze.mk (zk (by (with_reducible repeat (first | refine zb ?_ _ | refine zd ?_ | refine za ?_ _)); exact BK389.out) hb); have n1_ := ze.mk (zk (by (with_reducible repeat (first | refine zb ?_ _ | refine zd ?_ | refine za ?_ _)); exact BK390.out) hb); obtain ⟨n2_, n4_⟩ := bx (by repeat (first | (with_reducible first | exact HB.out | apply zg | apply zc | apply zf | refine zi ?_ GE389.out | refine zi ?_ GE390.out) | exact HB.out)) hb hg; have n3_ := ze.mk (hbox); have n5_ := n4_; have n6_ := ze.mk ((by rw [hg]; exact Nat.ne_of_lt (zba (by (with_reducible repeat (first | refine zb ?_ _ | refine zd ?_ | refine za ?_ _)); exact BK389.out)) : gb389 ≠ gb391)); have n7_ := ze.mk n6_.out.symm; have n8_ := ze.mk ((by rw [hg]; exact Nat.ne_of_lt (zba (by (with_reducible repeat (first | refine zb ?_ _ | refine zd ?_ | refine za ?_ _)); exact BK390.out)) : gb390 ≠ gb391)); have n9_ := ze.mk n8_.out.symm; clear BK389; clear BK390; clear HB; have BK389 := n0_; have BK390 := n1_; have HB := n2_; have BK391 := n3_; have GW391 := n4_; have GE391 := n5_; have NB389_391 := n6_; have NB391_389 := n7_; have NB390_391 := n8_; have NB391_390 := n9_; clear n0_ n1_ n2_ n3_ n4_ n5_ n6_ n7_ n8_ n9_; clear hb hbox hg; have hnb6 := NB389_390.out; have hnc6 := NB390_389.out; have hnb7 := NB389_391.out; have hnc7 := NB391_389.out; obtain ⟨y1_0, y1_1, y1_2, z1_0, z1_1, z1_2⟩ := cf3 BK389.out; have hnb9 := NB391_390.out; have hnc9 := NB390_391.out; obtain ⟨y2_0, y2_1, y2_2, z2_0, z2_1, z2_2⟩ := cf3 BK391.out) | ((with_reducible refine zs (f := 88) rfl ?_); refine zda (some 12) rfl rfl Try.func88 (by kernel_rfl) rfl #[.slice A0_2 l0_2.length c0_2] rfl (by (try simp only [List.map_toArray, List.map_cons, List.map_nil]); first | done | rfl | (simp only [List.length_drop, List.length_take]; rfl)) ?_; (with_reducible refine (laws_toWordS.calls k _ _ l0_2 t392 _ ?side1 ?side2 A2.out).mono ?_); (case side1 => exact Kd.C_below HR0_2.out (by repeat (first | (with_reducible first | exact HB.out | apply zg | apply zc | apply zf | refine zi ?_ GE389.out | refine zi ?_ GE390.out | refine zi ?_ GE391.out) | exact HB.out))); (case side2 => exact HC0_2.out); rintro e w11 ⟨v393, rfl, ho0, hb⟩; refine ⟨_, rfl, ?_⟩; have n0_ := ze.mk (Kd.R_lower ho0 (zaa (by repeat (first | (with_reducible first | exact HB.out | apply zg | apply zc | apply zf | refine zi ?_ GE389.out | refine zi ?_ GE390.out | refine zi ?_ GE391.out) | exact HB.out)))); have n1_ := ze.mk (zk (g := gb389) (o := .cells #[.int .i8 a0_0, .int .i8 a0_1, .slice A0_2 l0_2.length c0_2] 67 (0, 0)) (by (with_reducible repeat (first | refine zb ?_ _ | refine zd ?_ | refine za ?_ _)); refine zq ?_ NB389_391.out _; (with_reducible repeat (first | refine zb ?_ _ | refine zd ?_ | refine za ?_ _)); refine zq ?_ NB389_391.out _; (with_reducible repeat (first | refine zb ?_ _ | refine zd ?_ | refine za ?_ _)); exact BK389.out) hb); have n2_ := ze.mk (zk (g := gb390) (o := .cells #[.int .i8 0, .int .i8 0, .slice none 0 0] 28 (0, 0)) (by (with_reducible repeat (first | refine zb ?_ _ | refine zd ?_ | refine za ?_ _)); refine zq ?_ NB390_391.out _; (with_reducible repeat (first | refine zb ?_ _ | refine zd ?_ | refine za ?_ _)); refine zq ?_ NB390_391.out _; (with_reducible repeat (first | refine zb ?_ _ | refine zd ?_ | refine za ?_ _)); exact BK390.out) hb); have n3_ := ze.mk (zk (g := gb391) (o := .cells #[.int .i8 a0_0, .int .i8 a0_1, .slice none 0 0] 28 (0, 0)) (by (with_reducible repeat (first | refine zb ?_ _ | refine zd ?_ | refine za ?_ _)); refine zp (cs := #[.int .i8 a0_0, .int .i8 0, .slice none 0 0]) ?_ 1 _ rfl; (with_reducible repeat (first | refine zb ?_ _ | refine zd ?_ | refine za ?_ _)); refine zp (cs := #[.int .i8 0, .int .i8 0, .slice none 0 0]) ?_ 0 _ rfl; (with_reducible repeat (first | refine zb ?_ _ | refine zd ?_ | refine za ?_ _)); exact BK391.out) hb); have n4_ := ze.mk (zt (by repeat (first | (with_reducible first | exact HB.out | apply zg | apply zc | apply zf | refine zi ?_ GE389.out | refine zi ?_ GE390.out | refine zi ?_ GE391.out) | exact HB.out)) hb); clear BK389; clear BK390; clear BK391; clear HB; have HO394 := n0_; have BK389 := n1_; have BK390 := n2_; have BK391 := n3_; have HB := n4_; clear n0_ n1_ n2_ n3_ n4_; (try clear hb); (try clear hb2); (try clear hk); (try clear hi); (try clear ho0); obtain ⟨Ao12, co12, eo12⟩ := Kd.R_slice HO394.out; subst eo12; obtain ⟨y3_0, y3_1, y3_2, z3_0, z3_1, z3_2⟩ := cf3 BK391.out; obtain ⟨y4_0, y4_1, y4_2, z4_0, z4_1, z4_2⟩ := cf3 BK390.out))
 refine bodyPost_ret (results_cell_row rfl _ _ gb390 28 #[.int .i8 a0_0, .int .i8 a0_1, .slice Ao12 t392.length co12] (0, 0) _ rfl (by (with_reducible repeat (first | refine zb ?_ _ | refine zd ?_ | refine za ?_ _)); refine zp (cs := #[.int .i8 a0_0, .int .i8 a0_1, .slice none 0 0]) ?_ 2 _ rfl; (with_reducible repeat (first | refine zb ?_ _ | refine zd ?_ | refine za ?_ _)); refine zp (cs := #[.int .i8 a0_0, .int .i8 0, .slice none 0 0]) ?_ 1 _ rfl; (with_reducible repeat (first | refine zb ?_ _ | refine zd ?_ | refine za ?_ _)); refine zp (cs := #[.int .i8 0, .int .i8 0, .slice none 0 0]) ?_ 0 _ rfl; (with_reducible repeat (first | refine zb ?_ _ | refine zd ?_ | refine za ?_ _)); refine zq ?_ NB390_391.out _; (with_reducible repeat (first | refine zb ?_ _ | refine zd ?_ | refine za ?_ _)); exact BK390.out) Try.underlying28 rfl (by kernel_rfl)) rfl ?_
 exact ⟨_, by first | rfl | (simp [zn, zm] <;> rfl) | (simp [*, zn, zm] <;> rfl), by (with_reducible repeat (first | apply Kd.R_alloc | apply Kd.R_drewN | apply Kd.R_drew)); exact Kd.R_mono (Kd.R_far (p := ⟨gb390, 2, none⟩) (Kd.R_far (p := ⟨gb390, 1, none⟩) (Kd.R_far (p := ⟨gb390, 0, none⟩) (Kd.R_far (p := ⟨gb391, 2, none⟩) (Kd.R_types (Kd.R_types HO394.out BK391.out (by decide)) BK390.out (by decide)) (fun _ hk => hk.1.2) (.slice Ao12 t392.length co12)) (fun _ hk => hk.2) (.int .i8 a0_0)) (fun _ hk => hk.2) (.int .i8 a0_1)) (fun _ hk => hk.2) (.slice Ao12 t392.length co12)) (fun _ hk => trivial), by repeat (first | (with_reducible first | exact HB.out | apply zg | apply zc | apply zf | refine zi ?_ GE389.out | refine zi ?_ GE390.out | refine zi ?_ GE391.out) | exact HB.out)⟩
def laws_eqWeighing.l0 : Nat → Int → Int → Int → Int → Int → Int → Int → Int → Int → Int → Int → Int → Int → Int → Int → Int → Int → Int → Int → Int → Int → Int → Int → Int → Int → Int → Int → Int → Int → Option (Bool)
 | 0, _, _, _, _, _, _, _, _, _, _, _, _, _, _, _, _, _, _, _, _, _, _, _, _, _, _, _, _, _ => none
 | k + 1, x5, x396000, x396001, x396002, x396003, x396004, x396005, x396006, x396007, x396008, x396009, x396010, x396011, x396012, x396013, x397000, x397001, x397002, x397003, x397004, x397005, x397006, x397007, x397008, x397009, x397010, x397011, x397012, x397013 => if x5 < 14 then (if 0 ≤ x5 then (if (rd [x396000, x396001, x396002, x396003, x396004, x396005, x396006, x396007, x396008, x396009, x396010, x396011, x396012, x396013] x5) = (rd [x397000, x397001, x397002, x397003, x397004, x397005, x397006, x397007, x397008, x397009, x397010, x397011, x397012, x397013] x5) then (laws_eqWeighing.l0 k (wrap64 (x5 + 1)) x396000 x396001 x396002 x396003 x396004 x396005 x396006 x396007 x396008 x396009 x396010 x396011 x396012 x396013 x397000 x397001 x397002 x397003 x397004 x397005 x397006 x397007 x397008 x397009 x397010 x397011 x397012 x397013) else (some false)) else (none)) else (some true)
def laws_eqWeighing.f (k : Nat) (a0_0 : Int) (a0_1 : Int) (a0_2 : Int) (a0_3 : Int) (a0_4 : Int) (a0_5 : Int) (a0_6 : Int) (a0_7 : Int) (a0_8 : Int) (a0_9 : Int) (a0_10 : Int) (a0_11 : Int) (a0_12 : Int) (a0_13 : Int) (a1_0 : Int) (a1_1 : Int) (a1_2 : Int) (a1_3 : Int) (a1_4 : Int) (a1_5 : Int) (a1_6 : Int) (a1_7 : Int) (a1_8 : Int) (a1_9 : Int) (a1_10 : Int) (a1_11 : Int) (a1_12 : Int) (a1_13 : Int) : Option (Bool) := laws_eqWeighing.l0 k 0 a0_0 a0_1 a0_2 a0_3 a0_4 a0_5 a0_6 a0_7 a0_8 a0_9 a0_10 a0_11 a0_12 a0_13 a1_0 a1_1 a1_2 a1_3 a1_4 a1_5 a1_6 a1_7 a1_8 a1_9 a1_10 a1_11 a1_12 a1_13
set_option maxHeartbeats 8000000 in
set_option maxRecDepth 100000 in
theorem laws_eqWeighing.calls (k : Nat) (a0_0 : Int) (a0_1 : Int) (a0_2 : Int) (a0_3 : Int) (a0_4 : Int) (a0_5 : Int) (a0_6 : Int) (a0_7 : Int) (a0_8 : Int) (a0_9 : Int) (a0_10 : Int) (a0_11 : Int) (a0_12 : Int) (a0_13 : Int) (a1_0 : Int) (a1_1 : Int) (a1_2 : Int) (a1_3 : Int) (a1_4 : Int) (a1_5 : Int) (a1_6 : Int) (a1_7 : Int) (a1_8 : Int) (a1_9 : Int) (a1_10 : Int) (a1_11 : Int) (a1_12 : Int) (a1_13 : Int) (r : Bool) (w : World) (h : laws_eqWeighing.f k a0_0 a0_1 a0_2 a0_3 a0_4 a0_5 a0_6 a0_7 a0_8 a0_9 a0_10 a0_11 a0_12 a0_13 a1_0 a1_1 a1_2 a1_3 a1_4 a1_5 a1_6 a1_7 a1_8 a1_9 a1_10 a1_11 a1_12 a1_13 = some r) :
  Calls Try.prog 107 #[.agg #[.int .i8 a0_0, .int .i8 a0_1, .int .i8 a0_2, .int .i8 a0_3, .int .i8 a0_4, .int .i8 a0_5, .int .i8 a0_6, .int .i8 a0_7, .int .i8 a0_8, .int .i8 a0_9, .int .i8 a0_10, .int .i8 a0_11, .int .i8 a0_12, .int .i8 a0_13], .agg #[.int .i8 a1_0, .int .i8 a1_1, .int .i8 a1_2, .int .i8 a1_3, .int .i8 a1_4, .int .i8 a1_5, .int .i8 a1_6, .int .i8 a1_7, .int .i8 a1_8, .int .i8 a1_9, .int .i8 a1_10, .int .i8 a1_11, .int .i8 a1_12, .int .i8 a1_13]] w fun e w' => e = .returned (.bool r) ∧ Below w.heap.size w w' := by
 have hu96 := Try.underlying96
 have HB := ze.mk (Below.refl w.heap.size w)
 have H : (laws_eqWeighing.l0 k 0 a0_0 a0_1 a0_2 a0_3 a0_4 a0_5 a0_6 a0_7 a0_8 a0_9 a0_10 a0_11 a0_12 a0_13 a1_0 a1_1 a1_2 a1_3 a1_4 a1_5 a1_6 a1_7 a1_8 a1_9 a1_10 a1_11 a1_12 a1_13) = some r := h
 clear h
 have H' := ze.mk H
 clear H
 go_enter Try.func107, Try.ntmps107
 go_wp2_with (first | ((with_reducible refine zu (N := 2) rfl ?_); refine zr ?hg (N := 2) ?hd (cs := #[.int .i8 a0_0, .int .i8 a0_1, .int .i8 a0_2, .int .i8 a0_3, .int .i8 a0_4, .int .i8 a0_5, .int .i8 a0_6, .int .i8 a0_7, .int .i8 a0_8, .int .i8 a0_9, .int .i8 a0_10, .int .i8 a0_11, .int .i8 a0_12, .int .i8 a0_13]) (t := 96) ?hr ?_; (case hd => rfl); (case hg => rfl); (case hr => first | (go_simp; done) | (go_simp; rfl)); intro gb395 hg w3 hbox hb; obtain ⟨n0_, n2_⟩ := bx (by repeat (first | (with_reducible first | exact HB.out | apply zg | apply zc | apply zf) | exact HB.out)) hb hg; have n1_ := ze.mk (hbox); have n3_ := n2_; clear HB; have HB := n0_; have BK395 := n1_; have GW395 := n2_; have GE395 := n3_; clear n0_ n1_ n2_ n3_; clear hb hbox hg) | ((with_reducible refine zu (N := 3) rfl ?_); refine zr ?hg (N := 3) ?hd (cs := #[.int .i8 a1_0, .int .i8 a1_1, .int .i8 a1_2, .int .i8 a1_3, .int .i8 a1_4, .int .i8 a1_5, .int .i8 a1_6, .int .i8 a1_7, .int .i8 a1_8, .int .i8 a1_9, .int .i8 a1_10, .int .i8 a1_11, .int .i8 a1_12, .int .i8 a1_13]) (t := 96) ?hr ?_; (case hd => rfl); (case hg => rfl); (case hr => first | (go_simp; done) | (go_simp; rfl)); intro gb396 hg w4 hbox hb; have n0_ := ze.mk (zk (by (with_reducible repeat (first | refine zb ?_ _ | refine zd ?_ | refine za ?_ _)); exact BK395.out) hb); obtain ⟨n1_, n3_⟩ := bx (by repeat (first | (with_reducible first | exact HB.out | apply zg | apply zc | apply zf | refine zi ?_ GE395.out) | exact HB.out)) hb hg; have n2_ := ze.mk (hbox); have n4_ := n3_; have n5_ := ze.mk ((by rw [hg]; exact Nat.ne_of_lt (zba (by (with_reducible repeat (first | refine zb ?_ _ | refine zd ?_ | refine za ?_ _)); exact BK395.out)) : gb395 ≠ gb396)); have n6_ := ze.mk n5_.out.symm; clear BK395; clear HB; have BK395 := n0_; have HB := n1_; have BK396 := n2_; have GW396 := n3_; have GE396 := n4_; have NB395_396 := n5_; have NB396_395 := n6_; clear n0_ n1_ n2_ n3_ n4_ n5_ n6_; clear hb hbox hg))
 repeat (go_quiet (first | ((with_reducible refine zu (N := 2) rfl ?_); refine zr ?hg (N := 2) ?hd (cs := #[.int .i8 a0_0, .int .i8 a0_1, .int .i8 a0_2, .int .i8 a0_3, .int .i8 a0_4, .int .i8 a0_5, .int .i8 a0_6, .int .i8 a0_7, .int .i8 a0_8, .int .i8 a0_9, .int .i8 a0_10, .int .i8 a0_11, .int .i8 a0_12, .int .i8 a0_13]) (t := 96) ?hr ?_; (case hd => rfl); (case hg => rfl); (case hr => first | (go_simp; done) | (go_simp; rfl)); intro gb395 hg w3 hbox hb; obtain ⟨n0_, n2_⟩ := bx (by repeat (first | (with_reducible first | exact HB.out | apply zg | apply zc | apply zf) | exact HB.out)) hb hg; have n1_ := ze.mk (hbox); have n3_ := n2_; clear HB; have HB := n0_; have BK395 := n1_; have GW395 := n2_; have GE395 := n3_; clear n0_ n1_ n2_ n3_; clear hb hbox hg) | ((with_reducible refine zu (N := 3) rfl ?_); refine zr ?hg (N := 3) ?hd (cs := #[.int .i8 a1_0, .int .i8 a1_1, .int .i8 a1_2, .int .i8 a1_3, .int .i8 a1_4, .int .i8 a1_5, .int .i8 a1_6, .int .i8 a1_7, .int .i8 a1_8, .int .i8 a1_9, .int .i8 a1_10, .int .i8 a1_11, .int .i8 a1_12, .int .i8 a1_13]) (t := 96) ?hr ?_; (case hd => rfl); (case hg => rfl); (case hr => first | (go_simp; done) | (go_simp; rfl)); intro gb396 hg w4 hbox hb; have n0_ := ze.mk (zk (by (with_reducible repeat (first | refine zb ?_ _ | refine zd ?_ | refine za ?_ _)); exact BK395.out) hb); obtain ⟨n1_, n3_⟩ := bx (by repeat (first | (with_reducible first | exact HB.out | apply zg | apply zc | apply zf | refine zi ?_ GE395.out) | exact HB.out)) hb hg; have n2_ := ze.mk (hbox); have n4_ := n3_; have n5_ := ze.mk ((by rw [hg]; exact Nat.ne_of_lt (zba (by (with_reducible repeat (first | refine zb ?_ _ | refine zd ?_ | refine za ?_ _)); exact BK395.out)) : gb395 ≠ gb396)); have n6_ := ze.mk n5_.out.symm; clear BK395; clear HB; have BK395 := n0_; have HB := n1_; have BK396 := n2_; have GW396 := n3_; have GE396 := n4_; have NB395_396 := n5_; have NB396_395 := n6_; clear n0_ n1_ n2_ n3_ n4_ n5_ n6_; clear hb hbox hg)); try go_wp2_with (first | ((with_reducible refine zu (N := 2) rfl ?_); refine zr ?hg (N := 2) ?hd (cs := #[.int .i8 a0_0, .int .i8 a0_1, .int .i8 a0_2, .int .i8 a0_3, .int .i8 a0_4, .int .i8 a0_5, .int .i8 a0_6, .int .i8 a0_7, .int .i8 a0_8, .int .i8 a0_9, .int .i8 a0_10, .int .i8 a0_11, .int .i8 a0_12, .int .i8 a0_13]) (t := 96) ?hr ?_; (case hd => rfl); (case hg => rfl); (case hr => first | (go_simp; done) | (go_simp; rfl)); intro gb395 hg w3 hbox hb; obtain ⟨n0_, n2_⟩ := bx (by repeat (first | (with_reducible first | exact HB.out | apply zg | apply zc | apply zf) | exact HB.out)) hb hg; have n1_ := ze.mk (hbox); have n3_ := n2_; clear HB; have HB := n0_; have BK395 := n1_; have GW395 := n2_; have GE395 := n3_; clear n0_ n1_ n2_ n3_; clear hb hbox hg) | ((with_reducible refine zu (N := 3) rfl ?_); refine zr ?hg (N := 3) ?hd (cs := #[.int .i8 a1_0, .int .i8 a1_1, .int .i8 a1_2, .int .i8 a1_3, .int .i8 a1_4, .int .i8 a1_5, .int .i8 a1_6, .int .i8 a1_7, .int .i8 a1_8, .int .i8 a1_9, .int .i8 a1_10, .int .i8 a1_11, .int .i8 a1_12, .int .i8 a1_13]) (t := 96) ?hr ?_; (case hd => rfl); (case hg => rfl); (case hr => first | (go_simp; done) | (go_simp; rfl)); intro gb396 hg w4 hbox hb; have n0_ := ze.mk (zk (by (with_reducible repeat (first | refine zb ?_ _ | refine zd ?_ | refine za ?_ _)); exact BK395.out) hb); obtain ⟨n1_, n3_⟩ := bx (by repeat (first | (with_reducible first | exact HB.out | apply zg | apply zc | apply zf | refine zi ?_ GE395.out) | exact HB.out)) hb hg; have n2_ := ze.mk (hbox); have n4_ := n3_; have n5_ := ze.mk ((by rw [hg]; exact Nat.ne_of_lt (zba (by (with_reducible repeat (first | refine zb ?_ _ | refine zd ?_ | refine za ?_ _)); exact BK395.out)) : gb395 ≠ gb396)); have n6_ := ze.mk n5_.out.symm; clear BK395; clear HB; have BK395 := n0_; have HB := n1_; have BK396 := n2_; have GW396 := n3_; have GE396 := n4_; have NB395_396 := n5_; have NB396_395 := n6_; clear n0_ n1_ n2_ n3_ n4_ n5_ n6_; clear hb hbox hg)))
 go_loopg [5] k (fun kq v5 w' => ∃ (x5_1 : Int), v5 = .int .i64 x5_1 ∧ ze (laws_eqWeighing.l0 kq x5_1 a0_0 a0_1 a0_2 a0_3 a0_4 a0_5 a0_6 a0_7 a0_8 a0_9 a0_10 a0_11 a0_12 a0_13 a1_0 a1_1 a1_2 a1_3 a1_4 a1_5 a1_6 a1_7 a1_8 a1_9 a1_10 a1_11 a1_12 a1_13 = some r) ∧ ze (kq ≤ k) ∧ ze (w'.heap[gb395]? = some (.cells #[.int .i8 a0_0, .int .i8 a0_1, .int .i8 a0_2, .int .i8 a0_3, .int .i8 a0_4, .int .i8 a0_5, .int .i8 a0_6, .int .i8 a0_7, .int .i8 a0_8, .int .i8 a0_9, .int .i8 a0_10, .int .i8 a0_11, .int .i8 a0_12, .int .i8 a0_13] 96 (0, 0))) ∧ ze (w'.heap[gb396]? = some (.cells #[.int .i8 a1_0, .int .i8 a1_1, .int .i8 a1_2, .int .i8 a1_3, .int .i8 a1_4, .int .i8 a1_5, .int .i8 a1_6, .int .i8 a1_7, .int .i8 a1_8, .int .i8 a1_9, .int .i8 a1_10, .int .i8 a1_11, .int .i8 a1_12, .int .i8 a1_13] 96 (0, 0))) ∧ ze (Below w.heap.size w w'))
 case atStart => exact ⟨(0), (by first | rfl | (simp; done) | (simp [*]; done)), H', ⟨Nat.le_refl _⟩, ⟨by (with_reducible repeat (first | refine zb ?_ _ | refine zd ?_ | refine za ?_ _)); exact BK395.out⟩, ⟨by (with_reducible repeat (first | refine zb ?_ _ | refine zd ?_ | refine za ?_ _)); exact BK396.out⟩, ⟨by repeat (first | (with_reducible first | exact HB.out | apply zg | apply zc | apply zf | refine zi ?_ GE395.out | refine zi ?_ GE396.out) | exact HB.out)⟩⟩
 case round =>
  clear H'
  try clear c1
  try clear p2
  obtain ⟨x5_1, rfl, HA, HK1, BK395, BK396, HB⟩ := hrel
  cases gk with
  | zero => exact absurd HA.out (by simp [laws_eqWeighing.l0])
  | succ k1 =>
   have H := HA.out
   clear HA
   simp only [laws_eqWeighing.l0] at H
   by_cases c5 : x5_1 < 14
   ·rw [if_pos c5] at H
    have c5b0 : decide (x5_1 < 14) = true := decide_eq_true c5
    clear c5
    by_cases c6 : 0 ≤ x5_1
    ·rw [if_pos c6] at H
     have c6b0 : decide (0 ≤ x5_1) = true := decide_eq_true c6
     clear c6
     by_cases c7 : (rd [a0_0, a0_1, a0_2, a0_3, a0_4, a0_5, a0_6, a0_7, a0_8, a0_9, a0_10, a0_11, a0_12, a0_13] x5_1) = (rd [a1_0, a1_1, a1_2, a1_3, a1_4, a1_5, a1_6, a1_7, a1_8, a1_9, a1_10, a1_11, a1_12, a1_13] x5_1)
     ·rw [if_pos c7] at H
      have c7b0 : ((rd [a0_0, a0_1, a0_2, a0_3, a0_4, a0_5, a0_6, a0_7, a0_8, a0_9, a0_10, a0_11, a0_12, a0_13] x5_1) == (rd [a1_0, a1_1, a1_2, a1_3, a1_4, a1_5, a1_6, a1_7, a1_8, a1_9, a1_10, a1_11, a1_12, a1_13] x5_1)) = true := beq_iff_eq.mpr c7
      have c7b1 : ((rd [a0_0, a0_1, a0_2, a0_3, a0_4, a0_5, a0_6, a0_7, a0_8, a0_9, a0_10, a0_11, a0_12, a0_13] x5_1) != (rd [a1_0, a1_1, a1_2, a1_3, a1_4, a1_5, a1_6, a1_7, a1_8, a1_9, a1_10, a1_11, a1_12, a1_13] x5_1)) = false := bne_eq_false_iff_eq.mpr c7
      clear c7
      have H' := ze.mk H
      clear H
      have p8 : 0 ≤ (x5_1 : Int) := od (by first | (with_reducible assumption) | assumption)
      have q8 : x5_1 < (14 : Int) := od (by first | (with_reducible assumption) | assumption)
      replace p8 := eq_true p8
      replace q8 := eq_true q8
      have hnb9 := NB395_396.out
      have hnc9 := NB396_395.out
      obtain ⟨y2_0, y2_1, y2_2, y2_3, y2_4, y2_5, y2_6, y2_7, y2_8, y2_9, y2_10, y2_11, y2_12, y2_13, z2_0, z2_1, z2_2, z2_3, z2_4, z2_5, z2_6, z2_7, z2_8, z2_9, z2_10, z2_11, z2_12, z2_13⟩ := cf14 BK395.out
      have u1_0 : wr.cell? ⟨gb395, (x5_1).toNat, none⟩ = some (.int .i8 (rd [a0_0, a0_1, a0_2, a0_3, a0_4, a0_5, a0_6, a0_7, a0_8, a0_9, a0_10, a0_11, a0_12, a0_13] x5_1)) := (zo BK395.out _).trans (by rcases (is14 (j := x5_1) (od (by first | (with_reducible assumption) | assumption)) (od (by first | (with_reducible assumption) | assumption))) with h_ | h_ | h_ | h_ | h_ | h_ | h_ | h_ | h_ | h_ | h_ | h_ | h_ | h_ <;> rw [h_] <;> rfl)
      have p12 : 0 ≤ (x5_1 : Int) := od (by first | (with_reducible assumption) | assumption)
      have q12 : x5_1 < (14 : Int) := od (by first | (with_reducible assumption) | assumption)
      replace p12 := eq_true p12
      replace q12 := eq_true q12
      obtain ⟨y3_0, y3_1, y3_2, y3_3, y3_4, y3_5, y3_6, y3_7, y3_8, y3_9, y3_10, y3_11, y3_12, y3_13, z3_0, z3_1, z3_2, z3_3, z3_4, z3_5, z3_6, z3_7, z3_8, z3_9, z3_10, z3_11, z3_12, z3_13⟩ := cf14 BK396.out
      have u2_0 : wr.cell? ⟨gb396, (x5_1).toNat, none⟩ = some (.int .i8 (rd [a1_0, a1_1, a1_2, a1_3, a1_4, a1_5, a1_6, a1_7, a1_8, a1_9, a1_10, a1_11, a1_12, a1_13] x5_1)) := (zo BK396.out _).trans (by rcases (is14 (j := x5_1) (od (by first | (with_reducible assumption) | assumption)) (od (by first | (with_reducible assumption) | assumption))) with h_ | h_ | h_ | h_ | h_ | h_ | h_ | h_ | h_ | h_ | h_ | h_ | h_ | h_ <;> rw [h_] <;> rfl)
      go_wp2
      repeat (go_quiet (fail); try go_wp2)
      go_roundg k1
      case measure => have := HK1.out; omega
      case rel => exact ⟨(wrap64 (x5_1 + 1)), (by first | rfl | (simp; done) | (simp [*]; done)), H', ⟨by have := HK1.out; omega⟩, ⟨by (with_reducible repeat (first | refine zb ?_ _ | refine zd ?_ | refine za ?_ _)); exact BK395.out⟩, ⟨by (with_reducible repeat (first | refine zb ?_ _ | refine zd ?_ | refine za ?_ _)); exact BK396.out⟩, ⟨by repeat (first | (with_reducible first | exact HB.out | apply zg | apply zc | apply zf | refine zi ?_ GE395.out | refine zi ?_ GE396.out) | exact HB.out)⟩⟩
     rw [if_neg c7] at H
     have c7b0 : ((rd [a0_0, a0_1, a0_2, a0_3, a0_4, a0_5, a0_6, a0_7, a0_8, a0_9, a0_10, a0_11, a0_12, a0_13] x5_1) == (rd [a1_0, a1_1, a1_2, a1_3, a1_4, a1_5, a1_6, a1_7, a1_8, a1_9, a1_10, a1_11, a1_12, a1_13] x5_1)) = false := beq_eq_false_iff_ne.mpr c7
     have c7b1 : ((rd [a0_0, a0_1, a0_2, a0_3, a0_4, a0_5, a0_6, a0_7, a0_8, a0_9, a0_10, a0_11, a0_12, a0_13] x5_1) != (rd [a1_0, a1_1, a1_2, a1_3, a1_4, a1_5, a1_6, a1_7, a1_8, a1_9, a1_10, a1_11, a1_12, a1_13] x5_1)) = true := bne_iff_ne.mpr c7
     obtain rfl := Option.some.inj H
     have p15 : 0 ≤ (x5_1 : Int) := od (by first | (with_reducible assumption) | assumption)
     have q15 : x5_1 < (14 : Int) := od (by first | (with_reducible assumption) | assumption)
     replace p15 := eq_true p15
     replace q15 := eq_true q15
     have hnb16 := NB395_396.out
     have hnc16 := NB396_395.out
     obtain ⟨y5_0, y5_1, y5_2, y5_3, y5_4, y5_5, y5_6, y5_7, y5_8, y5_9, y5_10, y5_11, y5_12, y5_13, z5_0, z5_1, z5_2, z5_3, z5_4, z5_5, z5_6, z5_7, z5_8, z5_9, z5_10, z5_11, z5_12, z5_13⟩ := cf14 BK395.out
     have u3_0 : wr.cell? ⟨gb395, (x5_1).toNat, none⟩ = some (.int .i8 (rd [a0_0, a0_1, a0_2, a0_3, a0_4, a0_5, a0_6, a0_7, a0_8, a0_9, a0_10, a0_11, a0_12, a0_13] x5_1)) := (zo BK395.out _).trans (by rcases (is14 (j := x5_1) (od (by first | (with_reducible assumption) | assumption)) (od (by first | (with_reducible assumption) | assumption))) with h_ | h_ | h_ | h_ | h_ | h_ | h_ | h_ | h_ | h_ | h_ | h_ | h_ | h_ <;> rw [h_] <;> rfl)
     have p19 : 0 ≤ (x5_1 : Int) := od (by first | (with_reducible assumption) | assumption)
     have q19 : x5_1 < (14 : Int) := od (by first | (with_reducible assumption) | assumption)
     replace p19 := eq_true p19
     replace q19 := eq_true q19
     obtain ⟨y6_0, y6_1, y6_2, y6_3, y6_4, y6_5, y6_6, y6_7, y6_8, y6_9, y6_10, y6_11, y6_12, y6_13, z6_0, z6_1, z6_2, z6_3, z6_4, z6_5, z6_6, z6_7, z6_8, z6_9, z6_10, z6_11, z6_12, z6_13⟩ := cf14 BK396.out
     have u4_0 : wr.cell? ⟨gb396, (x5_1).toNat, none⟩ = some (.int .i8 (rd [a1_0, a1_1, a1_2, a1_3, a1_4, a1_5, a1_6, a1_7, a1_8, a1_9, a1_10, a1_11, a1_12, a1_13] x5_1)) := (zo BK396.out _).trans (by rcases (is14 (j := x5_1) (od (by first | (with_reducible assumption) | assumption)) (od (by first | (with_reducible assumption) | assumption))) with h_ | h_ | h_ | h_ | h_ | h_ | h_ | h_ | h_ | h_ | h_ | h_ | h_ | h_ <;> rw [h_] <;> rfl)
     go_wp2
     repeat (go_quiet (fail); try go_wp2)
     go_ret
     exact ⟨by first | rfl | (simp [zn, zm] <;> rfl) | (simp [*, zn, zm] <;> rfl), by repeat (first | (with_reducible first | exact HB.out | apply zg | apply zc | apply zf | refine zi ?_ GE395.out | refine zi ?_ GE396.out) | exact HB.out)⟩
    rw [if_neg c6] at H
    exact absurd H (by simp)
   rw [if_neg c5] at H
   have c5b0 : decide (x5_1 < 14) = false := decide_eq_false c5
   clear c5
   obtain rfl := Option.some.inj H
   go_wp2
   repeat (go_quiet (fail); try go_wp2)
   go_ret
   exact ⟨by first | rfl | (simp [zn, zm] <;> rfl) | (simp [*, zn, zm] <;> rfl), by repeat (first | (with_reducible first | exact HB.out | apply zg | apply zc | apply zf | refine zi ?_ GE395.out | refine zi ?_ GE396.out) | exact HB.out)⟩
end Go.Proofs.Ytmfbcklaomigaaa.M
