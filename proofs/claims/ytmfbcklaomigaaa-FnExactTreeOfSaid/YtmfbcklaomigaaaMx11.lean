-- Written by wip/tools/myprint.py.
import Derived.Test.YtmfbcklaomigaaaMx0
import Derived.Test.YtmfbcklaomigaaaLLoad
import Derived.Test.YtmfbcklaomigaaaMx1
namespace Go.Proofs.Ytmfbcklaomigaaa.M
open Go.RowKit Go.Proofs.YtmfbcklaomigaaaW.PrintWords Go.Proofs.YtmfbcklaomigaaaW.PrintLast Go.Proofs.YtmfbcklaomigaaaW.PrintMore
attribute [local go_sem] zrb zqb zkc zhc zlb zkb ztb zub
set_option linter.unusedVariables false
set_option linter.unusedSimpArgs false
attribute [local go_sem high] eqA43
def impl_Fixed_decode_1.f (k : Nat) (a0_0 : Int) (a0_1 : Bool) (a1_0 : Int) (a1_1 : Int) (l1_2 : List (S43)) (a2_0 : Int) (a2_1 : Int) (a2_2 : Int) (a2_3 : Int) : Option (Bool) := (impl_Fixed_seen.f k a1_0 a1_1 l1_2 a0_0 a0_1).bind fun bt176 => (some (bt176.1 == a2_0 && (bt176.2.1 == a2_1 && (bt176.2.2.1 == a2_2 && (bt176.2.2.2 == a2_3)))))
set_option maxHeartbeats 8000000 in
set_option maxRecDepth 100000 in
theorem impl_Fixed_decode_1.calls (k : Nat) (a0_0 : Int) (a0_1 : Bool) (g1 : Nat) (a1_0 : Int) (a1_1 : Int) (A1_2 : Option Addr) (c1_2 : Nat) (l1_2 : List (S43)) (g2 : Nat) (a2_0 : Int) (a2_1 : Int) (a2_2 : Int) (a2_3 : Int) (r : Bool) (w : World) (hb1 : w.heap[g1]? = some (.cells #[.int .i8 a1_0, .int .i8 a1_1, .slice A1_2 l1_2.length c1_2] 28 (0, 0))) (hr1_2 : Kd.C k43 w A1_2 l1_2.length l1_2) (hc1_2 : l1_2.length ≤ c1_2) (hb2 : w.heap[g2]? = some (.cells #[.int .i8 a2_0, .int .i8 a2_1, .int .i8 a2_2, .int .i8 a2_3] 43 (0, 0))) (h : impl_Fixed_decode_1.f k a0_0 a0_1 a1_0 a1_1 l1_2 a2_0 a2_1 a2_2 a2_3 = some r) :
  Calls Try.prog 101 #[.agg #[.int .i8 a0_0, .bool a0_1], .pointer (some ⟨g1, 0, none⟩), .pointer (some ⟨g2, 0, none⟩)] w fun e w' => e = .returned (.bool r) ∧ Below w.heap.size w w' := by
 have hu38 := Try.underlying38
 have hu28 := Try.underlying28
 have hu43 := Try.underlying43
 have HR1_2 := ze.mk hr1_2
 have HC1_2 := ze.mk hc1_2
 clear hr1_2 hc1_2
 have BK1 := ze.mk hb1
 clear hb1
 have BK2 := ze.mk hb2
 clear hb2
 have HB := ze.mk (Below.refl w.heap.size w)
 have H : ((impl_Fixed_seen.f k a1_0 a1_1 l1_2 a0_0 a0_1).bind fun bt176 => (some (bt176.1 == a2_0 && (bt176.2.1 == a2_1 && (bt176.2.2.1 == a2_2 && (bt176.2.2.2 == a2_3)))))) = some r := h
 clear h
 replace H := Option.bind_eq_some_iff.mp H
 obtain ⟨⟨t176, t177, t178, t179⟩, A40, H⟩ := H
 replace H : (some (t176 == a2_0 && (t177 == a2_1 && (t178 == a2_2 && (t179 == a2_3))))) = some r := H
 have A4 := ze.mk A40
 clear A40
 obtain rfl := Option.some.inj H
 go_enter Try.func101, Try.ntmps101
 try go_wp2_with (first | ((with_reducible refine zu (N := 3) rfl ?_); refine zr ?hg (N := 3) ?hd (cs := #[.int .i8 a0_0, .bool a0_1]) (t := 38) ?hr ?_; (case hd => rfl); (case hg => rfl); (case hr => first | (go_simp; done) | (go_simp; rfl)); intro gb175 hg w5 hbox hb; have n0_ := ze.mk (zk (g := g1) (o := .cells #[.int .i8 a1_0, .int .i8 a1_1, .slice A1_2 l1_2.length c1_2] 28 (0, 0)) (by (with_reducible repeat (first | refine zb ?_ _ | refine zd ?_ | refine za ?_ _)); exact BK1.out) hb); have n1_ := ze.mk (zk (g := g2) (o := .cells #[.int .i8 a2_0, .int .i8 a2_1, .int .i8 a2_2, .int .i8 a2_3] 43 (0, 0)) (by (with_reducible repeat (first | refine zb ?_ _ | refine zd ?_ | refine za ?_ _)); exact BK2.out) hb); obtain ⟨n2_, n4_⟩ := bx (by repeat (first | (with_reducible first | exact HB.out | apply zg | apply zc | apply zf) | exact HB.out)) hb hg; have n3_ := ze.mk (hbox); have n5_ := n4_; have n6_ := ze.mk ((by rw [hg]; exact Nat.ne_of_lt (zba (g := g1) (o := .cells #[.int .i8 a1_0, .int .i8 a1_1, .slice A1_2 l1_2.length c1_2] 28 (0, 0)) (by (with_reducible repeat (first | refine zb ?_ _ | refine zd ?_ | refine za ?_ _)); exact BK1.out)) : g1 ≠ gb175)); have n7_ := ze.mk ((by rw [hg]; exact Nat.ne_of_gt (zba (g := g1) (o := .cells #[.int .i8 a1_0, .int .i8 a1_1, .slice A1_2 l1_2.length c1_2] 28 (0, 0)) (by (with_reducible repeat (first | refine zb ?_ _ | refine zd ?_ | refine za ?_ _)); exact BK1.out)) : gb175 ≠ g1)); have n8_ := ze.mk ((by rw [hg]; exact Nat.ne_of_lt (zba (g := g2) (o := .cells #[.int .i8 a2_0, .int .i8 a2_1, .int .i8 a2_2, .int .i8 a2_3] 43 (0, 0)) (by (with_reducible repeat (first | refine zb ?_ _ | refine zd ?_ | refine za ?_ _)); exact BK2.out)) : g2 ≠ gb175)); have n9_ := ze.mk ((by rw [hg]; exact Nat.ne_of_gt (zba (g := g2) (o := .cells #[.int .i8 a2_0, .int .i8 a2_1, .int .i8 a2_2, .int .i8 a2_3] 43 (0, 0)) (by (with_reducible repeat (first | refine zb ?_ _ | refine zd ?_ | refine za ?_ _)); exact BK2.out)) : gb175 ≠ g2)); clear BK1; clear BK2; clear HB; have BK1 := n0_; have BK2 := n1_; have HB := n2_; have BK175 := n3_; have GW175 := n4_; have GE175 := n5_; have NB1_175 := n6_; have NB175_1 := n7_; have NB2_175 := n8_; have NB175_2 := n9_; clear n0_ n1_ n2_ n3_ n4_ n5_ n6_ n7_ n8_ n9_; clear hb hbox hg))
 have n0_ := ze.mk (zd BK1.out)
 have n1_ := ze.mk (zd BK2.out)
 have n2_ := ze.mk (zd BK175.out)
 have n3_ := ze.mk (zf HB.out)
 clear BK1
 clear BK2
 clear BK175
 clear HB
 have BK1 := n0_
 have BK2 := n1_
 have BK175 := n2_
 have HB := n3_
 clear n0_ n1_ n2_ n3_
 refine zfb (n := 6) (S := fun w' => w'.cell? ⟨g1, 0, none⟩ = some (.int .i8 a1_0) ∧ w'.cell? ⟨g1, 1, none⟩ = some (.int .i8 a1_1) ∧ w'.cell? ⟨g1, 2, none⟩ = some (.slice A1_2 l1_2.length c1_2) ∧ w'.cell? ⟨gb175, 0, none⟩ = some (.int .i8 a0_0) ∧ w'.cell? ⟨gb175, 1, none⟩ = some (.bool a0_1) ∧ w'.cell? ⟨g2, 0, none⟩ = some (.int .i8 a2_0) ∧ w'.cell? ⟨g2, 1, none⟩ = some (.int .i8 a2_1) ∧ w'.cell? ⟨g2, 2, none⟩ = some (.int .i8 a2_2) ∧ w'.cell? ⟨g2, 3, none⟩ = some (.int .i8 a2_3)) (ds := []) (fm 6 0) (by kernel_rfl) rfl rfl ⟨(zo BK1.out 0).trans rfl, (zo BK1.out 1).trans rfl, (zo BK1.out 2).trans rfl, (zo BK175.out 0).trans rfl, (zo BK175.out 1).trans rfl, (zo BK2.out 0).trans rfl, (zo BK2.out 1).trans rfl, (zo BK2.out 2).trans rfl, (zo BK2.out 3).trans rfl⟩ (fun hHeld => ?_)
 generalize w5.drew = w6 at BK1 BK2 BK175 HB hHeld ⊢
 refine take_ (i := 0) (N := some 5) (v := ?_) (a' := ?_) (fm 6 1) rfl rfl (by kernel_rfl) (fun _ _ _ h => h) (Or.inl ⟨by rfl, ?_⟩) hHeld ?_ ?_
 rotate_left
 ·rintro w' ⟨s0, s1, s2, s3, s4, s5, s6, s7, s8⟩
  go_simp
  with_reducible rfl
 rotate_left
 ·simp only [Act.put, List.setIfInBounds_toArray, List.set_cons_zero, List.set_cons_succ, zy, zz]
  rfl
 refine take_ (i := 1) (N := some 6) (v := ?_) (a' := ?_) (fm 6 2) rfl rfl (by kernel_rfl) (fun _ _ _ h => h) (Or.inl ⟨by rfl, ?_⟩) hHeld ?_ ?_
 rotate_left
 ·rintro w' ⟨s0, s1, s2, s3, s4, s5, s6, s7, s8⟩
  go_simp
  with_reducible rfl
 rotate_left
 ·simp only [Act.put, List.setIfInBounds_toArray, List.set_cons_zero, List.set_cons_succ, zy, zz]
  rfl
 refine take_ (i := 3) (N := some 8) (v := ?_) (a' := ?_) #[T, T, F, T, F, F] rfl rfl (by kernel_rfl) (fun _ _ _ h => h) (Or.inl ⟨by rfl, ?_⟩) hHeld ?_ ?_
 rotate_left
 ·rintro w' ⟨s0, s1, s2, s3, s4, s5, s6, s7, s8⟩
  go_simp
  with_reducible rfl
 rotate_left
 ·simp only [Act.put, List.setIfInBounds_toArray, List.set_cons_zero, List.set_cons_succ, zy, zz]
  rfl
 refine one_ (i := 2) (N := some 7) (fm 6 4) rfl rfl (by kernel_rfl) (by decide) (fun K hK => ?_)
 refine zdb Try.func62 (by kernel_rfl) rfl #[.agg #[.int .i8 a1_0, .int .i8 a1_1, .slice A1_2 l1_2.length c1_2], .agg #[.int .i8 a0_0, .bool a0_1]] (by rfl) rfl rfl (by (try simp only [List.map_toArray, List.map_cons, List.map_nil]); first | done | rfl | (simp only [List.length_drop, List.length_take]; rfl)) ?_
 with_reducible refine (impl_Fixed_seen.calls k a1_0 a1_1 _ _ l1_2 a0_0 a0_1 t176 t177 t178 t179 _ ?side1 ?side2 A4.out).mono ?_
 (case side1 => repeat (first | exact (Kd.C_below HR1_2.out HB.out) | (with_reducible refine Kd.C_alloc ?_ _) | (with_reducible refine Kd.C_drewN ?_ _) | (with_reducible refine Kd.C_drew ?_)))
 (case side2 => exact HC1_2.out)
 rintro e w7 ⟨rfl, hb⟩
 refine ⟨_, rfl, ?_⟩
 have n0_ := ze.mk (zk (g := g1) (o := .cells #[.int .i8 a1_0, .int .i8 a1_1, .slice A1_2 l1_2.length c1_2] 28 (0, 0)) (by (with_reducible repeat (first | refine zb ?_ _ | refine zd ?_ | refine za ?_ _)); exact BK1.out) hb)
 have n1_ := ze.mk (zk (g := g2) (o := .cells #[.int .i8 a2_0, .int .i8 a2_1, .int .i8 a2_2, .int .i8 a2_3] 43 (0, 0)) (by (with_reducible repeat (first | refine zb ?_ _ | refine zd ?_ | refine za ?_ _)); exact BK2.out) hb)
 have n2_ := ze.mk (zk (by (with_reducible repeat (first | refine zb ?_ _ | refine zd ?_ | refine za ?_ _)); exact BK175.out) hb)
 have n3_ := ze.mk (zt (by repeat (first | (with_reducible first | exact HB.out | apply zg | apply zc | apply zf | refine zi ?_ GE175.out) | exact HB.out)) hb)
 clear BK1
 clear BK2
 clear BK175
 clear HB
 have BK1 := n0_
 have BK2 := n1_
 have BK175 := n2_
 have HB := n3_
 clear n0_ n1_ n2_ n3_
 (try clear hb)
 (try clear hb2)
 (try clear hk)
 (try clear hi)
 refine hK.out _ _ ⟨(zo BK1.out 0).trans rfl, (zo BK1.out 1).trans rfl, (zo BK1.out 2).trans rfl, (zo BK175.out 0).trans rfl, (zo BK175.out 1).trans rfl, (zo BK2.out 0).trans rfl, (zo BK2.out 1).trans rfl, (zo BK2.out 2).trans rfl, (zo BK2.out 3).trans rfl⟩ (fun hHeld => ?_)
 clear hK K
 refine zpa (a' := ?_) ?_ ?_
 rotate_left
 ·show Act.put _ (some 7) _ = _
  simp only [Act.put, List.setIfInBounds_toArray, List.set_cons_zero, List.set_cons_succ, zy, zz]
  rfl
 refine znd (i := 4) (N := some 9) (v := ?_) (a' := ?_) (fm 6 5) rfl rfl (by kernel_rfl) (fun _ _ _ h => h) (Or.inl ⟨by rfl, ?_⟩) ?_ ?_
 rotate_left
 ·intro w'
  go_simp
  with_reducible rfl
 rotate_left
 ·simp only [Act.put, List.setIfInBounds_toArray, List.set_cons_zero, List.set_cons_succ, zy, zz]
  rfl
 refine znd (i := 5) (N := some 4) (v := ?_) (a' := ?_) (fm 6 6) rfl rfl (by kernel_rfl) (fun _ _ _ h => h) (Or.inl ⟨by rfl, ?_⟩) ?_ ?_
 rotate_left
 ·intro w'
  go_simp
  with_reducible rfl
 rotate_left
 ·simp only [Act.put, List.setIfInBounds_toArray, List.set_cons_zero, List.set_cons_succ, zy, zz]
  rfl
 refine zxb (by kernel_rfl) ?_
 try go_wp2
 go_ret
 exact ⟨by first | rfl | (simp [zn, zm] <;> rfl) | (simp [*, zn, zm] <;> rfl), by repeat (first | (with_reducible first | exact HB.out | apply zg | apply zc | apply zf | refine zi ?_ GE175.out) | exact HB.out)⟩
def impl_Case_101.l0 : Nat → List (S38) → Int → Int → Int → Int → List (S43) → Int → Int → Int → Int → Option (Int)
 | 0, _, _, _, _, _, _, _, _, _, _ => none
 | k + 1, x0, x7, x8, x31000, x31001, x31002, x32000, x32001, x32002, x32003 => if x8 < x7 then (if 0 ≤ x8 then (if x8 < (x0.length : Int) then ((impl_Fixed_decode_1.f k ((zha x0 x8).f0) ((zha x0 x8).f1) x31000 x31001 x31002 x32000 x32001 x32002 x32003).bind fun t181 => (if t181 = true then (some x8) else (impl_Case_101.l0 k x0 x7 (wrap64 (x8 + 1)) x31000 x31001 x31002 x32000 x32001 x32002 x32003))) else (none)) else (none)) else (some (-1))
def impl_Case_101.f (k : Nat) (l0 : List (S38)) (a1_0 : Int) (a1_1 : Int) (l1_2 : List (S43)) (a1_3 : Int) (a1_4 : Int) (a1_5 : Int) (a1_6 : Int) : Option (Int) := impl_Case_101.l0 k l0 (l0.length : Int) 0 a1_0 a1_1 l1_2 a1_3 a1_4 a1_5 a1_6
set_option maxHeartbeats 8000000 in
set_option maxRecDepth 100000 in
theorem impl_Case_101.calls (k : Nat) (A0 : Option Addr) (c0 : Nat) (l0 : List (S38)) (g200 : Nat) (g201 : Nat) (a1_0 : Int) (a1_1 : Int) (A1_2 : Option Addr) (c1_2 : Nat) (l1_2 : List (S43)) (a1_3 : Int) (a1_4 : Int) (a1_5 : Int) (a1_6 : Int) (r : Int) (w : World) (hr0 : Kd.C k38 w A0 l0.length l0) (hc0 : l0.length ≤ c0) (hb30 : w.heap[g200]? = some (.cells #[.int .i8 a1_0, .int .i8 a1_1, .slice A1_2 l1_2.length c1_2] 28 (0, 0))) (hb31 : w.heap[g201]? = some (.cells #[.int .i8 a1_3, .int .i8 a1_4, .int .i8 a1_5, .int .i8 a1_6] 43 (0, 0))) (hr1_2 : Kd.C k43 w A1_2 l1_2.length l1_2) (hc1_2 : l1_2.length ≤ c1_2) (h : impl_Case_101.f k l0 a1_0 a1_1 l1_2 a1_3 a1_4 a1_5 a1_6 = some r) :
  Calls Try.prog 79 #[.slice A0 l0.length c0, .func (.func 101) #[] #[.pointer (some ⟨g200, 0, none⟩), .pointer (some ⟨g201, 0, none⟩)]] w fun e w' => e = .returned (.int .i64 r) ∧ Below w.heap.size w w' := by
 have hu38 := Try.underlying38
 have HR0 := ze.mk hr0
 have HC0 := ze.mk hc0
 clear hr0 hc0
 have HR1_2 := ze.mk hr1_2
 have HC1_2 := ze.mk hc1_2
 clear hr1_2 hc1_2
 have BK30 := ze.mk hb30
 clear hb30
 have BK31 := ze.mk hb31
 clear hb31
 have HB := ze.mk (Below.refl w.heap.size w)
 have H : (impl_Case_101.l0 k l0 (l0.length : Int) 0 a1_0 a1_1 l1_2 a1_3 a1_4 a1_5 a1_6) = some r := h
 clear h
 have H' := ze.mk H
 clear H
 go_enter Try.func79, Try.ntmps79
 go_wp2
 go_loopg [8] k (fun kq v8 w' => ∃ (x8_1 : Int), v8 = .int .i64 x8_1 ∧ ze (impl_Case_101.l0 kq l0 (l0.length : Int) x8_1 a1_0 a1_1 l1_2 a1_3 a1_4 a1_5 a1_6 = some r) ∧ ze (kq ≤ k) ∧ ze (w'.heap[g200]? = some (.cells #[.int .i8 a1_0, .int .i8 a1_1, (.slice A1_2 l1_2.length c1_2)] 28 (0, 0))) ∧ ze (w'.heap[g201]? = some (.cells #[.int .i8 a1_3, .int .i8 a1_4, .int .i8 a1_5, .int .i8 a1_6] 43 (0, 0))) ∧ ze (Below w.heap.size w w'))
 case atStart => exact ⟨(0), (by first | rfl | (simp; done) | (simp [*]; done)), H', ⟨Nat.le_refl _⟩, ⟨by (with_reducible repeat (first | refine zb ?_ _ | refine zd ?_ | refine za ?_ _)); exact BK30.out⟩, ⟨by (with_reducible repeat (first | refine zb ?_ _ | refine zd ?_ | refine za ?_ _)); exact BK31.out⟩, ⟨by repeat (first | (with_reducible first | exact HB.out | apply zg | apply zc | apply zf) | exact HB.out)⟩⟩
 case round =>
  clear H'
  try clear c1
  try clear p2
  obtain ⟨x8_1, rfl, HA, HK1, BK30, BK31, HB⟩ := hrel
  cases gk with
  | zero => exact absurd HA.out (by simp [impl_Case_101.l0])
  | succ k1 =>
   have H := HA.out
   clear HA
   simp only [impl_Case_101.l0] at H
   by_cases c3 : x8_1 < (l0.length : Int)
   ·rw [if_pos c3] at H
    have c3b0 : decide (x8_1 < (l0.length : Int)) = true := decide_eq_true c3
    clear c3
    by_cases c4 : 0 ≤ x8_1
    ·rw [if_pos c4] at H
     have c4b0 : decide (0 ≤ x8_1) = true := decide_eq_true c4
     clear c4
     by_cases c5 : x8_1 < (l0.length : Int)
     ·rw [if_pos c5] at H
      have c5b0 : decide (x8_1 < (l0.length : Int)) = true := decide_eq_true c5
      clear c5
      replace H := Option.bind_eq_some_iff.mp H
      obtain ⟨t181, A60, H⟩ := H
      replace H : (if t181 = true then (some x8_1) else (impl_Case_101.l0 k1 l0 (l0.length : Int) (wrap64 (x8_1 + 1)) a1_0 a1_1 l1_2 a1_3 a1_4 a1_5 a1_6)) = some r := H
      have A6 := ze.mk A60
      clear A60
      by_cases c7 : t181 = true
      ·subst c7
       have H1 : (some x8_1) = some r := by rw [if_pos rfl] at H; exact H
       clear H
       have H := H1
       clear H1
       obtain rfl := Option.some.inj H
       have p180 : 0 ≤ (x8_1 : Int) := od (by first | (with_reducible assumption) | assumption)
       have q180 : x8_1 < (l0.length : Int) := od (by first | (with_reducible assumption) | assumption)
       obtain ⟨ad180, e180, u1_0, u1_1⟩ := ac_T38 HB.out HR0.out x8_1 p180 q180
       cases e180
       replace p180 := eq_true p180
       replace q180 := eq_true q180
       go_wp2_with (first | (go_at_call 101; (with_reducible refine (impl_Fixed_decode_1.calls k1 ((zha l0 x8_1).f0) ((zha l0 x8_1).f1) g200 a1_0 a1_1 A1_2 c1_2 l1_2 g201 a1_3 a1_4 a1_5 a1_6 true _ ?side1 ?side2 ?side3 ?side4 A6.out).mono ?_); (case side1 => (with_reducible repeat (first | refine zb ?_ _ | refine zd ?_ | refine za ?_ _)); exact BK30.out); (case side2 => repeat (first | exact (Kd.C_below HR1_2.out HB.out) | (with_reducible refine Kd.C_alloc ?_ _) | (with_reducible refine Kd.C_drewN ?_ _) | (with_reducible refine Kd.C_drew ?_))); (case side3 => exact HC1_2.out); (case side4 => (with_reducible repeat (first | refine zb ?_ _ | refine zd ?_ | refine za ?_ _)); exact BK31.out); rintro e w8 ⟨rfl, hb⟩; have n0_ := ze.mk (zk (g := g200) (o := .cells #[.int .i8 a1_0, .int .i8 a1_1, .slice A1_2 l1_2.length c1_2] 28 (0, 0)) (by (with_reducible repeat (first | refine zb ?_ _ | refine zd ?_ | refine za ?_ _)); exact BK30.out) hb); have n1_ := ze.mk (zk (g := g201) (o := .cells #[.int .i8 a1_3, .int .i8 a1_4, .int .i8 a1_5, .int .i8 a1_6] 43 (0, 0)) (by (with_reducible repeat (first | refine zb ?_ _ | refine zd ?_ | refine za ?_ _)); exact BK31.out) hb); have n2_ := ze.mk (zt (by repeat (first | (with_reducible first | exact HB.out | apply zg | apply zc | apply zf) | exact HB.out)) hb); clear BK30; clear BK31; clear HB; have BK30 := n0_; have BK31 := n1_; have HB := n2_; clear n0_ n1_ n2_; (try clear hb); (try clear hb2); (try clear hk); (try clear hi)))
       go_ret
       exact ⟨by first | rfl | (simp [zn, zm] <;> rfl) | (simp [*, zn, zm] <;> rfl), by repeat (first | (with_reducible first | exact HB.out | apply zg | apply zc | apply zf) | exact HB.out)⟩
      replace c7 := Bool.eq_false_iff.mpr c7
      subst c7
      have H1 : (impl_Case_101.l0 k1 l0 (l0.length : Int) (wrap64 (x8_1 + 1)) a1_0 a1_1 l1_2 a1_3 a1_4 a1_5 a1_6) = some r := by rw [if_neg (show ¬ (false = true) by decide)] at H; exact H
      clear H
      have H := H1
      clear H1
      have H' := ze.mk H
      clear H
      have p180 : 0 ≤ (x8_1 : Int) := od (by first | (with_reducible assumption) | assumption)
      have q180 : x8_1 < (l0.length : Int) := od (by first | (with_reducible assumption) | assumption)
      obtain ⟨ad180, e180, u1_0, u1_1⟩ := ac_T38 HB.out HR0.out x8_1 p180 q180
      cases e180
      replace p180 := eq_true p180
      replace q180 := eq_true q180
      go_wp2_with (first | (go_at_call 101; (with_reducible refine (impl_Fixed_decode_1.calls k1 ((zha l0 x8_1).f0) ((zha l0 x8_1).f1) g200 a1_0 a1_1 A1_2 c1_2 l1_2 g201 a1_3 a1_4 a1_5 a1_6 false _ ?side1 ?side2 ?side3 ?side4 A6.out).mono ?_); (case side1 => (with_reducible repeat (first | refine zb ?_ _ | refine zd ?_ | refine za ?_ _)); exact BK30.out); (case side2 => repeat (first | exact (Kd.C_below HR1_2.out HB.out) | (with_reducible refine Kd.C_alloc ?_ _) | (with_reducible refine Kd.C_drewN ?_ _) | (with_reducible refine Kd.C_drew ?_))); (case side3 => exact HC1_2.out); (case side4 => (with_reducible repeat (first | refine zb ?_ _ | refine zd ?_ | refine za ?_ _)); exact BK31.out); rintro e w9 ⟨rfl, hb⟩; have n0_ := ze.mk (zk (g := g200) (o := .cells #[.int .i8 a1_0, .int .i8 a1_1, .slice A1_2 l1_2.length c1_2] 28 (0, 0)) (by (with_reducible repeat (first | refine zb ?_ _ | refine zd ?_ | refine za ?_ _)); exact BK30.out) hb); have n1_ := ze.mk (zk (g := g201) (o := .cells #[.int .i8 a1_3, .int .i8 a1_4, .int .i8 a1_5, .int .i8 a1_6] 43 (0, 0)) (by (with_reducible repeat (first | refine zb ?_ _ | refine zd ?_ | refine za ?_ _)); exact BK31.out) hb); have n2_ := ze.mk (zt (by repeat (first | (with_reducible first | exact HB.out | apply zg | apply zc | apply zf) | exact HB.out)) hb); clear BK30; clear BK31; clear HB; have BK30 := n0_; have BK31 := n1_; have HB := n2_; clear n0_ n1_ n2_; (try clear hb); (try clear hb2); (try clear hk); (try clear hi)))
      go_roundg k1
      case measure => have := HK1.out; omega
      case rel => exact ⟨(wrap64 (x8_1 + 1)), (by first | rfl | (simp; done) | (simp [*]; done)), H', ⟨by have := HK1.out; omega⟩, ⟨by (with_reducible repeat (first | refine zb ?_ _ | refine zd ?_ | refine za ?_ _)); exact BK30.out⟩, ⟨by (with_reducible repeat (first | refine zb ?_ _ | refine zd ?_ | refine za ?_ _)); exact BK31.out⟩, ⟨by repeat (first | (with_reducible first | exact HB.out | apply zg | apply zc | apply zf) | exact HB.out)⟩⟩
     rw [if_neg c5] at H
     exact absurd H (by simp)
    rw [if_neg c4] at H
    exact absurd H (by simp)
   rw [if_neg c3] at H
   have c3b0 : decide (x8_1 < (l0.length : Int)) = false := decide_eq_false c3
   clear c3
   obtain rfl := Option.some.inj H
   go_wp2
   go_ret
   exact ⟨by first | rfl | (simp [zn, zm] <;> rfl) | (simp [*, zn, zm] <;> rfl), by repeat (first | (with_reducible first | exact HB.out | apply zg | apply zc | apply zf) | exact HB.out)⟩
def impl_Fixed_decode.f (k : Nat) (a0_0 : Int) (a0_1 : Int) (l0_2 : List (S43)) (a1_0 : Int) (a1_1 : Int) (a1_2 : Int) (a1_3 : Int) : Option (Int × Bool × Bool) := (impl_Fixed_cases.f k a0_0 a0_1 l0_2).bind fun t185 => ((impl_Case_101.f k t185 a0_0 a0_1 l0_2 a1_0 a1_1 a1_2 a1_3).bind fun t188 => (if t188 < 0 then (some (0, false, false)) else (if 0 ≤ t188 then (if t188 < (t185.length : Int) then (some ((zha t185 t188).f0, (zha t185 t188).f1, true)) else (none)) else (none))))
set_option maxHeartbeats 8000000 in
set_option maxRecDepth 100000 in
theorem impl_Fixed_decode.calls (k : Nat) (a0_0 : Int) (a0_1 : Int) (A0_2 : Option Addr) (c0_2 : Nat) (l0_2 : List (S43)) (a1_0 : Int) (a1_1 : Int) (a1_2 : Int) (a1_3 : Int) (r1 : Int) (r2 : Bool) (r3 : Bool) (w : World) (hr0_2 : Kd.C k43 w A0_2 l0_2.length l0_2) (hc0_2 : l0_2.length ≤ c0_2) (h : impl_Fixed_decode.f k a0_0 a0_1 l0_2 a1_0 a1_1 a1_2 a1_3 = some (r1, r2, r3)) :
  Calls Try.prog 68 #[.agg #[.int .i8 a0_0, .int .i8 a0_1, .slice A0_2 l0_2.length c0_2], .agg #[.int .i8 a1_0, .int .i8 a1_1, .int .i8 a1_2, .int .i8 a1_3]] w fun e w' => e = .returned (.tuple #[.agg #[.int .i8 r1, .bool r2], .bool r3]) ∧ Below w.heap.size w w' := by
 have hu28 := Try.underlying28
 have hu43 := Try.underlying43
 have hu38 := Try.underlying38
 have HR0_2 := ze.mk hr0_2
 have HC0_2 := ze.mk hc0_2
 clear hr0_2 hc0_2
 have HB := ze.mk (Below.refl w.heap.size w)
 have H : ((impl_Fixed_cases.f k a0_0 a0_1 l0_2).bind fun t185 => ((impl_Case_101.f k t185 a0_0 a0_1 l0_2 a1_0 a1_1 a1_2 a1_3).bind fun t188 => (if t188 < 0 then (some (0, false, false)) else (if 0 ≤ t188 then (if t188 < (t185.length : Int) then (some ((zha t185 t188).f0, (zha t185 t188).f1, true)) else (none)) else (none))))) = some (r1, r2, r3) := h
 clear h
 replace H := Option.bind_eq_some_iff.mp H
 obtain ⟨t185, A30, H⟩ := H
 replace H : ((impl_Case_101.f k t185 a0_0 a0_1 l0_2 a1_0 a1_1 a1_2 a1_3).bind fun t188 => (if t188 < 0 then (some (0, false, false)) else (if 0 ≤ t188 then (if t188 < (t185.length : Int) then (some ((zha t185 t188).f0, (zha t185 t188).f1, true)) else (none)) else (none)))) = some (r1, r2, r3) := H
 have A3 := ze.mk A30
 clear A30
 replace H := Option.bind_eq_some_iff.mp H
 obtain ⟨t188, A40, H⟩ := H
 replace H : (if t188 < 0 then (some (0, false, false)) else (if 0 ≤ t188 then (if t188 < (t185.length : Int) then (some ((zha t185 t188).f0, (zha t185 t188).f1, true)) else (none)) else (none))) = some (r1, r2, r3) := H
 have A4 := ze.mk A40
 clear A40
 by_cases c5 : t188 < 0
 ·rw [if_pos c5] at H
  have c5b0 : decide (t188 < 0) = true := decide_eq_true c5
  clear c5
  simp only [Option.some.injEq, Prod.mk.injEq] at H
  obtain ⟨rfl, rfl, rfl⟩ := H
  go_enter Try.func68, Try.ntmps68
  go_wp2_with (first | ((with_reducible refine zu (N := 2) rfl ?_); refine zr ?hg (N := 2) ?hd (cs := #[.int .i8 a0_0, .int .i8 a0_1, .slice A0_2 l0_2.length c0_2]) (t := 28) ?hr ?_; (case hd => rfl); (case hg => rfl); (case hr => first | (go_simp; done) | (go_simp; rfl)); intro gb182 hg w6 hbox hb; obtain ⟨n0_, n2_⟩ := bx (by repeat (first | (with_reducible first | exact HB.out | apply zg | apply zc | apply zf) | exact HB.out)) hb hg; have n1_ := ze.mk (hbox); have n3_ := n2_; clear HB; have HB := n0_; have BK182 := n1_; have GW182 := n2_; have GE182 := n3_; clear n0_ n1_ n2_ n3_; clear hb hbox hg) | ((with_reducible refine zu (N := 3) rfl ?_); refine zr ?hg (N := 3) ?hd (cs := #[.int .i8 a1_0, .int .i8 a1_1, .int .i8 a1_2, .int .i8 a1_3]) (t := 43) ?hr ?_; (case hd => rfl); (case hg => rfl); (case hr => first | (go_simp; done) | (go_simp; rfl)); intro gb183 hg w7 hbox hb; have n0_ := ze.mk (zk (by (with_reducible repeat (first | refine zb ?_ _ | refine zd ?_ | refine za ?_ _)); exact BK182.out) hb); obtain ⟨n1_, n3_⟩ := bx (by repeat (first | (with_reducible first | exact HB.out | apply zg | apply zc | apply zf | refine zi ?_ GE182.out) | exact HB.out)) hb hg; have n2_ := ze.mk (hbox); have n4_ := n3_; have n5_ := ze.mk ((by rw [hg]; exact Nat.ne_of_lt (zba (by (with_reducible repeat (first | refine zb ?_ _ | refine zd ?_ | refine za ?_ _)); exact BK182.out)) : gb182 ≠ gb183)); have n6_ := ze.mk n5_.out.symm; clear BK182; clear HB; have BK182 := n0_; have HB := n1_; have BK183 := n2_; have GW183 := n3_; have GE183 := n4_; have NB182_183 := n5_; have NB183_182 := n6_; clear n0_ n1_ n2_ n3_ n4_ n5_ n6_; clear hb hbox hg) | ((with_reducible refine zu (N := 4) rfl ?_); refine zr ?hg (N := 4) ?hd (cs := #[.int .i8 0, .bool false]) (t := 38) ?hr ?_; (case hd => rfl); (case hg => rfl); (case hr => first | (go_simp; done) | (go_simp; rfl)); intro gb184 hg w8 hbox hb; have n0_ := ze.mk (zk (by (with_reducible repeat (first | refine zb ?_ _ | refine zd ?_ | refine za ?_ _)); exact BK182.out) hb); have n1_ := ze.mk (zk (by (with_reducible repeat (first | refine zb ?_ _ | refine zd ?_ | refine za ?_ _)); exact BK183.out) hb); obtain ⟨n2_, n4_⟩ := bx (by repeat (first | (with_reducible first | exact HB.out | apply zg | apply zc | apply zf | refine zi ?_ GE182.out | refine zi ?_ GE183.out) | exact HB.out)) hb hg; have n3_ := ze.mk (hbox); have n5_ := n4_; have n6_ := ze.mk ((by rw [hg]; exact Nat.ne_of_lt (zba (by (with_reducible repeat (first | refine zb ?_ _ | refine zd ?_ | refine za ?_ _)); exact BK182.out)) : gb182 ≠ gb184)); have n7_ := ze.mk n6_.out.symm; have n8_ := ze.mk ((by rw [hg]; exact Nat.ne_of_lt (zba (by (with_reducible repeat (first | refine zb ?_ _ | refine zd ?_ | refine za ?_ _)); exact BK183.out)) : gb183 ≠ gb184)); have n9_ := ze.mk n8_.out.symm; clear BK182; clear BK183; clear HB; have BK182 := n0_; have BK183 := n1_; have HB := n2_; have BK184 := n3_; have GW184 := n4_; have GE184 := n5_; have NB182_184 := n6_; have NB184_182 := n7_; have NB183_184 := n8_; have NB184_183 := n9_; clear n0_ n1_ n2_ n3_ n4_ n5_ n6_ n7_ n8_ n9_; clear hb hbox hg; have hnb9 := NB182_183.out; have hnc9 := NB183_182.out; have hnb10 := NB182_184.out; have hnc10 := NB184_182.out; obtain ⟨y1_0, y1_1, y1_2, z1_0, z1_1, z1_2⟩ := cf3 BK182.out) | ((with_reducible refine zs (f := 61) rfl ?_); refine zda (some 9) rfl rfl Try.func61 (by kernel_rfl) rfl #[.agg #[.int .i8 a0_0, .int .i8 a0_1, .slice A0_2 l0_2.length c0_2]] rfl (by (try simp only [List.map_toArray, List.map_cons, List.map_nil]); first | done | rfl | (simp only [List.length_drop, List.length_take]; rfl)) ?_; (with_reducible refine (impl_Fixed_cases.calls k a0_0 a0_1 _ _ l0_2 t185 _ ?side1 ?side2 A3.out).mono ?_); (case side1 => repeat (first | exact (Kd.C_below HR0_2.out HB.out) | (with_reducible refine Kd.C_alloc ?_ _) | (with_reducible refine Kd.C_drewN ?_ _) | (with_reducible refine Kd.C_drew ?_))); (case side2 => exact HC0_2.out); rintro e w12 ⟨v186, rfl, ho0, hb⟩; refine ⟨_, rfl, ?_⟩; have n0_ := ze.mk (Kd.R_lower (Kd.R_newB ho0 (g := gb184) (o := .cells #[.int .i8 0, .bool false] 38 (0, 0)) (by (with_reducible repeat (first | refine zb ?_ _ | refine zd ?_ | refine za ?_ _)); exact BK184.out)) (zaa (by repeat (first | (with_reducible first | exact HB.out | apply zg | apply zc | apply zf | refine zi ?_ GE182.out | refine zi ?_ GE183.out | refine zi ?_ GE184.out) | exact HB.out)))); have n1_ := ze.mk (zk (by (with_reducible repeat (first | refine zb ?_ _ | refine zd ?_ | refine za ?_ _)); exact BK182.out) hb); have n2_ := ze.mk (zk (by (with_reducible repeat (first | refine zb ?_ _ | refine zd ?_ | refine za ?_ _)); exact BK183.out) hb); have n3_ := ze.mk (zk (by (with_reducible repeat (first | refine zb ?_ _ | refine zd ?_ | refine za ?_ _)); exact BK184.out) hb); have n4_ := ze.mk (zt (by repeat (first | (with_reducible first | exact HB.out | apply zg | apply zc | apply zf | refine zi ?_ GE182.out | refine zi ?_ GE183.out | refine zi ?_ GE184.out) | exact HB.out)) hb); clear BK182; clear BK183; clear BK184; clear HB; have HO187 := n0_; have BK182 := n1_; have BK183 := n2_; have BK184 := n3_; have HB := n4_; clear n0_ n1_ n2_ n3_ n4_; (try clear hb); (try clear hb2); (try clear hk); (try clear hi); (try clear ho0); obtain ⟨Ao13, co13, eo13⟩ := Kd.R_slice HO187.out; subst eo13) | ((with_reducible refine zs (f := 79) rfl ?_); refine zda (some 12) rfl rfl Try.func79 (by kernel_rfl) rfl #[.slice Ao13 t185.length co13, .func (.func 101) #[] #[.pointer (some ⟨gb182, 0, none⟩), .pointer (some ⟨gb183, 0, none⟩)]] rfl (by (try simp only [List.map_toArray, List.map_cons, List.map_nil]); first | done | rfl | (simp only [List.length_drop, List.length_take]; rfl)) ?_; (with_reducible refine (impl_Case_101.calls k _ _ t185 gb182 gb183 a0_0 a0_1 A0_2 c0_2 l0_2 a1_0 a1_1 a1_2 a1_3 t188 _ ?side1 ?side2 ?side3 ?side4 ?side5 ?side6 A4.out).mono ?_); (case side1 => repeat (first | exact (Kd.R_reads' HO187.out).2.2 | (with_reducible refine Kd.C_alloc ?_ _) | (with_reducible refine Kd.C_drewN ?_ _) | (with_reducible refine Kd.C_drew ?_))); (case side2 => exact (Kd.R_reads' HO187.out).2.1); (case side3 => (with_reducible repeat (first | refine zb ?_ _ | refine zd ?_ | refine za ?_ _)); exact BK182.out); (case side4 => (with_reducible repeat (first | refine zb ?_ _ | refine zd ?_ | refine za ?_ _)); exact BK183.out); (case side5 => repeat (first | exact (Kd.C_below HR0_2.out HB.out) | (with_reducible refine Kd.C_alloc ?_ _) | (with_reducible refine Kd.C_drewN ?_ _) | (with_reducible refine Kd.C_drew ?_))); (case side6 => exact HC0_2.out); rintro e w14 ⟨rfl, hb⟩; refine ⟨_, rfl, ?_⟩; have n0_ := ze.mk (Kd.R_below (by (with_reducible repeat (first | apply Kd.R_alloc | apply Kd.R_drewN | apply Kd.R_drew)); exact HO187.out) hb); have n1_ := ze.mk (zk (by (with_reducible repeat (first | refine zb ?_ _ | refine zd ?_ | refine za ?_ _)); exact BK182.out) hb); have n2_ := ze.mk (zk (by (with_reducible repeat (first | refine zb ?_ _ | refine zd ?_ | refine za ?_ _)); exact BK183.out) hb); have n3_ := ze.mk (zk (by (with_reducible repeat (first | refine zb ?_ _ | refine zd ?_ | refine za ?_ _)); exact BK184.out) hb); have n4_ := ze.mk (zt (by repeat (first | (with_reducible first | exact HB.out | apply zg | apply zc | apply zf | refine zi ?_ GE182.out | refine zi ?_ GE183.out | refine zi ?_ GE184.out) | exact HB.out)) hb); clear HO187; clear BK182; clear BK183; clear BK184; clear HB; have HO187 := n0_; have BK182 := n1_; have BK183 := n2_; have BK184 := n3_; have HB := n4_; clear n0_ n1_ n2_ n3_ n4_; (try clear hb); (try clear hb2); (try clear hk); (try clear hi); have hnb15 := NB184_183.out; have hnc15 := NB183_184.out; obtain ⟨y2_0, y2_1, z2_0, z2_1⟩ := cf2 BK184.out))
  refine bodyPost_ret (zcc rfl _ _ gb184 38 #[.int .i8 0, .bool false] (0, 0) _ rfl (by (with_reducible repeat (first | refine zb ?_ _ | refine zd ?_ | refine za ?_ _)); refine zp (cs := #[.int .i8 0, .bool false]) ?_ 1 _ rfl; (with_reducible repeat (first | refine zb ?_ _ | refine zd ?_ | refine za ?_ _)); refine zp (cs := #[.int .i8 0, .bool false]) ?_ 0 _ rfl; (with_reducible repeat (first | refine zb ?_ _ | refine zd ?_ | refine za ?_ _)); exact BK184.out) Try.underlying38 rfl (by kernel_rfl)) rfl ?_
  exact ⟨by first | rfl | (simp [zn, zm] <;> rfl) | (simp [*, zn, zm] <;> rfl), by repeat (first | (with_reducible first | exact HB.out | apply zg | apply zc | apply zf | refine zi ?_ GE182.out | refine zi ?_ GE183.out | refine zi ?_ GE184.out) | exact HB.out)⟩
 rw [if_neg c5] at H
 have c5b0 : decide (t188 < 0) = false := decide_eq_false c5
 clear c5
 by_cases c17 : 0 ≤ t188
 ·rw [if_pos c17] at H
  have c17b0 : decide (0 ≤ t188) = true := decide_eq_true c17
  clear c17
  by_cases c18 : t188 < (t185.length : Int)
  ·rw [if_pos c18] at H
   have c18b0 : decide (t188 < (t185.length : Int)) = true := decide_eq_true c18
   clear c18
   simp only [Option.some.injEq, Prod.mk.injEq] at H
   obtain ⟨rfl, rfl, rfl⟩ := H
   go_enter Try.func68, Try.ntmps68
   go_wp2_with (first | ((with_reducible refine zu (N := 2) rfl ?_); refine zr ?hg (N := 2) ?hd (cs := #[.int .i8 a0_0, .int .i8 a0_1, .slice A0_2 l0_2.length c0_2]) (t := 28) ?hr ?_; (case hd => rfl); (case hg => rfl); (case hr => first | (go_simp; done) | (go_simp; rfl)); intro gb182 hg w19 hbox hb; obtain ⟨n0_, n2_⟩ := bx (by repeat (first | (with_reducible first | exact HB.out | apply zg | apply zc | apply zf) | exact HB.out)) hb hg; have n1_ := ze.mk (hbox); have n3_ := n2_; clear HB; have HB := n0_; have BK182 := n1_; have GW182 := n2_; have GE182 := n3_; clear n0_ n1_ n2_ n3_; clear hb hbox hg) | ((with_reducible refine zu (N := 3) rfl ?_); refine zr ?hg (N := 3) ?hd (cs := #[.int .i8 a1_0, .int .i8 a1_1, .int .i8 a1_2, .int .i8 a1_3]) (t := 43) ?hr ?_; (case hd => rfl); (case hg => rfl); (case hr => first | (go_simp; done) | (go_simp; rfl)); intro gb183 hg w20 hbox hb; have n0_ := ze.mk (zk (by (with_reducible repeat (first | refine zb ?_ _ | refine zd ?_ | refine za ?_ _)); exact BK182.out) hb); obtain ⟨n1_, n3_⟩ := bx (by repeat (first | (with_reducible first | exact HB.out | apply zg | apply zc | apply zf | refine zi ?_ GE182.out) | exact HB.out)) hb hg; have n2_ := ze.mk (hbox); have n4_ := n3_; have n5_ := ze.mk ((by rw [hg]; exact Nat.ne_of_lt (zba (by (with_reducible repeat (first | refine zb ?_ _ | refine zd ?_ | refine za ?_ _)); exact BK182.out)) : gb182 ≠ gb183)); have n6_ := ze.mk n5_.out.symm; clear BK182; clear HB; have BK182 := n0_; have HB := n1_; have BK183 := n2_; have GW183 := n3_; have GE183 := n4_; have NB182_183 := n5_; have NB183_182 := n6_; clear n0_ n1_ n2_ n3_ n4_ n5_ n6_; clear hb hbox hg) | ((with_reducible refine zu (N := 4) rfl ?_); refine zr ?hg (N := 4) ?hd (cs := #[.int .i8 0, .bool false]) (t := 38) ?hr ?_; (case hd => rfl); (case hg => rfl); (case hr => first | (go_simp; done) | (go_simp; rfl)); intro gb184 hg w21 hbox hb; have n0_ := ze.mk (zk (by (with_reducible repeat (first | refine zb ?_ _ | refine zd ?_ | refine za ?_ _)); exact BK182.out) hb); have n1_ := ze.mk (zk (by (with_reducible repeat (first | refine zb ?_ _ | refine zd ?_ | refine za ?_ _)); exact BK183.out) hb); obtain ⟨n2_, n4_⟩ := bx (by repeat (first | (with_reducible first | exact HB.out | apply zg | apply zc | apply zf | refine zi ?_ GE182.out | refine zi ?_ GE183.out) | exact HB.out)) hb hg; have n3_ := ze.mk (hbox); have n5_ := n4_; have n6_ := ze.mk ((by rw [hg]; exact Nat.ne_of_lt (zba (by (with_reducible repeat (first | refine zb ?_ _ | refine zd ?_ | refine za ?_ _)); exact BK182.out)) : gb182 ≠ gb184)); have n7_ := ze.mk n6_.out.symm; have n8_ := ze.mk ((by rw [hg]; exact Nat.ne_of_lt (zba (by (with_reducible repeat (first | refine zb ?_ _ | refine zd ?_ | refine za ?_ _)); exact BK183.out)) : gb183 ≠ gb184)); have n9_ := ze.mk n8_.out.symm; clear BK182; clear BK183; clear HB; have BK182 := n0_; have BK183 := n1_; have HB := n2_; have BK184 := n3_; have GW184 := n4_; have GE184 := n5_; have NB182_184 := n6_; have NB184_182 := n7_; have NB183_184 := n8_; have NB184_183 := n9_; clear n0_ n1_ n2_ n3_ n4_ n5_ n6_ n7_ n8_ n9_; clear hb hbox hg; have hnb22 := NB182_183.out; have hnc22 := NB183_182.out; have hnb23 := NB182_184.out; have hnc23 := NB184_182.out; obtain ⟨y3_0, y3_1, y3_2, z3_0, z3_1, z3_2⟩ := cf3 BK182.out) | ((with_reducible refine zs (f := 61) rfl ?_); refine zda (some 9) rfl rfl Try.func61 (by kernel_rfl) rfl #[.agg #[.int .i8 a0_0, .int .i8 a0_1, .slice A0_2 l0_2.length c0_2]] rfl (by (try simp only [List.map_toArray, List.map_cons, List.map_nil]); first | done | rfl | (simp only [List.length_drop, List.length_take]; rfl)) ?_; (with_reducible refine (impl_Fixed_cases.calls k a0_0 a0_1 _ _ l0_2 t185 _ ?side1 ?side2 A3.out).mono ?_); (case side1 => repeat (first | exact (Kd.C_below HR0_2.out HB.out) | (with_reducible refine Kd.C_alloc ?_ _) | (with_reducible refine Kd.C_drewN ?_ _) | (with_reducible refine Kd.C_drew ?_))); (case side2 => exact HC0_2.out); rintro e w25 ⟨v186, rfl, ho0, hb⟩; refine ⟨_, rfl, ?_⟩; have n0_ := ze.mk (Kd.R_lower (Kd.R_newB ho0 (g := gb184) (o := .cells #[.int .i8 0, .bool false] 38 (0, 0)) (by (with_reducible repeat (first | refine zb ?_ _ | refine zd ?_ | refine za ?_ _)); exact BK184.out)) (zaa (by repeat (first | (with_reducible first | exact HB.out | apply zg | apply zc | apply zf | refine zi ?_ GE182.out | refine zi ?_ GE183.out | refine zi ?_ GE184.out) | exact HB.out)))); have n1_ := ze.mk (zk (by (with_reducible repeat (first | refine zb ?_ _ | refine zd ?_ | refine za ?_ _)); exact BK182.out) hb); have n2_ := ze.mk (zk (by (with_reducible repeat (first | refine zb ?_ _ | refine zd ?_ | refine za ?_ _)); exact BK183.out) hb); have n3_ := ze.mk (zk (by (with_reducible repeat (first | refine zb ?_ _ | refine zd ?_ | refine za ?_ _)); exact BK184.out) hb); have n4_ := ze.mk (zt (by repeat (first | (with_reducible first | exact HB.out | apply zg | apply zc | apply zf | refine zi ?_ GE182.out | refine zi ?_ GE183.out | refine zi ?_ GE184.out) | exact HB.out)) hb); clear BK182; clear BK183; clear BK184; clear HB; have HO187 := n0_; have BK182 := n1_; have BK183 := n2_; have BK184 := n3_; have HB := n4_; clear n0_ n1_ n2_ n3_ n4_; (try clear hb); (try clear hb2); (try clear hk); (try clear hi); (try clear ho0); obtain ⟨Ao26, co26, eo26⟩ := Kd.R_slice HO187.out; subst eo26) | ((with_reducible refine zs (f := 79) rfl ?_); refine zda (some 12) rfl rfl Try.func79 (by kernel_rfl) rfl #[.slice Ao26 t185.length co26, .func (.func 101) #[] #[.pointer (some ⟨gb182, 0, none⟩), .pointer (some ⟨gb183, 0, none⟩)]] rfl (by (try simp only [List.map_toArray, List.map_cons, List.map_nil]); first | done | rfl | (simp only [List.length_drop, List.length_take]; rfl)) ?_; (with_reducible refine (impl_Case_101.calls k _ _ t185 gb182 gb183 a0_0 a0_1 A0_2 c0_2 l0_2 a1_0 a1_1 a1_2 a1_3 t188 _ ?side1 ?side2 ?side3 ?side4 ?side5 ?side6 A4.out).mono ?_); (case side1 => repeat (first | exact (Kd.R_reads' HO187.out).2.2 | (with_reducible refine Kd.C_alloc ?_ _) | (with_reducible refine Kd.C_drewN ?_ _) | (with_reducible refine Kd.C_drew ?_))); (case side2 => exact (Kd.R_reads' HO187.out).2.1); (case side3 => (with_reducible repeat (first | refine zb ?_ _ | refine zd ?_ | refine za ?_ _)); exact BK182.out); (case side4 => (with_reducible repeat (first | refine zb ?_ _ | refine zd ?_ | refine za ?_ _)); exact BK183.out); (case side5 => repeat (first | exact (Kd.C_below HR0_2.out HB.out) | (with_reducible refine Kd.C_alloc ?_ _) | (with_reducible refine Kd.C_drewN ?_ _) | (with_reducible refine Kd.C_drew ?_))); (case side6 => exact HC0_2.out); rintro e w27 ⟨rfl, hb⟩; refine ⟨_, rfl, ?_⟩; have n0_ := ze.mk (Kd.R_below (by (with_reducible repeat (first | apply Kd.R_alloc | apply Kd.R_drewN | apply Kd.R_drew)); exact HO187.out) hb); have n1_ := ze.mk (zk (by (with_reducible repeat (first | refine zb ?_ _ | refine zd ?_ | refine za ?_ _)); exact BK182.out) hb); have n2_ := ze.mk (zk (by (with_reducible repeat (first | refine zb ?_ _ | refine zd ?_ | refine za ?_ _)); exact BK183.out) hb); have n3_ := ze.mk (zk (by (with_reducible repeat (first | refine zb ?_ _ | refine zd ?_ | refine za ?_ _)); exact BK184.out) hb); have n4_ := ze.mk (zt (by repeat (first | (with_reducible first | exact HB.out | apply zg | apply zc | apply zf | refine zi ?_ GE182.out | refine zi ?_ GE183.out | refine zi ?_ GE184.out) | exact HB.out)) hb); clear HO187; clear BK182; clear BK183; clear BK184; clear HB; have HO187 := n0_; have BK182 := n1_; have BK183 := n2_; have BK184 := n3_; have HB := n4_; clear n0_ n1_ n2_ n3_ n4_; (try clear hb); (try clear hb2); (try clear hk); (try clear hi); have p189 : 0 ≤ (t188 : Int) := od (by first | (with_reducible assumption) | assumption); have q189 : t188 < (t185.length : Int) := od (by first | (with_reducible assumption) | assumption); obtain ⟨ad189, e189, u2_0, u2_1⟩ := zne (Kd.R_reads' HO187.out).2.2 t188 p189 q189; cases e189; replace p189 := eq_true p189; replace q189 := eq_true q189; have hnb28 := NB184_183.out; have hnc28 := NB183_184.out; obtain ⟨y4_0, y4_1, z4_0, z4_1⟩ := cf2 BK184.out))
   refine bodyPost_ret (zcc rfl _ _ gb184 38 #[.int .i8 ((zha t185 t188).f0), .bool ((zha t185 t188).f1)] (0, 0) _ rfl (by (with_reducible repeat (first | refine zb ?_ _ | refine zd ?_ | refine za ?_ _)); refine zp (cs := #[.int .i8 ((zha t185 t188).f0), .bool false]) ?_ 1 _ rfl; (with_reducible repeat (first | refine zb ?_ _ | refine zd ?_ | refine za ?_ _)); refine zp (cs := #[.int .i8 0, .bool false]) ?_ 0 _ rfl; (with_reducible repeat (first | refine zb ?_ _ | refine zd ?_ | refine za ?_ _)); exact BK184.out) Try.underlying38 rfl (by kernel_rfl)) rfl ?_
   exact ⟨by first | rfl | (simp [zn, zm] <;> rfl) | (simp [*, zn, zm] <;> rfl), by repeat (first | (with_reducible first | exact HB.out | apply zg | apply zc | apply zf | refine zi ?_ GE182.out | refine zi ?_ GE183.out | refine zi ?_ GE184.out) | exact HB.out)⟩
  rw [if_neg c18] at H
  exact absurd H (by simp)
 rw [if_neg c17] at H
 exact absurd H (by simp)
attribute [local go_sem high] eqA96
mutual
def impl_TreeOf.l0 : Nat → Int → List (S102) → Int → Int → Int → Int → List (S43) → Option ((List (S102)) × Int)
 | 0, _, _, _, _, _, _, _ => none
 | k + 1, x4, x5, x32, x33, x191000, x191001, x191002 => if x33 < x32 then ((impl_Fixed_weighing.f k x191000 x191001 x191002 x33).bind fun bt196 => (if (bt196.1 == 0 && (bt196.2.1 == 0 && (bt196.2.2.1 == 0 && (bt196.2.2.2.1 == 0 && (bt196.2.2.2.2.1 == 0 && (bt196.2.2.2.2.2.1 == 0 && (bt196.2.2.2.2.2.2.1 == 0 && (bt196.2.2.2.2.2.2.2.1 == 0 && (bt196.2.2.2.2.2.2.2.2.1 == 0 && (bt196.2.2.2.2.2.2.2.2.2.1 == 0 && (bt196.2.2.2.2.2.2.2.2.2.2.1 == 0 && (bt196.2.2.2.2.2.2.2.2.2.2.2.1 == 0 && (bt196.2.2.2.2.2.2.2.2.2.2.2.2.1 == 0 && (bt196.2.2.2.2.2.2.2.2.2.2.2.2.2 == 0)))))))))))))) = true then (some (([] : List (S102)), 4)) else ((impl_Node.f x5).bind fun t211 => ((impl_power.f k x33).bind fun t212 => (impl_TreeOf.l1 k x4 x5 (wrap64 (t211 + t212)) x32 x33 t212 0 x191000 x191001 x191002 bt196.1 bt196.2.1 bt196.2.2.1 bt196.2.2.2.1 bt196.2.2.2.2.1 bt196.2.2.2.2.2.1 bt196.2.2.2.2.2.2.1 bt196.2.2.2.2.2.2.2.1 bt196.2.2.2.2.2.2.2.2.1 bt196.2.2.2.2.2.2.2.2.2.1 bt196.2.2.2.2.2.2.2.2.2.2.1 bt196.2.2.2.2.2.2.2.2.2.2.2.1 bt196.2.2.2.2.2.2.2.2.2.2.2.2.1 bt196.2.2.2.2.2.2.2.2.2.2.2.2.2))))) else ((impl_power.f k x4).bind fun t219 => (impl_TreeOf.l3 k x4 x5 t219 0 x191000 x191001 x191002))
def impl_TreeOf.l1 : Nat → Int → List (S102) → Int → Int → Int → Int → Int → Int → Int → List (S43) → Int → Int → Int → Int → Int → Int → Int → Int → Int → Int → Int → Int → Int → Int → Option ((List (S102)) × Int)
 | 0, _, _, _, _, _, _, _, _, _, _, _, _, _, _, _, _, _, _, _, _, _, _, _, _ => none
 | k + 1, x4, x5, x8, x32, x33, x48, x49, x191000, x191001, x191002, x211000, x211001, x211002, x211003, x211004, x211005, x211006, x211007, x211008, x211009, x211010, x211011, x211012, x211013 => if x49 < x48 then (impl_TreeOf.l2 k x4 x5 x8 x49 x32 x33 x48 x49 0 x191000 x191001 x191002 x211000 x211001 x211002 x211003 x211004 x211005 x211006 x211007 x211008 x211009 x211010 x211011 x211012 x211013 x211000 x211001 x211002 x211003 x211004 x211005 x211006 x211007 x211008 x211009 x211010 x211011 x211012 x211013 0 0 0 0 false false) else (impl_TreeOf.l0 k x4 x5 x32 (wrap64 (x33 + 1)) x191000 x191001 x191002)
def impl_TreeOf.l2 : Nat → Int → List (S102) → Int → Int → Int → Int → Int → Int → Int → Int → Int → List (S43) → Int → Int → Int → Int → Int → Int → Int → Int → Int → Int → Int → Int → Int → Int → Int → Int → Int → Int → Int → Int → Int → Int → Int → Int → Int → Int → Int → Int → Int → Int → Int → Int → Bool → Bool → Option ((List (S102)) × Int)
 | 0, _, _, _, _, _, _, _, _, _, _, _, _, _, _, _, _, _, _, _, _, _, _, _, _, _, _, _, _, _, _, _, _, _, _, _, _, _, _, _, _, _, _, _, _, _, _ => none
 | k + 1, x4, x5, x8, x9, x32, x33, x48, x49, x54, x191000, x191001, x191002, x211000, x211001, x211002, x211003, x211004, x211005, x211006, x211007, x211008, x211009, x211010, x211011, x211012, x211013, x214000, x214001, x214002, x214003, x214004, x214005, x214006, x214007, x214008, x214009, x214010, x214011, x214012, x214013, x214014, x214015, x214016, x214017, x214018, x214019 => if x54 < 3 then (if 0 ≤ x54 then (impl_TreeOf.l2 k x4 x5 x8 x9 x32 x33 x48 x49 (wrap64 (x54 + 1)) x191000 x191001 x191002 x211000 x211001 x211002 x211003 x211004 x211005 x211006 x211007 x211008 x211009 x211010 x211011 x211012 x211013 x214000 x214001 x214002 x214003 x214004 x214005 x214006 x214007 x214008 x214009 x214010 x214011 x214012 x214013 (zv x54 0 (IntKind.i16.wrap (wrap64 ((wrap64 (x8 + (wrap64 (3 * x9)))) + x54))) x214014) (zv x54 1 (IntKind.i16.wrap (wrap64 ((wrap64 (x8 + (wrap64 (3 * x9)))) + x54))) x214015) (zv x54 2 (IntKind.i16.wrap (wrap64 ((wrap64 (x8 + (wrap64 (3 * x9)))) + x54))) x214016) x214017 x214018 x214019) else (none)) else (if x5.length < 5864062014805 then (impl_TreeOf.l1 k x4 (x5 ++ [(⟨(⟨x214000, x214001, x214002, x214003, x214004, x214005, x214006, x214007, x214008, x214009, x214010, x214011, x214012, x214013⟩ : S96), (⟨x214014, x214015, x214016⟩ : S100), (⟨x214017, x214018⟩ : S38), x214019⟩ : S102)]) x8 x32 x33 x48 (wrap64 (x49 + 1)) x191000 x191001 x191002 x211000 x211001 x211002 x211003 x211004 x211005 x211006 x211007 x211008 x211009 x211010 x211011 x211012 x211013) else (none))
def impl_TreeOf.l3 : Nat → Int → List (S102) → Int → Int → Int → Int → List (S43) → Option ((List (S102)) × Int)
 | 0, _, _, _, _, _, _, _ => none
 | k + 1, x4, x5, x75, x76, x191000, x191001, x191002 => if x76 < x75 then ((impl_wordAt.f k x4 x76).bind fun bt220 => ((impl_Fixed_decode.f k x191000 x191001 x191002 bt220.1 bt220.2.1 bt220.2.2.1 bt220.2.2.2).bind fun bt224 => (if bt224.2.2 = true then (if x5.length < 5864062014805 then (impl_TreeOf.l3 k x4 (x5 ++ [(⟨(⟨0, 0, 0, 0, 0, 0, 0, 0, 0, 0, 0, 0, 0, 0⟩ : S96), (⟨0, 0, 0⟩ : S100), (⟨bt224.1, bt224.2.1⟩ : S38), true⟩ : S102)]) x75 (wrap64 (x76 + 1)) x191000 x191001 x191002) else (none)) else (if x5.length < 5864062014805 then (impl_TreeOf.l3 k x4 (x5 ++ [(⟨(⟨0, 0, 0, 0, 0, 0, 0, 0, 0, 0, 0, 0, 0, 0⟩ : S96), (⟨0, 0, 0⟩ : S100), (⟨(-1), false⟩ : S38), true⟩ : S102)]) x75 (wrap64 (x76 + 1)) x191000 x191001 x191002) else (none))))) else (some (x5, 0))
end
def impl_TreeOf.f (k : Nat) (a0_0 : Int) (a0_1 : Int) (l0_2 : List (S43)) : Option ((List (S102)) × Int) := (impl_ValidFixed.f k a0_0 a0_1 l0_2).bind fun t191 => (if t191 = true then (if (l0_2.length : Int) > 13 then (some (([] : List (S102)), 2)) else ((impl_Fixed_isBalanced.f k a0_0 a0_1 l0_2).bind fun t192 => (if t192 = true then (impl_TreeOf.l0 k (wrap64 (a0_0)) (([] : List (S102))) (wrap64 (a0_0)) 0 a0_0 a0_1 l0_2) else (some (([] : List (S102)), 4))))) else (some (([] : List (S102)), 1)))
def impl_TreeOf.T30 : Bool × List (List Nat × List Nat) := (true, [([], []), ([], []), ([], []), ([1, 2], [1, 2]), ([0, 3, 3], [0, 3]), ([4], [4]), ([5], [5]), ([5], [5]), ([], []), ([8, 6, 4, 0, 1, 2, 3, 4, 5, 6, 8], [6, 8]), ([7, 9, 0, 1, 2, 3, 4, 5, 6, 7, 8, 9], [7])])
def impl_TreeOf.B30 : List Nat := [0, 0, 0, 6, 15, 31, 63, 63, 0, 383, 1023]
theorem impl_TreeOf.tab30 : rtab .any (zqe Try.f21 30) = impl_TreeOf.T30 := by kernel_rfl
theorem impl_TreeOf.bits30 : zgb impl_TreeOf.T30.2 impl_TreeOf.B30 = true := by kernel_rfl
set_option maxHeartbeats 8000000 in
set_option maxRecDepth 100000 in
theorem impl_TreeOf.calls (k : Nat) (a0_0 : Int) (a0_1 : Int) (A0_2 : Option Addr) (c0_2 : Nat) (l0_2 : List (S43)) (r1 : List (S102)) (r2 : Int) (w : World) (hr0_2 : Kd.C k43 w A0_2 l0_2.length l0_2) (hc0_2 : l0_2.length ≤ c0_2) (h : impl_TreeOf.f k a0_0 a0_1 l0_2 = some (r1, r2)) :
  Calls Try.prog 21 #[.agg #[.int .i8 a0_0, .int .i8 a0_1, .slice A0_2 l0_2.length c0_2]] w fun e w' => ∃ v0_ : Value, e = .returned (.tuple #[v0_, .int .i64 r2]) ∧ Kd.R k102 102 w' w.heap.size (fun _ => True) v0_ r1 ∧ Below w.heap.size w w' := by
 have hu28 := Try.underlying28
 have hu96 := Try.underlying96
 have hu102 := Try.underlying102
 have hu38 := Try.underlying38
 have HR0_2 := ze.mk hr0_2
 have HC0_2 := ze.mk hc0_2
 clear hr0_2 hc0_2
 have HB := ze.mk (Below.refl w.heap.size w)
 have H : ((impl_ValidFixed.f k a0_0 a0_1 l0_2).bind fun t191 => (if t191 = true then (if (l0_2.length : Int) > 13 then (some (([] : List (S102)), 2)) else ((impl_Fixed_isBalanced.f k a0_0 a0_1 l0_2).bind fun t192 => (if t192 = true then (impl_TreeOf.l0 k (wrap64 (a0_0)) (([] : List (S102))) (wrap64 (a0_0)) 0 a0_0 a0_1 l0_2) else (some (([] : List (S102)), 4))))) else (some (([] : List (S102)), 1)))) = some (r1, r2) := h
 clear h
 replace H := Option.bind_eq_some_iff.mp H
 obtain ⟨t191, A20, H⟩ := H
 replace H : (if t191 = true then (if (l0_2.length : Int) > 13 then (some (([] : List (S102)), 2)) else ((impl_Fixed_isBalanced.f k a0_0 a0_1 l0_2).bind fun t192 => (if t192 = true then (impl_TreeOf.l0 k (wrap64 (a0_0)) (([] : List (S102))) (wrap64 (a0_0)) 0 a0_0 a0_1 l0_2) else (some (([] : List (S102)), 4))))) else (some (([] : List (S102)), 1))) = some (r1, r2) := H
 have A2 := ze.mk A20
 clear A20
 by_cases c3 : t191 = true
 ·subst c3
  have H1 : (if (l0_2.length : Int) > 13 then (some (([] : List (S102)), 2)) else ((impl_Fixed_isBalanced.f k a0_0 a0_1 l0_2).bind fun t192 => (if t192 = true then (impl_TreeOf.l0 k (wrap64 (a0_0)) (([] : List (S102))) (wrap64 (a0_0)) 0 a0_0 a0_1 l0_2) else (some (([] : List (S102)), 4))))) = some (r1, r2) := by rw [if_pos rfl] at H; exact H
  clear H
  have H := H1
  clear H1
  by_cases c4 : (l0_2.length : Int) > 13
  ·rw [if_pos c4] at H
   have c4b0 : decide (13 < (l0_2.length : Int)) = true := decide_eq_true c4
   have c4b1 : decide (13 < l0_2.length) = true := decide_eq_true (by omega)
   clear c4
   simp only [Option.some.injEq, Prod.mk.injEq] at H
   obtain ⟨rfl, rfl⟩ := H
   go_enter Try.func21, Try.ntmps21
   go_wp2_with (first | ((with_reducible refine zu (N := 1) rfl ?_); refine zr ?hg (N := 1) ?hd (cs := #[.int .i8 a0_0, .int .i8 a0_1, .slice A0_2 l0_2.length c0_2]) (t := 28) ?hr ?_; (case hd => rfl); (case hg => rfl); (case hr => first | (go_simp; done) | (go_simp; rfl)); intro gb190 hg w5 hbox hb; obtain ⟨n0_, n2_⟩ := bx (by repeat (first | (with_reducible first | exact HB.out | apply zg | apply zc | apply zf) | exact HB.out)) hb hg; have n1_ := ze.mk (hbox); have n3_ := n2_; clear HB; have HB := n0_; have BK190 := n1_; have GW190 := n2_; have GE190 := n3_; clear n0_ n1_ n2_ n3_; clear hb hbox hg; obtain ⟨y1_0, y1_1, y1_2, z1_0, z1_1, z1_2⟩ := cf3 BK190.out) | ((with_reducible refine zs (f := 56) rfl ?_); refine zda (some 17) rfl rfl Try.func56 (by kernel_rfl) rfl #[.agg #[.int .i8 a0_0, .int .i8 a0_1, .slice A0_2 l0_2.length c0_2]] rfl (by (try simp only [List.map_toArray, List.map_cons, List.map_nil]); first | done | rfl | (simp only [List.length_drop, List.length_take]; rfl)) ?_; (with_reducible refine (impl_ValidFixed.calls k a0_0 a0_1 _ _ l0_2 true _ ?side1 ?side2 A2.out).mono ?_); (case side1 => repeat (first | exact (Kd.C_below HR0_2.out HB.out) | (with_reducible refine Kd.C_alloc ?_ _) | (with_reducible refine Kd.C_drewN ?_ _) | (with_reducible refine Kd.C_drew ?_))); (case side2 => exact HC0_2.out); rintro e w7 ⟨rfl, hb⟩; refine ⟨_, rfl, ?_⟩; have n0_ := ze.mk (zk (by (with_reducible repeat (first | refine zb ?_ _ | refine zd ?_ | refine za ?_ _)); exact BK190.out) hb); have n1_ := ze.mk (zt (by repeat (first | (with_reducible first | exact HB.out | apply zg | apply zc | apply zf | refine zi ?_ GE190.out) | exact HB.out)) hb); clear BK190; clear HB; have BK190 := n0_; have HB := n1_; clear n0_ n1_; (try clear hb); (try clear hb2); (try clear hk); (try clear hi); obtain ⟨y2_0, y2_1, y2_2, z2_0, z2_1, z2_2⟩ := cf3 BK190.out))
   go_ret2
   exact ⟨_, by first | rfl | (simp [zn, zm] <;> rfl) | (simp [*, zn, zm] <;> rfl), by first | exact Kd.R_nil _ _ _ _ _ | exact Kd.N_nil _ _ _ _ _ | exact Kd.V_nil _ _ _ _ _ | exact Kd.Q_nil _ _ _ _ _ | exact Kd.S_nil _ _ _ _ _, by repeat (first | (with_reducible first | exact HB.out | apply zg | apply zc | apply zf | refine zi ?_ GE190.out) | exact HB.out)⟩
  rw [if_neg c4] at H
  have c4b0 : decide (13 < (l0_2.length : Int)) = false := decide_eq_false c4
  have c4b1 : decide (13 < l0_2.length) = false := decide_eq_false (by omega)
  clear c4
  replace H := Option.bind_eq_some_iff.mp H
  obtain ⟨t192, A90, H⟩ := H
  replace H : (if t192 = true then (impl_TreeOf.l0 k (wrap64 (a0_0)) (([] : List (S102))) (wrap64 (a0_0)) 0 a0_0 a0_1 l0_2) else (some (([] : List (S102)), 4))) = some (r1, r2) := H
  have A9 := ze.mk A90
  clear A90
  by_cases c10 : t192 = true
  ·subst c10
   have H1 : (impl_TreeOf.l0 k (wrap64 (a0_0)) (([] : List (S102))) (wrap64 (a0_0)) 0 a0_0 a0_1 l0_2) = some (r1, r2) := by rw [if_pos rfl] at H; exact H
   clear H
   have H := H1
   clear H1
   obtain ⟨y193, hy193⟩ : ∃ y_ : List (S102), y_ = (([] : List (S102))) := ⟨_, rfl⟩
   replace H : (impl_TreeOf.l0 k (wrap64 (a0_0)) y193 (wrap64 (a0_0)) 0 a0_0 a0_1 l0_2) = some (r1, r2) := by first | (rw [hy193]; with_reducible exact H) | (have H2_ := (Option.bind_some _ _).symm.trans H; rw [hy193]; with_reducible exact H2_) | (have H2_ := (Option.bind_some _ _).symm.trans H; with_reducible exact H2_) | with_reducible exact H | (rw [hy193]; exact H) | exact H
   have Ny193 := ze.mk hy193
   clear hy193
   have H' := ze.mk H
   clear H
   go_enter Try.func21, Try.ntmps21
   go_wp2_with (first | ((with_reducible refine zu (N := 1) rfl ?_); refine zr ?hg (N := 1) ?hd (cs := #[.int .i8 a0_0, .int .i8 a0_1, .slice A0_2 l0_2.length c0_2]) (t := 28) ?hr ?_; (case hd => rfl); (case hg => rfl); (case hr => first | (go_simp; done) | (go_simp; rfl)); intro gb190 hg w11 hbox hb; obtain ⟨n0_, n2_⟩ := bx (by repeat (first | (with_reducible first | exact HB.out | apply zg | apply zc | apply zf) | exact HB.out)) hb hg; have n1_ := ze.mk (hbox); have n3_ := n2_; clear HB; have HB := n0_; have BK190 := n1_; have GW190 := n2_; have GE190 := n3_; clear n0_ n1_ n2_ n3_; clear hb hbox hg; obtain ⟨y3_0, y3_1, y3_2, z3_0, z3_1, z3_2⟩ := cf3 BK190.out) | ((with_reducible refine zs (f := 56) rfl ?_); refine zda (some 17) rfl rfl Try.func56 (by kernel_rfl) rfl #[.agg #[.int .i8 a0_0, .int .i8 a0_1, .slice A0_2 l0_2.length c0_2]] rfl (by (try simp only [List.map_toArray, List.map_cons, List.map_nil]); first | done | rfl | (simp only [List.length_drop, List.length_take]; rfl)) ?_; (with_reducible refine (impl_ValidFixed.calls k a0_0 a0_1 _ _ l0_2 true _ ?side1 ?side2 A2.out).mono ?_); (case side1 => repeat (first | exact (Kd.C_below HR0_2.out HB.out) | (with_reducible refine Kd.C_alloc ?_ _) | (with_reducible refine Kd.C_drewN ?_ _) | (with_reducible refine Kd.C_drew ?_))); (case side2 => exact HC0_2.out); rintro e w13 ⟨rfl, hb⟩; refine ⟨_, rfl, ?_⟩; have n0_ := ze.mk (zk (by (with_reducible repeat (first | refine zb ?_ _ | refine zd ?_ | refine za ?_ _)); exact BK190.out) hb); have n1_ := ze.mk (zt (by repeat (first | (with_reducible first | exact HB.out | apply zg | apply zc | apply zf | refine zi ?_ GE190.out) | exact HB.out)) hb); clear BK190; clear HB; have BK190 := n0_; have HB := n1_; clear n0_ n1_; (try clear hb); (try clear hb2); (try clear hk); (try clear hi); obtain ⟨y4_0, y4_1, y4_2, z4_0, z4_1, z4_2⟩ := cf3 BK190.out) | ((with_reducible refine zs (f := 57) rfl ?_); refine zda (some 26) rfl rfl Try.func57 (by kernel_rfl) rfl #[.agg #[.int .i8 a0_0, .int .i8 a0_1, .slice A0_2 l0_2.length c0_2]] rfl (by (try simp only [List.map_toArray, List.map_cons, List.map_nil]); first | done | rfl | (simp only [List.length_drop, List.length_take]; rfl)) ?_; (with_reducible refine (impl_Fixed_isBalanced.calls k a0_0 a0_1 _ _ l0_2 true _ ?side1 ?side2 A9.out).mono ?_); (case side1 => repeat (first | exact (Kd.C_below HR0_2.out HB.out) | (with_reducible refine Kd.C_alloc ?_ _) | (with_reducible refine Kd.C_drewN ?_ _) | (with_reducible refine Kd.C_drew ?_))); (case side2 => exact HC0_2.out); rintro e w15 ⟨rfl, hb⟩; refine ⟨_, rfl, ?_⟩; have n0_ := ze.mk (zk (by (with_reducible repeat (first | refine zb ?_ _ | refine zd ?_ | refine za ?_ _)); exact BK190.out) hb); have n1_ := ze.mk (zt (by repeat (first | (with_reducible first | exact HB.out | apply zg | apply zc | apply zf | refine zi ?_ GE190.out) | exact HB.out)) hb); clear BK190; clear HB; have BK190 := n0_; have HB := n1_; clear n0_ n1_; (try clear hb); (try clear hb2); (try clear hk); (try clear hi); obtain ⟨y5_0, y5_1, y5_2, z5_0, z5_1, z5_2⟩ := cf3 BK190.out) | ((with_reducible refine zu (N := 31) rfl ?_); refine Kd.R_lit k102 _ 102 ?hg (N := 31) ?hd (xs := ([] : List (S102))) (inner := []) (ok := fun _ => True) (okp := fun _ => True) ?hr ?hp (fun _ hk => hk) trivial (Below.refl _ _) (Nat.le_refl _) (by simp) ?_; (case hd => rfl); (case hg => rfl); (case hr => first | (go_simp; done) | (go_simp; rfl)); (case hp => exact (Reps.none _ _)); intro v194 w17 ho18 hb hg_ hnew_; clear hg_ hnew_; (first | rw [← Ny193.out] at ho18 | (simp only [Int.reduceToNat] at ho18; rw [← Ny193.out] at ho18)); have n0_ := ze.mk (Kd.R_lower ho18 (zaa (by repeat (first | (with_reducible first | exact HB.out | apply zg | apply zc | apply zf | refine zi ?_ GE190.out) | exact HB.out)))); have n1_ := ze.mk (zk (by (with_reducible repeat (first | refine zb ?_ _ | refine zd ?_ | refine za ?_ _)); exact BK190.out) hb); have n2_ := ze.mk (zt (by repeat (first | (with_reducible first | exact HB.out | apply zg | apply zc | apply zf | refine zi ?_ GE190.out) | exact HB.out)) hb); clear BK190; clear HB; have HO195 := n0_; have BK190 := n1_; have HB := n2_; clear n0_ n1_ n2_; clear hb ho18))
   go_loopg [5, 33] k (fun kq v5 v33 w' => ∃ (x5_1 : List (S102)) (x33_1 : Int), v33 = .int .i64 x33_1 ∧ ze (impl_TreeOf.l0 kq (wrap64 (a0_0)) x5_1 (wrap64 (a0_0)) x33_1 a0_0 a0_1 l0_2 = some (r1, r2)) ∧ ze (kq ≤ k) ∧ ze (Kd.R k102 102 w' w.heap.size (fun _ => True) v5 x5_1) ∧ ze (w'.heap[gb190]? = some (.cells #[.int .i8 a0_0, .int .i8 a0_1, (.slice A0_2 l0_2.length c0_2)] 28 (0, 0))) ∧ ze (Below w.heap.size w w'))
   case atStart => exact ⟨(y193), (0), (by first | rfl | (simp; done) | (simp [*]; done)), H', ⟨Nat.le_refl _⟩, ⟨by (with_reducible repeat (first | apply Kd.R_alloc | apply Kd.R_drewN | apply Kd.R_drew)); exact HO195.out⟩, ⟨by (with_reducible repeat (first | refine zb ?_ _ | refine zd ?_ | refine za ?_ _)); exact BK190.out⟩, ⟨by repeat (first | (with_reducible first | exact HB.out | apply zg | apply zc | apply zf | refine zi ?_ GE190.out) | exact HB.out)⟩⟩
   case round =>
    clear H'
    try clear c1
    try clear c2
    try clear p2
    try clear c3
    try clear c4
    try clear c4b0
    try clear c4b1
    try clear c5
    try clear p6
    try clear c10
    try clear y3_0 y3_1 y3_2
    try clear y4_0 y4_1 y4_2
    try clear y5_0 y5_1 y5_2
    try clear y1_0 y1_1 y1_2
    try clear y2_0 y2_1 y2_2
    try clear z3_0 z3_1 z3_2
    try clear z4_0 z4_1 z4_2
    try clear z5_0 z5_1 z5_2
    try clear z1_0 z1_1 z1_2
    try clear z2_0 z2_1 z2_2
    obtain ⟨x5_1, x33_1, rfl, HA, HK1, HO_5, BK190, HB⟩ := hrel
    cases gk with
    | zero => exact absurd HA.out (by simp [impl_TreeOf.l0])
    | succ k1 =>
     have H := HA.out
     clear HA
     simp only [impl_TreeOf.l0] at H
     by_cases c19 : x33_1 < (wrap64 (a0_0))
     ·rw [if_pos c19] at H
      have c19b0 : decide (x33_1 < (wrap64 (a0_0))) = true := decide_eq_true c19
      (try (have c19b1 : decide (x33_1 < (IntKind.i64.wrap (a0_0))) = true := by have h_ : decide (x33_1 < (wrap64 (a0_0))) = true := decide_eq_true c19; simpa only [zy, zz] using h_))
      clear c19
      replace H := Option.bind_eq_some_iff.mp H
      obtain ⟨⟨t196, t197, t198, t199, t200, t201, t202, t203, t204, t205, t206, t207, t208, t209⟩, A200, H⟩ := H
      replace H : (if (t196 == 0 && (t197 == 0 && (t198 == 0 && (t199 == 0 && (t200 == 0 && (t201 == 0 && (t202 == 0 && (t203 == 0 && (t204 == 0 && (t205 == 0 && (t206 == 0 && (t207 == 0 && (t208 == 0 && (t209 == 0)))))))))))))) = true then (some (([] : List (S102)), 4)) else ((impl_Node.f x5_1).bind fun t211 => ((impl_power.f k1 x33_1).bind fun t212 => (impl_TreeOf.l1 k1 (wrap64 (a0_0)) x5_1 (wrap64 (t211 + t212)) (wrap64 (a0_0)) x33_1 t212 0 a0_0 a0_1 l0_2 t196 t197 t198 t199 t200 t201 t202 t203 t204 t205 t206 t207 t208 t209)))) = some (r1, r2) := H
      have A20 := ze.mk A200
      clear A200
      by_cases c21 : (t196 == 0 && (t197 == 0 && (t198 == 0 && (t199 == 0 && (t200 == 0 && (t201 == 0 && (t202 == 0 && (t203 == 0 && (t204 == 0 && (t205 == 0 && (t206 == 0 && (t207 == 0 && (t208 == 0 && (t209 == 0)))))))))))))) = true
      ·rw [if_pos c21] at H
       have c21b0 : (t196 == 0 && (t197 == 0 && (t198 == 0 && (t199 == 0 && (t200 == 0 && (t201 == 0 && (t202 == 0 && (t203 == 0 && (t204 == 0 && (t205 == 0 && (t206 == 0 && (t207 == 0 && (t208 == 0 && (t209 == 0)))))))))))))) = true := c21
       (try (have c21b1 : decide (t196 = 0 && (t197 == 0 && (t198 == 0 && (t199 == 0 && (t200 == 0 && (t201 == 0 && (t202 == 0 && (t203 == 0 && (t204 == 0 && (t205 == 0 && (t206 == 0 && (t207 == 0 && (t208 == 0 && (t209 == 0)))))))))))))) = true := by simpa using c21))
       (try (have c21b2 : (t196 == 0 && (t197 == 0 && (t198 == 0 && (t199 == 0 && (t200 == 0 && (t201 == 0 && (t202 == 0 && (t203 == 0 && (t204 == 0 && (t205 == 0 && (t206 == 0 && (t207 == 0 && (t208 == 0 && (t209 == 0)))))))))))))) = true := by simpa using c21))
       clear c21
       simp only [Option.some.injEq, Prod.mk.injEq] at H
       obtain ⟨rfl, rfl⟩ := H
       obtain ⟨y6_0, y6_1, y6_2, z6_0, z6_1, z6_2⟩ := cf3 BK190.out
       go_wp2_with (first | ((with_reducible refine zs (f := 66) rfl ?_); refine zda (some 38) rfl rfl Try.func66 (by kernel_rfl) rfl #[.agg #[.int .i8 a0_0, .int .i8 a0_1, .slice A0_2 l0_2.length c0_2], .int .i64 x33_1] rfl (by (try simp only [List.map_toArray, List.map_cons, List.map_nil]); first | done | rfl | (simp only [List.length_drop, List.length_take]; rfl)) ?_; (with_reducible refine (impl_Fixed_weighing.calls k1 a0_0 a0_1 _ _ l0_2 x33_1 t196 t197 t198 t199 t200 t201 t202 t203 t204 t205 t206 t207 t208 t209 _ ?side1 ?side2 A20.out).mono ?_); (case side1 => repeat (first | exact (Kd.C_below HR0_2.out HB.out) | (with_reducible refine Kd.C_alloc ?_ _) | (with_reducible refine Kd.C_drewN ?_ _) | (with_reducible refine Kd.C_drew ?_))); (case side2 => exact HC0_2.out); rintro e w23 ⟨rfl, hb⟩; refine ⟨_, rfl, ?_⟩; have n0_ := ze.mk (Kd.R_below (by (with_reducible repeat (first | apply Kd.R_alloc | apply Kd.R_drewN | apply Kd.R_drew)); exact HO_5.out) hb); have n1_ := ze.mk (zk (by (with_reducible repeat (first | refine zb ?_ _ | refine zd ?_ | refine za ?_ _)); exact BK190.out) hb); have n2_ := ze.mk (zt (by repeat (first | (with_reducible first | exact HB.out | apply zg | apply zc | apply zf | refine zi ?_ GE190.out) | exact HB.out)) hb); clear HO_5; clear BK190; clear HB; have HO_5 := n0_; have BK190 := n1_; have HB := n2_; clear n0_ n1_ n2_; (try clear hb); (try clear hb2); (try clear hk); (try clear hi)) | ((with_reducible refine zu (N := 7) rfl ?_); refine zr ?hg (N := 7) ?hd (cs := #[.int .i8 0, .int .i8 0, .int .i8 0, .int .i8 0, .int .i8 0, .int .i8 0, .int .i8 0, .int .i8 0, .int .i8 0, .int .i8 0, .int .i8 0, .int .i8 0, .int .i8 0, .int .i8 0]) (t := 96) ?hr ?_; (case hd => rfl); (case hg => rfl); (case hr => first | (go_simp; done) | (go_simp; rfl)); intro gb210 hg w24 hbox hb; have n0_ := ze.mk (Kd.R_below (by (with_reducible repeat (first | apply Kd.R_alloc | apply Kd.R_drewN | apply Kd.R_drew)); exact HO_5.out) hb); have n1_ := ze.mk (zk (by (with_reducible repeat (first | refine zb ?_ _ | refine zd ?_ | refine za ?_ _)); exact BK190.out) hb); obtain ⟨n2_, n4_⟩ := bx (by repeat (first | (with_reducible first | exact HB.out | apply zg | apply zc | apply zf | refine zi ?_ GE190.out) | exact HB.out)) hb hg; have n3_ := ze.mk (hbox); have n5_ := n4_; have n6_ := ze.mk ((by rw [hg]; exact Nat.ne_of_lt (zba (by (with_reducible repeat (first | refine zb ?_ _ | refine zd ?_ | refine za ?_ _)); exact BK190.out)) : gb190 ≠ gb210)); have n7_ := ze.mk n6_.out.symm; clear HO_5; clear BK190; clear HB; have HO_5 := n0_; have BK190 := n1_; have HB := n2_; have BK210 := n3_; have GW210 := n4_; have GE210 := n5_; have NB190_210 := n6_; have NB210_190 := n7_; clear n0_ n1_ n2_ n3_ n4_ n5_ n6_ n7_; clear hb hbox hg; have hnb25 := NB210_190.out; have hnc25 := NB190_210.out; obtain ⟨y7_0, y7_1, y7_2, y7_3, y7_4, y7_5, y7_6, y7_7, y7_8, y7_9, y7_10, y7_11, y7_12, y7_13, z7_0, z7_1, z7_2, z7_3, z7_4, z7_5, z7_6, z7_7, z7_8, z7_9, z7_10, z7_11, z7_12, z7_13⟩ := cf14 BK210.out))
       go_ret2
       exact ⟨_, by first | rfl | (simp [zn, zm] <;> rfl) | (simp [*, zn, zm] <;> rfl), by first | exact Kd.R_nil _ _ _ _ _ | exact Kd.N_nil _ _ _ _ _ | exact Kd.V_nil _ _ _ _ _ | exact Kd.Q_nil _ _ _ _ _ | exact Kd.S_nil _ _ _ _ _, by repeat (first | (with_reducible first | exact HB.out | apply zg | apply zc | apply zf | refine zi ?_ GE190.out | refine zi ?_ GE210.out) | exact HB.out)⟩
      rw [if_neg c21] at H
      have c21b0 : (t196 == 0 && (t197 == 0 && (t198 == 0 && (t199 == 0 && (t200 == 0 && (t201 == 0 && (t202 == 0 && (t203 == 0 && (t204 == 0 && (t205 == 0 && (t206 == 0 && (t207 == 0 && (t208 == 0 && (t209 == 0)))))))))))))) = false := by simpa using c21
      (try (have c21b1 : decide (t196 = 0 && (t197 == 0 && (t198 == 0 && (t199 == 0 && (t200 == 0 && (t201 == 0 && (t202 == 0 && (t203 == 0 && (t204 == 0 && (t205 == 0 && (t206 == 0 && (t207 == 0 && (t208 == 0 && (t209 == 0)))))))))))))) = false := by simpa using c21))
      (try (have c21b2 : (t196 == 0 && (t197 == 0 && (t198 == 0 && (t199 == 0 && (t200 == 0 && (t201 == 0 && (t202 == 0 && (t203 == 0 && (t204 == 0 && (t205 == 0 && (t206 == 0 && (t207 == 0 && (t208 == 0 && (t209 == 0)))))))))))))) = false := by simpa using c21))
      (try (have c21b3 : ¬ (t196 = 0 && (t197 == 0 && (t198 == 0 && (t199 == 0 && (t200 == 0 && (t201 == 0 && (t202 == 0 && (t203 == 0 && (t204 == 0 && (t205 == 0 && (t206 == 0 && (t207 == 0 && (t208 == 0 && (t209 == 0)))))))))))))) := by simpa using c21))
      clear c21
      replace H := Option.bind_eq_some_iff.mp H
      obtain ⟨t211, A270, H⟩ := H
      replace H : ((impl_power.f k1 x33_1).bind fun t212 => (impl_TreeOf.l1 k1 (wrap64 (a0_0)) x5_1 (wrap64 (t211 + t212)) (wrap64 (a0_0)) x33_1 t212 0 a0_0 a0_1 l0_2 t196 t197 t198 t199 t200 t201 t202 t203 t204 t205 t206 t207 t208 t209)) = some (r1, r2) := H
      have A27 := ze.mk A270
      clear A270
      replace H := Option.bind_eq_some_iff.mp H
      obtain ⟨t212, A280, H⟩ := H
      replace H : (impl_TreeOf.l1 k1 (wrap64 (a0_0)) x5_1 (wrap64 (t211 + t212)) (wrap64 (a0_0)) x33_1 t212 0 a0_0 a0_1 l0_2 t196 t197 t198 t199 t200 t201 t202 t203 t204 t205 t206 t207 t208 t209) = some (r1, r2) := H
      have A28 := ze.mk A280
      clear A280
      have H' := ze.mk H
      clear H
      obtain ⟨y8_0, y8_1, y8_2, z8_0, z8_1, z8_2⟩ := cf3 BK190.out
      go_wp2_with (first | ((with_reducible refine zs (f := 66) rfl ?_); refine zda (some 38) rfl rfl Try.func66 (by kernel_rfl) rfl #[.agg #[.int .i8 a0_0, .int .i8 a0_1, .slice A0_2 l0_2.length c0_2], .int .i64 x33_1] rfl (by (try simp only [List.map_toArray, List.map_cons, List.map_nil]); first | done | rfl | (simp only [List.length_drop, List.length_take]; rfl)) ?_; (with_reducible refine (impl_Fixed_weighing.calls k1 a0_0 a0_1 _ _ l0_2 x33_1 t196 t197 t198 t199 t200 t201 t202 t203 t204 t205 t206 t207 t208 t209 _ ?side1 ?side2 A20.out).mono ?_); (case side1 => repeat (first | exact (Kd.C_below HR0_2.out HB.out) | (with_reducible refine Kd.C_alloc ?_ _) | (with_reducible refine Kd.C_drewN ?_ _) | (with_reducible refine Kd.C_drew ?_))); (case side2 => exact HC0_2.out); rintro e w30 ⟨rfl, hb⟩; refine ⟨_, rfl, ?_⟩; have n0_ := ze.mk (Kd.R_below (by (with_reducible repeat (first | apply Kd.R_alloc | apply Kd.R_drewN | apply Kd.R_drew)); exact HO_5.out) hb); have n1_ := ze.mk (zk (by (with_reducible repeat (first | refine zb ?_ _ | refine zd ?_ | refine za ?_ _)); exact BK190.out) hb); have n2_ := ze.mk (zt (by repeat (first | (with_reducible first | exact HB.out | apply zg | apply zc | apply zf | refine zi ?_ GE190.out) | exact HB.out)) hb); clear HO_5; clear BK190; clear HB; have HO_5 := n0_; have BK190 := n1_; have HB := n2_; clear n0_ n1_ n2_; (try clear hb); (try clear hb2); (try clear hk); (try clear hi)) | ((with_reducible refine zu (N := 7) rfl ?_); refine zr ?hg (N := 7) ?hd (cs := #[.int .i8 0, .int .i8 0, .int .i8 0, .int .i8 0, .int .i8 0, .int .i8 0, .int .i8 0, .int .i8 0, .int .i8 0, .int .i8 0, .int .i8 0, .int .i8 0, .int .i8 0, .int .i8 0]) (t := 96) ?hr ?_; (case hd => rfl); (case hg => rfl); (case hr => first | (go_simp; done) | (go_simp; rfl)); intro gb210 hg w31 hbox hb; have n0_ := ze.mk (Kd.R_below (by (with_reducible repeat (first | apply Kd.R_alloc | apply Kd.R_drewN | apply Kd.R_drew)); exact HO_5.out) hb); have n1_ := ze.mk (zk (by (with_reducible repeat (first | refine zb ?_ _ | refine zd ?_ | refine za ?_ _)); exact BK190.out) hb); obtain ⟨n2_, n4_⟩ := bx (by repeat (first | (with_reducible first | exact HB.out | apply zg | apply zc | apply zf | refine zi ?_ GE190.out) | exact HB.out)) hb hg; have n3_ := ze.mk (hbox); have n5_ := n4_; have n6_ := ze.mk ((by rw [hg]; exact Nat.ne_of_lt (zba (by (with_reducible repeat (first | refine zb ?_ _ | refine zd ?_ | refine za ?_ _)); exact BK190.out)) : gb190 ≠ gb210)); have n7_ := ze.mk n6_.out.symm; clear HO_5; clear BK190; clear HB; have HO_5 := n0_; have BK190 := n1_; have HB := n2_; have BK210 := n3_; have GW210 := n4_; have GE210 := n5_; have NB190_210 := n6_; have NB210_190 := n7_; clear n0_ n1_ n2_ n3_ n4_ n5_ n6_ n7_; clear hb hbox hg; have hnb32 := NB210_190.out; have hnc32 := NB190_210.out; obtain ⟨y9_0, y9_1, y9_2, y9_3, y9_4, y9_5, y9_6, y9_7, y9_8, y9_9, y9_10, y9_11, y9_12, y9_13, z9_0, z9_1, z9_2, z9_3, z9_4, z9_5, z9_6, z9_7, z9_8, z9_9, z9_10, z9_11, z9_12, z9_13⟩ := cf14 BK210.out; obtain ⟨Ao34, co34, eo34⟩ := Kd.R_slice HO_5.out; subst eo34) | ((with_reducible refine zs (f := 67) rfl ?_); refine zda (some 43) rfl rfl Try.func67 (by kernel_rfl) rfl #[.slice Ao34 x5_1.length co34] rfl (by (try simp only [List.map_toArray, List.map_cons, List.map_nil]); first | done | rfl | (simp only [List.length_drop, List.length_take]; rfl)) ?_; (with_reducible refine (impl_Node.calls _ _ x5_1 t211 _ ?side1 ?side2 A27.out).mono ?_); (case side1 => refine (Kd.R_reads' (e := 102) (base := w.heap.size) (ok := fun k_ => True) (n := x5_1.length) (c := co34) ?_).2.2; exact (by (with_reducible repeat (first | apply Kd.R_alloc | apply Kd.R_drewN | apply Kd.R_drew)); exact (Kd.R_mono (Kd.R_far (p := ⟨gb210, 13, none⟩) (Kd.R_far (p := ⟨gb210, 12, none⟩) (Kd.R_far (p := ⟨gb210, 11, none⟩) (Kd.R_far (p := ⟨gb210, 10, none⟩) (Kd.R_far (p := ⟨gb210, 9, none⟩) (Kd.R_far (p := ⟨gb210, 8, none⟩) (Kd.R_far (p := ⟨gb210, 7, none⟩) (Kd.R_far (p := ⟨gb210, 6, none⟩) (Kd.R_far (p := ⟨gb210, 5, none⟩) (Kd.R_far (p := ⟨gb210, 4, none⟩) (Kd.R_far (p := ⟨gb210, 3, none⟩) (Kd.R_far (p := ⟨gb210, 2, none⟩) (Kd.R_far (p := ⟨gb210, 1, none⟩) (Kd.R_far (p := ⟨gb210, 0, none⟩) (Kd.R_types HO_5.out BK210.out (by decide)) (fun _ hk => hk.2) (.int .i8 t196)) (fun _ hk => hk.2) (.int .i8 t197)) (fun _ hk => hk.2) (.int .i8 t198)) (fun _ hk => hk.2) (.int .i8 t199)) (fun _ hk => hk.2) (.int .i8 t200)) (fun _ hk => hk.2) (.int .i8 t201)) (fun _ hk => hk.2) (.int .i8 t202)) (fun _ hk => hk.2) (.int .i8 t203)) (fun _ hk => hk.2) (.int .i8 t204)) (fun _ hk => hk.2) (.int .i8 t205)) (fun _ hk => hk.2) (.int .i8 t206)) (fun _ hk => hk.2) (.int .i8 t207)) (fun _ hk => hk.2) (.int .i8 t208)) (fun _ hk => hk.2) (.int .i8 t209)) (fun _ h_ => h_.1)))); (case side2 => exact (Kd.R_reads' HO_5.out).2.1); rintro e w' ⟨rfl, ⟨nd, rfl⟩⟩; refine ⟨_, rfl, ?_⟩) | ((with_reducible refine zs (f := 44) rfl ?_); refine zda (some 45) rfl rfl Try.func44 (by kernel_rfl) rfl #[.int .i64 x33_1] rfl (by (try simp only [List.map_toArray, List.map_cons, List.map_nil]); first | done | rfl | (simp only [List.length_drop, List.length_take]; rfl)) ?_; (with_reducible refine (impl_power.calls k1 x33_1 t212 _ A28.out).mono ?_); rintro e w' ⟨rfl, ⟨nd, rfl⟩⟩; refine ⟨_, rfl, ?_⟩) | ((with_reducible refine zs (f := 44) rfl ?_); refine zda (some 48) rfl rfl Try.func44 (by kernel_rfl) rfl #[.int .i64 x33_1] rfl (by (try simp only [List.map_toArray, List.map_cons, List.map_nil]); first | done | rfl | (simp only [List.length_drop, List.length_take]; rfl)) ?_; (with_reducible refine (impl_power.calls k1 x33_1 t212 _ A28.out).mono ?_); rintro e w' ⟨rfl, ⟨nd, rfl⟩⟩; refine ⟨_, rfl, ?_⟩))
      go_loopg [5, 49] k1 (fun kq v5 v49 w' => ∃ (x5_2 : List (S102)) (x49_2 : Int), v49 = .int .i64 x49_2 ∧ ze (impl_TreeOf.l1 kq (wrap64 (a0_0)) x5_2 (wrap64 (t211 + t212)) (wrap64 (a0_0)) x33_1 t212 x49_2 a0_0 a0_1 l0_2 t196 t197 t198 t199 t200 t201 t202 t203 t204 t205 t206 t207 t208 t209 = some (r1, r2)) ∧ ze (kq ≤ k1) ∧ ze (Kd.R k102 102 w' w.heap.size (fun _ => True) v5 x5_2) ∧ ze (w'.heap[gb190]? = some (.cells #[.int .i8 a0_0, .int .i8 a0_1, (.slice A0_2 l0_2.length c0_2)] 28 (0, 0))) ∧ ze (w'.heap[gb210]? = some (.cells #[.int .i8 t196, .int .i8 t197, .int .i8 t198, .int .i8 t199, .int .i8 t200, .int .i8 t201, .int .i8 t202, .int .i8 t203, .int .i8 t204, .int .i8 t205, .int .i8 t206, .int .i8 t207, .int .i8 t208, .int .i8 t209] 96 (0, 0))) ∧ ze (Below w.heap.size w w'))
      case atStart => exact ⟨(x5_1), (0), (by first | rfl | (simp; done) | (simp [*]; done)), H', ⟨Nat.le_refl _⟩, ⟨by (with_reducible repeat (first | apply Kd.R_alloc | apply Kd.R_drewN | apply Kd.R_drew)); exact Kd.R_mono (Kd.R_far (p := ⟨gb210, 13, none⟩) (Kd.R_far (p := ⟨gb210, 12, none⟩) (Kd.R_far (p := ⟨gb210, 11, none⟩) (Kd.R_far (p := ⟨gb210, 10, none⟩) (Kd.R_far (p := ⟨gb210, 9, none⟩) (Kd.R_far (p := ⟨gb210, 8, none⟩) (Kd.R_far (p := ⟨gb210, 7, none⟩) (Kd.R_far (p := ⟨gb210, 6, none⟩) (Kd.R_far (p := ⟨gb210, 5, none⟩) (Kd.R_far (p := ⟨gb210, 4, none⟩) (Kd.R_far (p := ⟨gb210, 3, none⟩) (Kd.R_far (p := ⟨gb210, 2, none⟩) (Kd.R_far (p := ⟨gb210, 1, none⟩) (Kd.R_far (p := ⟨gb210, 0, none⟩) (Kd.R_types HO_5.out BK210.out (by decide)) (fun _ hk => hk.2) (.int .i8 t196)) (fun _ hk => hk.2) (.int .i8 t197)) (fun _ hk => hk.2) (.int .i8 t198)) (fun _ hk => hk.2) (.int .i8 t199)) (fun _ hk => hk.2) (.int .i8 t200)) (fun _ hk => hk.2) (.int .i8 t201)) (fun _ hk => hk.2) (.int .i8 t202)) (fun _ hk => hk.2) (.int .i8 t203)) (fun _ hk => hk.2) (.int .i8 t204)) (fun _ hk => hk.2) (.int .i8 t205)) (fun _ hk => hk.2) (.int .i8 t206)) (fun _ hk => hk.2) (.int .i8 t207)) (fun _ hk => hk.2) (.int .i8 t208)) (fun _ hk => hk.2) (.int .i8 t209)) (fun _ hk => trivial)⟩, ⟨by (with_reducible repeat (first | refine zb ?_ _ | refine zd ?_ | refine za ?_ _)); refine zq ?_ NB190_210.out _; (with_reducible repeat (first | refine zb ?_ _ | refine zd ?_ | refine za ?_ _)); refine zq ?_ NB190_210.out _; (with_reducible repeat (first | refine zb ?_ _ | refine zd ?_ | refine za ?_ _)); refine zq ?_ NB190_210.out _; (with_reducible repeat (first | refine zb ?_ _ | refine zd ?_ | refine za ?_ _)); refine zq ?_ NB190_210.out _; (with_reducible repeat (first | refine zb ?_ _ | refine zd ?_ | refine za ?_ _)); refine zq ?_ NB190_210.out _; (with_reducible repeat (first | refine zb ?_ _ | refine zd ?_ | refine za ?_ _)); refine zq ?_ NB190_210.out _; (with_reducible repeat (first | refine zb ?_ _ | refine zd ?_ | refine za ?_ _)); refine zq ?_ NB190_210.out _; (with_reducible repeat (first | refine zb ?_ _ | refine zd ?_ | refine za ?_ _)); refine zq ?_ NB190_210.out _; (with_reducible repeat (first | refine zb ?_ _ | refine zd ?_ | refine za ?_ _)); refine zq ?_ NB190_210.out _; (with_reducible repeat (first | refine zb ?_ _ | refine zd ?_ | refine za ?_ _)); refine zq ?_ NB190_210.out _; (with_reducible repeat (first | refine zb ?_ _ | refine zd ?_ | refine za ?_ _)); refine zq ?_ NB190_210.out _; (with_reducible repeat (first | refine zb ?_ _ | refine zd ?_ | refine za ?_ _)); refine zq ?_ NB190_210.out _; (with_reducible repeat (first | refine zb ?_ _ | refine zd ?_ | refine za ?_ _)); refine zq ?_ NB190_210.out _; (with_reducible repeat (first | refine zb ?_ _ | refine zd ?_ | refine za ?_ _)); refine zq ?_ NB190_210.out _; (with_reducible repeat (first | refine zb ?_ _ | refine zd ?_ | refine za ?_ _)); exact BK190.out⟩, ⟨by (with_reducible repeat (first | refine zb ?_ _ | refine zd ?_ | refine za ?_ _)); refine zp (cs := #[.int .i8 t196, .int .i8 t197, .int .i8 t198, .int .i8 t199, .int .i8 t200, .int .i8 t201, .int .i8 t202, .int .i8 t203, .int .i8 t204, .int .i8 t205, .int .i8 t206, .int .i8 t207, .int .i8 t208, .int .i8 0]) ?_ 13 _ rfl; (with_reducible repeat (first | refine zb ?_ _ | refine zd ?_ | refine za ?_ _)); refine zp (cs := #[.int .i8 t196, .int .i8 t197, .int .i8 t198, .int .i8 t199, .int .i8 t200, .int .i8 t201, .int .i8 t202, .int .i8 t203, .int .i8 t204, .int .i8 t205, .int .i8 t206, .int .i8 t207, .int .i8 0, .int .i8 0]) ?_ 12 _ rfl; (with_reducible repeat (first | refine zb ?_ _ | refine zd ?_ | refine za ?_ _)); refine zp (cs := #[.int .i8 t196, .int .i8 t197, .int .i8 t198, .int .i8 t199, .int .i8 t200, .int .i8 t201, .int .i8 t202, .int .i8 t203, .int .i8 t204, .int .i8 t205, .int .i8 t206, .int .i8 0, .int .i8 0, .int .i8 0]) ?_ 11 _ rfl; (with_reducible repeat (first | refine zb ?_ _ | refine zd ?_ | refine za ?_ _)); refine zp (cs := #[.int .i8 t196, .int .i8 t197, .int .i8 t198, .int .i8 t199, .int .i8 t200, .int .i8 t201, .int .i8 t202, .int .i8 t203, .int .i8 t204, .int .i8 t205, .int .i8 0, .int .i8 0, .int .i8 0, .int .i8 0]) ?_ 10 _ rfl; (with_reducible repeat (first | refine zb ?_ _ | refine zd ?_ | refine za ?_ _)); refine zp (cs := #[.int .i8 t196, .int .i8 t197, .int .i8 t198, .int .i8 t199, .int .i8 t200, .int .i8 t201, .int .i8 t202, .int .i8 t203, .int .i8 t204, .int .i8 0, .int .i8 0, .int .i8 0, .int .i8 0, .int .i8 0]) ?_ 9 _ rfl; (with_reducible repeat (first | refine zb ?_ _ | refine zd ?_ | refine za ?_ _)); refine zp (cs := #[.int .i8 t196, .int .i8 t197, .int .i8 t198, .int .i8 t199, .int .i8 t200, .int .i8 t201, .int .i8 t202, .int .i8 t203, .int .i8 0, .int .i8 0, .int .i8 0, .int .i8 0, .int .i8 0, .int .i8 0]) ?_ 8 _ rfl; (with_reducible repeat (first | refine zb ?_ _ | refine zd ?_ | refine za ?_ _)); refine zp (cs := #[.int .i8 t196, .int .i8 t197, .int .i8 t198, .int .i8 t199, .int .i8 t200, .int .i8 t201, .int .i8 t202, .int .i8 0, .int .i8 0, .int .i8 0, .int .i8 0, .int .i8 0, .int .i8 0, .int .i8 0]) ?_ 7 _ rfl; (with_reducible repeat (first | refine zb ?_ _ | refine zd ?_ | refine za ?_ _)); refine zp (cs := #[.int .i8 t196, .int .i8 t197, .int .i8 t198, .int .i8 t199, .int .i8 t200, .int .i8 t201, .int .i8 0, .int .i8 0, .int .i8 0, .int .i8 0, .int .i8 0, .int .i8 0, .int .i8 0, .int .i8 0]) ?_ 6 _ rfl; (with_reducible repeat (first | refine zb ?_ _ | refine zd ?_ | refine za ?_ _)); refine zp (cs := #[.int .i8 t196, .int .i8 t197, .int .i8 t198, .int .i8 t199, .int .i8 t200, .int .i8 0, .int .i8 0, .int .i8 0, .int .i8 0, .int .i8 0, .int .i8 0, .int .i8 0, .int .i8 0, .int .i8 0]) ?_ 5 _ rfl; (with_reducible repeat (first | refine zb ?_ _ | refine zd ?_ | refine za ?_ _)); refine zp (cs := #[.int .i8 t196, .int .i8 t197, .int .i8 t198, .int .i8 t199, .int .i8 0, .int .i8 0, .int .i8 0, .int .i8 0, .int .i8 0, .int .i8 0, .int .i8 0, .int .i8 0, .int .i8 0, .int .i8 0]) ?_ 4 _ rfl; (with_reducible repeat (first | refine zb ?_ _ | refine zd ?_ | refine za ?_ _)); refine zp (cs := #[.int .i8 t196, .int .i8 t197, .int .i8 t198, .int .i8 0, .int .i8 0, .int .i8 0, .int .i8 0, .int .i8 0, .int .i8 0, .int .i8 0, .int .i8 0, .int .i8 0, .int .i8 0, .int .i8 0]) ?_ 3 _ rfl; (with_reducible repeat (first | refine zb ?_ _ | refine zd ?_ | refine za ?_ _)); refine zp (cs := #[.int .i8 t196, .int .i8 t197, .int .i8 0, .int .i8 0, .int .i8 0, .int .i8 0, .int .i8 0, .int .i8 0, .int .i8 0, .int .i8 0, .int .i8 0, .int .i8 0, .int .i8 0, .int .i8 0]) ?_ 2 _ rfl; (with_reducible repeat (first | refine zb ?_ _ | refine zd ?_ | refine za ?_ _)); refine zp (cs := #[.int .i8 t196, .int .i8 0, .int .i8 0, .int .i8 0, .int .i8 0, .int .i8 0, .int .i8 0, .int .i8 0, .int .i8 0, .int .i8 0, .int .i8 0, .int .i8 0, .int .i8 0, .int .i8 0]) ?_ 1 _ rfl; (with_reducible repeat (first | refine zb ?_ _ | refine zd ?_ | refine za ?_ _)); refine zp (cs := #[.int .i8 0, .int .i8 0, .int .i8 0, .int .i8 0, .int .i8 0, .int .i8 0, .int .i8 0, .int .i8 0, .int .i8 0, .int .i8 0, .int .i8 0, .int .i8 0, .int .i8 0, .int .i8 0]) ?_ 0 _ rfl; (with_reducible repeat (first | refine zb ?_ _ | refine zd ?_ | refine za ?_ _)); exact BK210.out⟩, ⟨by repeat (first | (with_reducible first | exact HB.out | apply zg | apply zc | apply zf | refine zi ?_ GE190.out | refine zi ?_ GE210.out) | exact HB.out)⟩⟩
      case round =>
       clear H'
       try clear c1
       try clear c2
       try clear p2
       try clear c3
       try clear c4
       try clear c4b0
       try clear c4b1
       try clear c5
       try clear c6
       try clear p6
       try clear c10
       try clear c19
       try clear c19b0
       try clear c19b1
       try clear c21
       try clear c21b0
       try clear c21b1
       try clear c21b2
       try clear c25
       try clear c32
       try clear y3_0 y3_1 y3_2
       try clear y4_0 y4_1 y4_2
       try clear y5_0 y5_1 y5_2
       try clear y6_0 y6_1 y6_2
       try clear y7_0 y7_1 y7_10 y7_11 y7_12 y7_13 y7_2 y7_3 y7_4 y7_5 y7_6 y7_7 y7_8 y7_9
       try clear y8_0 y8_1 y8_2
       try clear y9_0 y9_1 y9_10 y9_11 y9_12 y9_13 y9_2 y9_3 y9_4 y9_5 y9_6 y9_7 y9_8 y9_9
       try clear y1_0 y1_1 y1_2
       try clear y2_0 y2_1 y2_2
       try clear z3_0 z3_1 z3_2
       try clear z4_0 z4_1 z4_2
       try clear z5_0 z5_1 z5_2
       try clear z6_0 z6_1 z6_2
       try clear z7_0 z7_1 z7_10 z7_11 z7_12 z7_13 z7_2 z7_3 z7_4 z7_5 z7_6 z7_7 z7_8 z7_9
       try clear z8_0 z8_1 z8_2
       try clear z9_0 z9_1 z9_10 z9_11 z9_12 z9_13 z9_2 z9_3 z9_4 z9_5 z9_6 z9_7 z9_8 z9_9
       try clear z1_0 z1_1 z1_2
       try clear z2_0 z2_1 z2_2
       try clear p2
       try clear p6
       obtain ⟨x5_2, x49_2, rfl, HA, HK2, HO_5, BK190, BK210, HB⟩ := hrel
       cases gk with
       | zero => exact absurd HA.out (by simp [impl_TreeOf.l1])
       | succ k2 =>
        have H := HA.out
        clear HA
        simp only [impl_TreeOf.l1] at H
        by_cases c35 : x49_2 < t212
        ·rw [if_pos c35] at H
         have c35b0 : decide (x49_2 < t212) = true := decide_eq_true c35
         clear c35
         have H' := ze.mk H
         clear H
         have hnb36 := NB210_190.out
         have hnc36 := NB190_210.out
         obtain ⟨y10_0, y10_1, y10_2, y10_3, y10_4, y10_5, y10_6, y10_7, y10_8, y10_9, y10_10, y10_11, y10_12, y10_13, z10_0, z10_1, z10_2, z10_3, z10_4, z10_5, z10_6, z10_7, z10_8, z10_9, z10_10, z10_11, z10_12, z10_13⟩ := cf14 BK210.out
         go_wp2_with (first | ((with_reducible refine zja (t := 102) (p := 10) rfl ?_); refine zrc (g := gb213) (T := 102) (t := 102) (cur := #[.int .i8 0, .int .i8 0, .int .i8 0, .int .i8 0, .int .i8 0, .int .i8 0, .int .i8 0, .int .i8 0, .int .i8 0, .int .i8 0, .int .i8 0, .int .i8 0, .int .i8 0, .int .i8 0, .int .i16 0, .int .i16 0, .int .i16 0, .int .i8 0, .bool false, .bool false]) (x := ?sx1) (y := ?sy1) (c0 := .int .i8 t196) (c1 := .int .i8 t197) (c2 := .int .i8 t198) (c3 := .int .i8 t199) (c4 := .int .i8 t200) (c5 := .int .i8 t201) (c6 := .int .i8 t202) (c7 := .int .i8 t203) (c8 := .int .i8 t204) (c9 := .int .i8 t205) (c10 := .int .i8 t206) (c11 := .int .i8 t207) (c12 := .int .i8 t208) (c13 := .int .i8 t209) (c14 := .int .i16 0) (c15 := .int .i16 0) (c16 := .int .i16 0) (c17 := .int .i8 0) (c18 := .bool false) (c19 := .bool false) ?sa1 ?sb1 ?sc1 ?sd1 ?se1 ?sf1 BK213.out rfl ?sg1 ?_; (case sa1 => rfl); (case sb1 => rfl); (case sc1 => rfl); (case sd1 => rfl); (case se1 => rfl); (case sf1 => kernel_rfl); (case sg1 => rfl)) | ((with_reducible refine zu (N := 10) rfl ?_); refine zr ?hg (N := 10) ?hd (cs := #[.int .i8 0, .int .i8 0, .int .i8 0, .int .i8 0, .int .i8 0, .int .i8 0, .int .i8 0, .int .i8 0, .int .i8 0, .int .i8 0, .int .i8 0, .int .i8 0, .int .i8 0, .int .i8 0, .int .i16 0, .int .i16 0, .int .i16 0, .int .i8 0, .bool false, .bool false]) (t := 102) ?hr ?_; (case hd => rfl); (case hg => rfl); (case hr => first | (go_simp; done) | (go_simp; rfl)); intro gb213 hg w38 hbox hb; have n0_ := ze.mk (Kd.R_below (Kd.R_elderB (by (with_reducible repeat (first | apply Kd.R_alloc | apply Kd.R_drewN | apply Kd.R_drew)); exact HO_5.out) gb213 (Nat.le_of_eq hg.symm)) hb); have n1_ := ze.mk (zk (by (with_reducible repeat (first | refine zb ?_ _ | refine zd ?_ | refine za ?_ _)); exact BK190.out) hb); have n2_ := ze.mk (zk (by (with_reducible repeat (first | refine zb ?_ _ | refine zd ?_ | refine za ?_ _)); exact BK210.out) hb); obtain ⟨n3_, n5_⟩ := bx (by repeat (first | (with_reducible first | exact HB.out | apply zg | apply zc | apply zf | refine zi ?_ GE190.out | refine zi ?_ GE210.out) | exact HB.out)) hb hg; have n4_ := ze.mk (hbox); have n6_ := n5_; have n7_ := ze.mk ((by rw [hg]; exact Nat.ne_of_lt (zba (by (with_reducible repeat (first | refine zb ?_ _ | refine zd ?_ | refine za ?_ _)); exact BK190.out)) : gb190 ≠ gb213)); have n8_ := ze.mk n7_.out.symm; have n9_ := ze.mk ((by rw [hg]; exact Nat.ne_of_lt (zba (by (with_reducible repeat (first | refine zb ?_ _ | refine zd ?_ | refine za ?_ _)); exact BK210.out)) : gb210 ≠ gb213)); have n10_ := ze.mk n9_.out.symm; clear HO_5; clear BK190; clear BK210; clear HB; have HO_5 := n0_; have BK190 := n1_; have BK210 := n2_; have HB := n3_; have BK213 := n4_; have GW213 := n5_; have GE213 := n6_; have NB190_213 := n7_; have NB213_190 := n8_; have NB210_213 := n9_; have NB213_210 := n10_; clear n0_ n1_ n2_ n3_ n4_ n5_ n6_ n7_ n8_ n9_ n10_; clear hb hbox hg; have hnb39 := NB213_190.out; have hnc39 := NB190_213.out; have hnb40 := NB213_210.out; have hnc40 := NB210_213.out; obtain ⟨y11_0, y11_1, y11_2, y11_3, y11_4, y11_5, y11_6, y11_7, y11_8, y11_9, y11_10, y11_11, y11_12, y11_13, y11_14, y11_15, y11_16, y11_17, y11_18, y11_19, z11_0, z11_1, z11_2, z11_3, z11_4, z11_5, z11_6, z11_7, z11_8, z11_9, z11_10, z11_11, z11_12, z11_13, z11_14, z11_15, z11_16, z11_17, z11_18, z11_19⟩ := cf20 BK213.out))
         go_loopg [54] k2 (fun kq v54 w' => ∃ (x54_3 : Int) (x214014_3 : Int) (x214015_3 : Int) (x214016_3 : Int), v54 = .int .i64 x54_3 ∧ ze (impl_TreeOf.l2 kq (wrap64 (a0_0)) x5_2 (wrap64 (t211 + t212)) x49_2 (wrap64 (a0_0)) x33_1 t212 x49_2 x54_3 a0_0 a0_1 l0_2 t196 t197 t198 t199 t200 t201 t202 t203 t204 t205 t206 t207 t208 t209 t196 t197 t198 t199 t200 t201 t202 t203 t204 t205 t206 t207 t208 t209 x214014_3 x214015_3 x214016_3 0 false false = some (r1, r2)) ∧ ze (kq ≤ k2) ∧ ze (Kd.R k102 102 w' w.heap.size (fun k_ => k_ ≠ gb213) u5 x5_2) ∧ ze (w'.heap[gb190]? = some (.cells #[.int .i8 a0_0, .int .i8 a0_1, (.slice A0_2 l0_2.length c0_2)] 28 (0, 0))) ∧ ze (w'.heap[gb210]? = some (.cells #[.int .i8 t196, .int .i8 t197, .int .i8 t198, .int .i8 t199, .int .i8 t200, .int .i8 t201, .int .i8 t202, .int .i8 t203, .int .i8 t204, .int .i8 t205, .int .i8 t206, .int .i8 t207, .int .i8 t208, .int .i8 t209] 96 (0, 0))) ∧ ze (w'.heap[gb213]? = some (.cells #[.int .i8 t196, .int .i8 t197, .int .i8 t198, .int .i8 t199, .int .i8 t200, .int .i8 t201, .int .i8 t202, .int .i8 t203, .int .i8 t204, .int .i8 t205, .int .i8 t206, .int .i8 t207, .int .i8 t208, .int .i8 t209, .int .i16 x214014_3, .int .i16 x214015_3, .int .i16 x214016_3, .int .i8 0, .bool false, .bool false] 102 (0, 0))) ∧ ze (Below w.heap.size w w'))
         case atStart => exact ⟨(0), (0), (0), (0), (by first | rfl | (simp; done) | (simp [*]; done)), H', ⟨Nat.le_refl _⟩, ⟨by (with_reducible repeat (first | apply Kd.R_alloc | apply Kd.R_drewN | apply Kd.R_drew)); exact Kd.R_mono (Kd.R_far (p := ⟨gb213, 19, none⟩) (Kd.R_far (p := ⟨gb213, 18, none⟩) (Kd.R_far (p := ⟨gb213, 17, none⟩) (Kd.R_far (p := ⟨gb213, 16, none⟩) (Kd.R_far (p := ⟨gb213, 15, none⟩) (Kd.R_far (p := ⟨gb213, 14, none⟩) (Kd.R_far (p := ⟨gb213, 13, none⟩) (Kd.R_far (p := ⟨gb213, 12, none⟩) (Kd.R_far (p := ⟨gb213, 11, none⟩) (Kd.R_far (p := ⟨gb213, 10, none⟩) (Kd.R_far (p := ⟨gb213, 9, none⟩) (Kd.R_far (p := ⟨gb213, 8, none⟩) (Kd.R_far (p := ⟨gb213, 7, none⟩) (Kd.R_far (p := ⟨gb213, 6, none⟩) (Kd.R_far (p := ⟨gb213, 5, none⟩) (Kd.R_far (p := ⟨gb213, 4, none⟩) (Kd.R_far (p := ⟨gb213, 3, none⟩) (Kd.R_far (p := ⟨gb213, 2, none⟩) (Kd.R_far (p := ⟨gb213, 1, none⟩) (Kd.R_far (p := ⟨gb213, 0, none⟩) (Kd.R_mono HO_5.out (fun k_ hk => (⟨hk, hk.2⟩ : _ ∧ k_ ≠ gb213))) (fun _ hk => hk.2) (.int .i8 t196)) (fun _ hk => hk.2) (.int .i8 t197)) (fun _ hk => hk.2) (.int .i8 t198)) (fun _ hk => hk.2) (.int .i8 t199)) (fun _ hk => hk.2) (.int .i8 t200)) (fun _ hk => hk.2) (.int .i8 t201)) (fun _ hk => hk.2) (.int .i8 t202)) (fun _ hk => hk.2) (.int .i8 t203)) (fun _ hk => hk.2) (.int .i8 t204)) (fun _ hk => hk.2) (.int .i8 t205)) (fun _ hk => hk.2) (.int .i8 t206)) (fun _ hk => hk.2) (.int .i8 t207)) (fun _ hk => hk.2) (.int .i8 t208)) (fun _ hk => hk.2) (.int .i8 t209)) (fun _ hk => hk.2) (.int .i16 0)) (fun _ hk => hk.2) (.int .i16 0)) (fun _ hk => hk.2) (.int .i16 0)) (fun _ hk => hk.2) (.int .i8 0)) (fun _ hk => hk.2) (.bool false)) (fun _ hk => hk.2) (.bool false)) (fun _ hk => hk.1.2)⟩, ⟨by (with_reducible repeat (first | refine zb ?_ _ | refine zd ?_ | refine za ?_ _)); refine zq ?_ NB190_213.out _; (with_reducible repeat (first | refine zb ?_ _ | refine zd ?_ | refine za ?_ _)); refine zq ?_ NB190_213.out _; (with_reducible repeat (first | refine zb ?_ _ | refine zd ?_ | refine za ?_ _)); refine zq ?_ NB190_213.out _; (with_reducible repeat (first | refine zb ?_ _ | refine zd ?_ | refine za ?_ _)); refine zq ?_ NB190_213.out _; (with_reducible repeat (first | refine zb ?_ _ | refine zd ?_ | refine za ?_ _)); refine zq ?_ NB190_213.out _; (with_reducible repeat (first | refine zb ?_ _ | refine zd ?_ | refine za ?_ _)); refine zq ?_ NB190_213.out _; (with_reducible repeat (first | refine zb ?_ _ | refine zd ?_ | refine za ?_ _)); refine zq ?_ NB190_213.out _; (with_reducible repeat (first | refine zb ?_ _ | refine zd ?_ | refine za ?_ _)); refine zq ?_ NB190_213.out _; (with_reducible repeat (first | refine zb ?_ _ | refine zd ?_ | refine za ?_ _)); refine zq ?_ NB190_213.out _; (with_reducible repeat (first | refine zb ?_ _ | refine zd ?_ | refine za ?_ _)); refine zq ?_ NB190_213.out _; (with_reducible repeat (first | refine zb ?_ _ | refine zd ?_ | refine za ?_ _)); refine zq ?_ NB190_213.out _; (with_reducible repeat (first | refine zb ?_ _ | refine zd ?_ | refine za ?_ _)); refine zq ?_ NB190_213.out _; (with_reducible repeat (first | refine zb ?_ _ | refine zd ?_ | refine za ?_ _)); refine zq ?_ NB190_213.out _; (with_reducible repeat (first | refine zb ?_ _ | refine zd ?_ | refine za ?_ _)); refine zq ?_ NB190_213.out _; (with_reducible repeat (first | refine zb ?_ _ | refine zd ?_ | refine za ?_ _)); refine zq ?_ NB190_213.out _; (with_reducible repeat (first | refine zb ?_ _ | refine zd ?_ | refine za ?_ _)); refine zq ?_ NB190_213.out _; (with_reducible repeat (first | refine zb ?_ _ | refine zd ?_ | refine za ?_ _)); refine zq ?_ NB190_213.out _; (with_reducible repeat (first | refine zb ?_ _ | refine zd ?_ | refine za ?_ _)); refine zq ?_ NB190_213.out _; (with_reducible repeat (first | refine zb ?_ _ | refine zd ?_ | refine za ?_ _)); refine zq ?_ NB190_213.out _; (with_reducible repeat (first | refine zb ?_ _ | refine zd ?_ | refine za ?_ _)); refine zq ?_ NB190_213.out _; (with_reducible repeat (first | refine zb ?_ _ | refine zd ?_ | refine za ?_ _)); exact BK190.out⟩, ⟨by (with_reducible repeat (first | refine zb ?_ _ | refine zd ?_ | refine za ?_ _)); refine zq ?_ NB210_213.out _; (with_reducible repeat (first | refine zb ?_ _ | refine zd ?_ | refine za ?_ _)); refine zq ?_ NB210_213.out _; (with_reducible repeat (first | refine zb ?_ _ | refine zd ?_ | refine za ?_ _)); refine zq ?_ NB210_213.out _; (with_reducible repeat (first | refine zb ?_ _ | refine zd ?_ | refine za ?_ _)); refine zq ?_ NB210_213.out _; (with_reducible repeat (first | refine zb ?_ _ | refine zd ?_ | refine za ?_ _)); refine zq ?_ NB210_213.out _; (with_reducible repeat (first | refine zb ?_ _ | refine zd ?_ | refine za ?_ _)); refine zq ?_ NB210_213.out _; (with_reducible repeat (first | refine zb ?_ _ | refine zd ?_ | refine za ?_ _)); refine zq ?_ NB210_213.out _; (with_reducible repeat (first | refine zb ?_ _ | refine zd ?_ | refine za ?_ _)); refine zq ?_ NB210_213.out _; (with_reducible repeat (first | refine zb ?_ _ | refine zd ?_ | refine za ?_ _)); refine zq ?_ NB210_213.out _; (with_reducible repeat (first | refine zb ?_ _ | refine zd ?_ | refine za ?_ _)); refine zq ?_ NB210_213.out _; (with_reducible repeat (first | refine zb ?_ _ | refine zd ?_ | refine za ?_ _)); refine zq ?_ NB210_213.out _; (with_reducible repeat (first | refine zb ?_ _ | refine zd ?_ | refine za ?_ _)); refine zq ?_ NB210_213.out _; (with_reducible repeat (first | refine zb ?_ _ | refine zd ?_ | refine za ?_ _)); refine zq ?_ NB210_213.out _; (with_reducible repeat (first | refine zb ?_ _ | refine zd ?_ | refine za ?_ _)); refine zq ?_ NB210_213.out _; (with_reducible repeat (first | refine zb ?_ _ | refine zd ?_ | refine za ?_ _)); refine zq ?_ NB210_213.out _; (with_reducible repeat (first | refine zb ?_ _ | refine zd ?_ | refine za ?_ _)); refine zq ?_ NB210_213.out _; (with_reducible repeat (first | refine zb ?_ _ | refine zd ?_ | refine za ?_ _)); refine zq ?_ NB210_213.out _; (with_reducible repeat (first | refine zb ?_ _ | refine zd ?_ | refine za ?_ _)); refine zq ?_ NB210_213.out _; (with_reducible repeat (first | refine zb ?_ _ | refine zd ?_ | refine za ?_ _)); refine zq ?_ NB210_213.out _; (with_reducible repeat (first | refine zb ?_ _ | refine zd ?_ | refine za ?_ _)); refine zq ?_ NB210_213.out _; (with_reducible repeat (first | refine zb ?_ _ | refine zd ?_ | refine za ?_ _)); exact BK210.out⟩, ⟨by (with_reducible repeat (first | refine zb ?_ _ | refine zd ?_ | refine za ?_ _)); refine zp (cs := #[.int .i8 t196, .int .i8 t197, .int .i8 t198, .int .i8 t199, .int .i8 t200, .int .i8 t201, .int .i8 t202, .int .i8 t203, .int .i8 t204, .int .i8 t205, .int .i8 t206, .int .i8 t207, .int .i8 t208, .int .i8 t209, .int .i16 0, .int .i16 0, .int .i16 0, .int .i8 0, .bool false, .bool false]) ?_ 19 _ rfl; (with_reducible repeat (first | refine zb ?_ _ | refine zd ?_ | refine za ?_ _)); refine zp (cs := #[.int .i8 t196, .int .i8 t197, .int .i8 t198, .int .i8 t199, .int .i8 t200, .int .i8 t201, .int .i8 t202, .int .i8 t203, .int .i8 t204, .int .i8 t205, .int .i8 t206, .int .i8 t207, .int .i8 t208, .int .i8 t209, .int .i16 0, .int .i16 0, .int .i16 0, .int .i8 0, .bool false, .bool false]) ?_ 18 _ rfl; (with_reducible repeat (first | refine zb ?_ _ | refine zd ?_ | refine za ?_ _)); refine zp (cs := #[.int .i8 t196, .int .i8 t197, .int .i8 t198, .int .i8 t199, .int .i8 t200, .int .i8 t201, .int .i8 t202, .int .i8 t203, .int .i8 t204, .int .i8 t205, .int .i8 t206, .int .i8 t207, .int .i8 t208, .int .i8 t209, .int .i16 0, .int .i16 0, .int .i16 0, .int .i8 0, .bool false, .bool false]) ?_ 17 _ rfl; (with_reducible repeat (first | refine zb ?_ _ | refine zd ?_ | refine za ?_ _)); refine zp (cs := #[.int .i8 t196, .int .i8 t197, .int .i8 t198, .int .i8 t199, .int .i8 t200, .int .i8 t201, .int .i8 t202, .int .i8 t203, .int .i8 t204, .int .i8 t205, .int .i8 t206, .int .i8 t207, .int .i8 t208, .int .i8 t209, .int .i16 0, .int .i16 0, .int .i16 0, .int .i8 0, .bool false, .bool false]) ?_ 16 _ rfl; (with_reducible repeat (first | refine zb ?_ _ | refine zd ?_ | refine za ?_ _)); refine zp (cs := #[.int .i8 t196, .int .i8 t197, .int .i8 t198, .int .i8 t199, .int .i8 t200, .int .i8 t201, .int .i8 t202, .int .i8 t203, .int .i8 t204, .int .i8 t205, .int .i8 t206, .int .i8 t207, .int .i8 t208, .int .i8 t209, .int .i16 0, .int .i16 0, .int .i16 0, .int .i8 0, .bool false, .bool false]) ?_ 15 _ rfl; (with_reducible repeat (first | refine zb ?_ _ | refine zd ?_ | refine za ?_ _)); refine zp (cs := #[.int .i8 t196, .int .i8 t197, .int .i8 t198, .int .i8 t199, .int .i8 t200, .int .i8 t201, .int .i8 t202, .int .i8 t203, .int .i8 t204, .int .i8 t205, .int .i8 t206, .int .i8 t207, .int .i8 t208, .int .i8 t209, .int .i16 0, .int .i16 0, .int .i16 0, .int .i8 0, .bool false, .bool false]) ?_ 14 _ rfl; (with_reducible repeat (first | refine zb ?_ _ | refine zd ?_ | refine za ?_ _)); refine zp (cs := #[.int .i8 t196, .int .i8 t197, .int .i8 t198, .int .i8 t199, .int .i8 t200, .int .i8 t201, .int .i8 t202, .int .i8 t203, .int .i8 t204, .int .i8 t205, .int .i8 t206, .int .i8 t207, .int .i8 t208, .int .i8 0, .int .i16 0, .int .i16 0, .int .i16 0, .int .i8 0, .bool false, .bool false]) ?_ 13 _ rfl; (with_reducible repeat (first | refine zb ?_ _ | refine zd ?_ | refine za ?_ _)); refine zp (cs := #[.int .i8 t196, .int .i8 t197, .int .i8 t198, .int .i8 t199, .int .i8 t200, .int .i8 t201, .int .i8 t202, .int .i8 t203, .int .i8 t204, .int .i8 t205, .int .i8 t206, .int .i8 t207, .int .i8 0, .int .i8 0, .int .i16 0, .int .i16 0, .int .i16 0, .int .i8 0, .bool false, .bool false]) ?_ 12 _ rfl; (with_reducible repeat (first | refine zb ?_ _ | refine zd ?_ | refine za ?_ _)); refine zp (cs := #[.int .i8 t196, .int .i8 t197, .int .i8 t198, .int .i8 t199, .int .i8 t200, .int .i8 t201, .int .i8 t202, .int .i8 t203, .int .i8 t204, .int .i8 t205, .int .i8 t206, .int .i8 0, .int .i8 0, .int .i8 0, .int .i16 0, .int .i16 0, .int .i16 0, .int .i8 0, .bool false, .bool false]) ?_ 11 _ rfl; (with_reducible repeat (first | refine zb ?_ _ | refine zd ?_ | refine za ?_ _)); refine zp (cs := #[.int .i8 t196, .int .i8 t197, .int .i8 t198, .int .i8 t199, .int .i8 t200, .int .i8 t201, .int .i8 t202, .int .i8 t203, .int .i8 t204, .int .i8 t205, .int .i8 0, .int .i8 0, .int .i8 0, .int .i8 0, .int .i16 0, .int .i16 0, .int .i16 0, .int .i8 0, .bool false, .bool false]) ?_ 10 _ rfl; (with_reducible repeat (first | refine zb ?_ _ | refine zd ?_ | refine za ?_ _)); refine zp (cs := #[.int .i8 t196, .int .i8 t197, .int .i8 t198, .int .i8 t199, .int .i8 t200, .int .i8 t201, .int .i8 t202, .int .i8 t203, .int .i8 t204, .int .i8 0, .int .i8 0, .int .i8 0, .int .i8 0, .int .i8 0, .int .i16 0, .int .i16 0, .int .i16 0, .int .i8 0, .bool false, .bool false]) ?_ 9 _ rfl; (with_reducible repeat (first | refine zb ?_ _ | refine zd ?_ | refine za ?_ _)); refine zp (cs := #[.int .i8 t196, .int .i8 t197, .int .i8 t198, .int .i8 t199, .int .i8 t200, .int .i8 t201, .int .i8 t202, .int .i8 t203, .int .i8 0, .int .i8 0, .int .i8 0, .int .i8 0, .int .i8 0, .int .i8 0, .int .i16 0, .int .i16 0, .int .i16 0, .int .i8 0, .bool false, .bool false]) ?_ 8 _ rfl; (with_reducible repeat (first | refine zb ?_ _ | refine zd ?_ | refine za ?_ _)); refine zp (cs := #[.int .i8 t196, .int .i8 t197, .int .i8 t198, .int .i8 t199, .int .i8 t200, .int .i8 t201, .int .i8 t202, .int .i8 0, .int .i8 0, .int .i8 0, .int .i8 0, .int .i8 0, .int .i8 0, .int .i8 0, .int .i16 0, .int .i16 0, .int .i16 0, .int .i8 0, .bool false, .bool false]) ?_ 7 _ rfl; (with_reducible repeat (first | refine zb ?_ _ | refine zd ?_ | refine za ?_ _)); refine zp (cs := #[.int .i8 t196, .int .i8 t197, .int .i8 t198, .int .i8 t199, .int .i8 t200, .int .i8 t201, .int .i8 0, .int .i8 0, .int .i8 0, .int .i8 0, .int .i8 0, .int .i8 0, .int .i8 0, .int .i8 0, .int .i16 0, .int .i16 0, .int .i16 0, .int .i8 0, .bool false, .bool false]) ?_ 6 _ rfl; (with_reducible repeat (first | refine zb ?_ _ | refine zd ?_ | refine za ?_ _)); refine zp (cs := #[.int .i8 t196, .int .i8 t197, .int .i8 t198, .int .i8 t199, .int .i8 t200, .int .i8 0, .int .i8 0, .int .i8 0, .int .i8 0, .int .i8 0, .int .i8 0, .int .i8 0, .int .i8 0, .int .i8 0, .int .i16 0, .int .i16 0, .int .i16 0, .int .i8 0, .bool false, .bool false]) ?_ 5 _ rfl; (with_reducible repeat (first | refine zb ?_ _ | refine zd ?_ | refine za ?_ _)); refine zp (cs := #[.int .i8 t196, .int .i8 t197, .int .i8 t198, .int .i8 t199, .int .i8 0, .int .i8 0, .int .i8 0, .int .i8 0, .int .i8 0, .int .i8 0, .int .i8 0, .int .i8 0, .int .i8 0, .int .i8 0, .int .i16 0, .int .i16 0, .int .i16 0, .int .i8 0, .bool false, .bool false]) ?_ 4 _ rfl; (with_reducible repeat (first | refine zb ?_ _ | refine zd ?_ | refine za ?_ _)); refine zp (cs := #[.int .i8 t196, .int .i8 t197, .int .i8 t198, .int .i8 0, .int .i8 0, .int .i8 0, .int .i8 0, .int .i8 0, .int .i8 0, .int .i8 0, .int .i8 0, .int .i8 0, .int .i8 0, .int .i8 0, .int .i16 0, .int .i16 0, .int .i16 0, .int .i8 0, .bool false, .bool false]) ?_ 3 _ rfl; (with_reducible repeat (first | refine zb ?_ _ | refine zd ?_ | refine za ?_ _)); refine zp (cs := #[.int .i8 t196, .int .i8 t197, .int .i8 0, .int .i8 0, .int .i8 0, .int .i8 0, .int .i8 0, .int .i8 0, .int .i8 0, .int .i8 0, .int .i8 0, .int .i8 0, .int .i8 0, .int .i8 0, .int .i16 0, .int .i16 0, .int .i16 0, .int .i8 0, .bool false, .bool false]) ?_ 2 _ rfl; (with_reducible repeat (first | refine zb ?_ _ | refine zd ?_ | refine za ?_ _)); refine zp (cs := #[.int .i8 t196, .int .i8 0, .int .i8 0, .int .i8 0, .int .i8 0, .int .i8 0, .int .i8 0, .int .i8 0, .int .i8 0, .int .i8 0, .int .i8 0, .int .i8 0, .int .i8 0, .int .i8 0, .int .i16 0, .int .i16 0, .int .i16 0, .int .i8 0, .bool false, .bool false]) ?_ 1 _ rfl; (with_reducible repeat (first | refine zb ?_ _ | refine zd ?_ | refine za ?_ _)); refine zp (cs := #[.int .i8 0, .int .i8 0, .int .i8 0, .int .i8 0, .int .i8 0, .int .i8 0, .int .i8 0, .int .i8 0, .int .i8 0, .int .i8 0, .int .i8 0, .int .i8 0, .int .i8 0, .int .i8 0, .int .i16 0, .int .i16 0, .int .i16 0, .int .i8 0, .bool false, .bool false]) ?_ 0 _ rfl; (with_reducible repeat (first | refine zb ?_ _ | refine zd ?_ | refine za ?_ _)); exact BK213.out⟩, ⟨by repeat (first | (with_reducible first | exact HB.out | apply zg | apply zc | apply zf | refine zi ?_ GE190.out | refine zi ?_ GE210.out | refine zi ?_ GE213.out) | exact HB.out)⟩⟩
         case round =>
          clear H'
          try clear c1
          try clear c2
          try clear p2
          try clear c3
          try clear c4
          try clear c4b0
          try clear c4b1
          try clear c5
          try clear c6
          try clear p6
          try clear c10
          try clear c19
          try clear c19b0
          try clear c19b1
          try clear c21
          try clear c21b0
          try clear c21b1
          try clear c21b2
          try clear c25
          try clear c32
          try clear c35
          try clear c35b0
          try clear c36
          try clear c39
          try clear c40
          try clear y3_0 y3_1 y3_2
          try clear y4_0 y4_1 y4_2
          try clear y5_0 y5_1 y5_2
          try clear y6_0 y6_1 y6_2
          try clear y7_0 y7_1 y7_10 y7_11 y7_12 y7_13 y7_2 y7_3 y7_4 y7_5 y7_6 y7_7 y7_8 y7_9
          try clear y8_0 y8_1 y8_2
          try clear y9_0 y9_1 y9_10 y9_11 y9_12 y9_13 y9_2 y9_3 y9_4 y9_5 y9_6 y9_7 y9_8 y9_9
          try clear y10_0 y10_1 y10_10 y10_11 y10_12 y10_13 y10_2 y10_3 y10_4 y10_5 y10_6 y10_7 y10_8 y10_9
          try clear y11_0 y11_1 y11_10 y11_11 y11_12 y11_13 y11_14 y11_15 y11_16 y11_17 y11_18 y11_19 y11_2 y11_3 y11_4 y11_5 y11_6 y11_7 y11_8 y11_9
          try clear y1_0 y1_1 y1_2
          try clear y2_0 y2_1 y2_2
          try clear z3_0 z3_1 z3_2
          try clear z4_0 z4_1 z4_2
          try clear z5_0 z5_1 z5_2
          try clear z6_0 z6_1 z6_2
          try clear z7_0 z7_1 z7_10 z7_11 z7_12 z7_13 z7_2 z7_3 z7_4 z7_5 z7_6 z7_7 z7_8 z7_9
          try clear z8_0 z8_1 z8_2
          try clear z9_0 z9_1 z9_10 z9_11 z9_12 z9_13 z9_2 z9_3 z9_4 z9_5 z9_6 z9_7 z9_8 z9_9
          try clear z10_0 z10_1 z10_10 z10_11 z10_12 z10_13 z10_2 z10_3 z10_4 z10_5 z10_6 z10_7 z10_8 z10_9
          try clear z11_0 z11_1 z11_10 z11_11 z11_12 z11_13 z11_14 z11_15 z11_16 z11_17 z11_18 z11_19 z11_2 z11_3 z11_4 z11_5 z11_6 z11_7 z11_8 z11_9
          try clear z1_0 z1_1 z1_2
          try clear z2_0 z2_1 z2_2
          try clear p2
          try clear p6
          obtain ⟨x54_3, x214014_3, x214015_3, x214016_3, rfl, HA, HK3, HO_5, BK190, BK210, BK213, HB⟩ := hrel
          cases gk with
          | zero => exact absurd HA.out (by simp [impl_TreeOf.l2])
          | succ k3 =>
           have H := HA.out
           clear HA
           simp only [impl_TreeOf.l2] at H
           by_cases c42 : x54_3 < 3
           ·rw [if_pos c42] at H
            have c42b0 : decide (x54_3 < 3) = true := decide_eq_true c42
            clear c42
            by_cases c43 : 0 ≤ x54_3
            ·rw [if_pos c43] at H
             have c43b0 : decide (0 ≤ x54_3) = true := decide_eq_true c43
             clear c43
             have H' := ze.mk H
             clear H
             have p44 : 0 ≤ (x54_3 : Int) := od (by first | (with_reducible assumption) | assumption)
             have q44 : x54_3 < (3 : Int) := od (by first | (with_reducible assumption) | assumption)
             replace p44 := eq_true p44
             replace q44 := eq_true q44
             have hnb45 := NB213_190.out
             have hnc45 := NB190_213.out
             have hnb46 := NB213_210.out
             have hnc46 := NB210_213.out
             obtain ⟨y12_0, y12_1, y12_2, y12_3, y12_4, y12_5, y12_6, y12_7, y12_8, y12_9, y12_10, y12_11, y12_12, y12_13, y12_14, y12_15, y12_16, y12_17, y12_18, y12_19, z12_0, z12_1, z12_2, z12_3, z12_4, z12_5, z12_6, z12_7, z12_8, z12_9, z12_10, z12_11, z12_12, z12_13, z12_14, z12_15, z12_16, z12_17, z12_18, z12_19⟩ := cf20 BK213.out
             go_wp2_with (first | ((with_reducible refine zja (t := 99) (p := 66) rfl ?_); have u1_0 : wr.cell? ⟨gb213, 14 + (x54_3).toNat, none⟩ = some (.int .i16 (rd [x214014_3, x214015_3, x214016_3] x54_3)) := (zo BK213.out _).trans (by rcases (show (x54_3 : Int) = 0 ∨ (x54_3 : Int) = 1 ∨ (x54_3 : Int) = 2 by have hp_ : 0 ≤ (x54_3 : Int) := od (by first | (with_reducible assumption) | assumption); have hq_ : x54_3 < (3 : Int) := od (by first | (with_reducible assumption) | assumption); omega) with h_ | h_ | h_ <;> rw [h_] <;> rfl); have z13_0 := zw BK213.out (14 + (x54_3).toNat); refine zia (t := 99) (p := 66) (v := ?vo_w49) (w1 := (wr.setCell ⟨gb213, 14 + (x54_3).toNat, none⟩ (.int .i16 (IntKind.i16.wrap (wrap64 ((wrap64 ((wrap64 (t211 + t212)) + (wrap64 (3 * x49_2)))) + x54_3)))))) ?hg ?ho ?hn ?hr ?_; (case ho => rfl); (case hg => rfl); (case hn => rfl); (case hr => first | (go_simp; done) | (go_simp; rfl)); intro w49 hw; have n0_ : ze (Kd.R k102 102 w49 w.heap.size (fun k_ => k_ ≠ gb213) u5 x5_2) := ⟨(by rw [hw]; exact (by (with_reducible repeat (first | apply Kd.R_alloc | apply Kd.R_drewN | apply Kd.R_drew)); exact Kd.R_mono (Kd.R_far (p := ⟨gb213, 14 + (x54_3).toNat, none⟩) (Kd.R_mono HO_5.out (fun k_ hk => (⟨hk, hk⟩ : _ ∧ k_ ≠ gb213))) (fun _ hk => hk.2) (.int .i16 (IntKind.i16.wrap (wrap64 ((wrap64 ((wrap64 (t211 + t212)) + (wrap64 (3 * x49_2)))) + x54_3))))) (fun _ hk => hk.1)))⟩; have n1_ : ze (w49.heap[gb190]? = some (.cells #[.int .i8 a0_0, .int .i8 a0_1, .slice A0_2 l0_2.length c0_2] 28 (0, 0))) := ⟨(by rw [hw]; exact (by (with_reducible repeat (first | refine zb ?_ _ | refine zd ?_ | refine za ?_ _)); refine zq ?_ NB190_213.out _; (with_reducible repeat (first | refine zb ?_ _ | refine zd ?_ | refine za ?_ _)); exact BK190.out))⟩; have n2_ : ze (w49.heap[gb210]? = some (.cells #[.int .i8 t196, .int .i8 t197, .int .i8 t198, .int .i8 t199, .int .i8 t200, .int .i8 t201, .int .i8 t202, .int .i8 t203, .int .i8 t204, .int .i8 t205, .int .i8 t206, .int .i8 t207, .int .i8 t208, .int .i8 t209] 96 (0, 0))) := ⟨(by rw [hw]; exact (by (with_reducible repeat (first | refine zb ?_ _ | refine zd ?_ | refine za ?_ _)); refine zq ?_ NB210_213.out _; (with_reducible repeat (first | refine zb ?_ _ | refine zd ?_ | refine za ?_ _)); exact BK210.out))⟩; have n3_ : ze (w49.heap[gb213]? = some (.cells #[.int .i8 t196, .int .i8 t197, .int .i8 t198, .int .i8 t199, .int .i8 t200, .int .i8 t201, .int .i8 t202, .int .i8 t203, .int .i8 t204, .int .i8 t205, .int .i8 t206, .int .i8 t207, .int .i8 t208, .int .i8 t209, .int .i16 (zv x54_3 0 (IntKind.i16.wrap (wrap64 ((wrap64 ((wrap64 (t211 + t212)) + (wrap64 (3 * x49_2)))) + x54_3))) x214014_3), .int .i16 (zv x54_3 1 (IntKind.i16.wrap (wrap64 ((wrap64 ((wrap64 (t211 + t212)) + (wrap64 (3 * x49_2)))) + x54_3))) x214015_3), .int .i16 (zv x54_3 2 (IntKind.i16.wrap (wrap64 ((wrap64 ((wrap64 (t211 + t212)) + (wrap64 (3 * x49_2)))) + x54_3))) x214016_3), .int .i8 0, .bool false, .bool false] 102 (0, 0))) := ⟨(by rw [hw]; exact (by (with_reducible repeat (first | refine zb ?_ _ | refine zd ?_ | refine za ?_ _)); refine zp (cs := #[.int .i8 t196, .int .i8 t197, .int .i8 t198, .int .i8 t199, .int .i8 t200, .int .i8 t201, .int .i8 t202, .int .i8 t203, .int .i8 t204, .int .i8 t205, .int .i8 t206, .int .i8 t207, .int .i8 t208, .int .i8 t209, .int .i16 x214014_3, .int .i16 x214015_3, .int .i16 x214016_3, .int .i8 0, .bool false, .bool false]) ?_ (14 + (x54_3).toNat) _ (by rcases (show (x54_3 : Int) = 0 ∨ (x54_3 : Int) = 1 ∨ (x54_3 : Int) = 2 by have hp_ : 0 ≤ (x54_3 : Int) := od (by first | (with_reducible assumption) | assumption); have hq_ : x54_3 < (3 : Int) := od (by first | (with_reducible assumption) | assumption); omega) with h_ | h_ | h_ <;> rw [h_] <;> rfl); (with_reducible repeat (first | refine zb ?_ _ | refine zd ?_ | refine za ?_ _)); exact BK213.out))⟩; have n4_ : ze (Below w.heap.size w w49) := ⟨(by rw [hw]; exact (by repeat (first | (with_reducible first | exact HB.out | apply zg | apply zc | apply zf | refine zi ?_ GE190.out | refine zi ?_ GE210.out | refine zi ?_ GE213.out) | exact HB.out)))⟩; clear hw; clear HO_5; clear BK190; clear BK210; clear BK213; clear HB; have HO_5 := n0_; have BK190 := n1_; have BK210 := n2_; have BK213 := n3_; have HB := n4_; clear n0_ n1_ n2_ n3_ n4_))
             go_roundg k3
             case measure => have := HK1.out; have := HK2.out; have := HK3.out; omega
             case rel => exact ⟨(wrap64 (x54_3 + 1)), ((zv x54_3 0 (IntKind.i16.wrap (wrap64 ((wrap64 ((wrap64 (t211 + t212)) + (wrap64 (3 * x49_2)))) + x54_3))) x214014_3)), ((zv x54_3 1 (IntKind.i16.wrap (wrap64 ((wrap64 ((wrap64 (t211 + t212)) + (wrap64 (3 * x49_2)))) + x54_3))) x214015_3)), ((zv x54_3 2 (IntKind.i16.wrap (wrap64 ((wrap64 ((wrap64 (t211 + t212)) + (wrap64 (3 * x49_2)))) + x54_3))) x214016_3)), (by first | rfl | (simp; done) | (simp [*]; done)), H', ⟨by have := HK1.out; have := HK2.out; have := HK3.out; omega⟩, ⟨by (with_reducible repeat (first | apply Kd.R_alloc | apply Kd.R_drewN | apply Kd.R_drew)); exact HO_5.out⟩, ⟨by (with_reducible repeat (first | refine zb ?_ _ | refine zd ?_ | refine za ?_ _)); exact BK190.out⟩, ⟨by (with_reducible repeat (first | refine zb ?_ _ | refine zd ?_ | refine za ?_ _)); exact BK210.out⟩, ⟨by (with_reducible repeat (first | refine zb ?_ _ | refine zd ?_ | refine za ?_ _)); exact BK213.out⟩, ⟨by repeat (first | (with_reducible first | exact HB.out | apply zg | apply zc | apply zf | refine zi ?_ GE190.out | refine zi ?_ GE210.out | refine zi ?_ GE213.out) | exact HB.out)⟩⟩
            rw [if_neg c43] at H
            exact absurd H (by simp)
           rw [if_neg c42] at H
           have c42b0 : decide (x54_3 < 3) = false := decide_eq_false c42
           clear c42
           by_cases c50 : x5_2.length < 5864062014805
           ·rw [if_pos c50] at H
            have LMc50 := ze.mk c50
            clear c50
            obtain ⟨y216, hy216⟩ : ∃ y_ : List (S102), y_ = (x5_2 ++ [(⟨(⟨t196, t197, t198, t199, t200, t201, t202, t203, t204, t205, t206, t207, t208, t209⟩ : S96), (⟨x214014_3, x214015_3, x214016_3⟩ : S100), (⟨0, false⟩ : S38), false⟩ : S102)]) := ⟨_, rfl⟩
            replace H : (impl_TreeOf.l1 k3 (wrap64 (a0_0)) y216 (wrap64 (t211 + t212)) (wrap64 (a0_0)) x33_1 t212 (wrap64 (x49_2 + 1)) a0_0 a0_1 l0_2 t196 t197 t198 t199 t200 t201 t202 t203 t204 t205 t206 t207 t208 t209) = some (r1, r2) := by first | (rw [hy216]; with_reducible exact H) | (have H2_ := (Option.bind_some _ _).symm.trans H; rw [hy216]; with_reducible exact H2_) | (have H2_ := (Option.bind_some _ _).symm.trans H; with_reducible exact H2_) | with_reducible exact H | (rw [hy216]; exact H) | exact H
            have Ny216 := ze.mk hy216
            clear hy216
            have H' := ze.mk H
            clear H
            have hnb51 := NB213_190.out
            have hnc51 := NB190_213.out
            have hnb52 := NB213_210.out
            have hnc52 := NB210_213.out
            obtain ⟨y13_0, y13_1, y13_2, y13_3, y13_4, y13_5, y13_6, y13_7, y13_8, y13_9, y13_10, y13_11, y13_12, y13_13, y13_14, y13_15, y13_16, y13_17, y13_18, y13_19, z14_0, z14_1, z14_2, z14_3, z14_4, z14_5, z14_6, z14_7, z14_8, z14_9, z14_10, z14_11, z14_12, z14_13, z14_14, z14_15, z14_16, z14_17, z14_18, z14_19⟩ := cf20 BK213.out
            go_wp2_with (first | ((with_reducible refine zu (N := 69) rfl ?_); refine zlc (T := 102) (x := ?rx2) ?ra2 ?rb2 ?rc2 BK213.out hu102 ?rd2 ?re2 ?_; (case ra2 => rfl); (case rb2 => rfl); (case rc2 => rfl); (case rd2 => rfl); (case re2 => kernel_rfl)) | ((with_reducible refine zga (b := .append) (xs := #[.tmp 68, .tmp 70]) rfl ?_); at_builtin; refine Kd.R_append k102 (w0 := w) w.heap.size rfl (.tmp 68) (.tmp 70) 51 102 (.agg #[(.int .i8 0), (.int .i8 0), (.int .i8 0), (.int .i8 0), (.int .i8 0), (.int .i8 0), (.int .i8 0), (.int .i8 0), (.int .i8 0), (.int .i8 0), (.int .i8 0), (.int .i8 0), (.int .i8 0), (.int .i8 0), (.int .i16 0), (.int .i16 0), (.int .i16 0), (.int .i8 0), (.bool false), (.bool false)]) 24 rfl Try.underlying51 zyc rfl (by decide) (by omega) u5 x5_2 (⟨(⟨t196, t197, t198, t199, t200, t201, t202, t203, t204, t205, t206, t207, t208, t209⟩ : S96), (⟨x214014_3, x214015_3, x214016_3⟩ : S100), (⟨0, false⟩ : S38), false⟩ : S102) [.int .i8 t196, .int .i8 t197, .int .i8 t198, .int .i8 t199, .int .i8 t200, .int .i8 t201, .int .i8 t202, .int .i8 t203, .int .i8 t204, .int .i8 t205, .int .i8 t206, .int .i8 t207, .int .i8 t208, .int .i8 t209, .int .i16 x214014_3, .int .i16 x214015_3, .int .i16 x214016_3, .int .i8 0, .bool false, .bool false] (fun k_ => k_ ≠ gb213) (fun _ => False) rfl rfl ?aP (fun _ hk => hk.elim) ?aF ?aO ?aB ?aS ?aL ?_; (case aP => exact zza _ _ _ (⟨(⟨t196, t197, t198, t199, t200, t201, t202, t203, t204, t205, t206, t207, t208, t209⟩ : S96), (⟨x214014_3, x214015_3, x214016_3⟩ : S100), (⟨0, false⟩ : S38), false⟩ : S102)); (case aB => exact (by repeat (first | (with_reducible first | exact HB.out | apply zg | apply zc | apply zf | refine zi ?_ GE190.out | refine zi ?_ GE210.out | refine zi ?_ GE213.out) | exact HB.out))); (case aF => exact (fun k_ hk => Kd.freshB (g := gb213) (o := .cells #[.int .i8 t196, .int .i8 t197, .int .i8 t198, .int .i8 t199, .int .i8 t200, .int .i8 t201, .int .i8 t202, .int .i8 t203, .int .i8 t204, .int .i8 t205, .int .i8 t206, .int .i8 t207, .int .i8 t208, .int .i8 t209, .int .i16 x214014_3, .int .i16 x214015_3, .int .i16 x214016_3, .int .i8 0, .bool false, .bool false] 102 (0, 0)) (by (with_reducible repeat (first | refine zb ?_ _ | refine zd ?_ | refine za ?_ _)); exact BK213.out) k_ hk)); (case aO => exact (by (with_reducible repeat (first | apply Kd.R_alloc | apply Kd.R_drewN | apply Kd.R_drew)); exact HO_5.out)); (case aS => exact (zaa (by repeat (first | (with_reducible first | exact HB.out | apply zg | apply zc | apply zf | refine zi ?_ GE190.out | refine zi ?_ GE210.out | refine zi ?_ GE213.out) | exact HB.out)))); (case aL => have := LMc50.out; omega); intro v217 w54 ho hb hg hat; rw [← Ny216.out] at ho; have n0_ := ze.mk (zla (g := gb190) (o := .cells #[.int .i8 a0_0, .int .i8 a0_1, .slice A0_2 l0_2.length c0_2] 28 (0, 0)) (by (with_reducible repeat (first | refine zb ?_ _ | refine zd ?_ | refine za ?_ _)); exact BK190.out) hg (Kd.R_ne HO_5.out BK190.out (by decide))); have n1_ := ze.mk (zla (g := gb210) (o := .cells #[.int .i8 t196, .int .i8 t197, .int .i8 t198, .int .i8 t199, .int .i8 t200, .int .i8 t201, .int .i8 t202, .int .i8 t203, .int .i8 t204, .int .i8 t205, .int .i8 t206, .int .i8 t207, .int .i8 t208, .int .i8 t209] 96 (0, 0)) (by (with_reducible repeat (first | refine zb ?_ _ | refine zd ?_ | refine za ?_ _)); exact BK210.out) hg (Kd.R_ne HO_5.out BK210.out (by decide))); have n2_ := ze.mk (zla (g := gb213) (o := .cells #[.int .i8 t196, .int .i8 t197, .int .i8 t198, .int .i8 t199, .int .i8 t200, .int .i8 t201, .int .i8 t202, .int .i8 t203, .int .i8 t204, .int .i8 t205, .int .i8 t206, .int .i8 t207, .int .i8 t208, .int .i8 t209, .int .i16 x214014_3, .int .i16 x214015_3, .int .i16 x214016_3, .int .i8 0, .bool false, .bool false] 102 (0, 0)) (by (with_reducible repeat (first | refine zb ?_ _ | refine zd ?_ | refine za ?_ _)); exact BK213.out) hg (Kd.R_away HO_5.out (fun _ hk => hk))); have n3_ := ze.mk (hb); have n4_ := ze.mk (ho); clear BK190; clear BK210; clear BK213; clear HB; clear HO_5; have BK190 := n0_; have BK210 := n1_; have BK213 := n2_; have HB := n3_; have HO218 := n4_; clear n0_ n1_ n2_ n3_ n4_; clear ho hb hg hat))
            go_roundg k3
            case measure => have := HK1.out; have := HK2.out; have := HK3.out; omega
            case rel => exact ⟨(y216), (wrap64 (x49_2 + 1)), (by first | rfl | (simp; done) | (simp [*]; done)), H', ⟨by have := HK1.out; have := HK2.out; have := HK3.out; omega⟩, ⟨by (with_reducible repeat (first | apply Kd.R_alloc | apply Kd.R_drewN | apply Kd.R_drew)); exact Kd.R_mono HO218.out (fun _ hk => trivial)⟩, ⟨by (with_reducible repeat (first | refine zb ?_ _ | refine zd ?_ | refine za ?_ _)); exact BK190.out⟩, ⟨by (with_reducible repeat (first | refine zb ?_ _ | refine zd ?_ | refine za ?_ _)); exact BK210.out⟩, ⟨by repeat (first | (with_reducible first | exact HB.out | apply zg | apply zc | apply zf | refine zi ?_ GE190.out | refine zi ?_ GE210.out | refine zi ?_ GE213.out) | exact HB.out)⟩⟩
           rw [if_neg c50] at H
           exact absurd H (by simp)
        rw [if_neg c35] at H
        have c35b0 : decide (x49_2 < t212) = false := decide_eq_false c35
        clear c35
        have H' := ze.mk H
        clear H
        go_wp2
        go_roundg k2
        case measure => have := HK1.out; have := HK2.out; omega
        case rel => exact ⟨(x5_2), (wrap64 (x33_1 + 1)), (by first | rfl | (simp; done) | (simp [*]; done)), H', ⟨by have := HK1.out; have := HK2.out; omega⟩, ⟨by (with_reducible repeat (first | apply Kd.R_alloc | apply Kd.R_drewN | apply Kd.R_drew)); exact HO_5.out⟩, ⟨by (with_reducible repeat (first | refine zb ?_ _ | refine zd ?_ | refine za ?_ _)); exact BK190.out⟩, ⟨by repeat (first | (with_reducible first | exact HB.out | apply zg | apply zc | apply zf | refine zi ?_ GE190.out | refine zi ?_ GE210.out) | exact HB.out)⟩⟩
     rw [if_neg c19] at H
     have c19b0 : decide (x33_1 < (wrap64 (a0_0))) = false := decide_eq_false c19
     (try (have c19b1 : decide (x33_1 < (IntKind.i64.wrap (a0_0))) = false := by have h_ : decide (x33_1 < (wrap64 (a0_0))) = false := decide_eq_false c19; simpa only [zy, zz] using h_))
     clear c19
     replace H := Option.bind_eq_some_iff.mp H
     obtain ⟨t219, A550, H⟩ := H
     replace H : (impl_TreeOf.l3 k1 (wrap64 (a0_0)) x5_1 t219 0 a0_0 a0_1 l0_2) = some (r1, r2) := H
     have A55 := ze.mk A550
     clear A550
     have H' := ze.mk H
     clear H
     go_wp2_with (first | ((with_reducible refine zs (f := 44) rfl ?_); refine zda (some 75) rfl rfl Try.func44 (by kernel_rfl) rfl #[.int .i64 (wrap64 (a0_0))] rfl (by (try simp only [List.map_toArray, List.map_cons, List.map_nil]); first | done | rfl | (simp only [List.length_drop, List.length_take]; rfl)) ?_; (with_reducible refine (impl_power.calls k1 (wrap64 (a0_0)) t219 _ A55.out).mono ?_); rintro e w' ⟨rfl, ⟨nd, rfl⟩⟩; refine ⟨_, rfl, ?_⟩))
     go_loopg [5, 76] k1 (fun kq v5 v76 w' => ∃ (x5_2 : List (S102)) (x76_2 : Int), v76 = .int .i64 x76_2 ∧ ze (impl_TreeOf.l3 kq (wrap64 (a0_0)) x5_2 t219 x76_2 a0_0 a0_1 l0_2 = some (r1, r2)) ∧ ze (kq ≤ k1) ∧ ze (Kd.R k102 102 w' w.heap.size (fun _ => True) v5 x5_2) ∧ ze (w'.heap[gb190]? = some (.cells #[.int .i8 a0_0, .int .i8 a0_1, (.slice A0_2 l0_2.length c0_2)] 28 (0, 0))) ∧ ze (Below w.heap.size w w'))
     case atStart => exact ⟨(x5_1), (0), (by first | rfl | (simp; done) | (simp [*]; done)), H', ⟨Nat.le_refl _⟩, ⟨by (with_reducible repeat (first | apply Kd.R_alloc | apply Kd.R_drewN | apply Kd.R_drew)); exact HO_5.out⟩, ⟨by (with_reducible repeat (first | refine zb ?_ _ | refine zd ?_ | refine za ?_ _)); exact BK190.out⟩, ⟨by repeat (first | (with_reducible first | exact HB.out | apply zg | apply zc | apply zf | refine zi ?_ GE190.out) | exact HB.out)⟩⟩
     case round =>
      clear H'
      try clear c1
      try clear c2
      try clear p2
      try clear c3
      try clear c4
      try clear c4b0
      try clear c4b1
      try clear p4
      try clear q4
      try clear hx4
      try clear c5
      try clear c6
      try clear p6
      try clear c10
      try clear c19
      try clear c19b0
      try clear c19b1
      try clear c21
      try clear c21b0
      try clear c21b1
      try clear c21b2
      try clear c25
      try clear c32
      try clear c35
      try clear c35b0
      try clear c36
      try clear c39
      try clear c40
      try clear c42
      try clear c42b0
      try clear c43
      try clear c43b0
      try clear c44
      try clear p44
      try clear q44
      try clear c45
      try clear c46
      try clear hx48
      try clear c50
      try clear c51
      try clear c52
      try clear y3_0 y3_1 y3_2
      try clear y4_0 y4_1 y4_2
      try clear y5_0 y5_1 y5_2
      try clear y6_0 y6_1 y6_2
      try clear y7_0 y7_1 y7_10 y7_11 y7_12 y7_13 y7_2 y7_3 y7_4 y7_5 y7_6 y7_7 y7_8 y7_9
      try clear y8_0 y8_1 y8_2
      try clear y9_0 y9_1 y9_10 y9_11 y9_12 y9_13 y9_2 y9_3 y9_4 y9_5 y9_6 y9_7 y9_8 y9_9
      try clear y10_0 y10_1 y10_10 y10_11 y10_12 y10_13 y10_2 y10_3 y10_4 y10_5 y10_6 y10_7 y10_8 y10_9
      try clear y11_0 y11_1 y11_10 y11_11 y11_12 y11_13 y11_14 y11_15 y11_16 y11_17 y11_18 y11_19 y11_2 y11_3 y11_4 y11_5 y11_6 y11_7 y11_8 y11_9
      try clear y12_0 y12_1 y12_10 y12_11 y12_12 y12_13 y12_14 y12_15 y12_16 y12_17 y12_18 y12_19 y12_2 y12_3 y12_4 y12_5 y12_6 y12_7 y12_8 y12_9
      try clear y13_0 y13_1 y13_10 y13_11 y13_12 y13_13 y13_14 y13_15 y13_16 y13_17 y13_18 y13_19 y13_2 y13_3 y13_4 y13_5 y13_6 y13_7 y13_8 y13_9
      try clear y1_0 y1_1 y1_2
      try clear y2_0 y2_1 y2_2
      try clear z3_0 z3_1 z3_2
      try clear z4_0 z4_1 z4_2
      try clear z5_0 z5_1 z5_2
      try clear z6_0 z6_1 z6_2
      try clear z7_0 z7_1 z7_10 z7_11 z7_12 z7_13 z7_2 z7_3 z7_4 z7_5 z7_6 z7_7 z7_8 z7_9
      try clear z8_0 z8_1 z8_2
      try clear z9_0 z9_1 z9_10 z9_11 z9_12 z9_13 z9_2 z9_3 z9_4 z9_5 z9_6 z9_7 z9_8 z9_9
      try clear z10_0 z10_1 z10_10 z10_11 z10_12 z10_13 z10_2 z10_3 z10_4 z10_5 z10_6 z10_7 z10_8 z10_9
      try clear z11_0 z11_1 z11_10 z11_11 z11_12 z11_13 z11_14 z11_15 z11_16 z11_17 z11_18 z11_19 z11_2 z11_3 z11_4 z11_5 z11_6 z11_7 z11_8 z11_9
      try clear z12_0 z12_1 z12_10 z12_11 z12_12 z12_13 z12_14 z12_15 z12_16 z12_17 z12_18 z12_19 z12_2 z12_3 z12_4 z12_5 z12_6 z12_7 z12_8 z12_9
      try clear z13_0
      try clear z14_0 z14_1 z14_10 z14_11 z14_12 z14_13 z14_14 z14_15 z14_16 z14_17 z14_18 z14_19 z14_2 z14_3 z14_4 z14_5 z14_6 z14_7 z14_8 z14_9
      try clear z1_0 z1_1 z1_2
      try clear z2_0 z2_1 z2_2
      try clear u1_0
      try clear p2
      try clear p44
      try clear p6
      try clear q44
      obtain ⟨x5_2, x76_2, rfl, HA, HK2, HO_5, BK190, HB⟩ := hrel
      cases gk with
      | zero => exact absurd HA.out (by simp [impl_TreeOf.l3])
      | succ k2 =>
       have H := HA.out
       clear HA
       simp only [impl_TreeOf.l3] at H
       by_cases c56 : x76_2 < t219
       ·rw [if_pos c56] at H
        have c56b0 : decide (x76_2 < t219) = true := decide_eq_true c56
        clear c56
        replace H := Option.bind_eq_some_iff.mp H
        obtain ⟨⟨t220, t221, t222, t223⟩, A570, H⟩ := H
        replace H : ((impl_Fixed_decode.f k2 a0_0 a0_1 l0_2 t220 t221 t222 t223).bind fun bt224 => (if bt224.2.2 = true then (if x5_2.length < 5864062014805 then (impl_TreeOf.l3 k2 (wrap64 (a0_0)) (x5_2 ++ [(⟨(⟨0, 0, 0, 0, 0, 0, 0, 0, 0, 0, 0, 0, 0, 0⟩ : S96), (⟨0, 0, 0⟩ : S100), (⟨bt224.1, bt224.2.1⟩ : S38), true⟩ : S102)]) t219 (wrap64 (x76_2 + 1)) a0_0 a0_1 l0_2) else (none)) else (if x5_2.length < 5864062014805 then (impl_TreeOf.l3 k2 (wrap64 (a0_0)) (x5_2 ++ [(⟨(⟨0, 0, 0, 0, 0, 0, 0, 0, 0, 0, 0, 0, 0, 0⟩ : S96), (⟨0, 0, 0⟩ : S100), (⟨(-1), false⟩ : S38), true⟩ : S102)]) t219 (wrap64 (x76_2 + 1)) a0_0 a0_1 l0_2) else (none)))) = some (r1, r2) := H
        have A57 := ze.mk A570
        clear A570
        replace H := Option.bind_eq_some_iff.mp H
        obtain ⟨⟨t224, t225, t226⟩, A580, H⟩ := H
        replace H : (if t226 = true then (if x5_2.length < 5864062014805 then (impl_TreeOf.l3 k2 (wrap64 (a0_0)) (x5_2 ++ [(⟨(⟨0, 0, 0, 0, 0, 0, 0, 0, 0, 0, 0, 0, 0, 0⟩ : S96), (⟨0, 0, 0⟩ : S100), (⟨t224, t225⟩ : S38), true⟩ : S102)]) t219 (wrap64 (x76_2 + 1)) a0_0 a0_1 l0_2) else (none)) else (if x5_2.length < 5864062014805 then (impl_TreeOf.l3 k2 (wrap64 (a0_0)) (x5_2 ++ [(⟨(⟨0, 0, 0, 0, 0, 0, 0, 0, 0, 0, 0, 0, 0, 0⟩ : S96), (⟨0, 0, 0⟩ : S100), (⟨(-1), false⟩ : S38), true⟩ : S102)]) t219 (wrap64 (x76_2 + 1)) a0_0 a0_1 l0_2) else (none))) = some (r1, r2) := H
        have A58 := ze.mk A580
        clear A580
        by_cases c59 : t226 = true
        ·subst c59
         have H1 : (if x5_2.length < 5864062014805 then (impl_TreeOf.l3 k2 (wrap64 (a0_0)) (x5_2 ++ [(⟨(⟨0, 0, 0, 0, 0, 0, 0, 0, 0, 0, 0, 0, 0, 0⟩ : S96), (⟨0, 0, 0⟩ : S100), (⟨t224, t225⟩ : S38), true⟩ : S102)]) t219 (wrap64 (x76_2 + 1)) a0_0 a0_1 l0_2) else (none)) = some (r1, r2) := by rw [if_pos rfl] at H; exact H
         clear H
         have H := H1
         clear H1
         by_cases c60 : x5_2.length < 5864062014805
         ·rw [if_pos c60] at H
          have LMc60 := ze.mk c60
          clear c60
          obtain ⟨y228, hy228⟩ : ∃ y_ : List (S102), y_ = (x5_2 ++ [(⟨(⟨0, 0, 0, 0, 0, 0, 0, 0, 0, 0, 0, 0, 0, 0⟩ : S96), (⟨0, 0, 0⟩ : S100), (⟨t224, t225⟩ : S38), true⟩ : S102)]) := ⟨_, rfl⟩
          replace H : (impl_TreeOf.l3 k2 (wrap64 (a0_0)) y228 t219 (wrap64 (x76_2 + 1)) a0_0 a0_1 l0_2) = some (r1, r2) := by first | (rw [hy228]; with_reducible exact H) | (have H2_ := (Option.bind_some _ _).symm.trans H; rw [hy228]; with_reducible exact H2_) | (have H2_ := (Option.bind_some _ _).symm.trans H; with_reducible exact H2_) | with_reducible exact H | (rw [hy228]; exact H) | exact H
          have Ny228 := ze.mk hy228
          clear hy228
          have H' := ze.mk H
          clear H
          try go_wp2
          have n0_ := ze.mk (Kd.R_drew HO_5.out)
          have n1_ := ze.mk (zd BK190.out)
          have n2_ := ze.mk (zf HB.out)
          clear HO_5
          clear BK190
          clear HB
          have HO_5 := n0_
          have BK190 := n1_
          have HB := n2_
          clear n0_ n1_ n2_
          refine zfb (n := 11) (S := fun w' => w'.cell? ⟨gb190, 0, none⟩ = some (.int .i8 a0_0) ∧ w'.cell? ⟨gb190, 1, none⟩ = some (.int .i8 a0_1) ∧ w'.cell? ⟨gb190, 2, none⟩ = some (.slice A0_2 l0_2.length c0_2)) (ds := []) (fm 11 0) (by kernel_rfl) rfl rfl ⟨(zo BK190.out 0).trans rfl, (zo BK190.out 1).trans rfl, (zo BK190.out 2).trans rfl⟩ (fun hHeld => ?_); refine zoa impl_TreeOf.tab30 impl_TreeOf.bits30 (fun HT_ HW_ => ?_)
          generalize wr.drew = w61 at HO_5 BK190 HB hHeld ⊢
          refine pb 1 81 #[F, T, F, F, F, F, F, F, F, F, F] rfl rfl HT_.out (by kernel_rfl) pq (by rfl) (by intro w'; go_simp; with_reducible rfl) (by simp only [Act.put, ea, eb, ec, zy, zz]; rfl) ?_
          refine pb 2 82 #[F, T, T, F, F, F, F, F, F, F, F] rfl rfl HT_.out (by kernel_rfl) pq (by rfl) (by intro w'; go_simp; with_reducible rfl) (by simp only [Act.put, ea, eb, ec, zy, zz]; rfl) ?_
          refine take_ (i := 0) (N := some 80) (v := ?_) (a' := ?_) (fm 11 3) rfl rfl (zka HT_.out HW_.out (by kernel_rfl)) (fun _ _ _ h => h) (Or.inl ⟨by rfl, ?_⟩) hHeld ?_ ?_
          rotate_left
          ·rintro w' ⟨s0, s1, s2⟩
           go_simp
           with_reducible rfl
          rotate_left
          ·simp only [Act.put, List.setIfInBounds_toArray, List.set_cons_zero, List.set_cons_succ, zy, zz]
           rfl
          refine join_ (σ := Nat) 2 (fm 11 9) (fun s_ => [(83, .agg #[.int .i8 t220, .int .i8 t221, .int .i8 t222, .int .i8 t223]), (84, .tuple #[.agg #[.int .i8 t224, .bool t225], .bool true]), (13, .pointer (some ⟨s_, 0, none⟩)), (79, .tuple #[.agg #[.int .i8 t224, .bool t225], .bool true]), (85, .agg #[.int .i8 t224, .bool t225]), (86, .bool true)]) (fun s_ w' => (w'.cell? ⟨gb190, 0, none⟩ = some (.int .i8 a0_0) ∧ w'.cell? ⟨gb190, 1, none⟩ = some (.int .i8 a0_1) ∧ w'.cell? ⟨gb190, 2, none⟩ = some (.slice A0_2 l0_2.length c0_2)) ∧ (Kd.R k102 102 w' w.heap.size (fun _ => True) u5 x5_2) ∧ (w'.heap[gb190]? = some (.cells #[.int .i8 a0_0, .int .i8 a0_1, .slice A0_2 l0_2.length c0_2] 28 (0, 0))) ∧ (w'.heap[s_]? = some (.cells #[.int .i8 0, .bool false] 38 (0, 0))) ∧ (w.heap.size ≤ s_) ∧ (w.heap.size ≤ s_) ∧ (gb190 ≠ s_) ∧ (s_ ≠ gb190) ∧ (Below w.heap.size w w')) ?_ ?_
          rotate_left
          ·intro hCont
           refine two_ (i := 3) (j := 8) (Ni := some 83) (Nj := some 13) (fm 11 4) #[T, T, T, F, F, F, F, F, T, F, F] rfl rfl rfl rfl (two_of HT_.out (by kernel_rfl)) (by decide) (by decide) (fun K hK => ?_) (fun K hK => ?_)
           ·skip
            refine zdb Try.func45 (by kernel_rfl) rfl #[.int .i64 (wrap64 (a0_0)), .int .i64 x76_2] (by rfl) rfl rfl (by (try simp only [List.map_toArray, List.map_cons, List.map_nil]); first | done | rfl | (simp only [List.length_drop, List.length_take]; rfl)) ?_
            with_reducible refine (impl_wordAt.calls k2 (wrap64 (a0_0)) x76_2 t220 t221 t222 t223 _ A57.out).mono ?_
            rintro e w62 ⟨rfl, hb⟩
            refine ⟨_, rfl, ?_⟩
            have n0_ := ze.mk (Kd.R_below (by (with_reducible repeat (first | apply Kd.R_alloc | apply Kd.R_drewN | apply Kd.R_drew)); exact HO_5.out) hb)
            have n1_ := ze.mk (zk (by (with_reducible repeat (first | refine zb ?_ _ | refine zd ?_ | refine za ?_ _)); exact BK190.out) hb)
            have n2_ := ze.mk (zt (by repeat (first | (with_reducible first | exact HB.out | apply zg | apply zc | apply zf | refine zi ?_ GE190.out) | exact HB.out)) hb)
            clear HO_5
            clear BK190
            clear HB
            have HO_5 := n0_
            have BK190 := n1_
            have HB := n2_
            clear n0_ n1_ n2_
            (try clear hb)
            (try clear hb2)
            (try clear hk)
            (try clear hi)
            refine hK.out _ _ ⟨(zo BK190.out 0).trans rfl, (zo BK190.out 1).trans rfl, (zo BK190.out 2).trans rfl⟩ (fun hHeld => ?_)
            clear hK K
            refine zpa (a' := ?_) ?_ ?_
            rotate_left
            ·show Act.put _ (some 83) _ = _
             simp only [Act.put, List.setIfInBounds_toArray, List.set_cons_zero, List.set_cons_succ, zy, zz]
             rfl
            refine two_ (i := 4) (j := 8) (Ni := some 84) (Nj := some 13) (fm 11 5) #[T, T, T, T, F, F, F, F, T, F, F] rfl rfl rfl rfl (two_of HT_.out (by kernel_rfl)) (by decide) (by decide) (fun K hK => ?_) (fun K hK => ?_)
            ·skip
             refine zdb Try.func68 (by kernel_rfl) rfl #[.agg #[.int .i8 a0_0, .int .i8 a0_1, .slice A0_2 l0_2.length c0_2], .agg #[.int .i8 t220, .int .i8 t221, .int .i8 t222, .int .i8 t223]] (by rfl) rfl rfl (by (try simp only [List.map_toArray, List.map_cons, List.map_nil]); first | done | rfl | (simp only [List.length_drop, List.length_take]; rfl)) ?_
             with_reducible refine (impl_Fixed_decode.calls k2 a0_0 a0_1 _ _ l0_2 t220 t221 t222 t223 t224 t225 true _ ?side1 ?side2 A58.out).mono ?_
             (case side1 => repeat (first | exact (Kd.C_below HR0_2.out HB.out) | (with_reducible refine Kd.C_alloc ?_ _) | (with_reducible refine Kd.C_drewN ?_ _) | (with_reducible refine Kd.C_drew ?_)))
             (case side2 => exact HC0_2.out)
             rintro e w63 ⟨rfl, hb⟩
             refine ⟨_, rfl, ?_⟩
             have n0_ := ze.mk (Kd.R_below (by (with_reducible repeat (first | apply Kd.R_alloc | apply Kd.R_drewN | apply Kd.R_drew)); exact HO_5.out) hb)
             have n1_ := ze.mk (zk (by (with_reducible repeat (first | refine zb ?_ _ | refine zd ?_ | refine za ?_ _)); exact BK190.out) hb)
             have n2_ := ze.mk (zt (by repeat (first | (with_reducible first | exact HB.out | apply zg | apply zc | apply zf | refine zi ?_ GE190.out) | exact HB.out)) hb)
             clear HO_5
             clear BK190
             clear HB
             have HO_5 := n0_
             have BK190 := n1_
             have HB := n2_
             clear n0_ n1_ n2_
             (try clear hb)
             (try clear hb2)
             (try clear hk)
             (try clear hi)
             refine hK.out _ _ ⟨(zo BK190.out 0).trans rfl, (zo BK190.out 1).trans rfl, (zo BK190.out 2).trans rfl⟩ (fun hHeld => ?_)
             clear hK K
             refine zpa (a' := ?_) ?_ ?_
             rotate_left
             ·show Act.put _ (some 84) _ = _
              simp only [Act.put, List.setIfInBounds_toArray, List.set_cons_zero, List.set_cons_succ, zy, zz]
              rfl
             refine pb 5 79 (fm 11 6) rfl rfl HT_.out (by kernel_rfl) pq (by rfl) (by intro w'; go_simp; with_reducible rfl) (by simp only [Act.put, ea, eb, ec, zy, zz]; rfl) ?_
             refine pb 6 85 (fm 11 7) rfl rfl HT_.out (by kernel_rfl) pq (by rfl) (by intro w'; go_simp; with_reducible rfl) (by simp only [Act.put, ea, eb, ec, zy, zz]; rfl) ?_
             refine pb 7 86 (fm 11 8) rfl rfl HT_.out (by kernel_rfl) pq (by rfl) (by intro w'; go_simp; with_reducible rfl) (by simp only [Act.put, ea, eb, ec, zy, zz]; rfl) ?_
             refine one_ (i := 8) (N := some 13) (fm 11 9) rfl rfl (zta HT_.out (by kernel_rfl)) (by decide) (fun K hK => ?_)
             refine zbc ?hg (N := 13) ?hd (cs := #[.int .i8 0, .bool false]) (t := 38) ?hr ?_; (case hd => rfl); (case hg => rfl); (case hr => first | (go_simp; done) | (go_simp; rfl))
             intro gb227 hg w64 hbox hb
             have n0_ := ze.mk (Kd.R_below (by (with_reducible repeat (first | apply Kd.R_alloc | apply Kd.R_drewN | apply Kd.R_drew)); exact HO_5.out) hb)
             have n1_ := ze.mk (zk (by (with_reducible repeat (first | refine zb ?_ _ | refine zd ?_ | refine za ?_ _)); exact BK190.out) hb)
             have n2_ := ze.mk (zt (by repeat (first | (with_reducible first | exact HB.out | apply zg | apply zc | apply zf | refine zi ?_ GE190.out) | exact HB.out)) hb)
             have n3_ := ze.mk (hbox)
             have n4_ := ze.mk ((by rw [hg]; exact (zaa (by repeat (first | (with_reducible first | exact HB.out | apply zg | apply zc | apply zf | refine zi ?_ GE190.out) | exact HB.out))) : w.heap.size ≤ gb227))
             have n5_ := ze.mk ((by rw [hg]; exact (zaa (by repeat (first | (with_reducible first | exact HB.out | apply zg | apply zc | apply zf | refine zi ?_ GE190.out) | exact HB.out))) : w.heap.size ≤ gb227))
             have n6_ := ze.mk ((by rw [hg]; exact Nat.ne_of_lt (zba (by (with_reducible repeat (first | refine zb ?_ _ | refine zd ?_ | refine za ?_ _)); exact BK190.out)) : gb190 ≠ gb227))
             have n7_ := ze.mk ((by rw [hg]; exact Nat.ne_of_gt (zba (by (with_reducible repeat (first | refine zb ?_ _ | refine zd ?_ | refine za ?_ _)); exact BK190.out)) : gb227 ≠ gb190))
             clear HO_5
             clear BK190
             clear HB
             have HO_5 := n0_
             have BK190 := n1_
             have HB := n2_
             have BK227 := n3_
             have GW227 := n4_
             have GE227 := n5_
             have NB190_227 := n6_
             have NB227_190 := n7_
             clear n0_ n1_ n2_ n3_ n4_ n5_ n6_ n7_
             clear hb hbox hg
             refine hK.out _ _ ⟨(zo BK190.out 0).trans rfl, (zo BK190.out 1).trans rfl, (zo BK190.out 2).trans rfl⟩ (fun hHeld => ?_)
             clear hK K
             refine zpa (a' := ?_) ?_ ?_
             rotate_left
             ·show Act.put _ (some 13) _ = _
              simp only [Act.put, List.setIfInBounds_toArray, List.set_cons_zero, List.set_cons_succ, zy, zz]
              rfl
             exact zpa (by simp only [zac, Act.put, List.setIfInBounds_toArray, List.set_cons_zero, List.set_cons_succ]) (hCont (gb227) _ ⟨hHeld, (by (with_reducible repeat (first | apply Kd.R_alloc | apply Kd.R_drewN | apply Kd.R_drew)); exact HO_5.out), (by (with_reducible repeat (first | refine zb ?_ _ | refine zd ?_ | refine za ?_ _)); exact BK190.out), (by (with_reducible repeat (first | refine zb ?_ _ | refine zd ?_ | refine za ?_ _)); exact BK227.out), GW227.out, GE227.out, NB190_227.out, NB227_190.out, (by repeat (first | (with_reducible first | exact HB.out | apply zg | apply zc | apply zf | refine zi ?_ GE190.out | refine zi ?_ GE227.out) | exact HB.out))⟩)
            skip
            refine zbc ?hg (N := 13) ?hd (cs := #[.int .i8 0, .bool false]) (t := 38) ?hr ?_; (case hd => rfl); (case hg => rfl); (case hr => first | (go_simp; done) | (go_simp; rfl))
            intro gb227 hg w63 hbox hb
            have n0_ := ze.mk (Kd.R_below (by (with_reducible repeat (first | apply Kd.R_alloc | apply Kd.R_drewN | apply Kd.R_drew)); exact HO_5.out) hb)
            have n1_ := ze.mk (zk (by (with_reducible repeat (first | refine zb ?_ _ | refine zd ?_ | refine za ?_ _)); exact BK190.out) hb)
            have n2_ := ze.mk (zt (by repeat (first | (with_reducible first | exact HB.out | apply zg | apply zc | apply zf | refine zi ?_ GE190.out) | exact HB.out)) hb)
            have n3_ := ze.mk (hbox)
            have n4_ := ze.mk ((by rw [hg]; exact (zaa (by repeat (first | (with_reducible first | exact HB.out | apply zg | apply zc | apply zf | refine zi ?_ GE190.out) | exact HB.out))) : w.heap.size ≤ gb227))
            have n5_ := ze.mk ((by rw [hg]; exact (zaa (by repeat (first | (with_reducible first | exact HB.out | apply zg | apply zc | apply zf | refine zi ?_ GE190.out) | exact HB.out))) : w.heap.size ≤ gb227))
            have n6_ := ze.mk ((by rw [hg]; exact Nat.ne_of_lt (zba (by (with_reducible repeat (first | refine zb ?_ _ | refine zd ?_ | refine za ?_ _)); exact BK190.out)) : gb190 ≠ gb227))
            have n7_ := ze.mk ((by rw [hg]; exact Nat.ne_of_gt (zba (by (with_reducible repeat (first | refine zb ?_ _ | refine zd ?_ | refine za ?_ _)); exact BK190.out)) : gb227 ≠ gb190))
            clear HO_5
            clear BK190
            clear HB
            have HO_5 := n0_
            have BK190 := n1_
            have HB := n2_
            have BK227 := n3_
            have GW227 := n4_
            have GE227 := n5_
            have NB190_227 := n6_
            have NB227_190 := n7_
            clear n0_ n1_ n2_ n3_ n4_ n5_ n6_ n7_
            clear hb hbox hg
            refine hK.out _ _ ⟨(zo BK190.out 0).trans rfl, (zo BK190.out 1).trans rfl, (zo BK190.out 2).trans rfl⟩ (fun hHeld => ?_)
            clear hK K
            refine zpa (a' := ?_) ?_ ?_
            rotate_left
            ·show Act.put _ (some 13) _ = _
             simp only [Act.put, List.setIfInBounds_toArray, List.set_cons_zero, List.set_cons_succ, zy, zz]
             rfl
            refine one_ (i := 4) (N := some 84) #[T, T, T, T, T, F, F, F, T, F, F] rfl rfl (zta HT_.out (by kernel_rfl)) (by decide) (fun K hK => ?_)
            refine zdb Try.func68 (by kernel_rfl) rfl #[.agg #[.int .i8 a0_0, .int .i8 a0_1, .slice A0_2 l0_2.length c0_2], .agg #[.int .i8 t220, .int .i8 t221, .int .i8 t222, .int .i8 t223]] (by rfl) rfl rfl (by (try simp only [List.map_toArray, List.map_cons, List.map_nil]); first | done | rfl | (simp only [List.length_drop, List.length_take]; rfl)) ?_
            with_reducible refine (impl_Fixed_decode.calls k2 a0_0 a0_1 _ _ l0_2 t220 t221 t222 t223 t224 t225 true _ ?side1 ?side2 A58.out).mono ?_
            (case side1 => repeat (first | exact (Kd.C_below HR0_2.out HB.out) | (with_reducible refine Kd.C_alloc ?_ _) | (with_reducible refine Kd.C_drewN ?_ _) | (with_reducible refine Kd.C_drew ?_)))
            (case side2 => exact HC0_2.out)
            rintro e w64 ⟨rfl, hb⟩
            refine ⟨_, rfl, ?_⟩
            have n0_ := ze.mk (Kd.R_below (by (with_reducible repeat (first | apply Kd.R_alloc | apply Kd.R_drewN | apply Kd.R_drew)); exact HO_5.out) hb)
            have n1_ := ze.mk (zk (by (with_reducible repeat (first | refine zb ?_ _ | refine zd ?_ | refine za ?_ _)); exact BK190.out) hb)
            have n2_ := ze.mk (zk (by (with_reducible repeat (first | refine zb ?_ _ | refine zd ?_ | refine za ?_ _)); exact BK227.out) hb)
            have n3_ := ze.mk (zt (by repeat (first | (with_reducible first | exact HB.out | apply zg | apply zc | apply zf | refine zi ?_ GE190.out | refine zi ?_ GE227.out) | exact HB.out)) hb)
            clear HO_5
            clear BK190
            clear BK227
            clear HB
            have HO_5 := n0_
            have BK190 := n1_
            have BK227 := n2_
            have HB := n3_
            clear n0_ n1_ n2_ n3_
            (try clear hb)
            (try clear hb2)
            (try clear hk)
            (try clear hi)
            refine hK.out _ _ ⟨(zo BK190.out 0).trans rfl, (zo BK190.out 1).trans rfl, (zo BK190.out 2).trans rfl⟩ (fun hHeld => ?_)
            clear hK K
            refine zpa (a' := ?_) ?_ ?_
            rotate_left
            ·show Act.put _ (some 84) _ = _
             simp only [Act.put, List.setIfInBounds_toArray, List.set_cons_zero, List.set_cons_succ, zy, zz]
             rfl
            refine pb 5 79 #[T, T, T, T, T, T, F, F, T, F, F] rfl rfl HT_.out (by kernel_rfl) pq (by rfl) (by intro w'; go_simp; with_reducible rfl) (by simp only [Act.put, ea, eb, ec, zy, zz]; rfl) ?_
            refine pb 6 85 #[T, T, T, T, T, T, T, F, T, F, F] rfl rfl HT_.out (by kernel_rfl) pq (by rfl) (by intro w'; go_simp; with_reducible rfl) (by simp only [Act.put, ea, eb, ec, zy, zz]; rfl) ?_
            refine pb 7 86 (fm 11 9) rfl rfl HT_.out (by kernel_rfl) pq (by rfl) (by intro w'; go_simp; with_reducible rfl) (by simp only [Act.put, ea, eb, ec, zy, zz]; rfl) ?_
            exact zpa (by simp only [zac, Act.put, List.setIfInBounds_toArray, List.set_cons_zero, List.set_cons_succ]) (hCont (gb227) _ ⟨hHeld, (by (with_reducible repeat (first | apply Kd.R_alloc | apply Kd.R_drewN | apply Kd.R_drew)); exact HO_5.out), (by (with_reducible repeat (first | refine zb ?_ _ | refine zd ?_ | refine za ?_ _)); exact BK190.out), (by (with_reducible repeat (first | refine zb ?_ _ | refine zd ?_ | refine za ?_ _)); exact BK227.out), GW227.out, GE227.out, NB190_227.out, NB227_190.out, (by repeat (first | (with_reducible first | exact HB.out | apply zg | apply zc | apply zf | refine zi ?_ GE190.out | refine zi ?_ GE227.out) | exact HB.out))⟩)
           skip
           refine zbc ?hg (N := 13) ?hd (cs := #[.int .i8 0, .bool false]) (t := 38) ?hr ?_; (case hd => rfl); (case hg => rfl); (case hr => first | (go_simp; done) | (go_simp; rfl))
           intro gb227 hg w62 hbox hb
           have n0_ := ze.mk (Kd.R_below (by (with_reducible repeat (first | apply Kd.R_alloc | apply Kd.R_drewN | apply Kd.R_drew)); exact HO_5.out) hb)
           have n1_ := ze.mk (zk (by (with_reducible repeat (first | refine zb ?_ _ | refine zd ?_ | refine za ?_ _)); exact BK190.out) hb)
           have n2_ := ze.mk (zt (by repeat (first | (with_reducible first | exact HB.out | apply zg | apply zc | apply zf | refine zi ?_ GE190.out) | exact HB.out)) hb)
           have n3_ := ze.mk (hbox)
           have n4_ := ze.mk ((by rw [hg]; exact (zaa (by repeat (first | (with_reducible first | exact HB.out | apply zg | apply zc | apply zf | refine zi ?_ GE190.out) | exact HB.out))) : w.heap.size ≤ gb227))
           have n5_ := ze.mk ((by rw [hg]; exact (zaa (by repeat (first | (with_reducible first | exact HB.out | apply zg | apply zc | apply zf | refine zi ?_ GE190.out) | exact HB.out))) : w.heap.size ≤ gb227))
           have n6_ := ze.mk ((by rw [hg]; exact Nat.ne_of_lt (zba (by (with_reducible repeat (first | refine zb ?_ _ | refine zd ?_ | refine za ?_ _)); exact BK190.out)) : gb190 ≠ gb227))
           have n7_ := ze.mk ((by rw [hg]; exact Nat.ne_of_gt (zba (by (with_reducible repeat (first | refine zb ?_ _ | refine zd ?_ | refine za ?_ _)); exact BK190.out)) : gb227 ≠ gb190))
           clear HO_5
           clear BK190
           clear HB
           have HO_5 := n0_
           have BK190 := n1_
           have HB := n2_
           have BK227 := n3_
           have GW227 := n4_
           have GE227 := n5_
           have NB190_227 := n6_
           have NB227_190 := n7_
           clear n0_ n1_ n2_ n3_ n4_ n5_ n6_ n7_
           clear hb hbox hg
           refine hK.out _ _ ⟨(zo BK190.out 0).trans rfl, (zo BK190.out 1).trans rfl, (zo BK190.out 2).trans rfl⟩ (fun hHeld => ?_)
           clear hK K
           refine zpa (a' := ?_) ?_ ?_
           rotate_left
           ·show Act.put _ (some 13) _ = _
            simp only [Act.put, List.setIfInBounds_toArray, List.set_cons_zero, List.set_cons_succ, zy, zz]
            rfl
           refine one_ (i := 3) (N := some 83) #[T, T, T, T, F, F, F, F, T, F, F] rfl rfl (zta HT_.out (by kernel_rfl)) (by decide) (fun K hK => ?_)
           refine zdb Try.func45 (by kernel_rfl) rfl #[.int .i64 (wrap64 (a0_0)), .int .i64 x76_2] (by rfl) rfl rfl (by (try simp only [List.map_toArray, List.map_cons, List.map_nil]); first | done | rfl | (simp only [List.length_drop, List.length_take]; rfl)) ?_
           with_reducible refine (impl_wordAt.calls k2 (wrap64 (a0_0)) x76_2 t220 t221 t222 t223 _ A57.out).mono ?_
           rintro e w63 ⟨rfl, hb⟩
           refine ⟨_, rfl, ?_⟩
           have n0_ := ze.mk (Kd.R_below (by (with_reducible repeat (first | apply Kd.R_alloc | apply Kd.R_drewN | apply Kd.R_drew)); exact HO_5.out) hb)
           have n1_ := ze.mk (zk (by (with_reducible repeat (first | refine zb ?_ _ | refine zd ?_ | refine za ?_ _)); exact BK190.out) hb)
           have n2_ := ze.mk (zk (by (with_reducible repeat (first | refine zb ?_ _ | refine zd ?_ | refine za ?_ _)); exact BK227.out) hb)
           have n3_ := ze.mk (zt (by repeat (first | (with_reducible first | exact HB.out | apply zg | apply zc | apply zf | refine zi ?_ GE190.out | refine zi ?_ GE227.out) | exact HB.out)) hb)
           clear HO_5
           clear BK190
           clear BK227
           clear HB
           have HO_5 := n0_
           have BK190 := n1_
           have BK227 := n2_
           have HB := n3_
           clear n0_ n1_ n2_ n3_
           (try clear hb)
           (try clear hb2)
           (try clear hk)
           (try clear hi)
           refine hK.out _ _ ⟨(zo BK190.out 0).trans rfl, (zo BK190.out 1).trans rfl, (zo BK190.out 2).trans rfl⟩ (fun hHeld => ?_)
           clear hK K
           refine zpa (a' := ?_) ?_ ?_
           rotate_left
           ·show Act.put _ (some 83) _ = _
            simp only [Act.put, List.setIfInBounds_toArray, List.set_cons_zero, List.set_cons_succ, zy, zz]
            rfl
           refine one_ (i := 4) (N := some 84) #[T, T, T, T, T, F, F, F, T, F, F] rfl rfl (zta HT_.out (by kernel_rfl)) (by decide) (fun K hK => ?_)
           refine zdb Try.func68 (by kernel_rfl) rfl #[.agg #[.int .i8 a0_0, .int .i8 a0_1, .slice A0_2 l0_2.length c0_2], .agg #[.int .i8 t220, .int .i8 t221, .int .i8 t222, .int .i8 t223]] (by rfl) rfl rfl (by (try simp only [List.map_toArray, List.map_cons, List.map_nil]); first | done | rfl | (simp only [List.length_drop, List.length_take]; rfl)) ?_
           with_reducible refine (impl_Fixed_decode.calls k2 a0_0 a0_1 _ _ l0_2 t220 t221 t222 t223 t224 t225 true _ ?side1 ?side2 A58.out).mono ?_
           (case side1 => repeat (first | exact (Kd.C_below HR0_2.out HB.out) | (with_reducible refine Kd.C_alloc ?_ _) | (with_reducible refine Kd.C_drewN ?_ _) | (with_reducible refine Kd.C_drew ?_)))
           (case side2 => exact HC0_2.out)
           rintro e w64 ⟨rfl, hb⟩
           refine ⟨_, rfl, ?_⟩
           have n0_ := ze.mk (Kd.R_below (by (with_reducible repeat (first | apply Kd.R_alloc | apply Kd.R_drewN | apply Kd.R_drew)); exact HO_5.out) hb)
           have n1_ := ze.mk (zk (by (with_reducible repeat (first | refine zb ?_ _ | refine zd ?_ | refine za ?_ _)); exact BK190.out) hb)
           have n2_ := ze.mk (zk (by (with_reducible repeat (first | refine zb ?_ _ | refine zd ?_ | refine za ?_ _)); exact BK227.out) hb)
           have n3_ := ze.mk (zt (by repeat (first | (with_reducible first | exact HB.out | apply zg | apply zc | apply zf | refine zi ?_ GE190.out | refine zi ?_ GE227.out) | exact HB.out)) hb)
           clear HO_5
           clear BK190
           clear BK227
           clear HB
           have HO_5 := n0_
           have BK190 := n1_
           have BK227 := n2_
           have HB := n3_
           clear n0_ n1_ n2_ n3_
           (try clear hb)
           (try clear hb2)
           (try clear hk)
           (try clear hi)
           refine hK.out _ _ ⟨(zo BK190.out 0).trans rfl, (zo BK190.out 1).trans rfl, (zo BK190.out 2).trans rfl⟩ (fun hHeld => ?_)
           clear hK K
           refine zpa (a' := ?_) ?_ ?_
           rotate_left
           ·show Act.put _ (some 84) _ = _
            simp only [Act.put, List.setIfInBounds_toArray, List.set_cons_zero, List.set_cons_succ, zy, zz]
            rfl
           refine pb 5 79 #[T, T, T, T, T, T, F, F, T, F, F] rfl rfl HT_.out (by kernel_rfl) pq (by rfl) (by intro w'; go_simp; with_reducible rfl) (by simp only [Act.put, ea, eb, ec, zy, zz]; rfl) ?_
           refine pb 6 85 #[T, T, T, T, T, T, T, F, T, F, F] rfl rfl HT_.out (by kernel_rfl) pq (by rfl) (by intro w'; go_simp; with_reducible rfl) (by simp only [Act.put, ea, eb, ec, zy, zz]; rfl) ?_
           refine pb 7 86 (fm 11 9) rfl rfl HT_.out (by kernel_rfl) pq (by rfl) (by intro w'; go_simp; with_reducible rfl) (by simp only [Act.put, ea, eb, ec, zy, zz]; rfl) ?_
           exact zpa (by simp only [zac, Act.put, List.setIfInBounds_toArray, List.set_cons_zero, List.set_cons_succ]) (hCont (gb227) _ ⟨hHeld, (by (with_reducible repeat (first | apply Kd.R_alloc | apply Kd.R_drewN | apply Kd.R_drew)); exact HO_5.out), (by (with_reducible repeat (first | refine zb ?_ _ | refine zd ?_ | refine za ?_ _)); exact BK190.out), (by (with_reducible repeat (first | refine zb ?_ _ | refine zd ?_ | refine za ?_ _)); exact BK227.out), GW227.out, GE227.out, NB190_227.out, NB227_190.out, (by repeat (first | (with_reducible first | exact HB.out | apply zg | apply zc | apply zf | refine zi ?_ GE190.out | refine zi ?_ GE227.out) | exact HB.out))⟩)
          rintro gb227 w65 ⟨hS_, h0_, h1_, h2_, h3_, h4_, h5_, h6_, h7_⟩
          have n0_ : ze (Kd.R k102 102 w65 w.heap.size (fun _ => True) u5 x5_2) := ⟨h0_⟩
          have n1_ : ze (w65.heap[gb190]? = some (.cells #[.int .i8 a0_0, .int .i8 a0_1, .slice A0_2 l0_2.length c0_2] 28 (0, 0))) := ⟨h1_⟩
          have n2_ : ze (w65.heap[gb227]? = some (.cells #[.int .i8 0, .bool false] 38 (0, 0))) := ⟨h2_⟩
          have n3_ : ze (w.heap.size ≤ gb227) := ⟨h3_⟩
          have n4_ : ze (w.heap.size ≤ gb227) := ⟨h4_⟩
          have n5_ : ze (gb190 ≠ gb227) := ⟨h5_⟩
          have n6_ : ze (gb227 ≠ gb190) := ⟨h6_⟩
          have n7_ : ze (Below w.heap.size w w65) := ⟨h7_⟩
          clear HO_5
          clear BK190
          clear HB
          clear h0_ h1_ h2_ h3_ h4_ h5_ h6_ h7_
          have HO_5 := n0_
          have BK190 := n1_
          have BK227 := n2_
          have GW227 := n3_
          have GE227 := n4_
          have NB190_227 := n5_
          have NB227_190 := n6_
          have HB := n7_
          clear n0_ n1_ n2_ n3_ n4_ n5_ n6_ n7_
          have hHeld : w65.cell? ⟨gb190, 0, none⟩ = some (.int .i8 a0_0) ∧ w65.cell? ⟨gb190, 1, none⟩ = some (.int .i8 a0_1) ∧ w65.cell? ⟨gb190, 2, none⟩ = some (.slice A0_2 l0_2.length c0_2) := hS_
          refine zpa (a' := ?_) ?_ ?_
          rotate_left
          ·simp only [zac, Act.put, List.setIfInBounds_toArray, List.set_cons_zero, List.set_cons_succ]
           rfl
          refine one_ (i := 9) (N := none) (fm 11 10) rfl rfl (zta HT_.out (by kernel_rfl)) (by decide) (fun K hK => ?_)
          have hs66 : w65.cell? ⟨gb227, 0, none⟩ = some (.int .i8 0) := (zo BK227.out 0).trans rfl
          have hfs66 := zw BK227.out 0
          have hns66_0 := NB190_227.out
          have hms66_0 := NB227_190.out
          have hs67 : w65.cell? ⟨gb227, 1, none⟩ = some (.bool false) := (zo BK227.out 1).trans rfl
          have hfs67 := zw BK227.out 1
          have hns67_0 := NB190_227.out
          have hms67_0 := NB227_190.out
          refine skip_ (w1 := ?_) (by rfl) rfl ?_ ?_
          rotate_left
          ·go_simp
           rfl
          refine hK.out _ _ ⟨((zx (p := ⟨gb227, _, none⟩) NB190_227.out _).trans (((zx (p := ⟨gb227, _, none⟩) NB190_227.out _).trans (hHeld.1)))), ((zx (p := ⟨gb227, _, none⟩) NB190_227.out _).trans (((zx (p := ⟨gb227, _, none⟩) NB190_227.out _).trans (hHeld.2.1)))), ((zx (p := ⟨gb227, _, none⟩) NB190_227.out _).trans (((zx (p := ⟨gb227, _, none⟩) NB190_227.out _).trans (hHeld.2.2))))⟩ (fun hHeld => ?_)
          clear hK K
          refine pb 10 14 (fm 11 11) rfl rfl HT_.out (by kernel_rfl) pq (by rfl) (by intro w'; go_simp; with_reducible rfl) (by simp only [Act.put, ea, eb, ec, zy, zz]; rfl) ?_
          refine zxb (zcb HT_.out (by kernel_rfl)) ?_
          have hnb68 := NB227_190.out
          have hnc68 := NB190_227.out
          obtain ⟨y14_0, y14_1, z15_0, z15_1⟩ := cf2 BK227.out; have hs_69 := set2 y14_0 y14_1
          try go_wp2_with (first | ((with_reducible refine zga (b := .append) (xs := #[.tmp 90, .tmp 93]) rfl ?_); at_builtin; refine Kd.R_append k102 (w0 := w) w.heap.size rfl (.tmp 90) (.tmp 93) 51 102 (.agg #[(.int .i8 0), (.int .i8 0), (.int .i8 0), (.int .i8 0), (.int .i8 0), (.int .i8 0), (.int .i8 0), (.int .i8 0), (.int .i8 0), (.int .i8 0), (.int .i8 0), (.int .i8 0), (.int .i8 0), (.int .i8 0), (.int .i16 0), (.int .i16 0), (.int .i16 0), (.int .i8 0), (.bool false), (.bool false)]) 24 rfl Try.underlying51 zyc rfl (by decide) (by omega) u5 x5_2 (⟨(⟨0, 0, 0, 0, 0, 0, 0, 0, 0, 0, 0, 0, 0, 0⟩ : S96), (⟨0, 0, 0⟩ : S100), (⟨t224, t225⟩ : S38), true⟩ : S102) [.int .i8 0, .int .i8 0, .int .i8 0, .int .i8 0, .int .i8 0, .int .i8 0, .int .i8 0, .int .i8 0, .int .i8 0, .int .i8 0, .int .i8 0, .int .i8 0, .int .i8 0, .int .i8 0, .int .i16 0, .int .i16 0, .int .i16 0, .int .i8 t224, .bool t225, .bool true] (fun _ => True) (fun _ => False) rfl (by first | (go_simp; done) | (go_simp; rfl)) ?aP (fun _ hk => hk.elim) ?aF ?aO ?aB ?aS ?aL ?_; (case aP => exact zza _ _ _ (⟨(⟨0, 0, 0, 0, 0, 0, 0, 0, 0, 0, 0, 0, 0, 0⟩ : S96), (⟨0, 0, 0⟩ : S100), (⟨t224, t225⟩ : S38), true⟩ : S102)); (case aB => exact (by repeat (first | (with_reducible first | exact HB.out | apply zg | apply zc | apply zf | refine zi ?_ GE190.out | refine zi ?_ GE227.out) | exact HB.out))); (case aF => exact (fun _ _ => trivial)); (case aO => exact (by (with_reducible repeat (first | apply Kd.R_alloc | apply Kd.R_drewN | apply Kd.R_drew)); exact Kd.R_mono (Kd.R_far (p := ⟨gb227, 1, none⟩) (Kd.R_far (p := ⟨gb227, 0, none⟩) (Kd.R_types HO_5.out BK227.out (by decide)) (fun _ hk => hk.2) (.int .i8 t224)) (fun _ hk => hk.2) (.bool t225)) (fun _ hk => trivial))); (case aS => exact (zaa (by repeat (first | (with_reducible first | exact HB.out | apply zg | apply zc | apply zf | refine zi ?_ GE190.out | refine zi ?_ GE227.out) | exact HB.out)))); (case aL => have := LMc60.out; omega); intro v229 w70 ho hb hg hat; rw [← Ny228.out] at ho; have n0_ := ze.mk (zla (g := gb190) (o := .cells #[.int .i8 a0_0, .int .i8 a0_1, .slice A0_2 l0_2.length c0_2] 28 (0, 0)) (by (with_reducible repeat (first | refine zb ?_ _ | refine zd ?_ | refine za ?_ _)); refine zq ?_ NB190_227.out _; (with_reducible repeat (first | refine zb ?_ _ | refine zd ?_ | refine za ?_ _)); refine zq ?_ NB190_227.out _; (with_reducible repeat (first | refine zb ?_ _ | refine zd ?_ | refine za ?_ _)); exact BK190.out) hg (Kd.R_ne HO_5.out BK190.out (by decide))); have n1_ := ze.mk (zla (g := gb227) (o := .cells #[.int .i8 t224, .bool t225] 38 (0, 0)) (by (with_reducible repeat (first | refine zb ?_ _ | refine zd ?_ | refine za ?_ _)); refine zp (cs := #[.int .i8 t224, .bool false]) ?_ 1 _ rfl; (with_reducible repeat (first | refine zb ?_ _ | refine zd ?_ | refine za ?_ _)); refine zp (cs := #[.int .i8 0, .bool false]) ?_ 0 _ rfl; (with_reducible repeat (first | refine zb ?_ _ | refine zd ?_ | refine za ?_ _)); exact BK227.out) hg (Kd.R_ne HO_5.out BK227.out (by decide))); have n2_ := ze.mk (hb); have n3_ := ze.mk (ho); clear BK190; clear BK227; clear HB; clear HO_5; have BK190 := n0_; have BK227 := n1_; have HB := n2_; have HO230 := n3_; clear n0_ n1_ n2_ n3_; clear ho hb hg hat))
          go_roundg k2
          case measure => have := HK1.out; have := HK2.out; omega
          case rel => exact ⟨(y228), (wrap64 (x76_2 + 1)), (by first | rfl | (simp; done) | (simp [*]; done)), H', ⟨by have := HK1.out; have := HK2.out; omega⟩, ⟨by (with_reducible repeat (first | apply Kd.R_alloc | apply Kd.R_drewN | apply Kd.R_drew)); exact HO230.out⟩, ⟨by (with_reducible repeat (first | refine zb ?_ _ | refine zd ?_ | refine za ?_ _)); exact BK190.out⟩, ⟨by repeat (first | (with_reducible first | exact HB.out | apply zg | apply zc | apply zf | refine zi ?_ GE190.out | refine zi ?_ GE227.out) | exact HB.out)⟩⟩
         rw [if_neg c60] at H
         exact absurd H (by simp)
        replace c59 := Bool.eq_false_iff.mpr c59
        subst c59
        have H1 : (if x5_2.length < 5864062014805 then (impl_TreeOf.l3 k2 (wrap64 (a0_0)) (x5_2 ++ [(⟨(⟨0, 0, 0, 0, 0, 0, 0, 0, 0, 0, 0, 0, 0, 0⟩ : S96), (⟨0, 0, 0⟩ : S100), (⟨(-1), false⟩ : S38), true⟩ : S102)]) t219 (wrap64 (x76_2 + 1)) a0_0 a0_1 l0_2) else (none)) = some (r1, r2) := by rw [if_neg (show ¬ (false = true) by decide)] at H; exact H
        clear H
        have H := H1
        clear H1
        by_cases c71 : x5_2.length < 5864062014805
        ·rw [if_pos c71] at H
         have LMc71 := ze.mk c71
         clear c71
         obtain ⟨y231, hy231⟩ : ∃ y_ : List (S102), y_ = (x5_2 ++ [(⟨(⟨0, 0, 0, 0, 0, 0, 0, 0, 0, 0, 0, 0, 0, 0⟩ : S96), (⟨0, 0, 0⟩ : S100), (⟨(-1), false⟩ : S38), true⟩ : S102)]) := ⟨_, rfl⟩
         replace H : (impl_TreeOf.l3 k2 (wrap64 (a0_0)) y231 t219 (wrap64 (x76_2 + 1)) a0_0 a0_1 l0_2) = some (r1, r2) := by first | (rw [hy231]; with_reducible exact H) | (have H2_ := (Option.bind_some _ _).symm.trans H; rw [hy231]; with_reducible exact H2_) | (have H2_ := (Option.bind_some _ _).symm.trans H; with_reducible exact H2_) | with_reducible exact H | (rw [hy231]; exact H) | exact H
         have Ny231 := ze.mk hy231
         clear hy231
         have H' := ze.mk H
         clear H
         try go_wp2
         have n0_ := ze.mk (Kd.R_drew HO_5.out)
         have n1_ := ze.mk (zd BK190.out)
         have n2_ := ze.mk (zf HB.out)
         clear HO_5
         clear BK190
         clear HB
         have HO_5 := n0_
         have BK190 := n1_
         have HB := n2_
         clear n0_ n1_ n2_
         refine zfb (n := 11) (S := fun w' => w'.cell? ⟨gb190, 0, none⟩ = some (.int .i8 a0_0) ∧ w'.cell? ⟨gb190, 1, none⟩ = some (.int .i8 a0_1) ∧ w'.cell? ⟨gb190, 2, none⟩ = some (.slice A0_2 l0_2.length c0_2)) (ds := []) (fm 11 0) (by kernel_rfl) rfl rfl ⟨(zo BK190.out 0).trans rfl, (zo BK190.out 1).trans rfl, (zo BK190.out 2).trans rfl⟩ (fun hHeld => ?_); refine zoa impl_TreeOf.tab30 impl_TreeOf.bits30 (fun HT_ HW_ => ?_)
         generalize wr.drew = w72 at HO_5 BK190 HB hHeld ⊢
         refine pb 1 81 #[F, T, F, F, F, F, F, F, F, F, F] rfl rfl HT_.out (by kernel_rfl) pq (by rfl) (by intro w'; go_simp; with_reducible rfl) (by simp only [Act.put, ea, eb, ec, zy, zz]; rfl) ?_
         refine pb 2 82 #[F, T, T, F, F, F, F, F, F, F, F] rfl rfl HT_.out (by kernel_rfl) pq (by rfl) (by intro w'; go_simp; with_reducible rfl) (by simp only [Act.put, ea, eb, ec, zy, zz]; rfl) ?_
         refine take_ (i := 0) (N := some 80) (v := ?_) (a' := ?_) (fm 11 3) rfl rfl (zka HT_.out HW_.out (by kernel_rfl)) (fun _ _ _ h => h) (Or.inl ⟨by rfl, ?_⟩) hHeld ?_ ?_
         rotate_left
         ·rintro w' ⟨s0, s1, s2⟩
          go_simp
          with_reducible rfl
         rotate_left
         ·simp only [Act.put, List.setIfInBounds_toArray, List.set_cons_zero, List.set_cons_succ, zy, zz]
          rfl
         refine join_ (σ := Nat) 2 (fm 11 9) (fun s_ => [(83, .agg #[.int .i8 t220, .int .i8 t221, .int .i8 t222, .int .i8 t223]), (84, .tuple #[.agg #[.int .i8 t224, .bool t225], .bool false]), (13, .pointer (some ⟨s_, 0, none⟩)), (79, .tuple #[.agg #[.int .i8 t224, .bool t225], .bool false]), (85, .agg #[.int .i8 t224, .bool t225]), (86, .bool false)]) (fun s_ w' => (w'.cell? ⟨gb190, 0, none⟩ = some (.int .i8 a0_0) ∧ w'.cell? ⟨gb190, 1, none⟩ = some (.int .i8 a0_1) ∧ w'.cell? ⟨gb190, 2, none⟩ = some (.slice A0_2 l0_2.length c0_2)) ∧ (Kd.R k102 102 w' w.heap.size (fun _ => True) u5 x5_2) ∧ (w'.heap[gb190]? = some (.cells #[.int .i8 a0_0, .int .i8 a0_1, .slice A0_2 l0_2.length c0_2] 28 (0, 0))) ∧ (w'.heap[s_]? = some (.cells #[.int .i8 0, .bool false] 38 (0, 0))) ∧ (w.heap.size ≤ s_) ∧ (w.heap.size ≤ s_) ∧ (gb190 ≠ s_) ∧ (s_ ≠ gb190) ∧ (Below w.heap.size w w')) ?_ ?_
         rotate_left
         ·intro hCont
          refine two_ (i := 3) (j := 8) (Ni := some 83) (Nj := some 13) (fm 11 4) #[T, T, T, F, F, F, F, F, T, F, F] rfl rfl rfl rfl (two_of HT_.out (by kernel_rfl)) (by decide) (by decide) (fun K hK => ?_) (fun K hK => ?_)
          ·skip
           refine zdb Try.func45 (by kernel_rfl) rfl #[.int .i64 (wrap64 (a0_0)), .int .i64 x76_2] (by rfl) rfl rfl (by (try simp only [List.map_toArray, List.map_cons, List.map_nil]); first | done | rfl | (simp only [List.length_drop, List.length_take]; rfl)) ?_
           with_reducible refine (impl_wordAt.calls k2 (wrap64 (a0_0)) x76_2 t220 t221 t222 t223 _ A57.out).mono ?_
           rintro e w73 ⟨rfl, hb⟩
           refine ⟨_, rfl, ?_⟩
           have n0_ := ze.mk (Kd.R_below (by (with_reducible repeat (first | apply Kd.R_alloc | apply Kd.R_drewN | apply Kd.R_drew)); exact HO_5.out) hb)
           have n1_ := ze.mk (zk (by (with_reducible repeat (first | refine zb ?_ _ | refine zd ?_ | refine za ?_ _)); exact BK190.out) hb)
           have n2_ := ze.mk (zt (by repeat (first | (with_reducible first | exact HB.out | apply zg | apply zc | apply zf | refine zi ?_ GE190.out) | exact HB.out)) hb)
           clear HO_5
           clear BK190
           clear HB
           have HO_5 := n0_
           have BK190 := n1_
           have HB := n2_
           clear n0_ n1_ n2_
           (try clear hb)
           (try clear hb2)
           (try clear hk)
           (try clear hi)
           refine hK.out _ _ ⟨(zo BK190.out 0).trans rfl, (zo BK190.out 1).trans rfl, (zo BK190.out 2).trans rfl⟩ (fun hHeld => ?_)
           clear hK K
           refine zpa (a' := ?_) ?_ ?_
           rotate_left
           ·show Act.put _ (some 83) _ = _
            simp only [Act.put, List.setIfInBounds_toArray, List.set_cons_zero, List.set_cons_succ, zy, zz]
            rfl
           refine two_ (i := 4) (j := 8) (Ni := some 84) (Nj := some 13) (fm 11 5) #[T, T, T, T, F, F, F, F, T, F, F] rfl rfl rfl rfl (two_of HT_.out (by kernel_rfl)) (by decide) (by decide) (fun K hK => ?_) (fun K hK => ?_)
           ·skip
            refine zdb Try.func68 (by kernel_rfl) rfl #[.agg #[.int .i8 a0_0, .int .i8 a0_1, .slice A0_2 l0_2.length c0_2], .agg #[.int .i8 t220, .int .i8 t221, .int .i8 t222, .int .i8 t223]] (by rfl) rfl rfl (by (try simp only [List.map_toArray, List.map_cons, List.map_nil]); first | done | rfl | (simp only [List.length_drop, List.length_take]; rfl)) ?_
            with_reducible refine (impl_Fixed_decode.calls k2 a0_0 a0_1 _ _ l0_2 t220 t221 t222 t223 t224 t225 false _ ?side1 ?side2 A58.out).mono ?_
            (case side1 => repeat (first | exact (Kd.C_below HR0_2.out HB.out) | (with_reducible refine Kd.C_alloc ?_ _) | (with_reducible refine Kd.C_drewN ?_ _) | (with_reducible refine Kd.C_drew ?_)))
            (case side2 => exact HC0_2.out)
            rintro e w74 ⟨rfl, hb⟩
            refine ⟨_, rfl, ?_⟩
            have n0_ := ze.mk (Kd.R_below (by (with_reducible repeat (first | apply Kd.R_alloc | apply Kd.R_drewN | apply Kd.R_drew)); exact HO_5.out) hb)
            have n1_ := ze.mk (zk (by (with_reducible repeat (first | refine zb ?_ _ | refine zd ?_ | refine za ?_ _)); exact BK190.out) hb)
            have n2_ := ze.mk (zt (by repeat (first | (with_reducible first | exact HB.out | apply zg | apply zc | apply zf | refine zi ?_ GE190.out) | exact HB.out)) hb)
            clear HO_5
            clear BK190
            clear HB
            have HO_5 := n0_
            have BK190 := n1_
            have HB := n2_
            clear n0_ n1_ n2_
            (try clear hb)
            (try clear hb2)
            (try clear hk)
            (try clear hi)
            refine hK.out _ _ ⟨(zo BK190.out 0).trans rfl, (zo BK190.out 1).trans rfl, (zo BK190.out 2).trans rfl⟩ (fun hHeld => ?_)
            clear hK K
            refine zpa (a' := ?_) ?_ ?_
            rotate_left
            ·show Act.put _ (some 84) _ = _
             simp only [Act.put, List.setIfInBounds_toArray, List.set_cons_zero, List.set_cons_succ, zy, zz]
             rfl
            refine pb 5 79 (fm 11 6) rfl rfl HT_.out (by kernel_rfl) pq (by rfl) (by intro w'; go_simp; with_reducible rfl) (by simp only [Act.put, ea, eb, ec, zy, zz]; rfl) ?_
            refine pb 6 85 (fm 11 7) rfl rfl HT_.out (by kernel_rfl) pq (by rfl) (by intro w'; go_simp; with_reducible rfl) (by simp only [Act.put, ea, eb, ec, zy, zz]; rfl) ?_
            refine pb 7 86 (fm 11 8) rfl rfl HT_.out (by kernel_rfl) pq (by rfl) (by intro w'; go_simp; with_reducible rfl) (by simp only [Act.put, ea, eb, ec, zy, zz]; rfl) ?_
            refine one_ (i := 8) (N := some 13) (fm 11 9) rfl rfl (zta HT_.out (by kernel_rfl)) (by decide) (fun K hK => ?_)
            refine zbc ?hg (N := 13) ?hd (cs := #[.int .i8 0, .bool false]) (t := 38) ?hr ?_; (case hd => rfl); (case hg => rfl); (case hr => first | (go_simp; done) | (go_simp; rfl))
            intro gb227 hg w75 hbox hb
            have n0_ := ze.mk (Kd.R_below (by (with_reducible repeat (first | apply Kd.R_alloc | apply Kd.R_drewN | apply Kd.R_drew)); exact HO_5.out) hb)
            have n1_ := ze.mk (zk (by (with_reducible repeat (first | refine zb ?_ _ | refine zd ?_ | refine za ?_ _)); exact BK190.out) hb)
            have n2_ := ze.mk (zt (by repeat (first | (with_reducible first | exact HB.out | apply zg | apply zc | apply zf | refine zi ?_ GE190.out) | exact HB.out)) hb)
            have n3_ := ze.mk (hbox)
            have n4_ := ze.mk ((by rw [hg]; exact (zaa (by repeat (first | (with_reducible first | exact HB.out | apply zg | apply zc | apply zf | refine zi ?_ GE190.out) | exact HB.out))) : w.heap.size ≤ gb227))
            have n5_ := ze.mk ((by rw [hg]; exact (zaa (by repeat (first | (with_reducible first | exact HB.out | apply zg | apply zc | apply zf | refine zi ?_ GE190.out) | exact HB.out))) : w.heap.size ≤ gb227))
            have n6_ := ze.mk ((by rw [hg]; exact Nat.ne_of_lt (zba (by (with_reducible repeat (first | refine zb ?_ _ | refine zd ?_ | refine za ?_ _)); exact BK190.out)) : gb190 ≠ gb227))
            have n7_ := ze.mk ((by rw [hg]; exact Nat.ne_of_gt (zba (by (with_reducible repeat (first | refine zb ?_ _ | refine zd ?_ | refine za ?_ _)); exact BK190.out)) : gb227 ≠ gb190))
            clear HO_5
            clear BK190
            clear HB
            have HO_5 := n0_
            have BK190 := n1_
            have HB := n2_
            have BK227 := n3_
            have GW227 := n4_
            have GE227 := n5_
            have NB190_227 := n6_
            have NB227_190 := n7_
            clear n0_ n1_ n2_ n3_ n4_ n5_ n6_ n7_
            clear hb hbox hg
            refine hK.out _ _ ⟨(zo BK190.out 0).trans rfl, (zo BK190.out 1).trans rfl, (zo BK190.out 2).trans rfl⟩ (fun hHeld => ?_)
            clear hK K
            refine zpa (a' := ?_) ?_ ?_
            rotate_left
            ·show Act.put _ (some 13) _ = _
             simp only [Act.put, List.setIfInBounds_toArray, List.set_cons_zero, List.set_cons_succ, zy, zz]
             rfl
            exact zpa (by simp only [zac, Act.put, List.setIfInBounds_toArray, List.set_cons_zero, List.set_cons_succ]) (hCont (gb227) _ ⟨hHeld, (by (with_reducible repeat (first | apply Kd.R_alloc | apply Kd.R_drewN | apply Kd.R_drew)); exact HO_5.out), (by (with_reducible repeat (first | refine zb ?_ _ | refine zd ?_ | refine za ?_ _)); exact BK190.out), (by (with_reducible repeat (first | refine zb ?_ _ | refine zd ?_ | refine za ?_ _)); exact BK227.out), GW227.out, GE227.out, NB190_227.out, NB227_190.out, (by repeat (first | (with_reducible first | exact HB.out | apply zg | apply zc | apply zf | refine zi ?_ GE190.out | refine zi ?_ GE227.out) | exact HB.out))⟩)
           skip
           refine zbc ?hg (N := 13) ?hd (cs := #[.int .i8 0, .bool false]) (t := 38) ?hr ?_; (case hd => rfl); (case hg => rfl); (case hr => first | (go_simp; done) | (go_simp; rfl))
           intro gb227 hg w74 hbox hb
           have n0_ := ze.mk (Kd.R_below (by (with_reducible repeat (first | apply Kd.R_alloc | apply Kd.R_drewN | apply Kd.R_drew)); exact HO_5.out) hb)
           have n1_ := ze.mk (zk (by (with_reducible repeat (first | refine zb ?_ _ | refine zd ?_ | refine za ?_ _)); exact BK190.out) hb)
           have n2_ := ze.mk (zt (by repeat (first | (with_reducible first | exact HB.out | apply zg | apply zc | apply zf | refine zi ?_ GE190.out) | exact HB.out)) hb)
           have n3_ := ze.mk (hbox)
           have n4_ := ze.mk ((by rw [hg]; exact (zaa (by repeat (first | (with_reducible first | exact HB.out | apply zg | apply zc | apply zf | refine zi ?_ GE190.out) | exact HB.out))) : w.heap.size ≤ gb227))
           have n5_ := ze.mk ((by rw [hg]; exact (zaa (by repeat (first | (with_reducible first | exact HB.out | apply zg | apply zc | apply zf | refine zi ?_ GE190.out) | exact HB.out))) : w.heap.size ≤ gb227))
           have n6_ := ze.mk ((by rw [hg]; exact Nat.ne_of_lt (zba (by (with_reducible repeat (first | refine zb ?_ _ | refine zd ?_ | refine za ?_ _)); exact BK190.out)) : gb190 ≠ gb227))
           have n7_ := ze.mk ((by rw [hg]; exact Nat.ne_of_gt (zba (by (with_reducible repeat (first | refine zb ?_ _ | refine zd ?_ | refine za ?_ _)); exact BK190.out)) : gb227 ≠ gb190))
           clear HO_5
           clear BK190
           clear HB
           have HO_5 := n0_
           have BK190 := n1_
           have HB := n2_
           have BK227 := n3_
           have GW227 := n4_
           have GE227 := n5_
           have NB190_227 := n6_
           have NB227_190 := n7_
           clear n0_ n1_ n2_ n3_ n4_ n5_ n6_ n7_
           clear hb hbox hg
           refine hK.out _ _ ⟨(zo BK190.out 0).trans rfl, (zo BK190.out 1).trans rfl, (zo BK190.out 2).trans rfl⟩ (fun hHeld => ?_)
           clear hK K
           refine zpa (a' := ?_) ?_ ?_
           rotate_left
           ·show Act.put _ (some 13) _ = _
            simp only [Act.put, List.setIfInBounds_toArray, List.set_cons_zero, List.set_cons_succ, zy, zz]
            rfl
           refine one_ (i := 4) (N := some 84) #[T, T, T, T, T, F, F, F, T, F, F] rfl rfl (zta HT_.out (by kernel_rfl)) (by decide) (fun K hK => ?_)
           refine zdb Try.func68 (by kernel_rfl) rfl #[.agg #[.int .i8 a0_0, .int .i8 a0_1, .slice A0_2 l0_2.length c0_2], .agg #[.int .i8 t220, .int .i8 t221, .int .i8 t222, .int .i8 t223]] (by rfl) rfl rfl (by (try simp only [List.map_toArray, List.map_cons, List.map_nil]); first | done | rfl | (simp only [List.length_drop, List.length_take]; rfl)) ?_
           with_reducible refine (impl_Fixed_decode.calls k2 a0_0 a0_1 _ _ l0_2 t220 t221 t222 t223 t224 t225 false _ ?side1 ?side2 A58.out).mono ?_
           (case side1 => repeat (first | exact (Kd.C_below HR0_2.out HB.out) | (with_reducible refine Kd.C_alloc ?_ _) | (with_reducible refine Kd.C_drewN ?_ _) | (with_reducible refine Kd.C_drew ?_)))
           (case side2 => exact HC0_2.out)
           rintro e w75 ⟨rfl, hb⟩
           refine ⟨_, rfl, ?_⟩
           have n0_ := ze.mk (Kd.R_below (by (with_reducible repeat (first | apply Kd.R_alloc | apply Kd.R_drewN | apply Kd.R_drew)); exact HO_5.out) hb)
           have n1_ := ze.mk (zk (by (with_reducible repeat (first | refine zb ?_ _ | refine zd ?_ | refine za ?_ _)); exact BK190.out) hb)
           have n2_ := ze.mk (zk (by (with_reducible repeat (first | refine zb ?_ _ | refine zd ?_ | refine za ?_ _)); exact BK227.out) hb)
           have n3_ := ze.mk (zt (by repeat (first | (with_reducible first | exact HB.out | apply zg | apply zc | apply zf | refine zi ?_ GE190.out | refine zi ?_ GE227.out) | exact HB.out)) hb)
           clear HO_5
           clear BK190
           clear BK227
           clear HB
           have HO_5 := n0_
           have BK190 := n1_
           have BK227 := n2_
           have HB := n3_
           clear n0_ n1_ n2_ n3_
           (try clear hb)
           (try clear hb2)
           (try clear hk)
           (try clear hi)
           refine hK.out _ _ ⟨(zo BK190.out 0).trans rfl, (zo BK190.out 1).trans rfl, (zo BK190.out 2).trans rfl⟩ (fun hHeld => ?_)
           clear hK K
           refine zpa (a' := ?_) ?_ ?_
           rotate_left
           ·show Act.put _ (some 84) _ = _
            simp only [Act.put, List.setIfInBounds_toArray, List.set_cons_zero, List.set_cons_succ, zy, zz]
            rfl
           refine pb 5 79 #[T, T, T, T, T, T, F, F, T, F, F] rfl rfl HT_.out (by kernel_rfl) pq (by rfl) (by intro w'; go_simp; with_reducible rfl) (by simp only [Act.put, ea, eb, ec, zy, zz]; rfl) ?_
           refine pb 6 85 #[T, T, T, T, T, T, T, F, T, F, F] rfl rfl HT_.out (by kernel_rfl) pq (by rfl) (by intro w'; go_simp; with_reducible rfl) (by simp only [Act.put, ea, eb, ec, zy, zz]; rfl) ?_
           refine pb 7 86 (fm 11 9) rfl rfl HT_.out (by kernel_rfl) pq (by rfl) (by intro w'; go_simp; with_reducible rfl) (by simp only [Act.put, ea, eb, ec, zy, zz]; rfl) ?_
           exact zpa (by simp only [zac, Act.put, List.setIfInBounds_toArray, List.set_cons_zero, List.set_cons_succ]) (hCont (gb227) _ ⟨hHeld, (by (with_reducible repeat (first | apply Kd.R_alloc | apply Kd.R_drewN | apply Kd.R_drew)); exact HO_5.out), (by (with_reducible repeat (first | refine zb ?_ _ | refine zd ?_ | refine za ?_ _)); exact BK190.out), (by (with_reducible repeat (first | refine zb ?_ _ | refine zd ?_ | refine za ?_ _)); exact BK227.out), GW227.out, GE227.out, NB190_227.out, NB227_190.out, (by repeat (first | (with_reducible first | exact HB.out | apply zg | apply zc | apply zf | refine zi ?_ GE190.out | refine zi ?_ GE227.out) | exact HB.out))⟩)
          skip
          refine zbc ?hg (N := 13) ?hd (cs := #[.int .i8 0, .bool false]) (t := 38) ?hr ?_; (case hd => rfl); (case hg => rfl); (case hr => first | (go_simp; done) | (go_simp; rfl))
          intro gb227 hg w73 hbox hb
          have n0_ := ze.mk (Kd.R_below (by (with_reducible repeat (first | apply Kd.R_alloc | apply Kd.R_drewN | apply Kd.R_drew)); exact HO_5.out) hb)
          have n1_ := ze.mk (zk (by (with_reducible repeat (first | refine zb ?_ _ | refine zd ?_ | refine za ?_ _)); exact BK190.out) hb)
          have n2_ := ze.mk (zt (by repeat (first | (with_reducible first | exact HB.out | apply zg | apply zc | apply zf | refine zi ?_ GE190.out) | exact HB.out)) hb)
          have n3_ := ze.mk (hbox)
          have n4_ := ze.mk ((by rw [hg]; exact (zaa (by repeat (first | (with_reducible first | exact HB.out | apply zg | apply zc | apply zf | refine zi ?_ GE190.out) | exact HB.out))) : w.heap.size ≤ gb227))
          have n5_ := ze.mk ((by rw [hg]; exact (zaa (by repeat (first | (with_reducible first | exact HB.out | apply zg | apply zc | apply zf | refine zi ?_ GE190.out) | exact HB.out))) : w.heap.size ≤ gb227))
          have n6_ := ze.mk ((by rw [hg]; exact Nat.ne_of_lt (zba (by (with_reducible repeat (first | refine zb ?_ _ | refine zd ?_ | refine za ?_ _)); exact BK190.out)) : gb190 ≠ gb227))
          have n7_ := ze.mk ((by rw [hg]; exact Nat.ne_of_gt (zba (by (with_reducible repeat (first | refine zb ?_ _ | refine zd ?_ | refine za ?_ _)); exact BK190.out)) : gb227 ≠ gb190))
          clear HO_5
          clear BK190
          clear HB
          have HO_5 := n0_
          have BK190 := n1_
          have HB := n2_
          have BK227 := n3_
          have GW227 := n4_
          have GE227 := n5_
          have NB190_227 := n6_
          have NB227_190 := n7_
          clear n0_ n1_ n2_ n3_ n4_ n5_ n6_ n7_
          clear hb hbox hg
          refine hK.out _ _ ⟨(zo BK190.out 0).trans rfl, (zo BK190.out 1).trans rfl, (zo BK190.out 2).trans rfl⟩ (fun hHeld => ?_)
          clear hK K
          refine zpa (a' := ?_) ?_ ?_
          rotate_left
          ·show Act.put _ (some 13) _ = _
           simp only [Act.put, List.setIfInBounds_toArray, List.set_cons_zero, List.set_cons_succ, zy, zz]
           rfl
          refine one_ (i := 3) (N := some 83) #[T, T, T, T, F, F, F, F, T, F, F] rfl rfl (zta HT_.out (by kernel_rfl)) (by decide) (fun K hK => ?_)
          refine zdb Try.func45 (by kernel_rfl) rfl #[.int .i64 (wrap64 (a0_0)), .int .i64 x76_2] (by rfl) rfl rfl (by (try simp only [List.map_toArray, List.map_cons, List.map_nil]); first | done | rfl | (simp only [List.length_drop, List.length_take]; rfl)) ?_
          with_reducible refine (impl_wordAt.calls k2 (wrap64 (a0_0)) x76_2 t220 t221 t222 t223 _ A57.out).mono ?_
          rintro e w74 ⟨rfl, hb⟩
          refine ⟨_, rfl, ?_⟩
          have n0_ := ze.mk (Kd.R_below (by (with_reducible repeat (first | apply Kd.R_alloc | apply Kd.R_drewN | apply Kd.R_drew)); exact HO_5.out) hb)
          have n1_ := ze.mk (zk (by (with_reducible repeat (first | refine zb ?_ _ | refine zd ?_ | refine za ?_ _)); exact BK190.out) hb)
          have n2_ := ze.mk (zk (by (with_reducible repeat (first | refine zb ?_ _ | refine zd ?_ | refine za ?_ _)); exact BK227.out) hb)
          have n3_ := ze.mk (zt (by repeat (first | (with_reducible first | exact HB.out | apply zg | apply zc | apply zf | refine zi ?_ GE190.out | refine zi ?_ GE227.out) | exact HB.out)) hb)
          clear HO_5
          clear BK190
          clear BK227
          clear HB
          have HO_5 := n0_
          have BK190 := n1_
          have BK227 := n2_
          have HB := n3_
          clear n0_ n1_ n2_ n3_
          (try clear hb)
          (try clear hb2)
          (try clear hk)
          (try clear hi)
          refine hK.out _ _ ⟨(zo BK190.out 0).trans rfl, (zo BK190.out 1).trans rfl, (zo BK190.out 2).trans rfl⟩ (fun hHeld => ?_)
          clear hK K
          refine zpa (a' := ?_) ?_ ?_
          rotate_left
          ·show Act.put _ (some 83) _ = _
           simp only [Act.put, List.setIfInBounds_toArray, List.set_cons_zero, List.set_cons_succ, zy, zz]
           rfl
          refine one_ (i := 4) (N := some 84) #[T, T, T, T, T, F, F, F, T, F, F] rfl rfl (zta HT_.out (by kernel_rfl)) (by decide) (fun K hK => ?_)
          refine zdb Try.func68 (by kernel_rfl) rfl #[.agg #[.int .i8 a0_0, .int .i8 a0_1, .slice A0_2 l0_2.length c0_2], .agg #[.int .i8 t220, .int .i8 t221, .int .i8 t222, .int .i8 t223]] (by rfl) rfl rfl (by (try simp only [List.map_toArray, List.map_cons, List.map_nil]); first | done | rfl | (simp only [List.length_drop, List.length_take]; rfl)) ?_
          with_reducible refine (impl_Fixed_decode.calls k2 a0_0 a0_1 _ _ l0_2 t220 t221 t222 t223 t224 t225 false _ ?side1 ?side2 A58.out).mono ?_
          (case side1 => repeat (first | exact (Kd.C_below HR0_2.out HB.out) | (with_reducible refine Kd.C_alloc ?_ _) | (with_reducible refine Kd.C_drewN ?_ _) | (with_reducible refine Kd.C_drew ?_)))
          (case side2 => exact HC0_2.out)
          rintro e w75 ⟨rfl, hb⟩
          refine ⟨_, rfl, ?_⟩
          have n0_ := ze.mk (Kd.R_below (by (with_reducible repeat (first | apply Kd.R_alloc | apply Kd.R_drewN | apply Kd.R_drew)); exact HO_5.out) hb)
          have n1_ := ze.mk (zk (by (with_reducible repeat (first | refine zb ?_ _ | refine zd ?_ | refine za ?_ _)); exact BK190.out) hb)
          have n2_ := ze.mk (zk (by (with_reducible repeat (first | refine zb ?_ _ | refine zd ?_ | refine za ?_ _)); exact BK227.out) hb)
          have n3_ := ze.mk (zt (by repeat (first | (with_reducible first | exact HB.out | apply zg | apply zc | apply zf | refine zi ?_ GE190.out | refine zi ?_ GE227.out) | exact HB.out)) hb)
          clear HO_5
          clear BK190
          clear BK227
          clear HB
          have HO_5 := n0_
          have BK190 := n1_
          have BK227 := n2_
          have HB := n3_
          clear n0_ n1_ n2_ n3_
          (try clear hb)
          (try clear hb2)
          (try clear hk)
          (try clear hi)
          refine hK.out _ _ ⟨(zo BK190.out 0).trans rfl, (zo BK190.out 1).trans rfl, (zo BK190.out 2).trans rfl⟩ (fun hHeld => ?_)
          clear hK K
          refine zpa (a' := ?_) ?_ ?_
          rotate_left
          ·show Act.put _ (some 84) _ = _
           simp only [Act.put, List.setIfInBounds_toArray, List.set_cons_zero, List.set_cons_succ, zy, zz]
           rfl
          refine pb 5 79 #[T, T, T, T, T, T, F, F, T, F, F] rfl rfl HT_.out (by kernel_rfl) pq (by rfl) (by intro w'; go_simp; with_reducible rfl) (by simp only [Act.put, ea, eb, ec, zy, zz]; rfl) ?_
          refine pb 6 85 #[T, T, T, T, T, T, T, F, T, F, F] rfl rfl HT_.out (by kernel_rfl) pq (by rfl) (by intro w'; go_simp; with_reducible rfl) (by simp only [Act.put, ea, eb, ec, zy, zz]; rfl) ?_
          refine pb 7 86 (fm 11 9) rfl rfl HT_.out (by kernel_rfl) pq (by rfl) (by intro w'; go_simp; with_reducible rfl) (by simp only [Act.put, ea, eb, ec, zy, zz]; rfl) ?_
          exact zpa (by simp only [zac, Act.put, List.setIfInBounds_toArray, List.set_cons_zero, List.set_cons_succ]) (hCont (gb227) _ ⟨hHeld, (by (with_reducible repeat (first | apply Kd.R_alloc | apply Kd.R_drewN | apply Kd.R_drew)); exact HO_5.out), (by (with_reducible repeat (first | refine zb ?_ _ | refine zd ?_ | refine za ?_ _)); exact BK190.out), (by (with_reducible repeat (first | refine zb ?_ _ | refine zd ?_ | refine za ?_ _)); exact BK227.out), GW227.out, GE227.out, NB190_227.out, NB227_190.out, (by repeat (first | (with_reducible first | exact HB.out | apply zg | apply zc | apply zf | refine zi ?_ GE190.out | refine zi ?_ GE227.out) | exact HB.out))⟩)
         rintro gb227 w76 ⟨hS_, h0_, h1_, h2_, h3_, h4_, h5_, h6_, h7_⟩
         have n0_ : ze (Kd.R k102 102 w76 w.heap.size (fun _ => True) u5 x5_2) := ⟨h0_⟩
         have n1_ : ze (w76.heap[gb190]? = some (.cells #[.int .i8 a0_0, .int .i8 a0_1, .slice A0_2 l0_2.length c0_2] 28 (0, 0))) := ⟨h1_⟩
         have n2_ : ze (w76.heap[gb227]? = some (.cells #[.int .i8 0, .bool false] 38 (0, 0))) := ⟨h2_⟩
         have n3_ : ze (w.heap.size ≤ gb227) := ⟨h3_⟩
         have n4_ : ze (w.heap.size ≤ gb227) := ⟨h4_⟩
         have n5_ : ze (gb190 ≠ gb227) := ⟨h5_⟩
         have n6_ : ze (gb227 ≠ gb190) := ⟨h6_⟩
         have n7_ : ze (Below w.heap.size w w76) := ⟨h7_⟩
         clear HO_5
         clear BK190
         clear HB
         clear h0_ h1_ h2_ h3_ h4_ h5_ h6_ h7_
         have HO_5 := n0_
         have BK190 := n1_
         have BK227 := n2_
         have GW227 := n3_
         have GE227 := n4_
         have NB190_227 := n5_
         have NB227_190 := n6_
         have HB := n7_
         clear n0_ n1_ n2_ n3_ n4_ n5_ n6_ n7_
         have hHeld : w76.cell? ⟨gb190, 0, none⟩ = some (.int .i8 a0_0) ∧ w76.cell? ⟨gb190, 1, none⟩ = some (.int .i8 a0_1) ∧ w76.cell? ⟨gb190, 2, none⟩ = some (.slice A0_2 l0_2.length c0_2) := hS_
         refine zpa (a' := ?_) ?_ ?_
         rotate_left
         ·simp only [zac, Act.put, List.setIfInBounds_toArray, List.set_cons_zero, List.set_cons_succ]
          rfl
         refine one_ (i := 9) (N := none) (fm 11 10) rfl rfl (zta HT_.out (by kernel_rfl)) (by decide) (fun K hK => ?_)
         have hs77 : w76.cell? ⟨gb227, 0, none⟩ = some (.int .i8 0) := (zo BK227.out 0).trans rfl
         have hfs77 := zw BK227.out 0
         have hns77_0 := NB190_227.out
         have hms77_0 := NB227_190.out
         have hs78 : w76.cell? ⟨gb227, 1, none⟩ = some (.bool false) := (zo BK227.out 1).trans rfl
         have hfs78 := zw BK227.out 1
         have hns78_0 := NB190_227.out
         have hms78_0 := NB227_190.out
         refine skip_ (w1 := ?_) (by rfl) rfl ?_ ?_
         rotate_left
         ·go_simp
          rfl
         refine hK.out _ _ ⟨((zx (p := ⟨gb227, _, none⟩) NB190_227.out _).trans (((zx (p := ⟨gb227, _, none⟩) NB190_227.out _).trans (hHeld.1)))), ((zx (p := ⟨gb227, _, none⟩) NB190_227.out _).trans (((zx (p := ⟨gb227, _, none⟩) NB190_227.out _).trans (hHeld.2.1)))), ((zx (p := ⟨gb227, _, none⟩) NB190_227.out _).trans (((zx (p := ⟨gb227, _, none⟩) NB190_227.out _).trans (hHeld.2.2))))⟩ (fun hHeld => ?_)
         clear hK K
         refine pb 10 14 (fm 11 11) rfl rfl HT_.out (by kernel_rfl) pq (by rfl) (by intro w'; go_simp; with_reducible rfl) (by simp only [Act.put, ea, eb, ec, zy, zz]; rfl) ?_
         refine zxb (zcb HT_.out (by kernel_rfl)) ?_
         have hnb79 := NB227_190.out
         have hnc79 := NB190_227.out
         obtain ⟨y15_0, y15_1, z16_0, z16_1⟩ := cf2 BK227.out; have hs_80 := set2 y15_0 y15_1
         try go_wp2_with (first | ((with_reducible refine zga (b := .append) (xs := #[.tmp 90, .tmp 93]) rfl ?_); at_builtin; refine Kd.R_append k102 (w0 := w) w.heap.size rfl (.tmp 90) (.tmp 93) 51 102 (.agg #[(.int .i8 0), (.int .i8 0), (.int .i8 0), (.int .i8 0), (.int .i8 0), (.int .i8 0), (.int .i8 0), (.int .i8 0), (.int .i8 0), (.int .i8 0), (.int .i8 0), (.int .i8 0), (.int .i8 0), (.int .i8 0), (.int .i16 0), (.int .i16 0), (.int .i16 0), (.int .i8 0), (.bool false), (.bool false)]) 24 rfl Try.underlying51 zyc rfl (by decide) (by omega) u5 x5_2 (⟨(⟨0, 0, 0, 0, 0, 0, 0, 0, 0, 0, 0, 0, 0, 0⟩ : S96), (⟨0, 0, 0⟩ : S100), (⟨(-1), false⟩ : S38), true⟩ : S102) [.int .i8 0, .int .i8 0, .int .i8 0, .int .i8 0, .int .i8 0, .int .i8 0, .int .i8 0, .int .i8 0, .int .i8 0, .int .i8 0, .int .i8 0, .int .i8 0, .int .i8 0, .int .i8 0, .int .i16 0, .int .i16 0, .int .i16 0, .int .i8 (-1), .bool false, .bool true] (fun _ => True) (fun _ => False) rfl (by first | (go_simp; done) | (go_simp; rfl)) ?aP (fun _ hk => hk.elim) ?aF ?aO ?aB ?aS ?aL ?_; (case aP => exact zza _ _ _ (⟨(⟨0, 0, 0, 0, 0, 0, 0, 0, 0, 0, 0, 0, 0, 0⟩ : S96), (⟨0, 0, 0⟩ : S100), (⟨(-1), false⟩ : S38), true⟩ : S102)); (case aB => exact (by repeat (first | (with_reducible first | exact HB.out | apply zg | apply zc | apply zf | refine zi ?_ GE190.out | refine zi ?_ GE227.out) | exact HB.out))); (case aF => exact (fun _ _ => trivial)); (case aO => exact (by (with_reducible repeat (first | apply Kd.R_alloc | apply Kd.R_drewN | apply Kd.R_drew)); exact Kd.R_mono (Kd.R_far (p := ⟨gb227, 1, none⟩) (Kd.R_far (p := ⟨gb227, 0, none⟩) (Kd.R_far (p := ⟨gb227, 1, none⟩) (Kd.R_far (p := ⟨gb227, 0, none⟩) (Kd.R_types HO_5.out BK227.out (by decide)) (fun _ hk => hk.2) (.int .i8 t224)) (fun _ hk => hk.2) (.bool t225)) (fun _ hk => hk.2) (.int .i8 (-1))) (fun _ hk => hk.2) (.bool false)) (fun _ hk => trivial))); (case aS => exact (zaa (by repeat (first | (with_reducible first | exact HB.out | apply zg | apply zc | apply zf | refine zi ?_ GE190.out | refine zi ?_ GE227.out) | exact HB.out)))); (case aL => have := LMc71.out; omega); intro v232 w81 ho hb hg hat; rw [← Ny231.out] at ho; have n0_ := ze.mk (zla (g := gb190) (o := .cells #[.int .i8 a0_0, .int .i8 a0_1, .slice A0_2 l0_2.length c0_2] 28 (0, 0)) (by (with_reducible repeat (first | refine zb ?_ _ | refine zd ?_ | refine za ?_ _)); refine zq ?_ NB190_227.out _; (with_reducible repeat (first | refine zb ?_ _ | refine zd ?_ | refine za ?_ _)); refine zq ?_ NB190_227.out _; (with_reducible repeat (first | refine zb ?_ _ | refine zd ?_ | refine za ?_ _)); refine zq ?_ NB190_227.out _; (with_reducible repeat (first | refine zb ?_ _ | refine zd ?_ | refine za ?_ _)); refine zq ?_ NB190_227.out _; (with_reducible repeat (first | refine zb ?_ _ | refine zd ?_ | refine za ?_ _)); exact BK190.out) hg (Kd.R_ne HO_5.out BK190.out (by decide))); have n1_ := ze.mk (zla (g := gb227) (o := .cells #[.int .i8 (-1), .bool false] 38 (0, 0)) (by (with_reducible repeat (first | refine zb ?_ _ | refine zd ?_ | refine za ?_ _)); refine zp (cs := #[.int .i8 (-1), .bool t225]) ?_ 1 _ rfl; (with_reducible repeat (first | refine zb ?_ _ | refine zd ?_ | refine za ?_ _)); refine zp (cs := #[.int .i8 t224, .bool t225]) ?_ 0 _ rfl; (with_reducible repeat (first | refine zb ?_ _ | refine zd ?_ | refine za ?_ _)); refine zp (cs := #[.int .i8 t224, .bool false]) ?_ 1 _ rfl; (with_reducible repeat (first | refine zb ?_ _ | refine zd ?_ | refine za ?_ _)); refine zp (cs := #[.int .i8 0, .bool false]) ?_ 0 _ rfl; (with_reducible repeat (first | refine zb ?_ _ | refine zd ?_ | refine za ?_ _)); exact BK227.out) hg (Kd.R_ne HO_5.out BK227.out (by decide))); have n2_ := ze.mk (hb); have n3_ := ze.mk (ho); clear BK190; clear BK227; clear HB; clear HO_5; have BK190 := n0_; have BK227 := n1_; have HB := n2_; have HO233 := n3_; clear n0_ n1_ n2_ n3_; clear ho hb hg hat))
         go_roundg k2
         case measure => have := HK1.out; have := HK2.out; omega
         case rel => exact ⟨(y231), (wrap64 (x76_2 + 1)), (by first | rfl | (simp; done) | (simp [*]; done)), H', ⟨by have := HK1.out; have := HK2.out; omega⟩, ⟨by (with_reducible repeat (first | apply Kd.R_alloc | apply Kd.R_drewN | apply Kd.R_drew)); exact HO233.out⟩, ⟨by (with_reducible repeat (first | refine zb ?_ _ | refine zd ?_ | refine za ?_ _)); exact BK190.out⟩, ⟨by repeat (first | (with_reducible first | exact HB.out | apply zg | apply zc | apply zf | refine zi ?_ GE190.out | refine zi ?_ GE227.out) | exact HB.out)⟩⟩
        rw [if_neg c71] at H
        exact absurd H (by simp)
       rw [if_neg c56] at H
       have c56b0 : decide (x76_2 < t219) = false := decide_eq_false c56
       clear c56
       simp only [Option.some.injEq, Prod.mk.injEq] at H
       obtain ⟨rfl, rfl⟩ := H
       go_wp2
       go_ret2
       exact ⟨_, by first | rfl | (simp [zn, zm] <;> rfl) | (simp [*, zn, zm] <;> rfl), by (with_reducible repeat (first | apply Kd.R_alloc | apply Kd.R_drewN | apply Kd.R_drew)); exact HO_5.out, by repeat (first | (with_reducible first | exact HB.out | apply zg | apply zc | apply zf | refine zi ?_ GE190.out) | exact HB.out)⟩
  replace c10 := Bool.eq_false_iff.mpr c10
  subst c10
  have H1 : (some (([] : List (S102)), 4)) = some (r1, r2) := by rw [if_neg (show ¬ (false = true) by decide)] at H; exact H
  clear H
  have H := H1
  clear H1
  simp only [Option.some.injEq, Prod.mk.injEq] at H
  obtain ⟨rfl, rfl⟩ := H
  go_enter Try.func21, Try.ntmps21
  go_wp2_with (first | ((with_reducible refine zu (N := 1) rfl ?_); refine zr ?hg (N := 1) ?hd (cs := #[.int .i8 a0_0, .int .i8 a0_1, .slice A0_2 l0_2.length c0_2]) (t := 28) ?hr ?_; (case hd => rfl); (case hg => rfl); (case hr => first | (go_simp; done) | (go_simp; rfl)); intro gb190 hg w82 hbox hb; obtain ⟨n0_, n2_⟩ := bx (by repeat (first | (with_reducible first | exact HB.out | apply zg | apply zc | apply zf) | exact HB.out)) hb hg; have n1_ := ze.mk (hbox); have n3_ := n2_; clear HB; have HB := n0_; have BK190 := n1_; have GW190 := n2_; have GE190 := n3_; clear n0_ n1_ n2_ n3_; clear hb hbox hg; obtain ⟨y16_0, y16_1, y16_2, z17_0, z17_1, z17_2⟩ := cf3 BK190.out) | ((with_reducible refine zs (f := 56) rfl ?_); refine zda (some 17) rfl rfl Try.func56 (by kernel_rfl) rfl #[.agg #[.int .i8 a0_0, .int .i8 a0_1, .slice A0_2 l0_2.length c0_2]] rfl (by (try simp only [List.map_toArray, List.map_cons, List.map_nil]); first | done | rfl | (simp only [List.length_drop, List.length_take]; rfl)) ?_; (with_reducible refine (impl_ValidFixed.calls k a0_0 a0_1 _ _ l0_2 true _ ?side1 ?side2 A2.out).mono ?_); (case side1 => repeat (first | exact (Kd.C_below HR0_2.out HB.out) | (with_reducible refine Kd.C_alloc ?_ _) | (with_reducible refine Kd.C_drewN ?_ _) | (with_reducible refine Kd.C_drew ?_))); (case side2 => exact HC0_2.out); rintro e w84 ⟨rfl, hb⟩; refine ⟨_, rfl, ?_⟩; have n0_ := ze.mk (zk (by (with_reducible repeat (first | refine zb ?_ _ | refine zd ?_ | refine za ?_ _)); exact BK190.out) hb); have n1_ := ze.mk (zt (by repeat (first | (with_reducible first | exact HB.out | apply zg | apply zc | apply zf | refine zi ?_ GE190.out) | exact HB.out)) hb); clear BK190; clear HB; have BK190 := n0_; have HB := n1_; clear n0_ n1_; (try clear hb); (try clear hb2); (try clear hk); (try clear hi); obtain ⟨y17_0, y17_1, y17_2, z18_0, z18_1, z18_2⟩ := cf3 BK190.out) | ((with_reducible refine zs (f := 57) rfl ?_); refine zda (some 26) rfl rfl Try.func57 (by kernel_rfl) rfl #[.agg #[.int .i8 a0_0, .int .i8 a0_1, .slice A0_2 l0_2.length c0_2]] rfl (by (try simp only [List.map_toArray, List.map_cons, List.map_nil]); first | done | rfl | (simp only [List.length_drop, List.length_take]; rfl)) ?_; (with_reducible refine (impl_Fixed_isBalanced.calls k a0_0 a0_1 _ _ l0_2 false _ ?side1 ?side2 A9.out).mono ?_); (case side1 => repeat (first | exact (Kd.C_below HR0_2.out HB.out) | (with_reducible refine Kd.C_alloc ?_ _) | (with_reducible refine Kd.C_drewN ?_ _) | (with_reducible refine Kd.C_drew ?_))); (case side2 => exact HC0_2.out); rintro e w86 ⟨rfl, hb⟩; refine ⟨_, rfl, ?_⟩; have n0_ := ze.mk (zk (by (with_reducible repeat (first | refine zb ?_ _ | refine zd ?_ | refine za ?_ _)); exact BK190.out) hb); have n1_ := ze.mk (zt (by repeat (first | (with_reducible first | exact HB.out | apply zg | apply zc | apply zf | refine zi ?_ GE190.out) | exact HB.out)) hb); clear BK190; clear HB; have BK190 := n0_; have HB := n1_; clear n0_ n1_; (try clear hb); (try clear hb2); (try clear hk); (try clear hi)))
  go_ret2
  exact ⟨_, by first | rfl | (simp [zn, zm] <;> rfl) | (simp [*, zn, zm] <;> rfl), by first | exact Kd.R_nil _ _ _ _ _ | exact Kd.N_nil _ _ _ _ _ | exact Kd.V_nil _ _ _ _ _ | exact Kd.Q_nil _ _ _ _ _ | exact Kd.S_nil _ _ _ _ _, by repeat (first | (with_reducible first | exact HB.out | apply zg | apply zc | apply zf | refine zi ?_ GE190.out) | exact HB.out)⟩
 replace c3 := Bool.eq_false_iff.mpr c3
 subst c3
 have H1 : (some (([] : List (S102)), 1)) = some (r1, r2) := by rw [if_neg (show ¬ (false = true) by decide)] at H; exact H
 clear H
 have H := H1
 clear H1
 simp only [Option.some.injEq, Prod.mk.injEq] at H
 obtain ⟨rfl, rfl⟩ := H
 go_enter Try.func21, Try.ntmps21
 go_wp2_with (first | ((with_reducible refine zu (N := 1) rfl ?_); refine zr ?hg (N := 1) ?hd (cs := #[.int .i8 a0_0, .int .i8 a0_1, .slice A0_2 l0_2.length c0_2]) (t := 28) ?hr ?_; (case hd => rfl); (case hg => rfl); (case hr => first | (go_simp; done) | (go_simp; rfl)); intro gb190 hg w87 hbox hb; obtain ⟨n0_, n2_⟩ := bx (by repeat (first | (with_reducible first | exact HB.out | apply zg | apply zc | apply zf) | exact HB.out)) hb hg; have n1_ := ze.mk (hbox); have n3_ := n2_; clear HB; have HB := n0_; have BK190 := n1_; have GW190 := n2_; have GE190 := n3_; clear n0_ n1_ n2_ n3_; clear hb hbox hg; obtain ⟨y18_0, y18_1, y18_2, z19_0, z19_1, z19_2⟩ := cf3 BK190.out) | ((with_reducible refine zs (f := 56) rfl ?_); refine zda (some 17) rfl rfl Try.func56 (by kernel_rfl) rfl #[.agg #[.int .i8 a0_0, .int .i8 a0_1, .slice A0_2 l0_2.length c0_2]] rfl (by (try simp only [List.map_toArray, List.map_cons, List.map_nil]); first | done | rfl | (simp only [List.length_drop, List.length_take]; rfl)) ?_; (with_reducible refine (impl_ValidFixed.calls k a0_0 a0_1 _ _ l0_2 false _ ?side1 ?side2 A2.out).mono ?_); (case side1 => repeat (first | exact (Kd.C_below HR0_2.out HB.out) | (with_reducible refine Kd.C_alloc ?_ _) | (with_reducible refine Kd.C_drewN ?_ _) | (with_reducible refine Kd.C_drew ?_))); (case side2 => exact HC0_2.out); rintro e w89 ⟨rfl, hb⟩; refine ⟨_, rfl, ?_⟩; have n0_ := ze.mk (zk (by (with_reducible repeat (first | refine zb ?_ _ | refine zd ?_ | refine za ?_ _)); exact BK190.out) hb); have n1_ := ze.mk (zt (by repeat (first | (with_reducible first | exact HB.out | apply zg | apply zc | apply zf | refine zi ?_ GE190.out) | exact HB.out)) hb); clear BK190; clear HB; have BK190 := n0_; have HB := n1_; clear n0_ n1_; (try clear hb); (try clear hb2); (try clear hk); (try clear hi)))
 go_ret2
 exact ⟨_, by first | rfl | (simp [zn, zm] <;> rfl) | (simp [*, zn, zm] <;> rfl), by first | exact Kd.R_nil _ _ _ _ _ | exact Kd.N_nil _ _ _ _ _ | exact Kd.V_nil _ _ _ _ _ | exact Kd.Q_nil _ _ _ _ _ | exact Kd.S_nil _ _ _ _ _, by repeat (first | (with_reducible first | exact HB.out | apply zg | apply zc | apply zf | refine zi ?_ GE190.out) | exact HB.out)⟩
end Go.Proofs.Ytmfbcklaomigaaa.M
