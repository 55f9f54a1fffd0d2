-- Written by wip/tools/myprint.py, a program of this session, by way of the kit's print.
import Derived.Test.YtmfbcklaomigaaaNx0
import Derived.Test.YtmfbcklaomigaaaNx11
import Derived.Test.YtmfbcklaomigaaaNx12
import Derived.Test.YtmfbcklaomigaaaLPrN
namespace Go.Proofs.Ytmfbcklaomigaaa.N
open Go.RowKit Go.Proofs.YtmfbcklaomigaaaW.PrintWords Go.Proofs.YtmfbcklaomigaaaW.PrintLast Go.Proofs.YtmfbcklaomigaaaW.PrintMore
attribute [local go_sem] zqa zpa zwa zxa zla zka zra zta   -- for this text's walks alone
set_option linter.unusedVariables false
set_option linter.unusedSimpArgs false

-- NOT PRINTED: function 79 (impl_Case_79)

-- NOT PRINTED: function 84 (impl_Case_84)

/-! ### impl_DecodeNear_1: function 85 -/
def impl_DecodeNear_1.f (k : Nat) (a0_0 : Int) (a0_1 : Bool) (a1_0 : Int) (a1_1 : Int) (l1_2 : List (S43)) (a2_0 : Int) (a2_1 : Int) (a2_2 : Int) (a2_3 : Int) (a3_0 : Int) : Option (Bool) := (impl_Fixed_seen.f k a1_0 a1_1 l1_2 a0_0 a0_1).bind fun bt392 => ((impl_distance.f k bt392.1 bt392.2.1 bt392.2.2.1 bt392.2.2.2 a2_0 a2_1 a2_2 a2_3).bind fun t396 => (some (decide (t396 > a3_0))))
def impl_DecodeNear_1.T1 : Bool × List (List Nat × List Nat) := (true, [([], []), ([], []), ([0, 1], [0, 1]), ([], []), ([2, 3, 2], [2, 3]), ([], []), ([4, 5], [4, 5]), ([6, 4, 0, 1, 2, 3, 4, 5, 6], [6])])
def impl_DecodeNear_1.B1 : List Nat := [0, 0, 3, 0, 15, 0, 63, 127]
theorem impl_DecodeNear_1.tab1 : rtab .any (zme Try.f85 1) = impl_DecodeNear_1.T1 := by kernel_rfl
theorem impl_DecodeNear_1.bits1 : zpb impl_DecodeNear_1.T1.2 impl_DecodeNear_1.B1 = true := by kernel_rfl
set_option maxHeartbeats 8000000 in
set_option maxRecDepth 100000 in
theorem impl_DecodeNear_1.calls (k : Nat) (a0_0 : Int) (a0_1 : Bool) (g1 : Nat) (a1_0 : Int) (a1_1 : Int) (A1_2 : Option Addr) (c1_2 : Nat) (l1_2 : List (S43)) (g2 : Nat) (a2_0 : Int) (a2_1 : Int) (a2_2 : Int) (a2_3 : Int) (g3 : Nat) (a3_0 : Int) (r : Bool) (w : World) (hb1 : w.heap[g1]? = some (.cells #[.int .i8 a1_0, .int .i8 a1_1, .slice A1_2 l1_2.length c1_2] 28 (0, 0))) (hr1_2 : Kd.C k43 w A1_2 l1_2.length l1_2) (hc1_2 : l1_2.length ≤ c1_2) (hb2 : w.heap[g2]? = some (.cells #[.int .i8 a2_0, .int .i8 a2_1, .int .i8 a2_2, .int .i8 a2_3] 43 (0, 0))) (hb3 : w.heap[g3]? = some (.cells #[.int .i64 a3_0] 2 (0, 0))) (h : impl_DecodeNear_1.f k a0_0 a0_1 a1_0 a1_1 l1_2 a2_0 a2_1 a2_2 a2_3 a3_0 = some r) :
  Calls Try.prog 85 #[.agg #[.int .i8 a0_0, .bool a0_1], .pointer (some ⟨g1, 0, none⟩), .pointer (some ⟨g2, 0, none⟩), .pointer (some ⟨g3, 0, none⟩)] w fun e w' => e = .returned (.bool r) ∧ Below w.heap.size w w' := by
 have hu38 := Try.underlying38
 have hu28 := Try.underlying28
 have hu43 := Try.underlying43
 have HR1_2 := za.mk hr1_2
 have HC1_2 := za.mk hc1_2
 clear hr1_2 hc1_2
 have BK1 := za.mk hb1
 clear hb1
 have BK2 := za.mk hb2
 clear hb2
 have BK3 := za.mk hb3
 clear hb3
 have HB := za.mk (Below.refl w.heap.size w)
 have H : ((impl_Fixed_seen.f k a1_0 a1_1 l1_2 a0_0 a0_1).bind fun bt392 => ((impl_distance.f k bt392.1 bt392.2.1 bt392.2.2.1 bt392.2.2.2 a2_0 a2_1 a2_2 a2_3).bind fun t396 => (some (decide (t396 > a3_0))))) = some r := h
 clear h
 replace H := Option.bind_eq_some_iff.mp H
 obtain ⟨⟨t392, t393, t394, t395⟩, A50, H⟩ := H
 replace H : ((impl_distance.f k t392 t393 t394 t395 a2_0 a2_1 a2_2 a2_3).bind fun t396 => (some (decide (t396 > a3_0)))) = some r := H
 have A5 := za.mk A50
 clear A50
 replace H := Option.bind_eq_some_iff.mp H
 obtain ⟨t396, A60, H⟩ := H
 replace H : (some (decide (t396 > a3_0))) = some r := H
 have A6 := za.mk A60
 clear A60
 obtain rfl := Option.some.inj H
 go_enter Try.func85, Try.ntmps85
 try go_wp2_with (first | ((with_reducible refine zn (N := 4) rfl ?_); refine bx (N := 4) #[.int .i8 a0_0, .bool a0_1] 38 rfl ?_; intro gb391 hg w7 hbox hb; have BK391 := za.mk hbox; have GW391 := gB hg; have GE391 := GW391; have NB1_391 := nK hg BK1; have NB391_1 := za.mk (nK hg BK1).out.symm; have NB2_391 := nK hg BK2; have NB391_2 := za.mk (nK hg BK2).out.symm; have NB3_391 := nK hg BK3; have NB391_3 := za.mk (nK hg BK3).out.symm; replace BK1 := dK BK1 hb; replace BK2 := dK BK2 hb; replace BK3 := dK BK3 hb; replace HB := za.mk (ze sB hb); clear hb hbox hg))
 have n0_ := za.mk (zd BK1.out)
 have n1_ := za.mk (zd BK2.out)
 have n2_ := za.mk (zd BK3.out)
 have n3_ := za.mk (zd BK391.out)
 have n4_ := za.mk (zt HB.out)
 clear BK1
 clear BK2
 clear BK3
 clear BK391
 clear HB
 have BK1 := n0_
 have BK2 := n1_
 have BK3 := n2_
 have BK391 := n3_
 have HB := n4_
 clear n0_ n1_ n2_ n3_ n4_
 refine zbc (n := 8) (S := fun w' => w'.cell? ⟨g1, 0, none⟩ = some (.int .i8 a1_0) ∧ w'.cell? ⟨g1, 1, none⟩ = some (.int .i8 a1_1) ∧ w'.cell? ⟨g1, 2, none⟩ = some (.slice A1_2 l1_2.length c1_2) ∧ w'.cell? ⟨gb391, 0, none⟩ = some (.int .i8 a0_0) ∧ w'.cell? ⟨gb391, 1, none⟩ = some (.bool a0_1) ∧ w'.cell? ⟨g2, 0, none⟩ = some (.int .i8 a2_0) ∧ w'.cell? ⟨g2, 1, none⟩ = some (.int .i8 a2_1) ∧ w'.cell? ⟨g2, 2, none⟩ = some (.int .i8 a2_2) ∧ w'.cell? ⟨g2, 3, none⟩ = some (.int .i8 a2_3) ∧ w'.cell? ⟨g3, 0, none⟩ = some (.int .i64 a3_0)) (ds := []) #[false, false, false, false, false, false, false, false] (by kernel_rfl) rfl rfl ⟨(zh BK1.out 0).trans rfl, (zh BK1.out 1).trans rfl, (zh BK1.out 2).trans rfl, (zh BK391.out 0).trans rfl, (zh BK391.out 1).trans rfl, (zh BK2.out 0).trans rfl, (zh BK2.out 1).trans rfl, (zh BK2.out 2).trans rfl, (zh BK2.out 3).trans rfl, (zh BK3.out 0).trans rfl⟩ (fun hHeld => ?_); refine zib impl_DecodeNear_1.tab1 impl_DecodeNear_1.bits1 (fun HT_ HW_ => ?_)
 generalize w7.drew = w8 at BK1 BK2 BK3 BK391 HB hHeld ⊢
 refine take_ (i := 0) (N := some 6) (v := ?_) (a' := ?_) #[true, false, false, false, false, false, false, false] rfl rfl (zsa HT_.out HW_.out (by kernel_rfl)) (fun _ _ _ h => h) (Or.inl ⟨by rfl, ?_⟩) hHeld ?_ ?_
 rotate_left
 ·rintro w' ⟨s0, s1, s2, s3, s4, s5, s6, s7, s8, s9⟩
  go_simp
  with_reducible rfl
 rotate_left
 ·simp only [Act.put, List.setIfInBounds_toArray, List.set_cons_zero, List.set_cons_succ, zda, zfa]
  rfl
 refine take_ (i := 1) (N := some 7) (v := ?_) (a' := ?_) #[true, true, false, false, false, false, false, false] rfl rfl (zsa HT_.out HW_.out (by kernel_rfl)) (fun _ _ _ h => h) (Or.inl ⟨by rfl, ?_⟩) hHeld ?_ ?_
 rotate_left
 ·rintro w' ⟨s0, s1, s2, s3, s4, s5, s6, s7, s8, s9⟩
  go_simp
  with_reducible rfl
 rotate_left
 ·simp only [Act.put, List.setIfInBounds_toArray, List.set_cons_zero, List.set_cons_succ, zda, zfa]
  rfl
 refine take_ (i := 3) (N := some 9) (v := ?_) (a' := ?_) #[true, true, false, true, false, false, false, false] rfl rfl (zsa HT_.out HW_.out (by kernel_rfl)) (fun _ _ _ h => h) (Or.inl ⟨by rfl, ?_⟩) hHeld ?_ ?_
 rotate_left
 ·rintro w' ⟨s0, s1, s2, s3, s4, s5, s6, s7, s8, s9⟩
  go_simp
  with_reducible rfl
 rotate_left
 ·simp only [Act.put, List.setIfInBounds_toArray, List.set_cons_zero, List.set_cons_succ, zda, zfa]
  rfl
 refine take_ (i := 5) (N := some 11) (v := ?_) (a' := ?_) #[true, true, false, true, false, true, false, false] rfl rfl (zsa HT_.out HW_.out (by kernel_rfl)) (fun _ _ _ h => h) (Or.inl ⟨by rfl, ?_⟩) hHeld ?_ ?_
 rotate_left
 ·rintro w' ⟨s0, s1, s2, s3, s4, s5, s6, s7, s8, s9⟩
  go_simp
  with_reducible rfl
 rotate_left
 ·simp only [Act.put, List.setIfInBounds_toArray, List.set_cons_zero, List.set_cons_succ, zda, zfa]
  rfl
 refine one_ (i := 2) (N := some 8) #[true, true, true, true, false, true, false, false] rfl rfl (zgb HT_.out (by kernel_rfl)) (by decide) (fun K hK => ?_)
 refine zxb Try.func62 (by kernel_rfl) rfl #[.agg #[.int .i8 a1_0, .int .i8 a1_1, .slice A1_2 l1_2.length c1_2], .agg #[.int .i8 a0_0, .bool a0_1]] (by rfl) rfl rfl (by (try simp only [List.map_toArray, List.map_cons, List.map_nil]); first | done | rfl | (simp only [List.length_drop, List.length_take]; rfl)) ?_
 with_reducible refine (impl_Fixed_seen.calls k a1_0 a1_1 _ _ l1_2 a0_0 a0_1 t392 t393 t394 t395 _ ?side1 ?side2 A5.out).mono ?_
 (case side1 => exact uC HR1_2 HB)
 (case side2 => exact HC1_2.out)
 rintro e w9 ⟨rfl, hb⟩
 refine ⟨_, rfl, ?_⟩
 have n0_ := dK BK1 hb
 have n1_ := dK BK2 hb
 have n2_ := dK BK3 hb
 have n3_ := dK BK391 hb
 have n4_ := za.mk (ze sB hb)
 clear BK1
 clear BK2
 clear BK3
 clear BK391
 clear HB
 have BK1 := n0_
 have BK2 := n1_
 have BK3 := n2_
 have BK391 := n3_
 have HB := n4_
 clear n0_ n1_ n2_ n3_ n4_
 (try clear hb)
 (try clear hb2)
 (try clear hk)
 (try clear hi)
 refine hK.out _ _ ⟨(zh BK1.out 0).trans rfl, (zh BK1.out 1).trans rfl, (zh BK1.out 2).trans rfl, (zh BK391.out 0).trans rfl, (zh BK391.out 1).trans rfl, (zh BK2.out 0).trans rfl, (zh BK2.out 1).trans rfl, (zh BK2.out 2).trans rfl, (zh BK2.out 3).trans rfl, (zh BK3.out 0).trans rfl⟩ (fun hHeld => ?_)
 clear hK K
 refine zub (a' := ?_) ?_ ?_
 rotate_left
 ·show Act.put _ (some 8) _ = _
  simp only [Act.put, List.setIfInBounds_toArray, List.set_cons_zero, List.set_cons_succ, zda, zfa]
  rfl
 refine one_ (i := 4) (N := some 10) #[true, true, true, true, true, true, false, false] rfl rfl (zgb HT_.out (by kernel_rfl)) (by decide) (fun K hK => ?_)
 refine zxb Try.func63 (by kernel_rfl) rfl #[.agg #[.int .i8 t392, .int .i8 t393, .int .i8 t394, .int .i8 t395], .agg #[.int .i8 a2_0, .int .i8 a2_1, .int .i8 a2_2, .int .i8 a2_3]] (by rfl) rfl rfl (by (try simp only [List.map_toArray, List.map_cons, List.map_nil]); first | done | rfl | (simp only [List.length_drop, List.length_take]; rfl)) ?_
 with_reducible refine (impl_distance.calls k t392 t393 t394 t395 a2_0 a2_1 a2_2 a2_3 t396 _ A6.out).mono ?_
 rintro e w10 ⟨rfl, hb⟩
 refine ⟨_, rfl, ?_⟩
 have n0_ := dK BK1 hb
 have n1_ := dK BK2 hb
 have n2_ := dK BK3 hb
 have n3_ := dK BK391 hb
 have n4_ := za.mk (ze sB hb)
 clear BK1
 clear BK2
 clear BK3
 clear BK391
 clear HB
 have BK1 := n0_
 have BK2 := n1_
 have BK3 := n2_
 have BK391 := n3_
 have HB := n4_
 clear n0_ n1_ n2_ n3_ n4_
 (try clear hb)
 (try clear hb2)
 (try clear hk)
 (try clear hi)
 refine hK.out _ _ ⟨(zh BK1.out 0).trans rfl, (zh BK1.out 1).trans rfl, (zh BK1.out 2).trans rfl, (zh BK391.out 0).trans rfl, (zh BK391.out 1).trans rfl, (zh BK2.out 0).trans rfl, (zh BK2.out 1).trans rfl, (zh BK2.out 2).trans rfl, (zh BK2.out 3).trans rfl, (zh BK3.out 0).trans rfl⟩ (fun hHeld => ?_)
 clear hK K
 refine zub (a' := ?_) ?_ ?_
 rotate_left
 ·show Act.put _ (some 10) _ = _
  simp only [Act.put, List.setIfInBounds_toArray, List.set_cons_zero, List.set_cons_succ, zda, zfa]
  rfl
 refine zva (i := 6) (N := some 12) (v := ?_) (a' := ?_) #[true, true, true, true, true, true, true, false] rfl rfl (zia HT_.out (by kernel_rfl)) (fun _ _ _ h => h) (Or.inl ⟨by rfl, ?_⟩) ?_ ?_
 rotate_left
 ·intro w'
  go_simp
  with_reducible rfl
 rotate_left
 ·simp only [Act.put, List.setIfInBounds_toArray, List.set_cons_zero, List.set_cons_succ, zda, zfa]
  rfl
 refine zva (i := 7) (N := some 5) (v := ?_) (a' := ?_) #[true, true, true, true, true, true, true, true] rfl rfl (zia HT_.out (by kernel_rfl)) (fun _ _ _ h => h) (Or.inl ⟨by rfl, ?_⟩) ?_ ?_
 rotate_left
 ·intro w'
  go_simp
  with_reducible rfl
 rotate_left
 ·simp only [Act.put, List.setIfInBounds_toArray, List.set_cons_zero, List.set_cons_succ, zda, zfa]
  rfl
 refine zjd (ztb HT_.out (by kernel_rfl)) ?_
 try go_wp2
 go_ret
 exact ⟨by first | rfl | (simp [zk, zj] <;> rfl) | (simp [*, zk, zj] <;> rfl), sB⟩

/-! ### impl_Case_79_85: function 1079085 -/
def impl_Case_79_85.l0 : Nat → List (S38) → Int → Int → Int → Int → List (S43) → Int → Int → Int → Int → Int → Option (Int)
 | 0, _, _, _, _, _, _, _, _, _, _, _ => none
 | k + 1, x0, x7, x8, x31000, x31001, x31002, x32000, x32001, x32002, x32003, x33000 => if x8 < x7 then (if 0 ≤ x8 then (if x8 < (x0.length : Int) then ((impl_DecodeNear_1.f k ((zf x0 x8).f0) ((zf x0 x8).f1) x31000 x31001 x31002 x32000 x32001 x32002 x32003 x33000).bind fun t398 => (if t398 = true then (some x8) else (impl_Case_79_85.l0 k x0 x7 (wrap64 (x8 + 1)) x31000 x31001 x31002 x32000 x32001 x32002 x32003 x33000))) else (none)) else (none)) else (some (-1))
def impl_Case_79_85.f (k : Nat) (l0 : List (S38)) (a1_0 : Int) (a1_1 : Int) (l1_2 : List (S43)) (a1_3 : Int) (a1_4 : Int) (a1_5 : Int) (a1_6 : Int) (a1_7 : Int) : Option (Int) := impl_Case_79_85.l0 k l0 (l0.length : Int) 0 a1_0 a1_1 l1_2 a1_3 a1_4 a1_5 a1_6 a1_7
set_option maxHeartbeats 8000000 in
set_option maxRecDepth 100000 in
theorem impl_Case_79_85.calls (k : Nat) (A0 : Option Addr) (c0 : Nat) (l0 : List (S38)) (g200 : Nat) (g201 : Nat) (g202 : Nat) (a1_0 : Int) (a1_1 : Int) (A1_2 : Option Addr) (c1_2 : Nat) (l1_2 : List (S43)) (a1_3 : Int) (a1_4 : Int) (a1_5 : Int) (a1_6 : Int) (a1_7 : Int) (r : Int) (w : World) (hr0 : Kd.C k38 w A0 l0.length l0) (hc0 : l0.length ≤ c0) (hb30 : w.heap[g200]? = some (.cells #[.int .i8 a1_0, .int .i8 a1_1, .slice A1_2 l1_2.length c1_2] 28 (0, 0))) (hb31 : w.heap[g201]? = some (.cells #[.int .i8 a1_3, .int .i8 a1_4, .int .i8 a1_5, .int .i8 a1_6] 43 (0, 0))) (hb32 : w.heap[g202]? = some (.cells #[.int .i64 a1_7] 2 (0, 0))) (hr1_2 : Kd.C k43 w A1_2 l1_2.length l1_2) (hc1_2 : l1_2.length ≤ c1_2) (h : impl_Case_79_85.f k l0 a1_0 a1_1 l1_2 a1_3 a1_4 a1_5 a1_6 a1_7 = some r) :
  Calls Try.prog 79 #[.slice A0 l0.length c0, .func (.func 85) #[] #[.pointer (some ⟨g200, 0, none⟩), .pointer (some ⟨g201, 0, none⟩), .pointer (some ⟨g202, 0, none⟩)]] w fun e w' => e = .returned (.int .i64 r) ∧ Below w.heap.size w w' := by
 have hu38 := Try.underlying38
 have HR0 := za.mk hr0
 have HC0 := za.mk hc0
 clear hr0 hc0
 have HR1_2 := za.mk hr1_2
 have HC1_2 := za.mk hc1_2
 clear hr1_2 hc1_2
 have BK30 := za.mk hb30
 clear hb30
 have BK31 := za.mk hb31
 clear hb31
 have BK32 := za.mk hb32
 clear hb32
 have HB := za.mk (Below.refl w.heap.size w)
 have H : (impl_Case_79_85.l0 k l0 (l0.length : Int) 0 a1_0 a1_1 l1_2 a1_3 a1_4 a1_5 a1_6 a1_7) = some r := h
 clear h
 have H' := za.mk H
 clear H
 go_enter Try.func79, Try.ntmps79
 go_wp2
 go_loopg [8] k (fun kq v8 w' => ∃ (x8_1 : Int), v8 = .int .i64 x8_1 ∧ za (impl_Case_79_85.l0 kq l0 (l0.length : Int) x8_1 a1_0 a1_1 l1_2 a1_3 a1_4 a1_5 a1_6 a1_7 = some r) ∧ za (kq ≤ k) ∧ za (w'.heap[g200]? = some (.cells #[.int .i8 a1_0, .int .i8 a1_1, (.slice A1_2 l1_2.length c1_2)] 28 (0, 0))) ∧ za (w'.heap[g201]? = some (.cells #[.int .i8 a1_3, .int .i8 a1_4, .int .i8 a1_5, .int .i8 a1_6] 43 (0, 0))) ∧ za (w'.heap[g202]? = some (.cells #[.int .i64 a1_7] 2 (0, 0))) ∧ za (Below w.heap.size w w'))
 case atStart => exact ⟨(0), (by first | rfl | (simp; done) | (simp [*]; done)), H', ⟨Nat.le_refl _⟩, ⟨uK BK30⟩, ⟨uK BK31⟩, ⟨uK BK32⟩, ⟨sB⟩⟩
 case round =>
  clear H'
  try clear c1
  try clear p2
  obtain ⟨x8_1, rfl, HA, HK1, BK30, BK31, BK32, HB⟩ := hrel
  cases gk with
  | zero => exact absurd HA.out (by simp [impl_Case_79_85.l0])
  | succ k1 =>
   have H := HA.out
   clear HA
   simp only [impl_Case_79_85.l0] at H
   by_cases c3 : x8_1 < (l0.length : Int)
   ·rw [if_pos c3] at H
    have c3b0 : decide (x8_1 < (l0.length : Int)) = true := decide_eq_true c3
    clear c3
    by_cases c4 : 0 ≤ x8_1
    ·rw [if_pos c4] at H
     have c4b0 : decide (0 ≤ x8_1) = true := decide_eq_true c4
     clear c4
     by_cases c5 : x8_1 < (l0.length : Int)
     ·rw [if_pos c5] at H
      have c5b0 : decide (x8_1 < (l0.length : Int)) = true := decide_eq_true c5
      clear c5
      replace H := Option.bind_eq_some_iff.mp H
      obtain ⟨t398, A60, H⟩ := H
      replace H : (if t398 = true then (some x8_1) else (impl_Case_79_85.l0 k1 l0 (l0.length : Int) (wrap64 (x8_1 + 1)) a1_0 a1_1 l1_2 a1_3 a1_4 a1_5 a1_6 a1_7)) = some r := H
      have A6 := za.mk A60
      clear A60
      by_cases c7 : t398 = true
      ·subst c7
       have H1 : (some x8_1) = some r := by rw [if_pos rfl] at H; exact H
       clear H
       have H := H1
       clear H1
       obtain rfl := Option.some.inj H
       have p397 : 0 ≤ (x8_1 : Int) := of_decide_eq_true (by first | (with_reducible assumption) | assumption)
       have q397 : x8_1 < (l0.length : Int) := of_decide_eq_true (by first | (with_reducible assumption) | assumption)
       obtain ⟨ad397, e397, hx397_0, hx397_1⟩ := zsb HR0.out x8_1 p397 q397
       cases e397
       replace hx397_0 := (HB.out.cell (World.block_lt_of_cell? w _ hx397_0)).trans hx397_0
       replace hx397_1 := (HB.out.cell (World.block_lt_of_cell? w _ hx397_1)).trans hx397_1
       replace p397 := eq_true p397
       replace q397 := eq_true q397
       go_wp2_with (first | (go_at_call 85; (with_reducible refine (impl_DecodeNear_1.calls k1 ((zf l0 x8_1).f0) ((zf l0 x8_1).f1) g200 a1_0 a1_1 A1_2 c1_2 l1_2 g201 a1_3 a1_4 a1_5 a1_6 g202 a1_7 true _ ?side1 ?side2 ?side3 ?side4 ?side5 A6.out).mono ?_); (case side1 => exact uK BK30); (case side2 => exact uC HR1_2 HB); (case side3 => exact HC1_2.out); (case side4 => exact uK BK31); (case side5 => exact uK BK32); rintro e w8 ⟨rfl, hb⟩; replace BK30 := dK BK30 hb; replace BK31 := dK BK31 hb; replace BK32 := dK BK32 hb; replace HB := za.mk (ze sB hb); try clear hb))
       go_ret
       exact ⟨by first | rfl | (simp [zk, zj] <;> rfl) | (simp [*, zk, zj] <;> rfl), sB⟩
      replace c7 := Bool.eq_false_iff.mpr c7
      subst c7
      have H1 : (impl_Case_79_85.l0 k1 l0 (l0.length : Int) (wrap64 (x8_1 + 1)) a1_0 a1_1 l1_2 a1_3 a1_4 a1_5 a1_6 a1_7) = some r := by rw [if_neg (show ¬ (false = true) by decide)] at H; exact H
      clear H
      have H := H1
      clear H1
      have H' := za.mk H
      clear H
      have p397 : 0 ≤ (x8_1 : Int) := of_decide_eq_true (by first | (with_reducible assumption) | assumption)
      have q397 : x8_1 < (l0.length : Int) := of_decide_eq_true (by first | (with_reducible assumption) | assumption)
      obtain ⟨ad397, e397, hx397_0, hx397_1⟩ := zsb HR0.out x8_1 p397 q397
      cases e397
      replace hx397_0 := (HB.out.cell (World.block_lt_of_cell? w _ hx397_0)).trans hx397_0
      replace hx397_1 := (HB.out.cell (World.block_lt_of_cell? w _ hx397_1)).trans hx397_1
      replace p397 := eq_true p397
      replace q397 := eq_true q397
      go_wp2_with (first | (go_at_call 85; (with_reducible refine (impl_DecodeNear_1.calls k1 ((zf l0 x8_1).f0) ((zf l0 x8_1).f1) g200 a1_0 a1_1 A1_2 c1_2 l1_2 g201 a1_3 a1_4 a1_5 a1_6 g202 a1_7 false _ ?side1 ?side2 ?side3 ?side4 ?side5 A6.out).mono ?_); (case side1 => exact uK BK30); (case side2 => exact uC HR1_2 HB); (case side3 => exact HC1_2.out); (case side4 => exact uK BK31); (case side5 => exact uK BK32); rintro e w9 ⟨rfl, hb⟩; replace BK30 := dK BK30 hb; replace BK31 := dK BK31 hb; replace BK32 := dK BK32 hb; replace HB := za.mk (ze sB hb); try clear hb))
      go_roundg k1
      case measure => have := HK1.out; omega
      case rel => exact ⟨(wrap64 (x8_1 + 1)), (by first | rfl | (simp; done) | (simp [*]; done)), H', ⟨by have := HK1.out; omega⟩, ⟨uK BK30⟩, ⟨uK BK31⟩, ⟨uK BK32⟩, ⟨sB⟩⟩
     rw [if_neg c5] at H
     exact absurd H (by simp)
    rw [if_neg c4] at H
    exact absurd H (by simp)
   rw [if_neg c3] at H
   have c3b0 : decide (x8_1 < (l0.length : Int)) = false := decide_eq_false c3
   clear c3
   obtain rfl := Option.some.inj H
   go_wp2
   go_ret
   exact ⟨by first | rfl | (simp [zk, zj] <;> rfl) | (simp [*, zk, zj] <;> rfl), sB⟩

end Go.Proofs.Ytmfbcklaomigaaa.N
