-- Written by wip/tools/myprint.py, a program of this session, by way of the kit's print.
import Derived.Test.YtmfbcklaomigaaaNx0
import Derived.Test.YtmfbcklaomigaaaNx2
import Derived.Test.YtmfbcklaomigaaaNx3
import Derived.Test.YtmfbcklaomigaaaNx15
import Derived.Test.YtmfbcklaomigaaaLPrN
namespace Go.Proofs.Ytmfbcklaomigaaa.N
open Go.RowKit Go.Proofs.YtmfbcklaomigaaaW.PrintWords Go.Proofs.YtmfbcklaomigaaaW.PrintLast Go.Proofs.YtmfbcklaomigaaaW.PrintMore
attribute [local go_sem] zqa zpa zwa zxa zla zka zra zta   -- for this text's walks alone
set_option linter.unusedVariables false
set_option linter.unusedSimpArgs false

/-! ### spec_l04Ok: function 59 -/
mutual
def spec_l04Ok.j0 : Nat → Bool → Int → Int → List (S43) → Option (Bool)
 | 0, _, _, _, _ => none
 | k + 1, x28, x1000, x1001, x1002 => if x28 = true then (some false) else (spec_l04Ok.l0 k 0 x1000 x1001 x1002)
def spec_l04Ok.l0 : Nat → Int → Int → Int → List (S43) → Option (Bool)
 | 0, _, _, _, _ => none
 | k + 1, x3, x1000, x1001, x1002 => if x3 < (x1002.length : Int) then (if 0 ≤ x3 then ((spec_l04Word.f k (wrap64 (x1000)) ((zx x1002 x3).f0) ((zx x1002 x3).f1) ((zx x1002 x3).f2) ((zx x1002 x3).f3)).bind fun t333 => (if t333 = true then (spec_l04Ok.l0 k (wrap64 (x3 + 1)) x1000 x1001 x1002) else (some false))) else (none)) else (some true)
end
def spec_l04Ok.f (k : Nat) (a0_0 : Int) (a0_1 : Int) (l0_2 : List (S43)) : Option (Bool) := (spec_l04Letters.f (wrap64 (a0_0))).bind fun t329 => (if t329 = true then ((spec_l04Kind.f (wrap64 (a0_1))).bind fun t330 => (if t330 = true then ((spec_l00In.f (l0_2.length : Int) 1 80).bind fun t331 => (spec_l04Ok.j0 k (!t331) a0_0 a0_1 l0_2)) else (spec_l04Ok.j0 k true a0_0 a0_1 l0_2))) else (spec_l04Ok.j0 k true a0_0 a0_1 l0_2))
def spec_l04Ok.T6 : Bool × List (List Nat × List Nat) := (true, [([], []), ([0], [0]), ([1], [1]), ([2], [2]), ([3], [3]), ([], []), ([5], [5]), ([6], [6]), ([7], [7]), ([], []), ([8, 9], [8, 9]), ([10], [10]), ([4, 11], [4, 11]), ([12], [12])])
def spec_l04Ok.B6 : List Nat := [0, 1, 3, 7, 15, 0, 32, 96, 224, 0, 992, 2016, 4095, 8191]
theorem spec_l04Ok.tab6 : rtab .any (zme Try.f59 6) = spec_l04Ok.T6 := by kernel_rfl
theorem spec_l04Ok.bits6 : zpb spec_l04Ok.T6.2 spec_l04Ok.B6 = true := by kernel_rfl
set_option maxHeartbeats 8000000 in
set_option maxRecDepth 100000 in
theorem spec_l04Ok.calls (k : Nat) (g0 : Nat) (a0_0 : Int) (a0_1 : Int) (A0_2 : Option Addr) (c0_2 : Nat) (l0_2 : List (S43)) (r : Bool) (w : World) (hb0 : w.heap[g0]? = some (.cells #[.int .i8 a0_0, .int .i8 a0_1, .slice A0_2 l0_2.length c0_2] 28 (0, 0))) (hr0_2 : Kd.C k43 w A0_2 l0_2.length l0_2) (hc0_2 : l0_2.length ≤ c0_2) (h : spec_l04Ok.f k a0_0 a0_1 l0_2 = some r) :
  Calls Try.prog 59 #[.pointer (some ⟨g0, 0, none⟩)] w fun e w' => e = .returned (.bool r) ∧ Below w.heap.size w w' := by
 have hu43 := Try.underlying43
 have HR0_2 := za.mk hr0_2
 have HC0_2 := za.mk hc0_2
 clear hr0_2 hc0_2
 have BK0 := za.mk hb0
 clear hb0
 have HB := za.mk (Below.refl w.heap.size w)
 have H : ((spec_l04Letters.f (wrap64 (a0_0))).bind fun t329 => (if t329 = true then ((spec_l04Kind.f (wrap64 (a0_1))).bind fun t330 => (if t330 = true then ((spec_l00In.f (l0_2.length : Int) 1 80).bind fun t331 => (spec_l04Ok.j0 k (!t331) a0_0 a0_1 l0_2)) else (spec_l04Ok.j0 k true a0_0 a0_1 l0_2))) else (spec_l04Ok.j0 k true a0_0 a0_1 l0_2))) = some r := h
 clear h
 have HC2 := za.mk H
 clear H
 go_enter Try.func59, Try.ntmps59
 go_upto_region 1 with (fail)
 go_cut [28] (fun v28 wc => ∃ (kq : Nat) (x28_1 : Bool), v28 = .bool x28_1 ∧ za (spec_l04Ok.j0 kq x28_1 a0_0 a0_1 l0_2 = some r) ∧ za (kq ≤ k) ∧ za (wc.heap[g0]? = some (.cells #[.int .i8 a0_0, .int .i8 a0_1, (.slice A0_2 l0_2.length c0_2)] 28 (0, 0))) ∧ za (Below w.heap.size w wc))
 case first =>
  have H := HC2.out
  clear HC2
  replace H := Option.bind_eq_some_iff.mp H
  obtain ⟨t329, A30, H⟩ := H
  replace H : (if t329 = true then ((spec_l04Kind.f (wrap64 (a0_1))).bind fun t330 => (if t330 = true then ((spec_l00In.f (l0_2.length : Int) 1 80).bind fun t331 => (spec_l04Ok.j0 k (!t331) a0_0 a0_1 l0_2)) else (spec_l04Ok.j0 k true a0_0 a0_1 l0_2))) else (spec_l04Ok.j0 k true a0_0 a0_1 l0_2)) = some r := H
  have A3 := za.mk A30
  clear A30
  by_cases c4 : t329 = true
  ·subst c4
   have H1 : ((spec_l04Kind.f (wrap64 (a0_1))).bind fun t330 => (if t330 = true then ((spec_l00In.f (l0_2.length : Int) 1 80).bind fun t331 => (spec_l04Ok.j0 k (!t331) a0_0 a0_1 l0_2)) else (spec_l04Ok.j0 k true a0_0 a0_1 l0_2))) = some r := by rw [if_pos rfl] at H; exact H
   clear H
   have H := H1
   clear H1
   replace H := Option.bind_eq_some_iff.mp H
   obtain ⟨t330, A50, H⟩ := H
   replace H : (if t330 = true then ((spec_l00In.f (l0_2.length : Int) 1 80).bind fun t331 => (spec_l04Ok.j0 k (!t331) a0_0 a0_1 l0_2)) else (spec_l04Ok.j0 k true a0_0 a0_1 l0_2)) = some r := H
   have A5 := za.mk A50
   clear A50
   by_cases c6 : t330 = true
   ·subst c6
    have H1 : ((spec_l00In.f (l0_2.length : Int) 1 80).bind fun t331 => (spec_l04Ok.j0 k (!t331) a0_0 a0_1 l0_2)) = some r := by rw [if_pos rfl] at H; exact H
    clear H
    have H := H1
    clear H1
    replace H := Option.bind_eq_some_iff.mp H
    obtain ⟨t331, A70, H⟩ := H
    replace H : (spec_l04Ok.j0 k (!t331) a0_0 a0_1 l0_2) = some r := H
    have A7 := za.mk A70
    clear A70
    have H' := za.mk H
    clear H
    obtain ⟨hcz8_0, hcz8_1, hcz8_2⟩ := xc3 BK0
    obtain ⟨hfz8_0, hfz8_1, hfz8_2⟩ := xf3 BK0
    go_wp2_with (first | ((with_reducible refine zo (f := 49) rfl ?_); refine gz (some 9) Try.func49 #[.int .i64 (wrap64 (a0_0))] rfl rfl ?_; (with_reducible refine (spec_l04Letters.calls (wrap64 (a0_0)) true _ A3.out).mono ?_); rintro e w' ⟨rfl, ⟨nd, rfl⟩⟩; refine ⟨_, rfl, ?_⟩) | (go_at_call 50; (with_reducible refine (spec_l04Kind.calls (wrap64 (a0_1)) true _ A5.out).mono ?_); rintro e w' ⟨rfl, ⟨nd, rfl⟩⟩) | (go_at_call 51; (with_reducible refine (spec_l00In.calls (l0_2.length : Int) 1 80 t331 _ A7.out).mono ?_); rintro e w' ⟨rfl, ⟨nd, rfl⟩⟩))
    go_meet
    case rel => exact ⟨_, (!t331), (by first | rfl | (simp; done) | (simp [*]; done)), H', ⟨by first | omega | exact Nat.le_refl _⟩, ⟨uK BK0⟩, ⟨sB⟩⟩
   replace c6 := Bool.eq_false_iff.mpr c6
   subst c6
   have H1 : (spec_l04Ok.j0 k true a0_0 a0_1 l0_2) = some r := by rw [if_neg (show ¬ (false = true) by decide)] at H; exact H
   clear H
   have H := H1
   clear H1
   have H' := za.mk H
   clear H
   obtain ⟨hcz9_0, hcz9_1, hcz9_2⟩ := xc3 BK0
   obtain ⟨hfz9_0, hfz9_1, hfz9_2⟩ := xf3 BK0
   go_wp2_with (first | ((with_reducible refine zo (f := 49) rfl ?_); refine gz (some 9) Try.func49 #[.int .i64 (wrap64 (a0_0))] rfl rfl ?_; (with_reducible refine (spec_l04Letters.calls (wrap64 (a0_0)) true _ A3.out).mono ?_); rintro e w' ⟨rfl, ⟨nd, rfl⟩⟩; refine ⟨_, rfl, ?_⟩) | (go_at_call 50; (with_reducible refine (spec_l04Kind.calls (wrap64 (a0_1)) false _ A5.out).mono ?_); rintro e w' ⟨rfl, ⟨nd, rfl⟩⟩))
   go_meet
   case rel => exact ⟨_, (true), (by first | rfl | (simp; done) | (simp [*]; done)), H', ⟨by first | omega | exact Nat.le_refl _⟩, ⟨uK BK0⟩, ⟨sB⟩⟩
  replace c4 := Bool.eq_false_iff.mpr c4
  subst c4
  have H1 : (spec_l04Ok.j0 k true a0_0 a0_1 l0_2) = some r := by rw [if_neg (show ¬ (false = true) by decide)] at H; exact H
  clear H
  have H := H1
  clear H1
  have H' := za.mk H
  clear H
  obtain ⟨hcz10_0, hcz10_1, hcz10_2⟩ := xc3 BK0
  obtain ⟨hfz10_0, hfz10_1, hfz10_2⟩ := xf3 BK0
  go_wp2_with (first | ((with_reducible refine zo (f := 49) rfl ?_); refine gz (some 9) Try.func49 #[.int .i64 (wrap64 (a0_0))] rfl rfl ?_; (with_reducible refine (spec_l04Letters.calls (wrap64 (a0_0)) false _ A3.out).mono ?_); rintro e w' ⟨rfl, ⟨nd, rfl⟩⟩; refine ⟨_, rfl, ?_⟩))
  go_meet
  case rel => exact ⟨_, (true), (by first | rfl | (simp; done) | (simp [*]; done)), H', ⟨by first | omega | exact Nat.le_refl _⟩, ⟨uK BK0⟩, ⟨sB⟩⟩
 case rest =>
  clear HC2
  try clear p2
  try clear c4
  try clear c5
  try clear c6
  try clear p6
  try clear hcz10_0 hcz10_1 hcz10_2
  try clear hcz8_0 hcz8_1 hcz8_2
  try clear hcz9_0 hcz9_1 hcz9_2
  try clear hfz10_0 hfz10_1 hfz10_2
  try clear hfz8_0 hfz8_1 hfz8_2
  try clear hfz9_0 hfz9_1 hfz9_2
  obtain ⟨kq, x28_1, rfl, HA, HJ1, BK0, HB⟩ := hcut
  cases kq with
  | zero => exact absurd HA.out (by simp [spec_l04Ok.j0])
  | succ kj1 =>
   have H := HA.out
   clear HA
   simp only [spec_l04Ok.j0] at H
   by_cases c11 : x28_1 = true
   ·subst c11
    have H1 : (some false) = some r := by rw [if_pos rfl] at H; exact H
    clear H
    have H := H1
    clear H1
    obtain rfl := Option.some.inj H
    go_wp2
    go_ret
    exact ⟨by first | rfl | (simp [zk, zj] <;> rfl) | (simp [*, zk, zj] <;> rfl), sB⟩
   replace c11 := Bool.eq_false_iff.mpr c11
   subst c11
   have H1 : (spec_l04Ok.l0 kj1 0 a0_0 a0_1 l0_2) = some r := by rw [if_neg (show ¬ (false = true) by decide)] at H; exact H
   clear H
   have H := H1
   clear H1
   have H' := za.mk H
   clear H
   go_wp2
   go_loopg [3] kj1 (fun kq v3 w' => ∃ (x3_2 : Int), v3 = .int .i64 x3_2 ∧ za (spec_l04Ok.l0 kq x3_2 a0_0 a0_1 l0_2 = some r) ∧ za (kq ≤ kj1) ∧ za (w'.heap[g0]? = some (.cells #[.int .i8 a0_0, .int .i8 a0_1, (.slice A0_2 l0_2.length c0_2)] 28 (0, 0))) ∧ za (Below w.heap.size w w'))
   case atStart => exact ⟨(0), (by first | rfl | (simp; done) | (simp [*]; done)), H', ⟨Nat.le_refl _⟩, ⟨uK BK0⟩, ⟨sB⟩⟩
   case round =>
    clear H'
    try clear c1
    try clear p2
    try clear c4
    try clear c5
    try clear c6
    try clear p6
    try clear c11
    try clear hcz10_0 hcz10_1 hcz10_2
    try clear hcz8_0 hcz8_1 hcz8_2
    try clear hcz9_0 hcz9_1 hcz9_2
    try clear hfz10_0 hfz10_1 hfz10_2
    try clear hfz8_0 hfz8_1 hfz8_2
    try clear hfz9_0 hfz9_1 hfz9_2
    try clear p2
    try clear p6
    obtain ⟨x3_2, rfl, HA, HK2, BK0, HB⟩ := hrel
    cases gk with
    | zero => exact absurd HA.out (by simp [spec_l04Ok.l0])
    | succ k2 =>
     have H := HA.out
     clear HA
     simp only [spec_l04Ok.l0] at H
     by_cases c12 : x3_2 < (l0_2.length : Int)
     ·rw [if_pos c12] at H
      have c12b0 : decide (x3_2 < (l0_2.length : Int)) = true := decide_eq_true c12
      clear c12
      by_cases c13 : 0 ≤ x3_2
      ·rw [if_pos c13] at H
       have c13b0 : decide (0 ≤ x3_2) = true := decide_eq_true c13
       clear c13
       replace H := Option.bind_eq_some_iff.mp H
       obtain ⟨t333, A140, H⟩ := H
       replace H : (if t333 = true then (spec_l04Ok.l0 k2 (wrap64 (x3_2 + 1)) a0_0 a0_1 l0_2) else (some false)) = some r := H
       have A14 := za.mk A140
       clear A140
       by_cases c15 : t333 = true
       ·subst c15
        have H1 : (spec_l04Ok.l0 k2 (wrap64 (x3_2 + 1)) a0_0 a0_1 l0_2) = some r := by rw [if_pos rfl] at H; exact H
        clear H
        have H := H1
        clear H1
        have H' := za.mk H
        clear H
        obtain ⟨hcz16_0, hcz16_1, hcz16_2⟩ := xc3 BK0
        obtain ⟨hfz16_0, hfz16_1, hfz16_2⟩ := xf3 BK0
        try go_wp2
        have n0_ := za.mk (zd BK0.out)
        have n1_ := za.mk (zt HB.out)
        clear BK0
        clear HB
        have BK0 := n0_
        have HB := n1_
        clear n0_ n1_
        have p332 : 0 ≤ (x3_2 : Int) := of_decide_eq_true (by first | (with_reducible assumption) | assumption)
        have q332 : x3_2 < (l0_2.length : Int) := of_decide_eq_true (by first | (with_reducible assumption) | assumption)
        obtain ⟨ad332, e332, hx332_0, hx332_1, hx332_2, hx332_3⟩ := zhd HR0_2.out x3_2 p332 q332
        have hw332_3 := hx332_3
        have hw332_2 := hx332_2
        have hw332_1 := hx332_1
        have hw332_0 := hx332_0
        cases e332
        replace hx332_0 := (HB.out.cell (World.block_lt_of_cell? w _ hx332_0)).trans hx332_0
        replace hx332_1 := (HB.out.cell (World.block_lt_of_cell? w _ hx332_1)).trans hx332_1
        replace hx332_2 := (HB.out.cell (World.block_lt_of_cell? w _ hx332_2)).trans hx332_2
        replace hx332_3 := (HB.out.cell (World.block_lt_of_cell? w _ hx332_3)).trans hx332_3
        replace p332 := eq_true p332
        replace q332 := eq_true q332
        refine zbc (n := 14) (S := fun w' => w'.cell? ⟨g0, 0, none⟩ = some (.int .i8 a0_0) ∧ w'.cell? ⟨g0, 1, none⟩ = some (.int .i8 a0_1) ∧ w'.cell? ⟨g0, 2, none⟩ = some (.slice (some ad332) l0_2.length c0_2) ∧ w'.cell? (ad332.add ((x3_2).toNat * 4)) = some (.int .i8 ((zx l0_2 x3_2).f0)) ∧ w'.cell? ⟨(ad332.add ((x3_2).toNat * 4)).block, (ad332.add ((x3_2).toNat * 4)).off + 1, none⟩ = some (.int .i8 ((zx l0_2 x3_2).f1)) ∧ w'.cell? ⟨(ad332.add ((x3_2).toNat * 4)).block, (ad332.add ((x3_2).toNat * 4)).off + 2, none⟩ = some (.int .i8 ((zx l0_2 x3_2).f2)) ∧ w'.cell? ⟨(ad332.add ((x3_2).toNat * 4)).block, (ad332.add ((x3_2).toNat * 4)).off + 3, none⟩ = some (.int .i8 ((zx l0_2 x3_2).f3))) (ds := []) #[false, false, false, false, false, false, false, false, false, false, false, false, false, false] (by kernel_rfl) rfl rfl ⟨(zh BK0.out 0).trans rfl, (zh BK0.out 1).trans rfl, (zh BK0.out 2).trans rfl, ((HB.out.cell (World.block_lt_of_cell? w _ hw332_0)).trans hw332_0), ((HB.out.cell (World.block_lt_of_cell? w _ hw332_1)).trans hw332_1), ((HB.out.cell (World.block_lt_of_cell? w _ hw332_2)).trans hw332_2), ((HB.out.cell (World.block_lt_of_cell? w _ hw332_3)).trans hw332_3)⟩ (fun hHeld => ?_); refine zib spec_l04Ok.tab6 spec_l04Ok.bits6 (fun HT_ HW_ => ?_)
        generalize wr.drew = w17 at BK0 HB hx332_0 hx332_1 hx332_2 hx332_3 hHeld ⊢
        refine zva (i := 0) (N := some 38) (v := ?_) (a' := ?_) #[true, false, false, false, false, false, false, false, false, false, false, false, false, false] rfl rfl (zia HT_.out (by kernel_rfl)) (fun _ _ _ h => h) (Or.inl ⟨by rfl, ?_⟩) ?_ ?_
        rotate_left
        ·intro w'
         go_simp
         with_reducible rfl
        rotate_left
        ·simp only [Act.put, List.setIfInBounds_toArray, List.set_cons_zero, List.set_cons_succ, zda, zfa]
         rfl
        refine zva (i := 1) (N := some 39) (v := ?_) (a' := ?_) #[true, true, false, false, false, false, false, false, false, false, false, false, false, false] rfl rfl (zia HT_.out (by kernel_rfl)) (fun _ _ _ h => h) (Or.inl ⟨by rfl, ?_⟩) ?_ ?_
        rotate_left
        ·intro w'
         go_simp
         with_reducible rfl
        rotate_left
        ·simp only [Act.put, List.setIfInBounds_toArray, List.set_cons_zero, List.set_cons_succ, zda, zfa]
         rfl
        refine zva (i := 2) (N := some 40) (v := ?_) (a' := ?_) #[true, true, true, false, false, false, false, false, false, false, false, false, false, false] rfl rfl (zia HT_.out (by kernel_rfl)) (fun _ _ _ h => h) (Or.inl ⟨by rfl, ?_⟩) ?_ ?_
        rotate_left
        ·intro w'
         go_simp
         with_reducible rfl
        rotate_left
        ·simp only [Act.put, List.setIfInBounds_toArray, List.set_cons_zero, List.set_cons_succ, zda, zfa]
         rfl
        refine zva (i := 5) (N := some 43) (v := ?_) (a' := ?_) #[true, true, true, false, false, true, false, false, false, false, false, false, false, false] rfl rfl (zia HT_.out (by kernel_rfl)) (fun _ _ _ h => h) (Or.inl ⟨by rfl, ?_⟩) ?_ ?_
        rotate_left
        ·intro w'
         go_simp
         with_reducible rfl
        rotate_left
        ·simp only [Act.put, List.setIfInBounds_toArray, List.set_cons_zero, List.set_cons_succ, zda, zfa]
         rfl
        refine zva (i := 6) (N := some 44) (v := ?_) (a' := ?_) #[true, true, true, false, false, true, true, false, false, false, false, false, false, false] rfl rfl (zia HT_.out (by kernel_rfl)) (fun _ _ _ h => h) (Or.inl ⟨by rfl, ?_⟩) ?_ ?_
        rotate_left
        ·intro w'
         go_simp
         with_reducible rfl
        rotate_left
        ·simp only [Act.put, List.setIfInBounds_toArray, List.set_cons_zero, List.set_cons_succ, zda, zfa]
         rfl
        refine zva (i := 7) (N := some 45) (v := ?_) (a' := ?_) #[true, true, true, false, false, true, true, true, false, false, false, false, false, false] rfl rfl (zia HT_.out (by kernel_rfl)) (fun _ _ _ h => h) (Or.inl ⟨by rfl, ?_⟩) ?_ ?_
        rotate_left
        ·intro w'
         go_simp
         with_reducible rfl
        rotate_left
        ·simp only [Act.put, List.setIfInBounds_toArray, List.set_cons_zero, List.set_cons_succ, zda, zfa]
         rfl
        refine zva (i := 9) (N := some 47) (v := ?_) (a' := ?_) #[true, true, true, false, false, true, true, true, false, true, false, false, false, false] rfl rfl (zia HT_.out (by kernel_rfl)) (fun _ _ _ h => h) (Or.inl ⟨by rfl, ?_⟩) ?_ ?_
        rotate_left
        ·intro w'
         go_simp
         with_reducible rfl
        rotate_left
        ·simp only [Act.put, List.setIfInBounds_toArray, List.set_cons_zero, List.set_cons_succ, zda, zfa]
         rfl
        refine take_ (i := 3) (N := some 41) (v := ?_) (a' := ?_) #[true, true, true, true, false, true, true, true, false, true, false, false, false, false] rfl rfl (zsa HT_.out HW_.out (by kernel_rfl)) (fun _ _ _ h => h) (Or.inl ⟨by rfl, ?_⟩) hHeld ?_ ?_
        rotate_left
        ·rintro w' ⟨s0, s1, s2, s3, s4, s5, s6⟩
         go_simp
         with_reducible rfl
        rotate_left
        ·simp only [Act.put, List.setIfInBounds_toArray, List.set_cons_zero, List.set_cons_succ, zda, zfa]
         rfl
        refine zva (i := 4) (N := some 42) (v := ?_) (a' := ?_) #[true, true, true, true, true, true, true, true, false, true, false, false, false, false] rfl rfl (zia HT_.out (by kernel_rfl)) (fun _ _ _ h => h) (Or.inl ⟨by rfl, ?_⟩) ?_ ?_
        rotate_left
        ·intro w'
         go_simp
         with_reducible rfl
        rotate_left
        ·simp only [Act.put, List.setIfInBounds_toArray, List.set_cons_zero, List.set_cons_succ, zda, zfa]
         rfl
        refine take_ (i := 8) (N := some 46) (v := ?_) (a' := ?_) #[true, true, true, true, true, true, true, true, true, true, false, false, false, false] rfl rfl (zsa HT_.out HW_.out (by kernel_rfl)) (fun _ _ _ h => h) (Or.inl ⟨by rfl, ?_⟩) hHeld ?_ ?_
        rotate_left
        ·rintro w' ⟨s0, s1, s2, s3, s4, s5, s6⟩
         go_simp
         with_reducible rfl
        rotate_left
        ·simp only [Act.put, List.setIfInBounds_toArray, List.set_cons_zero, List.set_cons_succ, zda, zfa]
         rfl
        refine zva (i := 10) (N := some 48) (v := ?_) (a' := ?_) #[true, true, true, true, true, true, true, true, true, true, true, false, false, false] rfl rfl (zia HT_.out (by kernel_rfl)) (fun _ _ _ h => h) (Or.inl ⟨by rfl, ?_⟩) ?_ ?_
        rotate_left
        ·intro w'
         go_simp
         with_reducible rfl
        rotate_left
        ·simp only [Act.put, List.setIfInBounds_toArray, List.set_cons_zero, List.set_cons_succ, zda, zfa]
         rfl
        refine take_ (i := 11) (N := some 49) (v := ?_) (a' := ?_) #[true, true, true, true, true, true, true, true, true, true, true, true, false, false] rfl rfl (zsa HT_.out HW_.out (by kernel_rfl)) (fun _ _ _ h => h) (Or.inl ⟨by rfl, ?_⟩) hHeld ?_ ?_
        rotate_left
        ·rintro w' ⟨s0, s1, s2, s3, s4, s5, s6⟩
         go_simp
         with_reducible rfl
        rotate_left
        ·simp only [Act.put, List.setIfInBounds_toArray, List.set_cons_zero, List.set_cons_succ, zda, zfa]
         rfl
        refine one_ (i := 12) (N := some 50) #[true, true, true, true, true, true, true, true, true, true, true, true, true, false] rfl rfl (zgb HT_.out (by kernel_rfl)) (by decide) (fun K hK => ?_)
        refine zxb Try.func86 (by kernel_rfl) rfl #[.int .i64 (wrap64 (a0_0)), .agg #[.int .i8 ((zx l0_2 x3_2).f0), .int .i8 ((zx l0_2 x3_2).f1), .int .i8 ((zx l0_2 x3_2).f2), .int .i8 ((zx l0_2 x3_2).f3)]] (by rfl) rfl rfl (by (try simp only [List.map_toArray, List.map_cons, List.map_nil]); first | done | rfl | (simp only [List.length_drop, List.length_take]; rfl)) ?_
        with_reducible refine (spec_l04Word.calls k2 (wrap64 (a0_0)) ((zx l0_2 x3_2).f0) ((zx l0_2 x3_2).f1) ((zx l0_2 x3_2).f2) ((zx l0_2 x3_2).f3) true _ A14.out).mono ?_
        rintro e w18 ⟨rfl, hb⟩
        refine ⟨_, rfl, ?_⟩
        have n0_ := dK BK0 hb
        have n1_ := za.mk (ze sB hb)
        clear BK0
        clear HB
        have BK0 := n0_
        have HB := n1_
        clear n0_ n1_
        (try clear hb)
        (try clear hb2)
        (try clear hk)
        (try clear hi)
        refine hK.out _ _ ⟨(zh BK0.out 0).trans rfl, (zh BK0.out 1).trans rfl, (zh BK0.out 2).trans rfl, ((HB.out.cell (World.block_lt_of_cell? w _ hw332_0)).trans hw332_0), ((HB.out.cell (World.block_lt_of_cell? w _ hw332_1)).trans hw332_1), ((HB.out.cell (World.block_lt_of_cell? w _ hw332_2)).trans hw332_2), ((HB.out.cell (World.block_lt_of_cell? w _ hw332_3)).trans hw332_3)⟩ (fun hHeld => ?_)
        clear hK K
        refine zub (a' := ?_) ?_ ?_
        rotate_left
        ·show Act.put _ (some 50) _ = _
         simp only [Act.put, List.setIfInBounds_toArray, List.set_cons_zero, List.set_cons_succ, zda, zfa]
         rfl
        refine zva (i := 13) (N := some 51) (v := ?_) (a' := ?_) #[true, true, true, true, true, true, true, true, true, true, true, true, true, true] rfl rfl (zia HT_.out (by kernel_rfl)) (fun _ _ _ h => h) (Or.inl ⟨by rfl, ?_⟩) ?_ ?_
        rotate_left
        ·intro w'
         go_simp
         with_reducible rfl
        rotate_left
        ·simp only [Act.put, List.setIfInBounds_toArray, List.set_cons_zero, List.set_cons_succ, zda, zfa]
         rfl
        refine zjd (ztb HT_.out (by kernel_rfl)) ?_
        try go_wp2
        go_roundg k2
        case measure => have := HJ1.out; have := HK2.out; omega
        case rel => exact ⟨(wrap64 (x3_2 + 1)), (by first | rfl | (simp; done) | (simp [*]; done)), H', ⟨by have := HJ1.out; have := HK2.out; omega⟩, ⟨uK BK0⟩, ⟨sB⟩⟩
       replace c15 := Bool.eq_false_iff.mpr c15
       subst c15
       have H1 : (some false) = some r := by rw [if_neg (show ¬ (false = true) by decide)] at H; exact H
       clear H
       have H := H1
       clear H1
       obtain rfl := Option.some.inj H
       obtain ⟨hcz19_0, hcz19_1, hcz19_2⟩ := xc3 BK0
       obtain ⟨hfz19_0, hfz19_1, hfz19_2⟩ := xf3 BK0
       try go_wp2
       have n0_ := za.mk (zd BK0.out)
       have n1_ := za.mk (zt HB.out)
       clear BK0
       clear HB
       have BK0 := n0_
       have HB := n1_
       clear n0_ n1_
       have p332 : 0 ≤ (x3_2 : Int) := of_decide_eq_true (by first | (with_reducible assumption) | assumption)
       have q332 : x3_2 < (l0_2.length : Int) := of_decide_eq_true (by first | (with_reducible assumption) | assumption)
       obtain ⟨ad332, e332, hx332_0, hx332_1, hx332_2, hx332_3⟩ := zhd HR0_2.out x3_2 p332 q332
       have hw332_3 := hx332_3
       have hw332_2 := hx332_2
       have hw332_1 := hx332_1
       have hw332_0 := hx332_0
       cases e332
       replace hx332_0 := (HB.out.cell (World.block_lt_of_cell? w _ hx332_0)).trans hx332_0
       replace hx332_1 := (HB.out.cell (World.block_lt_of_cell? w _ hx332_1)).trans hx332_1
       replace hx332_2 := (HB.out.cell (World.block_lt_of_cell? w _ hx332_2)).trans hx332_2
       replace hx332_3 := (HB.out.cell (World.block_lt_of_cell? w _ hx332_3)).trans hx332_3
       replace p332 := eq_true p332
       replace q332 := eq_true q332
       refine zbc (n := 14) (S := fun w' => w'.cell? ⟨g0, 0, none⟩ = some (.int .i8 a0_0) ∧ w'.cell? ⟨g0, 1, none⟩ = some (.int .i8 a0_1) ∧ w'.cell? ⟨g0, 2, none⟩ = some (.slice (some ad332) l0_2.length c0_2) ∧ w'.cell? (ad332.add ((x3_2).toNat * 4)) = some (.int .i8 ((zx l0_2 x3_2).f0)) ∧ w'.cell? ⟨(ad332.add ((x3_2).toNat * 4)).block, (ad332.add ((x3_2).toNat * 4)).off + 1, none⟩ = some (.int .i8 ((zx l0_2 x3_2).f1)) ∧ w'.cell? ⟨(ad332.add ((x3_2).toNat * 4)).block, (ad332.add ((x3_2).toNat * 4)).off + 2, none⟩ = some (.int .i8 ((zx l0_2 x3_2).f2)) ∧ w'.cell? ⟨(ad332.add ((x3_2).toNat * 4)).block, (ad332.add ((x3_2).toNat * 4)).off + 3, none⟩ = some (.int .i8 ((zx l0_2 x3_2).f3))) (ds := []) #[false, false, false, false, false, false, false, false, false, false, false, false, false, false] (by kernel_rfl) rfl rfl ⟨(zh BK0.out 0).trans rfl, (zh BK0.out 1).trans rfl, (zh BK0.out 2).trans rfl, ((HB.out.cell (World.block_lt_of_cell? w _ hw332_0)).trans hw332_0), ((HB.out.cell (World.block_lt_of_cell? w _ hw332_1)).trans hw332_1), ((HB.out.cell (World.block_lt_of_cell? w _ hw332_2)).trans hw332_2), ((HB.out.cell (World.block_lt_of_cell? w _ hw332_3)).trans hw332_3)⟩ (fun hHeld => ?_); refine zib spec_l04Ok.tab6 spec_l04Ok.bits6 (fun HT_ HW_ => ?_)
       generalize wr.drew = w20 at BK0 HB hx332_0 hx332_1 hx332_2 hx332_3 hHeld ⊢
       refine zva (i := 0) (N := some 38) (v := ?_) (a' := ?_) #[true, false, false, false, false, false, false, false, false, false, false, false, false, false] rfl rfl (zia HT_.out (by kernel_rfl)) (fun _ _ _ h => h) (Or.inl ⟨by rfl, ?_⟩) ?_ ?_
       rotate_left
       ·intro w'
        go_simp
        with_reducible rfl
       rotate_left
       ·simp only [Act.put, List.setIfInBounds_toArray, List.set_cons_zero, List.set_cons_succ, zda, zfa]
        rfl
       refine zva (i := 1) (N := some 39) (v := ?_) (a' := ?_) #[true, true, false, false, false, false, false, false, false, false, false, false, false, false] rfl rfl (zia HT_.out (by kernel_rfl)) (fun _ _ _ h => h) (Or.inl ⟨by rfl, ?_⟩) ?_ ?_
       rotate_left
       ·intro w'
        go_simp
        with_reducible rfl
       rotate_left
       ·simp only [Act.put, List.setIfInBounds_toArray, List.set_cons_zero, List.set_cons_succ, zda, zfa]
        rfl
       refine zva (i := 2) (N := some 40) (v := ?_) (a' := ?_) #[true, true, true, false, false, false, false, false, false, false, false, false, false, false] rfl rfl (zia HT_.out (by kernel_rfl)) (fun _ _ _ h => h) (Or.inl ⟨by rfl, ?_⟩) ?_ ?_
       rotate_left
       ·intro w'
        go_simp
        with_reducible rfl
       rotate_left
       ·simp only [Act.put, List.setIfInBounds_toArray, List.set_cons_zero, List.set_cons_succ, zda, zfa]
        rfl
       refine zva (i := 5) (N := some 43) (v := ?_) (a' := ?_) #[true, true, true, false, false, true, false, false, false, false, false, false, false, false] rfl rfl (zia HT_.out (by kernel_rfl)) (fun _ _ _ h => h) (Or.inl ⟨by rfl, ?_⟩) ?_ ?_
       rotate_left
       ·intro w'
        go_simp
        with_reducible rfl
       rotate_left
       ·simp only [Act.put, List.setIfInBounds_toArray, List.set_cons_zero, List.set_cons_succ, zda, zfa]
        rfl
       refine zva (i := 6) (N := some 44) (v := ?_) (a' := ?_) #[true, true, true, false, false, true, true, false, false, false, false, false, false, false] rfl rfl (zia HT_.out (by kernel_rfl)) (fun _ _ _ h => h) (Or.inl ⟨by rfl, ?_⟩) ?_ ?_
       rotate_left
       ·intro w'
        go_simp
        with_reducible rfl
       rotate_left
       ·simp only [Act.put, List.setIfInBounds_toArray, List.set_cons_zero, List.set_cons_succ, zda, zfa]
        rfl
       refine zva (i := 7) (N := some 45) (v := ?_) (a' := ?_) #[true, true, true, false, false, true, true, true, false, false, false, false, false, false] rfl rfl (zia HT_.out (by kernel_rfl)) (fun _ _ _ h => h) (Or.inl ⟨by rfl, ?_⟩) ?_ ?_
       rotate_left
       ·intro w'
        go_simp
        with_reducible rfl
       rotate_left
       ·simp only [Act.put, List.setIfInBounds_toArray, List.set_cons_zero, List.set_cons_succ, zda, zfa]
        rfl
       refine zva (i := 9) (N := some 47) (v := ?_) (a' := ?_) #[true, true, true, false, false, true, true, true, false, true, false, false, false, false] rfl rfl (zia HT_.out (by kernel_rfl)) (fun _ _ _ h => h) (Or.inl ⟨by rfl, ?_⟩) ?_ ?_
       rotate_left
       ·intro w'
        go_simp
        with_reducible rfl
       rotate_left
       ·simp only [Act.put, List.setIfInBounds_toArray, List.set_cons_zero, List.set_cons_succ, zda, zfa]
        rfl
       refine take_ (i := 3) (N := some 41) (v := ?_) (a' := ?_) #[true, true, true, true, false, true, true, true, false, true, false, false, false, false] rfl rfl (zsa HT_.out HW_.out (by kernel_rfl)) (fun _ _ _ h => h) (Or.inl ⟨by rfl, ?_⟩) hHeld ?_ ?_
       rotate_left
       ·rintro w' ⟨s0, s1, s2, s3, s4, s5, s6⟩
        go_simp
        with_reducible rfl
       rotate_left
       ·simp only [Act.put, List.setIfInBounds_toArray, List.set_cons_zero, List.set_cons_succ, zda, zfa]
        rfl
       refine zva (i := 4) (N := some 42) (v := ?_) (a' := ?_) #[true, true, true, true, true, true, true, true, false, true, false, false, false, false] rfl rfl (zia HT_.out (by kernel_rfl)) (fun _ _ _ h => h) (Or.inl ⟨by rfl, ?_⟩) ?_ ?_
       rotate_left
       ·intro w'
        go_simp
        with_reducible rfl
       rotate_left
       ·simp only [Act.put, List.setIfInBounds_toArray, List.set_cons_zero, List.set_cons_succ, zda, zfa]
        rfl
       refine take_ (i := 8) (N := some 46) (v := ?_) (a' := ?_) #[true, true, true, true, true, true, true, true, true, true, false, false, false, false] rfl rfl (zsa HT_.out HW_.out (by kernel_rfl)) (fun _ _ _ h => h) (Or.inl ⟨by rfl, ?_⟩) hHeld ?_ ?_
       rotate_left
       ·rintro w' ⟨s0, s1, s2, s3, s4, s5, s6⟩
        go_simp
        with_reducible rfl
       rotate_left
       ·simp only [Act.put, List.setIfInBounds_toArray, List.set_cons_zero, List.set_cons_succ, zda, zfa]
        rfl
       refine zva (i := 10) (N := some 48) (v := ?_) (a' := ?_) #[true, true, true, true, true, true, true, true, true, true, true, false, false, false] rfl rfl (zia HT_.out (by kernel_rfl)) (fun _ _ _ h => h) (Or.inl ⟨by rfl, ?_⟩) ?_ ?_
       rotate_left
       ·intro w'
        go_simp
        with_reducible rfl
       rotate_left
       ·simp only [Act.put, List.setIfInBounds_toArray, List.set_cons_zero, List.set_cons_succ, zda, zfa]
        rfl
       refine take_ (i := 11) (N := some 49) (v := ?_) (a' := ?_) #[true, true, true, true, true, true, true, true, true, true, true, true, false, false] rfl rfl (zsa HT_.out HW_.out (by kernel_rfl)) (fun _ _ _ h => h) (Or.inl ⟨by rfl, ?_⟩) hHeld ?_ ?_
       rotate_left
       ·rintro w' ⟨s0, s1, s2, s3, s4, s5, s6⟩
        go_simp
        with_reducible rfl
       rotate_left
       ·simp only [Act.put, List.setIfInBounds_toArray, List.set_cons_zero, List.set_cons_succ, zda, zfa]
        rfl
       refine one_ (i := 12) (N := some 50) #[true, true, true, true, true, true, true, true, true, true, true, true, true, false] rfl rfl (zgb HT_.out (by kernel_rfl)) (by decide) (fun K hK => ?_)
       refine zxb Try.func86 (by kernel_rfl) rfl #[.int .i64 (wrap64 (a0_0)), .agg #[.int .i8 ((zx l0_2 x3_2).f0), .int .i8 ((zx l0_2 x3_2).f1), .int .i8 ((zx l0_2 x3_2).f2), .int .i8 ((zx l0_2 x3_2).f3)]] (by rfl) rfl rfl (by (try simp only [List.map_toArray, List.map_cons, List.map_nil]); first | done | rfl | (simp only [List.length_drop, List.length_take]; rfl)) ?_
       with_reducible refine (spec_l04Word.calls k2 (wrap64 (a0_0)) ((zx l0_2 x3_2).f0) ((zx l0_2 x3_2).f1) ((zx l0_2 x3_2).f2) ((zx l0_2 x3_2).f3) false _ A14.out).mono ?_
       rintro e w21 ⟨rfl, hb⟩
       refine ⟨_, rfl, ?_⟩
       have n0_ := dK BK0 hb
       have n1_ := za.mk (ze sB hb)
       clear BK0
       clear HB
       have BK0 := n0_
       have HB := n1_
       clear n0_ n1_
       (try clear hb)
       (try clear hb2)
       (try clear hk)
       (try clear hi)
       refine hK.out _ _ ⟨(zh BK0.out 0).trans rfl, (zh BK0.out 1).trans rfl, (zh BK0.out 2).trans rfl, ((HB.out.cell (World.block_lt_of_cell? w _ hw332_0)).trans hw332_0), ((HB.out.cell (World.block_lt_of_cell? w _ hw332_1)).trans hw332_1), ((HB.out.cell (World.block_lt_of_cell? w _ hw332_2)).trans hw332_2), ((HB.out.cell (World.block_lt_of_cell? w _ hw332_3)).trans hw332_3)⟩ (fun hHeld => ?_)
       clear hK K
       refine zub (a' := ?_) ?_ ?_
       rotate_left
       ·show Act.put _ (some 50) _ = _
        simp only [Act.put, List.setIfInBounds_toArray, List.set_cons_zero, List.set_cons_succ, zda, zfa]
        rfl
       refine zva (i := 13) (N := some 51) (v := ?_) (a' := ?_) #[true, true, true, true, true, true, true, true, true, true, true, true, true, true] rfl rfl (zia HT_.out (by kernel_rfl)) (fun _ _ _ h => h) (Or.inl ⟨by rfl, ?_⟩) ?_ ?_
       rotate_left
       ·intro w'
        go_simp
        with_reducible rfl
       rotate_left
       ·simp only [Act.put, List.setIfInBounds_toArray, List.set_cons_zero, List.set_cons_succ, zda, zfa]
        rfl
       refine zjd (ztb HT_.out (by kernel_rfl)) ?_
       try go_wp2
       go_ret
       exact ⟨by first | rfl | (simp [zk, zj] <;> rfl) | (simp [*, zk, zj] <;> rfl), sB⟩
      rw [if_neg c13] at H
      exact absurd H (by simp)
     rw [if_neg c12] at H
     have c12b0 : decide (x3_2 < (l0_2.length : Int)) = false := decide_eq_false c12
     clear c12
     obtain rfl := Option.some.inj H
     obtain ⟨hcz22_0, hcz22_1, hcz22_2⟩ := xc3 BK0
     obtain ⟨hfz22_0, hfz22_1, hfz22_2⟩ := xf3 BK0
     go_wp2
     go_ret
     exact ⟨by first | rfl | (simp [zk, zj] <;> rfl) | (simp [*, zk, zj] <;> rfl), sB⟩

end Go.Proofs.Ytmfbcklaomigaaa.N
