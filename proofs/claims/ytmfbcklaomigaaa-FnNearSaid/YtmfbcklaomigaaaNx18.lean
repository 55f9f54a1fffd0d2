-- Written by wip/tools/myprint.py, a program of this session, by way of the kit's print.
import Derived.Test.YtmfbcklaomigaaaNx0
import Derived.Test.YtmfbcklaomigaaaNx17
import Derived.Test.YtmfbcklaomigaaaLPrN
namespace Go.Proofs.Ytmfbcklaomigaaa.N
open Go.RowKit Go.Proofs.YtmfbcklaomigaaaW.PrintWords Go.Proofs.YtmfbcklaomigaaaW.PrintLast Go.Proofs.YtmfbcklaomigaaaW.PrintMore
attribute [local go_sem] zqa zpa zwa zxa zla zka zra zta   -- for this text's walks alone
set_option linter.unusedVariables false
set_option linter.unusedSimpArgs false

/-! ### spec_l04Seen: function 77 -/
def spec_l04Seen.f (k : Nat) (a0_0 : Int) (a0_1 : Int) (l0_2 : List (S43)) (a1_0 : Int) (a1_1 : Bool) : Option (Int × Int × Int × Int) := if a1_0 < 0 then (some (0, 0, 0, 0)) else (if a1_1 = true then (if 0 ≤ a1_0 then (if a1_0 < (l0_2.length : Int) then (some ((zx l0_2 a1_0).f0, (zx l0_2 a1_0).f1, (zx l0_2 a1_0).f2, (zx l0_2 a1_0).f3)) else (none)) else (none)) else (if 0 ≤ a1_0 then (if a1_0 < (l0_2.length : Int) then ((spec_l04Opposite.f k ((zx l0_2 a1_0).f0) ((zx l0_2 a1_0).f1) ((zx l0_2 a1_0).f2) ((zx l0_2 a1_0).f3)).bind fun bt344 => (some (bt344.1, bt344.2.1, bt344.2.2.1, bt344.2.2.2))) else (none)) else (none)))
def spec_l04Seen.T4 : Bool × List (List Nat × List Nat) := (true, [([], []), ([0], [0]), ([1], [1]), ([2], [2]), ([], []), ([4], [4]), ([3, 5], [3, 5]), ([6], [6]), ([7, 0, 1, 2, 3, 4, 5, 6, 7], [7])])
def spec_l04Seen.B4 : List Nat := [0, 1, 3, 7, 0, 16, 63, 127, 255]
theorem spec_l04Seen.tab4 : rtab .any (zme Try.f77 4) = spec_l04Seen.T4 := by kernel_rfl
theorem spec_l04Seen.bits4 : zpb spec_l04Seen.T4.2 spec_l04Seen.B4 = true := by kernel_rfl
def spec_l04Seen.T5 : Bool × List (List Nat × List Nat) := (true, [([], []), ([0], [0]), ([1], [1]), ([2], [2]), ([], []), ([4], [4]), ([3, 5], [3, 5]), ([6], [6]), ([7], [7]), ([8, 8, 0, 1, 2, 3, 4, 5, 6, 7, 8], [8])])
def spec_l04Seen.B5 : List Nat := [0, 1, 3, 7, 0, 16, 63, 127, 255, 511]
theorem spec_l04Seen.tab5 : rtab .any (zme Try.f77 5) = spec_l04Seen.T5 := by kernel_rfl
theorem spec_l04Seen.bits5 : zpb spec_l04Seen.T5.2 spec_l04Seen.B5 = true := by kernel_rfl
set_option maxHeartbeats 8000000 in
set_option maxRecDepth 100000 in
theorem spec_l04Seen.calls (k : Nat) (g0 : Nat) (a0_0 : Int) (a0_1 : Int) (A0_2 : Option Addr) (c0_2 : Nat) (l0_2 : List (S43)) (a1_0 : Int) (a1_1 : Bool) (r1 : Int) (r2 : Int) (r3 : Int) (r4 : Int) (w : World) (hb0 : w.heap[g0]? = some (.cells #[.int .i8 a0_0, .int .i8 a0_1, .slice A0_2 l0_2.length c0_2] 28 (0, 0))) (hr0_2 : Kd.C k43 w A0_2 l0_2.length l0_2) (hc0_2 : l0_2.length ≤ c0_2) (h : spec_l04Seen.f k a0_0 a0_1 l0_2 a1_0 a1_1 = some (r1, r2, r3, r4)) :
  Calls Try.prog 77 #[.pointer (some ⟨g0, 0, none⟩), .agg #[.int .i8 a1_0, .bool a1_1]] w fun e w' => e = .returned (.agg #[.int .i8 r1, .int .i8 r2, .int .i8 r3, .int .i8 r4]) ∧ Below w.heap.size w w' := by
 have hu38 := Try.underlying38
 have hu43 := Try.underlying43
 have HR0_2 := za.mk hr0_2
 have HC0_2 := za.mk hc0_2
 clear hr0_2 hc0_2
 have BK0 := za.mk hb0
 clear hb0
 have HB := za.mk (Below.refl w.heap.size w)
 have H : (if a1_0 < 0 then (some (0, 0, 0, 0)) else (if a1_1 = true then (if 0 ≤ a1_0 then (if a1_0 < (l0_2.length : Int) then (some ((zx l0_2 a1_0).f0, (zx l0_2 a1_0).f1, (zx l0_2 a1_0).f2, (zx l0_2 a1_0).f3)) else (none)) else (none)) else (if 0 ≤ a1_0 then (if a1_0 < (l0_2.length : Int) then ((spec_l04Opposite.f k ((zx l0_2 a1_0).f0) ((zx l0_2 a1_0).f1) ((zx l0_2 a1_0).f2) ((zx l0_2 a1_0).f3)).bind fun bt344 => (some (bt344.1, bt344.2.1, bt344.2.2.1, bt344.2.2.2))) else (none)) else (none)))) = some (r1, r2, r3, r4) := h
 clear h
 by_cases c3 : a1_0 < 0
 ·rw [if_pos c3] at H
  have c3b0 : decide (a1_0 < 0) = true := decide_eq_true c3
  clear c3
  simp only [Option.some.injEq, Prod.mk.injEq] at H
  obtain ⟨rfl, rfl, rfl, rfl⟩ := H
  go_enter Try.func77, Try.ntmps77
  go_wp2_with (first | ((with_reducible refine zn (N := 3) rfl ?_); refine bx (N := 3) #[.int .i8 a1_0, .bool a1_1] 38 rfl ?_; intro gb340 hg w4 hbox hb; have BK340 := za.mk hbox; have GW340 := gB hg; have GE340 := GW340; have NB0_340 := nK hg BK0; have NB340_0 := za.mk (nK hg BK0).out.symm; replace BK0 := dK BK0 hb; replace HB := za.mk (ze sB hb); clear hb hbox hg) | ((with_reducible refine zn (N := 4) rfl ?_); refine bx (N := 4) #[.int .i8 0, .int .i8 0, .int .i8 0, .int .i8 0] 43 rfl ?_; intro gb341 hg w5 hbox hb; have BK341 := za.mk hbox; have GW341 := gB hg; have GE341 := GW341; have NB0_341 := nK hg BK0; have NB341_0 := za.mk (nK hg BK0).out.symm; have NB340_341 := nK hg BK340; have NB341_340 := za.mk NB340_341.out.symm; replace BK0 := dK BK0 hb; replace BK340 := dK BK340 hb; replace HB := za.mk (ze sB hb); clear hb hbox hg; have hnb6 := NB340_0.out; have hnc6 := NB0_340.out; have hnb7 := NB340_341.out; have hnc7 := NB341_340.out; obtain ⟨hcz8_0, hcz8_1⟩ := xc2 BK340; obtain ⟨hfz8_0, hfz8_1⟩ := xf2 BK340; have hnb9 := NB341_0.out; have hnc9 := NB0_341.out; obtain ⟨hcz10_0, hcz10_1, hcz10_2, hcz10_3⟩ := xc4 BK341; obtain ⟨hfz10_0, hfz10_1, hfz10_2, hfz10_3⟩ := xf4 BK341))
  refine bodyPost_ret (results_cell_row rfl _ _ gb341 43 #[.int .i8 0, .int .i8 0, .int .i8 0, .int .i8 0] (0, 0) _ rfl (by (with_reducible repeat (first | refine zc ?_ _ | refine zd ?_ | refine zb ?_ _)); refine zl (cs := #[.int .i8 0, .int .i8 0, .int .i8 0, .int .i8 0]) ?_ 3 _ rfl; (with_reducible repeat (first | refine zc ?_ _ | refine zd ?_ | refine zb ?_ _)); refine zl (cs := #[.int .i8 0, .int .i8 0, .int .i8 0, .int .i8 0]) ?_ 2 _ rfl; (with_reducible repeat (first | refine zc ?_ _ | refine zd ?_ | refine zb ?_ _)); refine zl (cs := #[.int .i8 0, .int .i8 0, .int .i8 0, .int .i8 0]) ?_ 1 _ rfl; (with_reducible repeat (first | refine zc ?_ _ | refine zd ?_ | refine zb ?_ _)); refine zl (cs := #[.int .i8 0, .int .i8 0, .int .i8 0, .int .i8 0]) ?_ 0 _ rfl; (with_reducible repeat (first | refine zc ?_ _ | refine zd ?_ | refine zb ?_ _)); exact BK341.out) Try.underlying43 rfl (by kernel_rfl)) rfl ?_
  exact ⟨by first | rfl | (simp [zk, zj] <;> rfl) | (simp [*, zk, zj] <;> rfl), sB⟩
 rw [if_neg c3] at H
 have c3b0 : decide (a1_0 < 0) = false := decide_eq_false c3
 clear c3
 by_cases c11 : a1_1 = true
 ·subst c11
  have H1 : (if 0 ≤ a1_0 then (if a1_0 < (l0_2.length : Int) then (some ((zx l0_2 a1_0).f0, (zx l0_2 a1_0).f1, (zx l0_2 a1_0).f2, (zx l0_2 a1_0).f3)) else (none)) else (none)) = some (r1, r2, r3, r4) := by rw [if_pos rfl] at H; exact H
  clear H
  have H := H1
  clear H1
  by_cases c12 : 0 ≤ a1_0
  ·rw [if_pos c12] at H
   have c12b0 : decide (0 ≤ a1_0) = true := decide_eq_true c12
   clear c12
   by_cases c13 : a1_0 < (l0_2.length : Int)
   ·rw [if_pos c13] at H
    have c13b0 : decide (a1_0 < (l0_2.length : Int)) = true := decide_eq_true c13
    clear c13
    simp only [Option.some.injEq, Prod.mk.injEq] at H
    obtain ⟨rfl, rfl, rfl, rfl⟩ := H
    go_enter Try.func77, Try.ntmps77
    try go_wp2_with (first | ((with_reducible refine zn (N := 3) rfl ?_); refine bx (N := 3) #[.int .i8 a1_0, .bool true] 38 rfl ?_; intro gb340 hg w14 hbox hb; have BK340 := za.mk hbox; have GW340 := gB hg; have GE340 := GW340; have NB0_340 := nK hg BK0; have NB340_0 := za.mk (nK hg BK0).out.symm; replace BK0 := dK BK0 hb; replace HB := za.mk (ze sB hb); clear hb hbox hg) | ((with_reducible refine zn (N := 4) rfl ?_); refine bx (N := 4) #[.int .i8 0, .int .i8 0, .int .i8 0, .int .i8 0] 43 rfl ?_; intro gb341 hg w15 hbox hb; have BK341 := za.mk hbox; have GW341 := gB hg; have GE341 := GW341; have NB0_341 := nK hg BK0; have NB341_0 := za.mk (nK hg BK0).out.symm; have NB340_341 := nK hg BK340; have NB341_340 := za.mk NB340_341.out.symm; replace BK0 := dK BK0 hb; replace BK340 := dK BK340 hb; replace HB := za.mk (ze sB hb); clear hb hbox hg; have hnb16 := NB340_0.out; have hnc16 := NB0_340.out; have hnb17 := NB340_341.out; have hnc17 := NB341_340.out; obtain ⟨hcz18_0, hcz18_1⟩ := xc2 BK340; obtain ⟨hfz18_0, hfz18_1⟩ := xf2 BK340))
    have n0_ := za.mk (zd BK0.out)
    have n1_ := za.mk (zd BK340.out)
    have n2_ := za.mk (zd BK341.out)
    have n3_ := za.mk (zt HB.out)
    clear BK0
    clear BK340
    clear BK341
    clear HB
    have BK0 := n0_
    have BK340 := n1_
    have BK341 := n2_
    have HB := n3_
    clear n0_ n1_ n2_ n3_
    have p342 : 0 ≤ (a1_0 : Int) := of_decide_eq_true (by first | (with_reducible assumption) | assumption)
    have q342 : a1_0 < (l0_2.length : Int) := of_decide_eq_true (by first | (with_reducible assumption) | assumption)
    obtain ⟨ad342, e342, hx342_0, hx342_1, hx342_2, hx342_3⟩ := zhd HR0_2.out a1_0 p342 q342
    have hw342_3 := hx342_3
    have hw342_2 := hx342_2
    have hw342_1 := hx342_1
    have hw342_0 := hx342_0
    cases e342
    replace hx342_0 := (HB.out.cell (World.block_lt_of_cell? w _ hx342_0)).trans hx342_0
    replace hx342_1 := (HB.out.cell (World.block_lt_of_cell? w _ hx342_1)).trans hx342_1
    replace hx342_2 := (HB.out.cell (World.block_lt_of_cell? w _ hx342_2)).trans hx342_2
    replace hx342_3 := (HB.out.cell (World.block_lt_of_cell? w _ hx342_3)).trans hx342_3
    replace p342 := eq_true p342
    replace q342 := eq_true q342
    refine zbc (n := 9) (S := fun w' => w'.cell? ⟨g0, 0, none⟩ = some (.int .i8 a0_0) ∧ w'.cell? ⟨g0, 1, none⟩ = some (.int .i8 a0_1) ∧ w'.cell? ⟨g0, 2, none⟩ = some (.slice (some ad342) l0_2.length c0_2) ∧ w'.cell? ⟨gb340, 0, none⟩ = some (.int .i8 a1_0) ∧ w'.cell? ⟨gb340, 1, none⟩ = some (.bool true) ∧ w'.cell? (ad342.add ((a1_0).toNat * 4)) = some (.int .i8 ((zx l0_2 a1_0).f0)) ∧ w'.cell? ⟨(ad342.add ((a1_0).toNat * 4)).block, (ad342.add ((a1_0).toNat * 4)).off + 1, none⟩ = some (.int .i8 ((zx l0_2 a1_0).f1)) ∧ w'.cell? ⟨(ad342.add ((a1_0).toNat * 4)).block, (ad342.add ((a1_0).toNat * 4)).off + 2, none⟩ = some (.int .i8 ((zx l0_2 a1_0).f2)) ∧ w'.cell? ⟨(ad342.add ((a1_0).toNat * 4)).block, (ad342.add ((a1_0).toNat * 4)).off + 3, none⟩ = some (.int .i8 ((zx l0_2 a1_0).f3))) (ds := []) #[false, false, false, false, false, false, false, false, false] (by kernel_rfl) rfl rfl ⟨(zh BK0.out 0).trans rfl, (zh BK0.out 1).trans rfl, (zh BK0.out 2).trans rfl, (zh BK340.out 0).trans rfl, (zh BK340.out 1).trans rfl, ((HB.out.cell (World.block_lt_of_cell? w _ hw342_0)).trans hw342_0), ((HB.out.cell (World.block_lt_of_cell? w _ hw342_1)).trans hw342_1), ((HB.out.cell (World.block_lt_of_cell? w _ hw342_2)).trans hw342_2), ((HB.out.cell (World.block_lt_of_cell? w _ hw342_3)).trans hw342_3)⟩ (fun hHeld => ?_); refine zib spec_l04Seen.tab4 spec_l04Seen.bits4 (fun HT_ HW_ => ?_)
    generalize w15.drew = w19 at BK0 BK340 BK341 HB hx342_0 hx342_1 hx342_2 hx342_3 hHeld ⊢
    refine zva (i := 0) (N := some 11) (v := ?_) (a' := ?_) #[true, false, false, false, false, false, false, false, false] rfl rfl (zia HT_.out (by kernel_rfl)) (fun _ _ _ h => h) (Or.inl ⟨by rfl, ?_⟩) ?_ ?_
    rotate_left
    ·intro w'
     go_simp
     with_reducible rfl
    rotate_left
    ·simp only [Act.put, List.setIfInBounds_toArray, List.set_cons_zero, List.set_cons_succ, zda, zfa]
     rfl
    refine zva (i := 1) (N := some 12) (v := ?_) (a' := ?_) #[true, true, false, false, false, false, false, false, false] rfl rfl (zia HT_.out (by kernel_rfl)) (fun _ _ _ h => h) (Or.inl ⟨by rfl, ?_⟩) ?_ ?_
    rotate_left
    ·intro w'
     go_simp
     with_reducible rfl
    rotate_left
    ·simp only [Act.put, List.setIfInBounds_toArray, List.set_cons_zero, List.set_cons_succ, zda, zfa]
     rfl
    refine zva (i := 2) (N := some 13) (v := ?_) (a' := ?_) #[true, true, true, false, false, false, false, false, false] rfl rfl (zia HT_.out (by kernel_rfl)) (fun _ _ _ h => h) (Or.inl ⟨by rfl, ?_⟩) ?_ ?_
    rotate_left
    ·intro w'
     go_simp
     with_reducible rfl
    rotate_left
    ·simp only [Act.put, List.setIfInBounds_toArray, List.set_cons_zero, List.set_cons_succ, zda, zfa]
     rfl
    refine zva (i := 4) (N := some 15) (v := ?_) (a' := ?_) #[true, true, true, false, true, false, false, false, false] rfl rfl (zia HT_.out (by kernel_rfl)) (fun _ _ _ h => h) (Or.inl ⟨by rfl, ?_⟩) ?_ ?_
    rotate_left
    ·intro w'
     go_simp
     with_reducible rfl
    rotate_left
    ·simp only [Act.put, List.setIfInBounds_toArray, List.set_cons_zero, List.set_cons_succ, zda, zfa]
     rfl
    refine take_ (i := 3) (N := some 14) (v := ?_) (a' := ?_) #[true, true, true, true, true, false, false, false, false] rfl rfl (zsa HT_.out HW_.out (by kernel_rfl)) (fun _ _ _ h => h) (Or.inl ⟨by rfl, ?_⟩) hHeld ?_ ?_
    rotate_left
    ·rintro w' ⟨s0, s1, s2, s3, s4, s5, s6, s7, s8⟩
     go_simp
     with_reducible rfl
    rotate_left
    ·simp only [Act.put, List.setIfInBounds_toArray, List.set_cons_zero, List.set_cons_succ, zda, zfa]
     rfl
    refine take_ (i := 5) (N := some 16) (v := ?_) (a' := ?_) #[true, true, true, true, true, true, false, false, false] rfl rfl (zsa HT_.out HW_.out (by kernel_rfl)) (fun _ _ _ h => h) (Or.inl ⟨by rfl, ?_⟩) hHeld ?_ ?_
    rotate_left
    ·rintro w' ⟨s0, s1, s2, s3, s4, s5, s6, s7, s8⟩
     go_simp
     with_reducible rfl
    rotate_left
    ·simp only [Act.put, List.setIfInBounds_toArray, List.set_cons_zero, List.set_cons_succ, zda, zfa]
     rfl
    refine zva (i := 6) (N := some 17) (v := ?_) (a' := ?_) #[true, true, true, true, true, true, true, false, false] rfl rfl (zia HT_.out (by kernel_rfl)) (fun _ _ _ h => h) (Or.inl ⟨by rfl, ?_⟩) ?_ ?_
    rotate_left
    ·intro w'
     go_simp
     with_reducible rfl
    rotate_left
    ·simp only [Act.put, List.setIfInBounds_toArray, List.set_cons_zero, List.set_cons_succ, zda, zfa]
     rfl
    refine take_ (i := 7) (N := some 18) (v := ?_) (a' := ?_) #[true, true, true, true, true, true, true, true, false] rfl rfl (zsa HT_.out HW_.out (by kernel_rfl)) (fun _ _ _ h => h) (Or.inl ⟨by rfl, ?_⟩) hHeld ?_ ?_
    rotate_left
    ·rintro w' ⟨s0, s1, s2, s3, s4, s5, s6, s7, s8⟩
     go_simp
     with_reducible rfl
    rotate_left
    ·simp only [Act.put, List.setIfInBounds_toArray, List.set_cons_zero, List.set_cons_succ, zda, zfa]
     rfl
    refine one_ (i := 8) (N := none) #[true, true, true, true, true, true, true, true, true] rfl rfl (zgb HT_.out (by kernel_rfl)) (by decide) (fun K hK => ?_)
    have hs20 : w19.cell? ⟨gb341, 0, none⟩ = some (.int .i8 0) := (zh BK341.out 0).trans rfl
    have hfs20 := zaa BK341.out 0
    have hns20_0 := NB0_341.out
    have hns20_1 := NB340_341.out
    have hms20_0 := NB341_0.out
    have hms20_1 := NB341_340.out
    have hs21 : w19.cell? ⟨gb341, 1, none⟩ = some (.int .i8 0) := (zh BK341.out 1).trans rfl
    have hfs21 := zaa BK341.out 1
    have hns21_0 := NB0_341.out
    have hns21_1 := NB340_341.out
    have hms21_0 := NB341_0.out
    have hms21_1 := NB341_340.out
    have hs22 : w19.cell? ⟨gb341, 2, none⟩ = some (.int .i8 0) := (zh BK341.out 2).trans rfl
    have hfs22 := zaa BK341.out 2
    have hns22_0 := NB0_341.out
    have hns22_1 := NB340_341.out
    have hms22_0 := NB341_0.out
    have hms22_1 := NB341_340.out
    have hs23 : w19.cell? ⟨gb341, 3, none⟩ = some (.int .i8 0) := (zh BK341.out 3).trans rfl
    have hfs23 := zaa BK341.out 3
    have hns23_0 := NB0_341.out
    have hns23_1 := NB340_341.out
    have hms23_0 := NB341_0.out
    have hms23_1 := NB341_340.out
    refine skip_ (w1 := ?_) (by rfl) rfl ?_ ?_
    rotate_left
    ·go_simp
     rfl
    refine hK.out _ _ ⟨((zba (p := ⟨gb341, _, none⟩) NB0_341.out _).trans (((zba (p := ⟨gb341, _, none⟩) NB0_341.out _).trans (((zba (p := ⟨gb341, _, none⟩) NB0_341.out _).trans (((zba (p := ⟨gb341, _, none⟩) NB0_341.out _).trans (hHeld.1)))))))), ((zba (p := ⟨gb341, _, none⟩) NB0_341.out _).trans (((zba (p := ⟨gb341, _, none⟩) NB0_341.out _).trans (((zba (p := ⟨gb341, _, none⟩) NB0_341.out _).trans (((zba (p := ⟨gb341, _, none⟩) NB0_341.out _).trans (hHeld.2.1)))))))), ((zba (p := ⟨gb341, _, none⟩) NB0_341.out _).trans (((zba (p := ⟨gb341, _, none⟩) NB0_341.out _).trans (((zba (p := ⟨gb341, _, none⟩) NB0_341.out _).trans (((zba (p := ⟨gb341, _, none⟩) NB0_341.out _).trans (hHeld.2.2.1)))))))), ((zba (p := ⟨gb341, _, none⟩) NB340_341.out _).trans (((zba (p := ⟨gb341, _, none⟩) NB340_341.out _).trans (((zba (p := ⟨gb341, _, none⟩) NB340_341.out _).trans (((zba (p := ⟨gb341, _, none⟩) NB340_341.out _).trans (hHeld.2.2.2.1)))))))), ((zba (p := ⟨gb341, _, none⟩) NB340_341.out _).trans (((zba (p := ⟨gb341, _, none⟩) NB340_341.out _).trans (((zba (p := ⟨gb341, _, none⟩) NB340_341.out _).trans (((zba (p := ⟨gb341, _, none⟩) NB340_341.out _).trans (hHeld.2.2.2.2.1)))))))), ((zba (p := ⟨gb341, _, none⟩) (by first | exact Nat.ne_of_lt (Nat.lt_of_lt_of_le (by have := World.block_lt_of_cell? _ _ hw342_0; first | rwa [zi] at this | exact this) GW341.out) | (rw [zi]; exact Nat.ne_of_lt (Nat.lt_of_lt_of_le (by have := World.block_lt_of_cell? _ _ hw342_0; first | rwa [zi] at this | exact this) GW341.out)) | (show (Addr.add _ _).block ≠ _; rw [zi]; exact Nat.ne_of_lt (Nat.lt_of_lt_of_le (by have := World.block_lt_of_cell? _ _ hw342_0; first | rwa [zi] at this | exact this) GW341.out)) | (dsimp only; exact Nat.ne_of_lt (Nat.lt_of_lt_of_le (by have := World.block_lt_of_cell? _ _ hw342_0; first | rwa [zi] at this | exact this) GW341.out))) _).trans (((zba (p := ⟨gb341, _, none⟩) (by first | exact Nat.ne_of_lt (Nat.lt_of_lt_of_le (by have := World.block_lt_of_cell? _ _ hw342_0; first | rwa [zi] at this | exact this) GW341.out) | (rw [zi]; exact Nat.ne_of_lt (Nat.lt_of_lt_of_le (by have := World.block_lt_of_cell? _ _ hw342_0; first | rwa [zi] at this | exact this) GW341.out)) | (show (Addr.add _ _).block ≠ _; rw [zi]; exact Nat.ne_of_lt (Nat.lt_of_lt_of_le (by have := World.block_lt_of_cell? _ _ hw342_0; first | rwa [zi] at this | exact this) GW341.out)) | (dsimp only; exact Nat.ne_of_lt (Nat.lt_of_lt_of_le (by have := World.block_lt_of_cell? _ _ hw342_0; first | rwa [zi] at this | exact this) GW341.out))) _).trans (((zba (p := ⟨gb341, _, none⟩) (by first | exact Nat.ne_of_lt (Nat.lt_of_lt_of_le (by have := World.block_lt_of_cell? _ _ hw342_0; first | rwa [zi] at this | exact this) GW341.out) | (rw [zi]; exact Nat.ne_of_lt (Nat.lt_of_lt_of_le (by have := World.block_lt_of_cell? _ _ hw342_0; first | rwa [zi] at this | exact this) GW341.out)) | (show (Addr.add _ _).block ≠ _; rw [zi]; exact Nat.ne_of_lt (Nat.lt_of_lt_of_le (by have := World.block_lt_of_cell? _ _ hw342_0; first | rwa [zi] at this | exact this) GW341.out)) | (dsimp only; exact Nat.ne_of_lt (Nat.lt_of_lt_of_le (by have := World.block_lt_of_cell? _ _ hw342_0; first | rwa [zi] at this | exact this) GW341.out))) _).trans (((zba (p := ⟨gb341, _, none⟩) (by first | exact Nat.ne_of_lt (Nat.lt_of_lt_of_le (by have := World.block_lt_of_cell? _ _ hw342_0; first | rwa [zi] at this | exact this) GW341.out) | (rw [zi]; exact Nat.ne_of_lt (Nat.lt_of_lt_of_le (by have := World.block_lt_of_cell? _ _ hw342_0; first | rwa [zi] at this | exact this) GW341.out)) | (show (Addr.add _ _).block ≠ _; rw [zi]; exact Nat.ne_of_lt (Nat.lt_of_lt_of_le (by have := World.block_lt_of_cell? _ _ hw342_0; first | rwa [zi] at this | exact this) GW341.out)) | (dsimp only; exact Nat.ne_of_lt (Nat.lt_of_lt_of_le (by have := World.block_lt_of_cell? _ _ hw342_0; first | rwa [zi] at this | exact this) GW341.out))) _).trans (hHeld.2.2.2.2.2.1)))))))), ((zba (p := ⟨gb341, _, none⟩) (by first | exact Nat.ne_of_lt (Nat.lt_of_lt_of_le (by have := World.block_lt_of_cell? _ _ hw342_1; first | rwa [zi] at this | exact this) GW341.out) | (rw [zi]; exact Nat.ne_of_lt (Nat.lt_of_lt_of_le (by have := World.block_lt_of_cell? _ _ hw342_1; first | rwa [zi] at this | exact this) GW341.out)) | (show (Addr.add _ _).block ≠ _; rw [zi]; exact Nat.ne_of_lt (Nat.lt_of_lt_of_le (by have := World.block_lt_of_cell? _ _ hw342_1; first | rwa [zi] at this | exact this) GW341.out)) | (dsimp only; exact Nat.ne_of_lt (Nat.lt_of_lt_of_le (by have := World.block_lt_of_cell? _ _ hw342_1; first | rwa [zi] at this | exact this) GW341.out))) _).trans (((zba (p := ⟨gb341, _, none⟩) (by first | exact Nat.ne_of_lt (Nat.lt_of_lt_of_le (by have := World.block_lt_of_cell? _ _ hw342_1; first | rwa [zi] at this | exact this) GW341.out) | (rw [zi]; exact Nat.ne_of_lt (Nat.lt_of_lt_of_le (by have := World.block_lt_of_cell? _ _ hw342_1; first | rwa [zi] at this | exact this) GW341.out)) | (show (Addr.add _ _).block ≠ _; rw [zi]; exact Nat.ne_of_lt (Nat.lt_of_lt_of_le (by have := World.block_lt_of_cell? _ _ hw342_1; first | rwa [zi] at this | exact this) GW341.out)) | (dsimp only; exact Nat.ne_of_lt (Nat.lt_of_lt_of_le (by have := World.block_lt_of_cell? _ _ hw342_1; first | rwa [zi] at this | exact this) GW341.out))) _).trans (((zba (p := ⟨gb341, _, none⟩) (by first | exact Nat.ne_of_lt (Nat.lt_of_lt_of_le (by have := World.block_lt_of_cell? _ _ hw342_1; first | rwa [zi] at this | exact this) GW341.out) | (rw [zi]; exact Nat.ne_of_lt (Nat.lt_of_lt_of_le (by have := World.block_lt_of_cell? _ _ hw342_1; first | rwa [zi] at this | exact this) GW341.out)) | (show (Addr.add _ _).block ≠ _; rw [zi]; exact Nat.ne_of_lt (Nat.lt_of_lt_of_le (by have := World.block_lt_of_cell? _ _ hw342_1; first | rwa [zi] at this | exact this) GW341.out)) | (dsimp only; exact Nat.ne_of_lt (Nat.lt_of_lt_of_le (by have := World.block_lt_of_cell? _ _ hw342_1; first | rwa [zi] at this | exact this) GW341.out))) _).trans (((zba (p := ⟨gb341, _, none⟩) (by first | exact Nat.ne_of_lt (Nat.lt_of_lt_of_le (by have := World.block_lt_of_cell? _ _ hw342_1; first | rwa [zi] at this | exact this) GW341.out) | (rw [zi]; exact Nat.ne_of_lt (Nat.lt_of_lt_of_le (by have := World.block_lt_of_cell? _ _ hw342_1; first | rwa [zi] at this | exact this) GW341.out)) | (show (Addr.add _ _).block ≠ _; rw [zi]; exact Nat.ne_of_lt (Nat.lt_of_lt_of_le (by have := World.block_lt_of_cell? _ _ hw342_1; first | rwa [zi] at this | exact this) GW341.out)) | (dsimp only; exact Nat.ne_of_lt (Nat.lt_of_lt_of_le (by have := World.block_lt_of_cell? _ _ hw342_1; first | rwa [zi] at this | exact this) GW341.out))) _).trans (hHeld.2.2.2.2.2.2.1)))))))), ((zba (p := ⟨gb341, _, none⟩) (by first | exact Nat.ne_of_lt (Nat.lt_of_lt_of_le (by have := World.block_lt_of_cell? _ _ hw342_2; first | rwa [zi] at this | exact this) GW341.out) | (rw [zi]; exact Nat.ne_of_lt (Nat.lt_of_lt_of_le (by have := World.block_lt_of_cell? _ _ hw342_2; first | rwa [zi] at this | exact this) GW341.out)) | (show (Addr.add _ _).block ≠ _; rw [zi]; exact Nat.ne_of_lt (Nat.lt_of_lt_of_le (by have := World.block_lt_of_cell? _ _ hw342_2; first | rwa [zi] at this | exact this) GW341.out)) | (dsimp only; exact Nat.ne_of_lt (Nat.lt_of_lt_of_le (by have := World.block_lt_of_cell? _ _ hw342_2; first | rwa [zi] at this | exact this) GW341.out))) _).trans (((zba (p := ⟨gb341, _, none⟩) (by first | exact Nat.ne_of_lt (Nat.lt_of_lt_of_le (by have := World.block_lt_of_cell? _ _ hw342_2; first | rwa [zi] at this | exact this) GW341.out) | (rw [zi]; exact Nat.ne_of_lt (Nat.lt_of_lt_of_le (by have := World.block_lt_of_cell? _ _ hw342_2; first | rwa [zi] at this | exact this) GW341.out)) | (show (Addr.add _ _).block ≠ _; rw [zi]; exact Nat.ne_of_lt (Nat.lt_of_lt_of_le (by have := World.block_lt_of_cell? _ _ hw342_2; first | rwa [zi] at this | exact this) GW341.out)) | (dsimp only; exact Nat.ne_of_lt (Nat.lt_of_lt_of_le (by have := World.block_lt_of_cell? _ _ hw342_2; first | rwa [zi] at this | exact this) GW341.out))) _).trans (((zba (p := ⟨gb341, _, none⟩) (by first | exact Nat.ne_of_lt (Nat.lt_of_lt_of_le (by have := World.block_lt_of_cell? _ _ hw342_2; first | rwa [zi] at this | exact this) GW341.out) | (rw [zi]; exact Nat.ne_of_lt (Nat.lt_of_lt_of_le (by have := World.block_lt_of_cell? _ _ hw342_2; first | rwa [zi] at this | exact this) GW341.out)) | (show (Addr.add _ _).block ≠ _; rw [zi]; exact Nat.ne_of_lt (Nat.lt_of_lt_of_le (by have := World.block_lt_of_cell? _ _ hw342_2; first | rwa [zi] at this | exact this) GW341.out)) | (dsimp only; exact Nat.ne_of_lt (Nat.lt_of_lt_of_le (by have := World.block_lt_of_cell? _ _ hw342_2; first | rwa [zi] at this | exact this) GW341.out))) _).trans (((zba (p := ⟨gb341, _, none⟩) (by first | exact Nat.ne_of_lt (Nat.lt_of_lt_of_le (by have := World.block_lt_of_cell? _ _ hw342_2; first | rwa [zi] at this | exact this) GW341.out) | (rw [zi]; exact Nat.ne_of_lt (Nat.lt_of_lt_of_le (by have := World.block_lt_of_cell? _ _ hw342_2; first | rwa [zi] at this | exact this) GW341.out)) | (show (Addr.add _ _).block ≠ _; rw [zi]; exact Nat.ne_of_lt (Nat.lt_of_lt_of_le (by have := World.block_lt_of_cell? _ _ hw342_2; first | rwa [zi] at this | exact this) GW341.out)) | (dsimp only; exact Nat.ne_of_lt (Nat.lt_of_lt_of_le (by have := World.block_lt_of_cell? _ _ hw342_2; first | rwa [zi] at this | exact this) GW341.out))) _).trans (hHeld.2.2.2.2.2.2.2.1)))))))), ((zba (p := ⟨gb341, _, none⟩) (by first | exact Nat.ne_of_lt (Nat.lt_of_lt_of_le (by have := World.block_lt_of_cell? _ _ hw342_3; first | rwa [zi] at this | exact this) GW341.out) | (rw [zi]; exact Nat.ne_of_lt (Nat.lt_of_lt_of_le (by have := World.block_lt_of_cell? _ _ hw342_3; first | rwa [zi] at this | exact this) GW341.out)) | (show (Addr.add _ _).block ≠ _; rw [zi]; exact Nat.ne_of_lt (Nat.lt_of_lt_of_le (by have := World.block_lt_of_cell? _ _ hw342_3; first | rwa [zi] at this | exact this) GW341.out)) | (dsimp only; exact Nat.ne_of_lt (Nat.lt_of_lt_of_le (by have := World.block_lt_of_cell? _ _ hw342_3; first | rwa [zi] at this | exact this) GW341.out))) _).trans (((zba (p := ⟨gb341, _, none⟩) (by first | exact Nat.ne_of_lt (Nat.lt_of_lt_of_le (by have := World.block_lt_of_cell? _ _ hw342_3; first | rwa [zi] at this | exact this) GW341.out) | (rw [zi]; exact Nat.ne_of_lt (Nat.lt_of_lt_of_le (by have := World.block_lt_of_cell? _ _ hw342_3; first | rwa [zi] at this | exact this) GW341.out)) | (show (Addr.add _ _).block ≠ _; rw [zi]; exact Nat.ne_of_lt (Nat.lt_of_lt_of_le (by have := World.block_lt_of_cell? _ _ hw342_3; first | rwa [zi] at this | exact this) GW341.out)) | (dsimp only; exact Nat.ne_of_lt (Nat.lt_of_lt_of_le (by have := World.block_lt_of_cell? _ _ hw342_3; first | rwa [zi] at this | exact this) GW341.out))) _).trans (((zba (p := ⟨gb341, _, none⟩) (by first | exact Nat.ne_of_lt (Nat.lt_of_lt_of_le (by have := World.block_lt_of_cell? _ _ hw342_3; first | rwa [zi] at this | exact this) GW341.out) | (rw [zi]; exact Nat.ne_of_lt (Nat.lt_of_lt_of_le (by have := World.block_lt_of_cell? _ _ hw342_3; first | rwa [zi] at this | exact this) GW341.out)) | (show (Addr.add _ _).block ≠ _; rw [zi]; exact Nat.ne_of_lt (Nat.lt_of_lt_of_le (by have := World.block_lt_of_cell? _ _ hw342_3; first | rwa [zi] at this | exact this) GW341.out)) | (dsimp only; exact Nat.ne_of_lt (Nat.lt_of_lt_of_le (by have := World.block_lt_of_cell? _ _ hw342_3; first | rwa [zi] at this | exact this) GW341.out))) _).trans (((zba (p := ⟨gb341, _, none⟩) (by first | exact Nat.ne_of_lt (Nat.lt_of_lt_of_le (by have := World.block_lt_of_cell? _ _ hw342_3; first | rwa [zi] at this | exact this) GW341.out) | (rw [zi]; exact Nat.ne_of_lt (Nat.lt_of_lt_of_le (by have := World.block_lt_of_cell? _ _ hw342_3; first | rwa [zi] at this | exact this) GW341.out)) | (show (Addr.add _ _).block ≠ _; rw [zi]; exact Nat.ne_of_lt (Nat.lt_of_lt_of_le (by have := World.block_lt_of_cell? _ _ hw342_3; first | rwa [zi] at this | exact this) GW341.out)) | (dsimp only; exact Nat.ne_of_lt (Nat.lt_of_lt_of_le (by have := World.block_lt_of_cell? _ _ hw342_3; first | rwa [zi] at this | exact this) GW341.out))) _).trans (hHeld.2.2.2.2.2.2.2.2))))))))⟩ (fun hHeld => ?_)
    clear hK K
    refine zjd (ztb HT_.out (by kernel_rfl)) ?_
    try go_wp2
    refine bodyPost_ret (results_cell_row rfl _ _ gb341 43 #[.int .i8 ((zx l0_2 a1_0).f0), .int .i8 ((zx l0_2 a1_0).f1), .int .i8 ((zx l0_2 a1_0).f2), .int .i8 ((zx l0_2 a1_0).f3)] (0, 0) _ rfl (by (with_reducible repeat (first | refine zc ?_ _ | refine zd ?_ | refine zb ?_ _)); refine zl (cs := #[.int .i8 ((zx l0_2 a1_0).f0), .int .i8 ((zx l0_2 a1_0).f1), .int .i8 ((zx l0_2 a1_0).f2), .int .i8 0]) ?_ 3 _ rfl; (with_reducible repeat (first | refine zc ?_ _ | refine zd ?_ | refine zb ?_ _)); refine zl (cs := #[.int .i8 ((zx l0_2 a1_0).f0), .int .i8 ((zx l0_2 a1_0).f1), .int .i8 0, .int .i8 0]) ?_ 2 _ rfl; (with_reducible repeat (first | refine zc ?_ _ | refine zd ?_ | refine zb ?_ _)); refine zl (cs := #[.int .i8 ((zx l0_2 a1_0).f0), .int .i8 0, .int .i8 0, .int .i8 0]) ?_ 1 _ rfl; (with_reducible repeat (first | refine zc ?_ _ | refine zd ?_ | refine zb ?_ _)); refine zl (cs := #[.int .i8 0, .int .i8 0, .int .i8 0, .int .i8 0]) ?_ 0 _ rfl; (with_reducible repeat (first | refine zc ?_ _ | refine zd ?_ | refine zb ?_ _)); exact BK341.out) Try.underlying43 rfl (by kernel_rfl)) rfl ?_
    exact ⟨by first | rfl | (simp [zk, zj] <;> rfl) | (simp [*, zk, zj] <;> rfl), sB⟩
   rw [if_neg c13] at H
   exact absurd H (by simp)
  rw [if_neg c12] at H
  exact absurd H (by simp)
 replace c11 := Bool.eq_false_iff.mpr c11
 subst c11
 have H1 : (if 0 ≤ a1_0 then (if a1_0 < (l0_2.length : Int) then ((spec_l04Opposite.f k ((zx l0_2 a1_0).f0) ((zx l0_2 a1_0).f1) ((zx l0_2 a1_0).f2) ((zx l0_2 a1_0).f3)).bind fun bt344 => (some (bt344.1, bt344.2.1, bt344.2.2.1, bt344.2.2.2))) else (none)) else (none)) = some (r1, r2, r3, r4) := by rw [if_neg (show ¬ (false = true) by decide)] at H; exact H
 clear H
 have H := H1
 clear H1
 by_cases c24 : 0 ≤ a1_0
 ·rw [if_pos c24] at H
  have c24b0 : decide (0 ≤ a1_0) = true := decide_eq_true c24
  clear c24
  by_cases c25 : a1_0 < (l0_2.length : Int)
  ·rw [if_pos c25] at H
   have c25b0 : decide (a1_0 < (l0_2.length : Int)) = true := decide_eq_true c25
   clear c25
   replace H := Option.bind_eq_some_iff.mp H
   obtain ⟨⟨t344, t345, t346, t347⟩, A260, H⟩ := H
   replace H : (some (t344, t345, t346, t347)) = some (r1, r2, r3, r4) := H
   have A26 := za.mk A260
   clear A260
   simp only [Option.some.injEq, Prod.mk.injEq] at H
   obtain ⟨rfl, rfl, rfl, rfl⟩ := H
   go_enter Try.func77, Try.ntmps77
   try go_wp2_with (first | ((with_reducible refine zn (N := 3) rfl ?_); refine bx (N := 3) #[.int .i8 a1_0, .bool false] 38 rfl ?_; intro gb340 hg w27 hbox hb; have BK340 := za.mk hbox; have GW340 := gB hg; have GE340 := GW340; have NB0_340 := nK hg BK0; have NB340_0 := za.mk (nK hg BK0).out.symm; replace BK0 := dK BK0 hb; replace HB := za.mk (ze sB hb); clear hb hbox hg) | ((with_reducible refine zn (N := 4) rfl ?_); refine bx (N := 4) #[.int .i8 0, .int .i8 0, .int .i8 0, .int .i8 0] 43 rfl ?_; intro gb341 hg w28 hbox hb; have BK341 := za.mk hbox; have GW341 := gB hg; have GE341 := GW341; have NB0_341 := nK hg BK0; have NB341_0 := za.mk (nK hg BK0).out.symm; have NB340_341 := nK hg BK340; have NB341_340 := za.mk NB340_341.out.symm; replace BK0 := dK BK0 hb; replace BK340 := dK BK340 hb; replace HB := za.mk (ze sB hb); clear hb hbox hg; have hnb29 := NB340_0.out; have hnc29 := NB0_340.out; have hnb30 := NB340_341.out; have hnc30 := NB341_340.out; obtain ⟨hcz31_0, hcz31_1⟩ := xc2 BK340; obtain ⟨hfz31_0, hfz31_1⟩ := xf2 BK340))
   have n0_ := za.mk (zd BK0.out)
   have n1_ := za.mk (zd BK340.out)
   have n2_ := za.mk (zd BK341.out)
   have n3_ := za.mk (zt HB.out)
   clear BK0
   clear BK340
   clear BK341
   clear HB
   have BK0 := n0_
   have BK340 := n1_
   have BK341 := n2_
   have HB := n3_
   clear n0_ n1_ n2_ n3_
   have p343 : 0 ≤ (a1_0 : Int) := of_decide_eq_true (by first | (with_reducible assumption) | assumption)
   have q343 : a1_0 < (l0_2.length : Int) := of_decide_eq_true (by first | (with_reducible assumption) | assumption)
   obtain ⟨ad343, e343, hx343_0, hx343_1, hx343_2, hx343_3⟩ := zhd HR0_2.out a1_0 p343 q343
   have hw343_3 := hx343_3
   have hw343_2 := hx343_2
   have hw343_1 := hx343_1
   have hw343_0 := hx343_0
   cases e343
   replace hx343_0 := (HB.out.cell (World.block_lt_of_cell? w _ hx343_0)).trans hx343_0
   replace hx343_1 := (HB.out.cell (World.block_lt_of_cell? w _ hx343_1)).trans hx343_1
   replace hx343_2 := (HB.out.cell (World.block_lt_of_cell? w _ hx343_2)).trans hx343_2
   replace hx343_3 := (HB.out.cell (World.block_lt_of_cell? w _ hx343_3)).trans hx343_3
   replace p343 := eq_true p343
   replace q343 := eq_true q343
   refine zbc (n := 10) (S := fun w' => w'.cell? ⟨g0, 0, none⟩ = some (.int .i8 a0_0) ∧ w'.cell? ⟨g0, 1, none⟩ = some (.int .i8 a0_1) ∧ w'.cell? ⟨g0, 2, none⟩ = some (.slice (some ad343) l0_2.length c0_2) ∧ w'.cell? ⟨gb340, 0, none⟩ = some (.int .i8 a1_0) ∧ w'.cell? ⟨gb340, 1, none⟩ = some (.bool false) ∧ w'.cell? (ad343.add ((a1_0).toNat * 4)) = some (.int .i8 ((zx l0_2 a1_0).f0)) ∧ w'.cell? ⟨(ad343.add ((a1_0).toNat * 4)).block, (ad343.add ((a1_0).toNat * 4)).off + 1, none⟩ = some (.int .i8 ((zx l0_2 a1_0).f1)) ∧ w'.cell? ⟨(ad343.add ((a1_0).toNat * 4)).block, (ad343.add ((a1_0).toNat * 4)).off + 2, none⟩ = some (.int .i8 ((zx l0_2 a1_0).f2)) ∧ w'.cell? ⟨(ad343.add ((a1_0).toNat * 4)).block, (ad343.add ((a1_0).toNat * 4)).off + 3, none⟩ = some (.int .i8 ((zx l0_2 a1_0).f3))) (ds := []) #[false, false, false, false, false, false, false, false, false, false] (by kernel_rfl) rfl rfl ⟨(zh BK0.out 0).trans rfl, (zh BK0.out 1).trans rfl, (zh BK0.out 2).trans rfl, (zh BK340.out 0).trans rfl, (zh BK340.out 1).trans rfl, ((HB.out.cell (World.block_lt_of_cell? w _ hw343_0)).trans hw343_0), ((HB.out.cell (World.block_lt_of_cell? w _ hw343_1)).trans hw343_1), ((HB.out.cell (World.block_lt_of_cell? w _ hw343_2)).trans hw343_2), ((HB.out.cell (World.block_lt_of_cell? w _ hw343_3)).trans hw343_3)⟩ (fun hHeld => ?_); refine zib spec_l04Seen.tab5 spec_l04Seen.bits5 (fun HT_ HW_ => ?_)
   generalize w28.drew = w32 at BK0 BK340 BK341 HB hx343_0 hx343_1 hx343_2 hx343_3 hHeld ⊢
   refine zva (i := 0) (N := some 19) (v := ?_) (a' := ?_) #[true, false, false, false, false, false, false, false, false, false] rfl rfl (zia HT_.out (by kernel_rfl)) (fun _ _ _ h => h) (Or.inl ⟨by rfl, ?_⟩) ?_ ?_
   rotate_left
   ·intro w'
    go_simp
    with_reducible rfl
   rotate_left
   ·simp only [Act.put, List.setIfInBounds_toArray, List.set_cons_zero, List.set_cons_succ, zda, zfa]
    rfl
   refine zva (i := 1) (N := some 20) (v := ?_) (a' := ?_) #[true, true, false, false, false, false, false, false, false, false] rfl rfl (zia HT_.out (by kernel_rfl)) (fun _ _ _ h => h) (Or.inl ⟨by rfl, ?_⟩) ?_ ?_
   rotate_left
   ·intro w'
    go_simp
    with_reducible rfl
   rotate_left
   ·simp only [Act.put, List.setIfInBounds_toArray, List.set_cons_zero, List.set_cons_succ, zda, zfa]
    rfl
   refine zva (i := 2) (N := some 21) (v := ?_) (a' := ?_) #[true, true, true, false, false, false, false, false, false, false] rfl rfl (zia HT_.out (by kernel_rfl)) (fun _ _ _ h => h) (Or.inl ⟨by rfl, ?_⟩) ?_ ?_
   rotate_left
   ·intro w'
    go_simp
    with_reducible rfl
   rotate_left
   ·simp only [Act.put, List.setIfInBounds_toArray, List.set_cons_zero, List.set_cons_succ, zda, zfa]
    rfl
   refine zva (i := 4) (N := some 23) (v := ?_) (a' := ?_) #[true, true, true, false, true, false, false, false, false, false] rfl rfl (zia HT_.out (by kernel_rfl)) (fun _ _ _ h => h) (Or.inl ⟨by rfl, ?_⟩) ?_ ?_
   rotate_left
   ·intro w'
    go_simp
    with_reducible rfl
   rotate_left
   ·simp only [Act.put, List.setIfInBounds_toArray, List.set_cons_zero, List.set_cons_succ, zda, zfa]
    rfl
   refine take_ (i := 3) (N := some 22) (v := ?_) (a' := ?_) #[true, true, true, true, true, false, false, false, false, false] rfl rfl (zsa HT_.out HW_.out (by kernel_rfl)) (fun _ _ _ h => h) (Or.inl ⟨by rfl, ?_⟩) hHeld ?_ ?_
   rotate_left
   ·rintro w' ⟨s0, s1, s2, s3, s4, s5, s6, s7, s8⟩
    go_simp
    with_reducible rfl
   rotate_left
   ·simp only [Act.put, List.setIfInBounds_toArray, List.set_cons_zero, List.set_cons_succ, zda, zfa]
    rfl
   refine take_ (i := 5) (N := some 24) (v := ?_) (a' := ?_) #[true, true, true, true, true, true, false, false, false, false] rfl rfl (zsa HT_.out HW_.out (by kernel_rfl)) (fun _ _ _ h => h) (Or.inl ⟨by rfl, ?_⟩) hHeld ?_ ?_
   rotate_left
   ·rintro w' ⟨s0, s1, s2, s3, s4, s5, s6, s7, s8⟩
    go_simp
    with_reducible rfl
   rotate_left
   ·simp only [Act.put, List.setIfInBounds_toArray, List.set_cons_zero, List.set_cons_succ, zda, zfa]
    rfl
   refine zva (i := 6) (N := some 25) (v := ?_) (a' := ?_) #[true, true, true, true, true, true, true, false, false, false] rfl rfl (zia HT_.out (by kernel_rfl)) (fun _ _ _ h => h) (Or.inl ⟨by rfl, ?_⟩) ?_ ?_
   rotate_left
   ·intro w'
    go_simp
    with_reducible rfl
   rotate_left
   ·simp only [Act.put, List.setIfInBounds_toArray, List.set_cons_zero, List.set_cons_succ, zda, zfa]
    rfl
   refine take_ (i := 7) (N := some 26) (v := ?_) (a' := ?_) #[true, true, true, true, true, true, true, true, false, false] rfl rfl (zsa HT_.out HW_.out (by kernel_rfl)) (fun _ _ _ h => h) (Or.inl ⟨by rfl, ?_⟩) hHeld ?_ ?_
   rotate_left
   ·rintro w' ⟨s0, s1, s2, s3, s4, s5, s6, s7, s8⟩
    go_simp
    with_reducible rfl
   rotate_left
   ·simp only [Act.put, List.setIfInBounds_toArray, List.set_cons_zero, List.set_cons_succ, zda, zfa]
    rfl
   refine one_ (i := 8) (N := some 27) #[true, true, true, true, true, true, true, true, true, false] rfl rfl (zgb HT_.out (by kernel_rfl)) (by decide) (fun K hK => ?_)
   refine zxb Try.func105 (by kernel_rfl) rfl #[.agg #[.int .i8 ((zx l0_2 a1_0).f0), .int .i8 ((zx l0_2 a1_0).f1), .int .i8 ((zx l0_2 a1_0).f2), .int .i8 ((zx l0_2 a1_0).f3)]] (by rfl) rfl rfl (by (try simp only [List.map_toArray, List.map_cons, List.map_nil]); first | done | rfl | (simp only [List.length_drop, List.length_take]; rfl)) ?_
   with_reducible refine (spec_l04Opposite.calls k ((zx l0_2 a1_0).f0) ((zx l0_2 a1_0).f1) ((zx l0_2 a1_0).f2) ((zx l0_2 a1_0).f3) t344 t345 t346 t347 _ A26.out).mono ?_
   rintro e w33 ⟨rfl, hb⟩
   refine ⟨_, rfl, ?_⟩
   have n0_ := dK BK0 hb
   have n1_ := dK BK340 hb
   have n2_ := dK BK341 hb
   have n3_ := za.mk (ze sB hb)
   clear BK0
   clear BK340
   clear BK341
   clear HB
   have BK0 := n0_
   have BK340 := n1_
   have BK341 := n2_
   have HB := n3_
   clear n0_ n1_ n2_ n3_
   (try clear hb)
   (try clear hb2)
   (try clear hk)
   (try clear hi)
   refine hK.out _ _ ⟨(zh BK0.out 0).trans rfl, (zh BK0.out 1).trans rfl, (zh BK0.out 2).trans rfl, (zh BK340.out 0).trans rfl, (zh BK340.out 1).trans rfl, ((HB.out.cell (World.block_lt_of_cell? w _ hw343_0)).trans hw343_0), ((HB.out.cell (World.block_lt_of_cell? w _ hw343_1)).trans hw343_1), ((HB.out.cell (World.block_lt_of_cell? w _ hw343_2)).trans hw343_2), ((HB.out.cell (World.block_lt_of_cell? w _ hw343_3)).trans hw343_3)⟩ (fun hHeld => ?_)
   clear hK K
   refine zub (a' := ?_) ?_ ?_
   rotate_left
   ·show Act.put _ (some 27) _ = _
    simp only [Act.put, List.setIfInBounds_toArray, List.set_cons_zero, List.set_cons_succ, zda, zfa]
    rfl
   refine one_ (i := 9) (N := none) #[true, true, true, true, true, true, true, true, true, true] rfl rfl (zgb HT_.out (by kernel_rfl)) (by decide) (fun K hK => ?_)
   have hs34 : w33.cell? ⟨gb341, 0, none⟩ = some (.int .i8 0) := (zh BK341.out 0).trans rfl
   have hfs34 := zaa BK341.out 0
   have hns34_0 := NB0_341.out
   have hns34_1 := NB340_341.out
   have hms34_0 := NB341_0.out
   have hms34_1 := NB341_340.out
   have hs35 : w33.cell? ⟨gb341, 1, none⟩ = some (.int .i8 0) := (zh BK341.out 1).trans rfl
   have hfs35 := zaa BK341.out 1
   have hns35_0 := NB0_341.out
   have hns35_1 := NB340_341.out
   have hms35_0 := NB341_0.out
   have hms35_1 := NB341_340.out
   have hs36 : w33.cell? ⟨gb341, 2, none⟩ = some (.int .i8 0) := (zh BK341.out 2).trans rfl
   have hfs36 := zaa BK341.out 2
   have hns36_0 := NB0_341.out
   have hns36_1 := NB340_341.out
   have hms36_0 := NB341_0.out
   have hms36_1 := NB341_340.out
   have hs37 : w33.cell? ⟨gb341, 3, none⟩ = some (.int .i8 0) := (zh BK341.out 3).trans rfl
   have hfs37 := zaa BK341.out 3
   have hns37_0 := NB0_341.out
   have hns37_1 := NB340_341.out
   have hms37_0 := NB341_0.out
   have hms37_1 := NB341_340.out
   refine skip_ (w1 := ?_) (by rfl) rfl ?_ ?_
   rotate_left
   ·go_simp
    rfl
   refine hK.out _ _ ⟨((zba (p := ⟨gb341, _, none⟩) NB0_341.out _).trans (((zba (p := ⟨gb341, _, none⟩) NB0_341.out _).trans (((zba (p := ⟨gb341, _, none⟩) NB0_341.out _).trans (((zba (p := ⟨gb341, _, none⟩) NB0_341.out _).trans (hHeld.1)))))))), ((zba (p := ⟨gb341, _, none⟩) NB0_341.out _).trans (((zba (p := ⟨gb341, _, none⟩) NB0_341.out _).trans (((zba (p := ⟨gb341, _, none⟩) NB0_341.out _).trans (((zba (p := ⟨gb341, _, none⟩) NB0_341.out _).trans (hHeld.2.1)))))))), ((zba (p := ⟨gb341, _, none⟩) NB0_341.out _).trans (((zba (p := ⟨gb341, _, none⟩) NB0_341.out _).trans (((zba (p := ⟨gb341, _, none⟩) NB0_341.out _).trans (((zba (p := ⟨gb341, _, none⟩) NB0_341.out _).trans (hHeld.2.2.1)))))))), ((zba (p := ⟨gb341, _, none⟩) NB340_341.out _).trans (((zba (p := ⟨gb341, _, none⟩) NB340_341.out _).trans (((zba (p := ⟨gb341, _, none⟩) NB340_341.out _).trans (((zba (p := ⟨gb341, _, none⟩) NB340_341.out _).trans (hHeld.2.2.2.1)))))))), ((zba (p := ⟨gb341, _, none⟩) NB340_341.out _).trans (((zba (p := ⟨gb341, _, none⟩) NB340_341.out _).trans (((zba (p := ⟨gb341, _, none⟩) NB340_341.out _).trans (((zba (p := ⟨gb341, _, none⟩) NB340_341.out _).trans (hHeld.2.2.2.2.1)))))))), ((zba (p := ⟨gb341, _, none⟩) (by first | exact Nat.ne_of_lt (Nat.lt_of_lt_of_le (by have := World.block_lt_of_cell? _ _ hw343_0; first | rwa [zi] at this | exact this) GW341.out) | (rw [zi]; exact Nat.ne_of_lt (Nat.lt_of_lt_of_le (by have := World.block_lt_of_cell? _ _ hw343_0; first | rwa [zi] at this | exact this) GW341.out)) | (show (Addr.add _ _).block ≠ _; rw [zi]; exact Nat.ne_of_lt (Nat.lt_of_lt_of_le (by have := World.block_lt_of_cell? _ _ hw343_0; first | rwa [zi] at this | exact this) GW341.out)) | (dsimp only; exact Nat.ne_of_lt (Nat.lt_of_lt_of_le (by have := World.block_lt_of_cell? _ _ hw343_0; first | rwa [zi] at this | exact this) GW341.out))) _).trans (((zba (p := ⟨gb341, _, none⟩) (by first | exact Nat.ne_of_lt (Nat.lt_of_lt_of_le (by have := World.block_lt_of_cell? _ _ hw343_0; first | rwa [zi] at this | exact this) GW341.out) | (rw [zi]; exact Nat.ne_of_lt (Nat.lt_of_lt_of_le (by have := World.block_lt_of_cell? _ _ hw343_0; first | rwa [zi] at this | exact this) GW341.out)) | (show (Addr.add _ _).block ≠ _; rw [zi]; exact Nat.ne_of_lt (Nat.lt_of_lt_of_le (by have := World.block_lt_of_cell? _ _ hw343_0; first | rwa [zi] at this | exact this) GW341.out)) | (dsimp only; exact Nat.ne_of_lt (Nat.lt_of_lt_of_le (by have := World.block_lt_of_cell? _ _ hw343_0; first | rwa [zi] at this | exact this) GW341.out))) _).trans (((zba (p := ⟨gb341, _, none⟩) (by first | exact Nat.ne_of_lt (Nat.lt_of_lt_of_le (by have := World.block_lt_of_cell? _ _ hw343_0; first | rwa [zi] at this | exact this) GW341.out) | (rw [zi]; exact Nat.ne_of_lt (Nat.lt_of_lt_of_le (by have := World.block_lt_of_cell? _ _ hw343_0; first | rwa [zi] at this | exact this) GW341.out)) | (show (Addr.add _ _).block ≠ _; rw [zi]; exact Nat.ne_of_lt (Nat.lt_of_lt_of_le (by have := World.block_lt_of_cell? _ _ hw343_0; first | rwa [zi] at this | exact this) GW341.out)) | (dsimp only; exact Nat.ne_of_lt (Nat.lt_of_lt_of_le (by have := World.block_lt_of_cell? _ _ hw343_0; first | rwa [zi] at this | exact this) GW341.out))) _).trans (((zba (p := ⟨gb341, _, none⟩) (by first | exact Nat.ne_of_lt (Nat.lt_of_lt_of_le (by have := World.block_lt_of_cell? _ _ hw343_0; first | rwa [zi] at this | exact this) GW341.out) | (rw [zi]; exact Nat.ne_of_lt (Nat.lt_of_lt_of_le (by have := World.block_lt_of_cell? _ _ hw343_0; first | rwa [zi] at this | exact this) GW341.out)) | (show (Addr.add _ _).block ≠ _; rw [zi]; exact Nat.ne_of_lt (Nat.lt_of_lt_of_le (by have := World.block_lt_of_cell? _ _ hw343_0; first | rwa [zi] at this | exact this) GW341.out)) | (dsimp only; exact Nat.ne_of_lt (Nat.lt_of_lt_of_le (by have := World.block_lt_of_cell? _ _ hw343_0; first | rwa [zi] at this | exact this) GW341.out))) _).trans (hHeld.2.2.2.2.2.1)))))))), ((zba (p := ⟨gb341, _, none⟩) (by first | exact Nat.ne_of_lt (Nat.lt_of_lt_of_le (by have := World.block_lt_of_cell? _ _ hw343_1; first | rwa [zi] at this | exact this) GW341.out) | (rw [zi]; exact Nat.ne_of_lt (Nat.lt_of_lt_of_le (by have := World.block_lt_of_cell? _ _ hw343_1; first | rwa [zi] at this | exact this) GW341.out)) | (show (Addr.add _ _).block ≠ _; rw [zi]; exact Nat.ne_of_lt (Nat.lt_of_lt_of_le (by have := World.block_lt_of_cell? _ _ hw343_1; first | rwa [zi] at this | exact this) GW341.out)) | (dsimp only; exact Nat.ne_of_lt (Nat.lt_of_lt_of_le (by have := World.block_lt_of_cell? _ _ hw343_1; first | rwa [zi] at this | exact this) GW341.out))) _).trans (((zba (p := ⟨gb341, _, none⟩) (by first | exact Nat.ne_of_lt (Nat.lt_of_lt_of_le (by have := World.block_lt_of_cell? _ _ hw343_1; first | rwa [zi] at this | exact this) GW341.out) | (rw [zi]; exact Nat.ne_of_lt (Nat.lt_of_lt_of_le (by have := World.block_lt_of_cell? _ _ hw343_1; first | rwa [zi] at this | exact this) GW341.out)) | (show (Addr.add _ _).block ≠ _; rw [zi]; exact Nat.ne_of_lt (Nat.lt_of_lt_of_le (by have := World.block_lt_of_cell? _ _ hw343_1; first | rwa [zi] at this | exact this) GW341.out)) | (dsimp only; exact Nat.ne_of_lt (Nat.lt_of_lt_of_le (by have := World.block_lt_of_cell? _ _ hw343_1; first | rwa [zi] at this | exact this) GW341.out))) _).trans (((zba (p := ⟨gb341, _, none⟩) (by first | exact Nat.ne_of_lt (Nat.lt_of_lt_of_le (by have := World.block_lt_of_cell? _ _ hw343_1; first | rwa [zi] at this | exact this) GW341.out) | (rw [zi]; exact Nat.ne_of_lt (Nat.lt_of_lt_of_le (by have := World.block_lt_of_cell? _ _ hw343_1; first | rwa [zi] at this | exact this) GW341.out)) | (show (Addr.add _ _).block ≠ _; rw [zi]; exact Nat.ne_of_lt (Nat.lt_of_lt_of_le (by have := World.block_lt_of_cell? _ _ hw343_1; first | rwa [zi] at this | exact this) GW341.out)) | (dsimp only; exact Nat.ne_of_lt (Nat.lt_of_lt_of_le (by have := World.block_lt_of_cell? _ _ hw343_1; first | rwa [zi] at this | exact this) GW341.out))) _).trans (((zba (p := ⟨gb341, _, none⟩) (by first | exact Nat.ne_of_lt (Nat.lt_of_lt_of_le (by have := World.block_lt_of_cell? _ _ hw343_1; first | rwa [zi] at this | exact this) GW341.out) | (rw [zi]; exact Nat.ne_of_lt (Nat.lt_of_lt_of_le (by have := World.block_lt_of_cell? _ _ hw343_1; first | rwa [zi] at this | exact this) GW341.out)) | (show (Addr.add _ _).block ≠ _; rw [zi]; exact Nat.ne_of_lt (Nat.lt_of_lt_of_le (by have := World.block_lt_of_cell? _ _ hw343_1; first | rwa [zi] at this | exact this) GW341.out)) | (dsimp only; exact Nat.ne_of_lt (Nat.lt_of_lt_of_le (by have := World.block_lt_of_cell? _ _ hw343_1; first | rwa [zi] at this | exact this) GW341.out))) _).trans (hHeld.2.2.2.2.2.2.1)))))))), ((zba (p := ⟨gb341, _, none⟩) (by first | exact Nat.ne_of_lt (Nat.lt_of_lt_of_le (by have := World.block_lt_of_cell? _ _ hw343_2; first | rwa [zi] at this | exact this) GW341.out) | (rw [zi]; exact Nat.ne_of_lt (Nat.lt_of_lt_of_le (by have := World.block_lt_of_cell? _ _ hw343_2; first | rwa [zi] at this | exact this) GW341.out)) | (show (Addr.add _ _).block ≠ _; rw [zi]; exact Nat.ne_of_lt (Nat.lt_of_lt_of_le (by have := World.block_lt_of_cell? _ _ hw343_2; first | rwa [zi] at this | exact this) GW341.out)) | (dsimp only; exact Nat.ne_of_lt (Nat.lt_of_lt_of_le (by have := World.block_lt_of_cell? _ _ hw343_2; first | rwa [zi] at this | exact this) GW341.out))) _).trans (((zba (p := ⟨gb341, _, none⟩) (by first | exact Nat.ne_of_lt (Nat.lt_of_lt_of_le (by have := World.block_lt_of_cell? _ _ hw343_2; first | rwa [zi] at this | exact this) GW341.out) | (rw [zi]; exact Nat.ne_of_lt (Nat.lt_of_lt_of_le (by have := World.block_lt_of_cell? _ _ hw343_2; first | rwa [zi] at this | exact this) GW341.out)) | (show (Addr.add _ _).block ≠ _; rw [zi]; exact Nat.ne_of_lt (Nat.lt_of_lt_of_le (by have := World.block_lt_of_cell? _ _ hw343_2; first | rwa [zi] at this | exact this) GW341.out)) | (dsimp only; exact Nat.ne_of_lt (Nat.lt_of_lt_of_le (by have := World.block_lt_of_cell? _ _ hw343_2; first | rwa [zi] at this | exact this) GW341.out))) _).trans (((zba (p := ⟨gb341, _, none⟩) (by first | exact Nat.ne_of_lt (Nat.lt_of_lt_of_le (by have := World.block_lt_of_cell? _ _ hw343_2; first | rwa [zi] at this | exact this) GW341.out) | (rw [zi]; exact Nat.ne_of_lt (Nat.lt_of_lt_of_le (by have := World.block_lt_of_cell? _ _ hw343_2; first | rwa [zi] at this | exact this) GW341.out)) | (show (Addr.add _ _).block ≠ _; rw [zi]; exact Nat.ne_of_lt (Nat.lt_of_lt_of_le (by have := World.block_lt_of_cell? _ _ hw343_2; first | rwa [zi] at this | exact this) GW341.out)) | (dsimp only; exact Nat.ne_of_lt (Nat.lt_of_lt_of_le (by have := World.block_lt_of_cell? _ _ hw343_2; first | rwa [zi] at this | exact this) GW341.out))) _).trans (((zba (p := ⟨gb341, _, none⟩) (by first | exact Nat.ne_of_lt (Nat.lt_of_lt_of_le (by have := World.block_lt_of_cell? _ _ hw343_2; first | rwa [zi] at this | exact this) GW341.out) | (rw [zi]; exact Nat.ne_of_lt (Nat.lt_of_lt_of_le (by have := World.block_lt_of_cell? _ _ hw343_2; first | rwa [zi] at this | exact this) GW341.out)) | (show (Addr.add _ _).block ≠ _; rw [zi]; exact Nat.ne_of_lt (Nat.lt_of_lt_of_le (by have := World.block_lt_of_cell? _ _ hw343_2; first | rwa [zi] at this | exact this) GW341.out)) | (dsimp only; exact Nat.ne_of_lt (Nat.lt_of_lt_of_le (by have := World.block_lt_of_cell? _ _ hw343_2; first | rwa [zi] at this | exact this) GW341.out))) _).trans (hHeld.2.2.2.2.2.2.2.1)))))))), ((zba (p := ⟨gb341, _, none⟩) (by first | exact Nat.ne_of_lt (Nat.lt_of_lt_of_le (by have := World.block_lt_of_cell? _ _ hw343_3; first | rwa [zi] at this | exact this) GW341.out) | (rw [zi]; exact Nat.ne_of_lt (Nat.lt_of_lt_of_le (by have := World.block_lt_of_cell? _ _ hw343_3; first | rwa [zi] at this | exact this) GW341.out)) | (show (Addr.add _ _).block ≠ _; rw [zi]; exact Nat.ne_of_lt (Nat.lt_of_lt_of_le (by have := World.block_lt_of_cell? _ _ hw343_3; first | rwa [zi] at this | exact this) GW341.out)) | (dsimp only; exact Nat.ne_of_lt (Nat.lt_of_lt_of_le (by have := World.block_lt_of_cell? _ _ hw343_3; first | rwa [zi] at this | exact this) GW341.out))) _).trans (((zba (p := ⟨gb341, _, none⟩) (by first | exact Nat.ne_of_lt (Nat.lt_of_lt_of_le (by have := World.block_lt_of_cell? _ _ hw343_3; first | rwa [zi] at this | exact this) GW341.out) | (rw [zi]; exact Nat.ne_of_lt (Nat.lt_of_lt_of_le (by have := World.block_lt_of_cell? _ _ hw343_3; first | rwa [zi] at this | exact this) GW341.out)) | (show (Addr.add _ _).block ≠ _; rw [zi]; exact Nat.ne_of_lt (Nat.lt_of_lt_of_le (by have := World.block_lt_of_cell? _ _ hw343_3; first | rwa [zi] at this | exact this) GW341.out)) | (dsimp only; exact Nat.ne_of_lt (Nat.lt_of_lt_of_le (by have := World.block_lt_of_cell? _ _ hw343_3; first | rwa [zi] at this | exact this) GW341.out))) _).trans (((zba (p := ⟨gb341, _, none⟩) (by first | exact Nat.ne_of_lt (Nat.lt_of_lt_of_le (by have := World.block_lt_of_cell? _ _ hw343_3; first | rwa [zi] at this | exact this) GW341.out) | (rw [zi]; exact Nat.ne_of_lt (Nat.lt_of_lt_of_le (by have := World.block_lt_of_cell? _ _ hw343_3; first | rwa [zi] at this | exact this) GW341.out)) | (show (Addr.add _ _).block ≠ _; rw [zi]; exact Nat.ne_of_lt (Nat.lt_of_lt_of_le (by have := World.block_lt_of_cell? _ _ hw343_3; first | rwa [zi] at this | exact this) GW341.out)) | (dsimp only; exact Nat.ne_of_lt (Nat.lt_of_lt_of_le (by have := World.block_lt_of_cell? _ _ hw343_3; first | rwa [zi] at this | exact this) GW341.out))) _).trans (((zba (p := ⟨gb341, _, none⟩) (by first | exact Nat.ne_of_lt (Nat.lt_of_lt_of_le (by have := World.block_lt_of_cell? _ _ hw343_3; first | rwa [zi] at this | exact this) GW341.out) | (rw [zi]; exact Nat.ne_of_lt (Nat.lt_of_lt_of_le (by have := World.block_lt_of_cell? _ _ hw343_3; first | rwa [zi] at this | exact this) GW341.out)) | (show (Addr.add _ _).block ≠ _; rw [zi]; exact Nat.ne_of_lt (Nat.lt_of_lt_of_le (by have := World.block_lt_of_cell? _ _ hw343_3; first | rwa [zi] at this | exact this) GW341.out)) | (dsimp only; exact Nat.ne_of_lt (Nat.lt_of_lt_of_le (by have := World.block_lt_of_cell? _ _ hw343_3; first | rwa [zi] at this | exact this) GW341.out))) _).trans (hHeld.2.2.2.2.2.2.2.2))))))))⟩ (fun hHeld => ?_)
   clear hK K
   refine zjd (ztb HT_.out (by kernel_rfl)) ?_
   try go_wp2
   refine bodyPost_ret (results_cell_row rfl _ _ gb341 43 #[.int .i8 t344, .int .i8 t345, .int .i8 t346, .int .i8 t347] (0, 0) _ rfl (by (with_reducible repeat (first | refine zc ?_ _ | refine zd ?_ | refine zb ?_ _)); refine zl (cs := #[.int .i8 t344, .int .i8 t345, .int .i8 t346, .int .i8 0]) ?_ 3 _ rfl; (with_reducible repeat (first | refine zc ?_ _ | refine zd ?_ | refine zb ?_ _)); refine zl (cs := #[.int .i8 t344, .int .i8 t345, .int .i8 0, .int .i8 0]) ?_ 2 _ rfl; (with_reducible repeat (first | refine zc ?_ _ | refine zd ?_ | refine zb ?_ _)); refine zl (cs := #[.int .i8 t344, .int .i8 0, .int .i8 0, .int .i8 0]) ?_ 1 _ rfl; (with_reducible repeat (first | refine zc ?_ _ | refine zd ?_ | refine zb ?_ _)); refine zl (cs := #[.int .i8 0, .int .i8 0, .int .i8 0, .int .i8 0]) ?_ 0 _ rfl; (with_reducible repeat (first | refine zc ?_ _ | refine zd ?_ | refine zb ?_ _)); exact BK341.out) Try.underlying43 rfl (by kernel_rfl)) rfl ?_
   exact ⟨by first | rfl | (simp [zk, zj] <;> rfl) | (simp [*, zk, zj] <;> rfl), sB⟩
  rw [if_neg c25] at H
  exact absurd H (by simp)
 rw [if_neg c24] at H
 exact absurd H (by simp)

end Go.Proofs.Ytmfbcklaomigaaa.N
