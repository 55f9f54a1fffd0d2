-- Written by wip/tools/myprint.py, a program of this session, by way of the kit's print.
import Derived.Test.YtmfbcklaomigaaaNx0
import Derived.Test.YtmfbcklaomigaaaNx16
import Derived.Test.YtmfbcklaomigaaaNx18
import Derived.Test.YtmfbcklaomigaaaNx20
import Derived.Test.YtmfbcklaomigaaaNx21
import Derived.Test.YtmfbcklaomigaaaLPrN
namespace Go.Proofs.Ytmfbcklaomigaaa.N
open Go.RowKit Go.Proofs.YtmfbcklaomigaaaW.PrintWords Go.Proofs.YtmfbcklaomigaaaW.PrintLast Go.Proofs.YtmfbcklaomigaaaW.PrintMore
attribute [local go_sem] zqa zpa zwa zxa zla zka zra zta   -- for this text's walks alone
set_option linter.unusedVariables false
set_option linter.unusedSimpArgs false

/-! ### spec_LeastDistance: function 29 -/
mutual
def spec_LeastDistance.l0 : Nat → List (S38) → Int → Int → Int → Int → List (S43) → Option (Int × Int)
 | 0, _, _, _, _, _, _ => none
 | k + 1, x4, x5, x6, x375000, x375001, x375002 => if x6 < (x4.length : Int) then (spec_LeastDistance.l1 k x4 x5 x6 0 x375000 x375001 x375002) else (some (x5, 0))
def spec_LeastDistance.l1 : Nat → List (S38) → Int → Int → Int → Int → Int → List (S43) → Option (Int × Int)
 | 0, _, _, _, _, _, _, _ => none
 | k + 1, x4, x5, x6, x7, x375000, x375001, x375002 => if x7 < x6 then (if 0 ≤ x7 then (if x7 < (x4.length : Int) then ((spec_l04Seen.f k x375000 x375001 x375002 ((zf x4 x7).f0) ((zf x4 x7).f1)).bind fun bt380 => (if 0 ≤ x6 then (if x6 < (x4.length : Int) then ((spec_l04Seen.f k x375000 x375001 x375002 ((zf x4 x6).f0) ((zf x4 x6).f1)).bind fun bt385 => ((spec_l04Distance.f k bt380.1 bt380.2.1 bt380.2.2.1 bt380.2.2.2 bt385.1 bt385.2.1 bt385.2.2.1 bt385.2.2.2).bind fun t389 => ((spec_l00Min.f x5 t389).bind fun t390 => (spec_LeastDistance.l1 k x4 t390 x6 (wrap64 (x7 + 1)) x375000 x375001 x375002)))) else (none)) else (none))) else (none)) else (none)) else (spec_LeastDistance.l0 k x4 x5 (wrap64 (x6 + 1)) x375000 x375001 x375002)
end
def spec_LeastDistance.f (k : Nat) (a0_0 : Int) (a0_1 : Int) (l0_2 : List (S43)) : Option (Int × Int) := (spec_l04Ok.f k a0_0 a0_1 l0_2).bind fun t375 => (if t375 = true then ((spec_l04Cases.f k a0_0 a0_1 l0_2).bind fun t376 => (spec_LeastDistance.l0 k t376 4 1 a0_0 a0_1 l0_2)) else (some (0, 1)))
def spec_LeastDistance.T11 : Bool × List (List Nat × List Nat) := (true, [([], []), ([], []), ([], []), ([1, 2], [1, 2]), ([3], [3]), ([4], [4]), ([], []), ([], []), ([6, 7], [6, 7]), ([8], [8]), ([9, 5], [9]), ([5, 10, 10], [5, 10]), ([0, 11, 11], [0, 11]), ([12, 12, 0, 1, 2, 3, 4, 5, 6, 7, 8, 9, 10, 11, 12], [0, 12])])
def spec_LeastDistance.B11 : List Nat := [0, 0, 0, 6, 14, 30, 0, 0, 192, 448, 1022, 2046, 4095, 8191]
theorem spec_LeastDistance.tab11 : rtab .any (zme Try.f29 11) = spec_LeastDistance.T11 := by kernel_rfl
theorem spec_LeastDistance.bits11 : zpb spec_LeastDistance.T11.2 spec_LeastDistance.B11 = true := by kernel_rfl
set_option maxHeartbeats 8000000 in
set_option maxRecDepth 100000 in
theorem spec_LeastDistance.calls (k : Nat) (a0_0 : Int) (a0_1 : Int) (A0_2 : Option Addr) (c0_2 : Nat) (l0_2 : List (S43)) (r1 : Int) (r2 : Int) (w : World) (hr0_2 : Kd.C k43 w A0_2 l0_2.length l0_2) (hc0_2 : l0_2.length ≤ c0_2) (h : spec_LeastDistance.f k a0_0 a0_1 l0_2 = some (r1, r2)) :
  Calls Try.prog 29 #[.agg #[.int .i8 a0_0, .int .i8 a0_1, .slice A0_2 l0_2.length c0_2]] w fun e w' => e = .returned (.tuple #[.int .i64 r1, .int .i64 r2]) ∧ Below w.heap.size w w' := by
 have hu28 := Try.underlying28
 have hu38 := Try.underlying38
 have HR0_2 := za.mk hr0_2
 have HC0_2 := za.mk hc0_2
 clear hr0_2 hc0_2
 have HB := za.mk (Below.refl w.heap.size w)
 have H : ((spec_l04Ok.f k a0_0 a0_1 l0_2).bind fun t375 => (if t375 = true then ((spec_l04Cases.f k a0_0 a0_1 l0_2).bind fun t376 => (spec_LeastDistance.l0 k t376 4 1 a0_0 a0_1 l0_2)) else (some (0, 1)))) = some (r1, r2) := h
 clear h
 replace H := Option.bind_eq_some_iff.mp H
 obtain ⟨t375, A20, H⟩ := H
 replace H : (if t375 = true then ((spec_l04Cases.f k a0_0 a0_1 l0_2).bind fun t376 => (spec_LeastDistance.l0 k t376 4 1 a0_0 a0_1 l0_2)) else (some (0, 1))) = some (r1, r2) := H
 have A2 := za.mk A20
 clear A20
 by_cases c3 : t375 = true
 ·subst c3
  have H1 : ((spec_l04Cases.f k a0_0 a0_1 l0_2).bind fun t376 => (spec_LeastDistance.l0 k t376 4 1 a0_0 a0_1 l0_2)) = some (r1, r2) := by rw [if_pos rfl] at H; exact H
  clear H
  have H := H1
  clear H1
  replace H := Option.bind_eq_some_iff.mp H
  obtain ⟨t376, A40, H⟩ := H
  replace H : (spec_LeastDistance.l0 k t376 4 1 a0_0 a0_1 l0_2) = some (r1, r2) := H
  have A4 := za.mk A40
  clear A40
  have H' := za.mk H
  clear H
  go_enter Try.func29, Try.ntmps29
  go_wp2_with (first | ((with_reducible refine zn (N := 1) rfl ?_); refine bx (N := 1) #[.int .i8 a0_0, .int .i8 a0_1, .slice A0_2 l0_2.length c0_2] 28 rfl ?_; intro gb374 hg w5 hbox hb; have BK374 := za.mk hbox; have GW374 := gB hg; have GE374 := GW374; replace HB := za.mk (ze sB hb); clear hb hbox hg) | ((with_reducible refine zo (f := 59) rfl ?_); refine gz (some 8) Try.func59 #[.pointer (some ⟨gb374, 0, none⟩)] rfl rfl ?_; (with_reducible refine (spec_l04Ok.calls k gb374 a0_0 a0_1 A0_2 c0_2 l0_2 true _ ?side1 ?side2 ?side3 A2.out).mono ?_); (case side1 => exact uK BK374); (case side2 => exact uC HR0_2 HB); (case side3 => exact HC0_2.out); rintro e w6 ⟨rfl, hb⟩; refine ⟨_, rfl, ?_⟩; replace BK374 := dK BK374 hb; replace HB := za.mk (ze sB hb); try clear hb) | ((with_reducible refine zo (f := 81) rfl ?_); refine gz (some 10) Try.func81 #[.pointer (some ⟨gb374, 0, none⟩)] rfl rfl ?_; (with_reducible refine (spec_l04Cases.calls k gb374 a0_0 a0_1 A0_2 c0_2 l0_2 t376 _ ?side1 ?side2 ?side3 A4.out).mono ?_); (case side1 => exact uK BK374); (case side2 => exact uC HR0_2 HB); (case side3 => exact HC0_2.out); rintro e w7 ⟨v377, rfl, ho0, hb⟩; refine ⟨_, rfl, ?_⟩; have HO378 := za.mk (Kd.R_lower ho0 (zv sB)); replace BK374 := dK BK374 hb; replace HB := za.mk (ze sB hb); try clear hb))
  go_loopg [5, 6] k (fun kq v5 v6 w' => ∃ (x5_1 : Int) (x6_1 : Int) (x375000_1 : Int) (x375001_1 : Int), v5 = .int .i64 x5_1 ∧ v6 = .int .i64 x6_1 ∧ za (spec_LeastDistance.l0 kq t376 x5_1 x6_1 x375000_1 x375001_1 l0_2 = some (r1, r2)) ∧ za (kq ≤ k) ∧ za (Kd.R k38 38 w' w.heap.size (fun _ => True) v377 t376) ∧ za (w'.heap[gb374]? = some (.cells #[.int .i8 x375000_1, .int .i8 x375001_1, (.slice A0_2 l0_2.length c0_2)] 28 (0, 0))) ∧ za (Below w.heap.size w w'))
  case atStart => exact ⟨(4), (1), (a0_0), (a0_1), (by first | rfl | (simp; done) | (simp [*]; done)), (by first | rfl | (simp; done) | (simp [*]; done)), H', ⟨Nat.le_refl _⟩, ⟨uR HO378⟩, ⟨uK BK374⟩, ⟨sB⟩⟩
  case round =>
   clear H'
   try clear c2
   try clear p2
   try clear c3
   try clear c5
   obtain ⟨x5_1, x6_1, x375000_1, x375001_1, rfl, rfl, HA, HK1, HO_4, BK374, HB⟩ := hrel
   cases gk with
   | zero => exact absurd HA.out (by simp [spec_LeastDistance.l0])
   | succ k1 =>
    have H := HA.out
    clear HA
    simp only [spec_LeastDistance.l0] at H
    by_cases c8 : x6_1 < (t376.length : Int)
    ·rw [if_pos c8] at H
     have c8b0 : decide (x6_1 < (t376.length : Int)) = true := decide_eq_true c8
     clear c8
     have H' := za.mk H
     clear H
     obtain ⟨Ao9, co9, eo9⟩ := Kd.R_slice HO_4.out
     subst eo9
     go_wp2
     go_loopg [5, 7] k1 (fun kq v5 v7 w' => ∃ (x5_2 : Int) (x7_2 : Int) (x375000_2 : Int) (x375001_2 : Int), v5 = .int .i64 x5_2 ∧ v7 = .int .i64 x7_2 ∧ za (spec_LeastDistance.l1 kq t376 x5_2 x6_1 x7_2 x375000_2 x375001_2 l0_2 = some (r1, r2)) ∧ za (kq ≤ k1) ∧ za (Kd.R k38 38 w' w.heap.size (fun _ => True) (.slice Ao9 t376.length co9) t376) ∧ za (w'.heap[gb374]? = some (.cells #[.int .i8 x375000_2, .int .i8 x375001_2, (.slice A0_2 l0_2.length c0_2)] 28 (0, 0))) ∧ za (Below w.heap.size w w'))
     case atStart => exact ⟨(x5_1), (0), (x375000_1), (x375001_1), (by first | rfl | (simp; done) | (simp [*]; done)), (by first | rfl | (simp; done) | (simp [*]; done)), H', ⟨Nat.le_refl _⟩, ⟨uR HO_4⟩, ⟨uK BK374⟩, ⟨sB⟩⟩
     case round =>
      clear H'
      try clear c2
      try clear p2
      try clear c3
      try clear c5
      try clear c8
      try clear c8b0
      try clear p2
      obtain ⟨x5_2, x7_2, x375000_2, x375001_2, rfl, rfl, HA, HK2, HO_4, BK374, HB⟩ := hrel
      cases gk with
      | zero => exact absurd HA.out (by simp [spec_LeastDistance.l1])
      | succ k2 =>
       have H := HA.out
       clear HA
       simp only [spec_LeastDistance.l1] at H
       by_cases c10 : x7_2 < x6_1
       ·rw [if_pos c10] at H
        have c10b0 : decide (x7_2 < x6_1) = true := decide_eq_true c10
        clear c10
        by_cases c11 : 0 ≤ x7_2
        ·rw [if_pos c11] at H
         have c11b0 : decide (0 ≤ x7_2) = true := decide_eq_true c11
         clear c11
         by_cases c12 : x7_2 < (t376.length : Int)
         ·rw [if_pos c12] at H
          have c12b0 : decide (x7_2 < (t376.length : Int)) = true := decide_eq_true c12
          clear c12
          replace H := Option.bind_eq_some_iff.mp H
          obtain ⟨⟨t380, t381, t382, t383⟩, A130, H⟩ := H
          replace H : (if 0 ≤ x6_1 then (if x6_1 < (t376.length : Int) then ((spec_l04Seen.f k2 x375000_2 x375001_2 l0_2 ((zf t376 x6_1).f0) ((zf t376 x6_1).f1)).bind fun bt385 => ((spec_l04Distance.f k2 t380 t381 t382 t383 bt385.1 bt385.2.1 bt385.2.2.1 bt385.2.2.2).bind fun t389 => ((spec_l00Min.f x5_2 t389).bind fun t390 => (spec_LeastDistance.l1 k2 t376 t390 x6_1 (wrap64 (x7_2 + 1)) x375000_2 x375001_2 l0_2)))) else (none)) else (none)) = some (r1, r2) := H
          have A13 := za.mk A130
          clear A130
          by_cases c14 : 0 ≤ x6_1
          ·rw [if_pos c14] at H
           have c14b0 : decide (0 ≤ x6_1) = true := decide_eq_true c14
           clear c14
           by_cases c15 : x6_1 < (t376.length : Int)
           ·rw [if_pos c15] at H
            have c15b0 : decide (x6_1 < (t376.length : Int)) = true := decide_eq_true c15
            clear c15
            replace H := Option.bind_eq_some_iff.mp H
            obtain ⟨⟨t385, t386, t387, t388⟩, A160, H⟩ := H
            replace H : ((spec_l04Distance.f k2 t380 t381 t382 t383 t385 t386 t387 t388).bind fun t389 => ((spec_l00Min.f x5_2 t389).bind fun t390 => (spec_LeastDistance.l1 k2 t376 t390 x6_1 (wrap64 (x7_2 + 1)) x375000_2 x375001_2 l0_2))) = some (r1, r2) := H
            have A16 := za.mk A160
            clear A160
            replace H := Option.bind_eq_some_iff.mp H
            obtain ⟨t389, A170, H⟩ := H
            replace H : ((spec_l00Min.f x5_2 t389).bind fun t390 => (spec_LeastDistance.l1 k2 t376 t390 x6_1 (wrap64 (x7_2 + 1)) x375000_2 x375001_2 l0_2)) = some (r1, r2) := H
            have A17 := za.mk A170
            clear A170
            replace H := Option.bind_eq_some_iff.mp H
            obtain ⟨t390, A180, H⟩ := H
            replace H : (spec_LeastDistance.l1 k2 t376 t390 x6_1 (wrap64 (x7_2 + 1)) x375000_2 x375001_2 l0_2) = some (r1, r2) := H
            have A18 := za.mk A180
            clear A180
            have H' := za.mk H
            clear H
            try go_wp2
            have n0_ := za.mk (Kd.R_drew HO_4.out)
            have n1_ := za.mk (zd BK374.out)
            have n2_ := za.mk (zt HB.out)
            clear HO_4
            clear BK374
            clear HB
            have HO_4 := n0_
            have BK374 := n1_
            have HB := n2_
            clear n0_ n1_ n2_
            have p379 : 0 ≤ (x7_2 : Int) := of_decide_eq_true (by first | (with_reducible assumption) | assumption)
            have q379 : x7_2 < (t376.length : Int) := of_decide_eq_true (by first | (with_reducible assumption) | assumption)
            obtain ⟨ad379, e379, hx379_0, hx379_1⟩ := zsb (Kd.R_reads' HO_4.out).2.2 x7_2 p379 q379
            cases e379
            replace p379 := eq_true p379
            replace q379 := eq_true q379
            have p384 : 0 ≤ (x6_1 : Int) := of_decide_eq_true (by first | (with_reducible assumption) | assumption)
            have q384 : x6_1 < (t376.length : Int) := of_decide_eq_true (by first | (with_reducible assumption) | assumption)
            obtain ⟨ad384, e384, hx384_0, hx384_1⟩ := zsb (Kd.R_reads' HO_4.out).2.2 x6_1 p384 q384
            obtain rfl : ad379 = ad384 := (by injection e384)
            replace p384 := eq_true p384
            replace q384 := eq_true q384
            refine zbc (n := 14) (S := fun w' => w'.cell? (ad379.add ((x7_2).toNat * 2)) = some (.int .i8 ((zf t376 x7_2).f0)) ∧ w'.cell? ⟨(ad379.add ((x7_2).toNat * 2)).block, (ad379.add ((x7_2).toNat * 2)).off + 1, none⟩ = some (.bool ((zf t376 x7_2).f1)) ∧ w'.cell? (ad379.add ((x6_1).toNat * 2)) = some (.int .i8 ((zf t376 x6_1).f0)) ∧ w'.cell? ⟨(ad379.add ((x6_1).toNat * 2)).block, (ad379.add ((x6_1).toNat * 2)).off + 1, none⟩ = some (.bool ((zf t376 x6_1).f1))) (ds := []) #[false, false, false, false, false, false, false, false, false, false, false, false, false, false] (by kernel_rfl) rfl rfl ⟨hx379_0, hx379_1, hx384_0, hx384_1⟩ (fun hHeld => ?_); refine zib spec_LeastDistance.tab11 spec_LeastDistance.bits11 (fun HT_ HW_ => ?_)
            generalize wr.drew = w19 at HO_4 BK374 HB hx379_0 hx379_1 hx384_0 hx384_1 hHeld ⊢
            refine zva (i := 0) (N := some 22) (v := ?_) (a' := ?_) #[true, false, false, false, false, false, false, false, false, false, false, false, false, false] rfl rfl (zia HT_.out (by kernel_rfl)) (fun _ _ _ h => h) (Or.inl ⟨by rfl, ?_⟩) ?_ ?_
            rotate_left
            ·intro w'
             go_simp
             with_reducible rfl
            rotate_left
            ·simp only [Act.put, List.setIfInBounds_toArray, List.set_cons_zero, List.set_cons_succ, zda, zfa]
             rfl
            refine zva (i := 1) (N := some 23) (v := ?_) (a' := ?_) #[true, true, false, false, false, false, false, false, false, false, false, false, false, false] rfl rfl (zia HT_.out (by kernel_rfl)) (fun _ _ _ h => h) (Or.inl ⟨by rfl, ?_⟩) ?_ ?_
            rotate_left
            ·intro w'
             go_simp
             with_reducible rfl
            rotate_left
            ·simp only [Act.put, List.setIfInBounds_toArray, List.set_cons_zero, List.set_cons_succ, zda, zfa]
             rfl
            refine zva (i := 2) (N := some 24) (v := ?_) (a' := ?_) #[true, true, true, false, false, false, false, false, false, false, false, false, false, false] rfl rfl (zia HT_.out (by kernel_rfl)) (fun _ _ _ h => h) (Or.inl ⟨by rfl, ?_⟩) ?_ ?_
            rotate_left
            ·intro w'
             go_simp
             with_reducible rfl
            rotate_left
            ·simp only [Act.put, List.setIfInBounds_toArray, List.set_cons_zero, List.set_cons_succ, zda, zfa]
             rfl
            refine zva (i := 3) (N := some 25) (v := ?_) (a' := ?_) #[true, true, true, true, false, false, false, false, false, false, false, false, false, false] rfl rfl (zia HT_.out (by kernel_rfl)) (fun _ _ _ h => h) (Or.inl ⟨by rfl, ?_⟩) ?_ ?_
            rotate_left
            ·intro w'
             go_simp
             with_reducible rfl
            rotate_left
            ·simp only [Act.put, List.setIfInBounds_toArray, List.set_cons_zero, List.set_cons_succ, zda, zfa]
             rfl
            refine zva (i := 6) (N := some 28) (v := ?_) (a' := ?_) #[true, true, true, true, false, false, true, false, false, false, false, false, false, false] rfl rfl (zia HT_.out (by kernel_rfl)) (fun _ _ _ h => h) (Or.inl ⟨by rfl, ?_⟩) ?_ ?_
            rotate_left
            ·intro w'
             go_simp
             with_reducible rfl
            rotate_left
            ·simp only [Act.put, List.setIfInBounds_toArray, List.set_cons_zero, List.set_cons_succ, zda, zfa]
             rfl
            refine zva (i := 7) (N := some 29) (v := ?_) (a' := ?_) #[true, true, true, true, false, false, true, true, false, false, false, false, false, false] rfl rfl (zia HT_.out (by kernel_rfl)) (fun _ _ _ h => h) (Or.inl ⟨by rfl, ?_⟩) ?_ ?_
            rotate_left
            ·intro w'
             go_simp
             with_reducible rfl
            rotate_left
            ·simp only [Act.put, List.setIfInBounds_toArray, List.set_cons_zero, List.set_cons_succ, zda, zfa]
             rfl
            refine zva (i := 8) (N := some 30) (v := ?_) (a' := ?_) #[true, true, true, true, false, false, true, true, true, false, false, false, false, false] rfl rfl (zia HT_.out (by kernel_rfl)) (fun _ _ _ h => h) (Or.inl ⟨by rfl, ?_⟩) ?_ ?_
            rotate_left
            ·intro w'
             go_simp
             with_reducible rfl
            rotate_left
            ·simp only [Act.put, List.setIfInBounds_toArray, List.set_cons_zero, List.set_cons_succ, zda, zfa]
             rfl
            refine take_ (i := 4) (N := some 26) (v := ?_) (a' := ?_) #[true, true, true, true, true, false, true, true, true, false, false, false, false, false] rfl rfl (zsa HT_.out HW_.out (by kernel_rfl)) (fun _ _ _ h => h) (Or.inl ⟨by rfl, ?_⟩) hHeld ?_ ?_
            rotate_left
            ·rintro w' ⟨s0, s1, s2, s3⟩
             go_simp
             with_reducible rfl
            rotate_left
            ·simp only [Act.put, List.setIfInBounds_toArray, List.set_cons_zero, List.set_cons_succ, zda, zfa]
             rfl
            refine take_ (i := 9) (N := some 31) (v := ?_) (a' := ?_) #[true, true, true, true, true, false, true, true, true, true, false, false, false, false] rfl rfl (zsa HT_.out HW_.out (by kernel_rfl)) (fun _ _ _ h => h) (Or.inl ⟨by rfl, ?_⟩) hHeld ?_ ?_
            rotate_left
            ·rintro w' ⟨s0, s1, s2, s3⟩
             go_simp
             with_reducible rfl
            rotate_left
            ·simp only [Act.put, List.setIfInBounds_toArray, List.set_cons_zero, List.set_cons_succ, zda, zfa]
             rfl
            refine one_ (i := 5) (N := some 27) #[true, true, true, true, true, true, true, true, true, true, false, false, false, false] rfl rfl (zgb HT_.out (by kernel_rfl)) (by decide) (fun K hK => ?_)
            refine zxb Try.func77 (by kernel_rfl) rfl #[.pointer (some ⟨gb374, 0, none⟩), .agg #[.int .i8 ((zf t376 x7_2).f0), .bool ((zf t376 x7_2).f1)]] (by rfl) rfl rfl (by (try simp only [List.map_toArray, List.map_cons, List.map_nil]); first | done | rfl | (simp only [List.length_drop, List.length_take]; rfl)) ?_
            with_reducible refine (spec_l04Seen.calls k2 gb374 x375000_2 x375001_2 A0_2 c0_2 l0_2 ((zf t376 x7_2).f0) ((zf t376 x7_2).f1) t380 t381 t382 t383 _ ?side1 ?side2 ?side3 A13.out).mono ?_
            (case side1 => exact uK BK374)
            (case side2 => exact uC HR0_2 HB)
            (case side3 => exact HC0_2.out)
            rintro e w20 ⟨rfl, hb⟩
            have HS0_ := (hb.cell (World.block_lt_of_cell? _ _ (hHeld.1))).trans (hHeld.1)
            have HS1_ := (hb.cell (World.block_lt_of_cell? _ _ (hHeld.2.1))).trans (hHeld.2.1)
            have HS2_ := (hb.cell (World.block_lt_of_cell? _ _ (hHeld.2.2.1))).trans (hHeld.2.2.1)
            have HS3_ := (hb.cell (World.block_lt_of_cell? _ _ (hHeld.2.2.2))).trans (hHeld.2.2.2)
            refine ⟨_, rfl, ?_⟩
            have n0_ := dR HO_4 hb
            have n1_ := dK BK374 hb
            have n2_ := za.mk (ze sB hb)
            clear HO_4
            clear BK374
            clear HB
            have HO_4 := n0_
            have BK374 := n1_
            have HB := n2_
            clear n0_ n1_ n2_
            (try clear hb)
            (try clear hb2)
            (try clear hk)
            (try clear hi)
            refine hK.out _ _ ⟨HS0_, HS1_, HS2_, HS3_⟩ (fun hHeld => ?_)
            clear hK K
            refine zub (a' := ?_) ?_ ?_
            rotate_left
            ·show Act.put _ (some 27) _ = _
             simp only [Act.put, List.setIfInBounds_toArray, List.set_cons_zero, List.set_cons_succ, zda, zfa]
             rfl
            refine one_ (i := 10) (N := some 32) #[true, true, true, true, true, true, true, true, true, true, true, false, false, false] rfl rfl (zgb HT_.out (by kernel_rfl)) (by decide) (fun K hK => ?_)
            refine zxb Try.func77 (by kernel_rfl) rfl #[.pointer (some ⟨gb374, 0, none⟩), .agg #[.int .i8 ((zf t376 x6_1).f0), .bool ((zf t376 x6_1).f1)]] (by rfl) rfl rfl (by (try simp only [List.map_toArray, List.map_cons, List.map_nil]); first | done | rfl | (simp only [List.length_drop, List.length_take]; rfl)) ?_
            with_reducible refine (spec_l04Seen.calls k2 gb374 x375000_2 x375001_2 A0_2 c0_2 l0_2 ((zf t376 x6_1).f0) ((zf t376 x6_1).f1) t385 t386 t387 t388 _ ?side1 ?side2 ?side3 A16.out).mono ?_
            (case side1 => exact uK BK374)
            (case side2 => exact uC HR0_2 HB)
            (case side3 => exact HC0_2.out)
            rintro e w21 ⟨rfl, hb⟩
            have HS0_ := (hb.cell (World.block_lt_of_cell? _ _ (hHeld.1))).trans (hHeld.1)
            have HS1_ := (hb.cell (World.block_lt_of_cell? _ _ (hHeld.2.1))).trans (hHeld.2.1)
            have HS2_ := (hb.cell (World.block_lt_of_cell? _ _ (hHeld.2.2.1))).trans (hHeld.2.2.1)
            have HS3_ := (hb.cell (World.block_lt_of_cell? _ _ (hHeld.2.2.2))).trans (hHeld.2.2.2)
            refine ⟨_, rfl, ?_⟩
            have n0_ := dR HO_4 hb
            have n1_ := dK BK374 hb
            have n2_ := za.mk (ze sB hb)
            clear HO_4
            clear BK374
            clear HB
            have HO_4 := n0_
            have BK374 := n1_
            have HB := n2_
            clear n0_ n1_ n2_
            (try clear hb)
            (try clear hb2)
            (try clear hk)
            (try clear hi)
            refine hK.out _ _ ⟨HS0_, HS1_, HS2_, HS3_⟩ (fun hHeld => ?_)
            clear hK K
            refine zub (a' := ?_) ?_ ?_
            rotate_left
            ·show Act.put _ (some 32) _ = _
             simp only [Act.put, List.setIfInBounds_toArray, List.set_cons_zero, List.set_cons_succ, zda, zfa]
             rfl
            refine one_ (i := 11) (N := some 33) #[true, true, true, true, true, true, true, true, true, true, true, true, false, false] rfl rfl (zgb HT_.out (by kernel_rfl)) (by decide) (fun K hK => ?_)
            refine zxb Try.func83 (by kernel_rfl) rfl #[.agg #[.int .i8 t380, .int .i8 t381, .int .i8 t382, .int .i8 t383], .agg #[.int .i8 t385, .int .i8 t386, .int .i8 t387, .int .i8 t388]] (by rfl) rfl rfl (by (try simp only [List.map_toArray, List.map_cons, List.map_nil]); first | done | rfl | (simp only [List.length_drop, List.length_take]; rfl)) ?_
            with_reducible refine (spec_l04Distance.calls k2 t380 t381 t382 t383 t385 t386 t387 t388 t389 _ A17.out).mono ?_
            rintro e w22 ⟨rfl, hb⟩
            have HS0_ := (hb.cell (World.block_lt_of_cell? _ _ (hHeld.1))).trans (hHeld.1)
            have HS1_ := (hb.cell (World.block_lt_of_cell? _ _ (hHeld.2.1))).trans (hHeld.2.1)
            have HS2_ := (hb.cell (World.block_lt_of_cell? _ _ (hHeld.2.2.1))).trans (hHeld.2.2.1)
            have HS3_ := (hb.cell (World.block_lt_of_cell? _ _ (hHeld.2.2.2))).trans (hHeld.2.2.2)
            refine ⟨_, rfl, ?_⟩
            have n0_ := dR HO_4 hb
            have n1_ := dK BK374 hb
            have n2_ := za.mk (ze sB hb)
            clear HO_4
            clear BK374
            clear HB
            have HO_4 := n0_
            have BK374 := n1_
            have HB := n2_
            clear n0_ n1_ n2_
            (try clear hb)
            (try clear hb2)
            (try clear hk)
            (try clear hi)
            refine hK.out _ _ ⟨HS0_, HS1_, HS2_, HS3_⟩ (fun hHeld => ?_)
            clear hK K
            refine zub (a' := ?_) ?_ ?_
            rotate_left
            ·show Act.put _ (some 33) _ = _
             simp only [Act.put, List.setIfInBounds_toArray, List.set_cons_zero, List.set_cons_succ, zda, zfa]
             rfl
            refine one_ (i := 12) (N := some 34) #[true, true, true, true, true, true, true, true, true, true, true, true, true, false] rfl rfl (zgb HT_.out (by kernel_rfl)) (by decide) (fun K hK => ?_)
            refine zxb Try.func82 (by kernel_rfl) rfl #[.int .i64 x5_2, .int .i64 t389] (by rfl) rfl rfl (by (try simp only [List.map_toArray, List.map_cons, List.map_nil]); first | done | rfl | (simp only [List.length_drop, List.length_take]; rfl)) ?_
            with_reducible refine (spec_l00Min.calls x5_2 t389 t390 _ A18.out).mono ?_
            rintro e w' ⟨rfl, ⟨nd, rfl⟩⟩
            refine ⟨_, rfl, ?_⟩
            refine hK.out _ _ ⟨hHeld.1, hHeld.2.1, hHeld.2.2.1, hHeld.2.2.2⟩ (fun hHeld => ?_)
            clear hK K
            refine zub (a' := ?_) ?_ ?_
            rotate_left
            ·show Act.put _ (some 34) _ = _
             simp only [Act.put, List.setIfInBounds_toArray, List.set_cons_zero, List.set_cons_succ, zda, zfa]
             rfl
            refine zva (i := 13) (N := some 5) (v := ?_) (a' := ?_) #[true, true, true, true, true, true, true, true, true, true, true, true, true, true] rfl rfl (zia HT_.out (by kernel_rfl)) (fun _ _ _ h => h) (Or.inl ⟨by rfl, ?_⟩) ?_ ?_
            rotate_left
            ·intro w'
             go_simp
             with_reducible rfl
            rotate_left
            ·simp only [Act.put, List.setIfInBounds_toArray, List.set_cons_zero, List.set_cons_succ, zda, zfa]
             rfl
            refine zjd (ztb HT_.out (by kernel_rfl)) ?_
            try go_wp2
            go_roundg k2
            case measure => have := HK1.out; have := HK2.out; omega
            case rel => exact ⟨(t390), (wrap64 (x7_2 + 1)), (x375000_2), (x375001_2), (by first | rfl | (simp; done) | (simp [*]; done)), (by first | rfl | (simp; done) | (simp [*]; done)), H', ⟨by have := HK1.out; have := HK2.out; omega⟩, ⟨uR HO_4⟩, ⟨uK BK374⟩, ⟨sB⟩⟩
           rw [if_neg c15] at H
           exact absurd H (by simp)
          rw [if_neg c14] at H
          exact absurd H (by simp)
         rw [if_neg c12] at H
         exact absurd H (by simp)
        rw [if_neg c11] at H
        exact absurd H (by simp)
       rw [if_neg c10] at H
       have c10b0 : decide (x7_2 < x6_1) = false := decide_eq_false c10
       clear c10
       have H' := za.mk H
       clear H
       go_wp2
       go_roundg k2
       case measure => have := HK1.out; have := HK2.out; omega
       case rel => exact ⟨(x5_2), (wrap64 (x6_1 + 1)), (x375000_2), (x375001_2), (by first | rfl | (simp; done) | (simp [*]; done)), (by first | rfl | (simp; done) | (simp [*]; done)), H', ⟨by have := HK1.out; have := HK2.out; omega⟩, ⟨uR HO_4⟩, ⟨uK BK374⟩, ⟨sB⟩⟩
    rw [if_neg c8] at H
    have c8b0 : decide (x6_1 < (t376.length : Int)) = false := decide_eq_false c8
    clear c8
    simp only [Option.some.injEq, Prod.mk.injEq] at H
    obtain ⟨rfl, rfl⟩ := H
    obtain ⟨Ao23, co23, eo23⟩ := Kd.R_slice HO_4.out
    subst eo23
    go_wp2
    go_ret2
    exact ⟨by first | rfl | (simp [zk, zj] <;> rfl) | (simp [*, zk, zj] <;> rfl), sB⟩
 replace c3 := Bool.eq_false_iff.mpr c3
 subst c3
 have H1 : (some (0, 1)) = some (r1, r2) := by rw [if_neg (show ¬ (false = true) by decide)] at H; exact H
 clear H
 have H := H1
 clear H1
 simp only [Option.some.injEq, Prod.mk.injEq] at H
 obtain ⟨rfl, rfl⟩ := H
 go_enter Try.func29, Try.ntmps29
 go_wp2_with (first | ((with_reducible refine zn (N := 1) rfl ?_); refine bx (N := 1) #[.int .i8 a0_0, .int .i8 a0_1, .slice A0_2 l0_2.length c0_2] 28 rfl ?_; intro gb374 hg w24 hbox hb; have BK374 := za.mk hbox; have GW374 := gB hg; have GE374 := GW374; replace HB := za.mk (ze sB hb); clear hb hbox hg) | ((with_reducible refine zo (f := 59) rfl ?_); refine gz (some 8) Try.func59 #[.pointer (some ⟨gb374, 0, none⟩)] rfl rfl ?_; (with_reducible refine (spec_l04Ok.calls k gb374 a0_0 a0_1 A0_2 c0_2 l0_2 false _ ?side1 ?side2 ?side3 A2.out).mono ?_); (case side1 => exact uK BK374); (case side2 => exact uC HR0_2 HB); (case side3 => exact HC0_2.out); rintro e w25 ⟨rfl, hb⟩; refine ⟨_, rfl, ?_⟩; replace BK374 := dK BK374 hb; replace HB := za.mk (ze sB hb); try clear hb))
 go_ret2
 exact ⟨by first | rfl | (simp [zk, zj] <;> rfl) | (simp [*, zk, zj] <;> rfl), sB⟩

end Go.Proofs.Ytmfbcklaomigaaa.N
