-- Written by wip/tools/myprint.py, a program of this session, by way of the kit's print.
import Derived.Test.YtmmonhpjjjdnjaaYx0
import Derived.Test.YtmmonhpjjjdnjaaLLoadY
import Derived.Test.YtmmonhpjjjdnjaaYx8
namespace Go.Proofs.Ytmmonhpjjjdnjaa.Y
open Go.RowKit Go.Proofs.YtmmonhpjjjdnjaaW.PrintWords Go.Proofs.YtmmonhpjjjdnjaaW.PrintLast Go.Proofs.YtmmonhpjjjdnjaaW.PrintMore
attribute [local go_sem] zha zga zka zja zba zaa zea zfa   -- for this text's walks alone
set_option linter.unusedVariables false
set_option linter.unusedSimpArgs false

/-! ### laws_eqNodeS: function 13 -/
def laws_eqNodeS.l0 : Nat → List (S54) → List (S54) → Int → Option (Bool)
 | 0, _, _, _ => none
 | k + 1, x0, x1, x5 => if x5 < (x0.length : Int) then (if 0 ≤ x5 then (if x5 < (x1.length : Int) then ((laws_eqNode.f k ((rd_T54 x0 x5).f0.f0) ((rd_T54 x0 x5).f0.f1) ((rd_T54 x0 x5).f0.f2) ((rd_T54 x0 x5).f0.f3) ((rd_T54 x0 x5).f0.f4) ((rd_T54 x0 x5).f0.f5) ((rd_T54 x0 x5).f0.f6) ((rd_T54 x0 x5).f0.f7) ((rd_T54 x0 x5).f0.f8) ((rd_T54 x0 x5).f0.f9) ((rd_T54 x0 x5).f0.f10) ((rd_T54 x0 x5).f0.f11) ((rd_T54 x0 x5).f0.f12) ((rd_T54 x0 x5).f0.f13) ((rd_T54 x0 x5).f1.f0) ((rd_T54 x0 x5).f1.f1) ((rd_T54 x0 x5).f1.f2) ((rd_T54 x0 x5).f2.f0) ((rd_T54 x0 x5).f2.f1) ((rd_T54 x0 x5).f3) ((rd_T54 x1 x5).f0.f0) ((rd_T54 x1 x5).f0.f1) ((rd_T54 x1 x5).f0.f2) ((rd_T54 x1 x5).f0.f3) ((rd_T54 x1 x5).f0.f4) ((rd_T54 x1 x5).f0.f5) ((rd_T54 x1 x5).f0.f6) ((rd_T54 x1 x5).f0.f7) ((rd_T54 x1 x5).f0.f8) ((rd_T54 x1 x5).f0.f9) ((rd_T54 x1 x5).f0.f10) ((rd_T54 x1 x5).f0.f11) ((rd_T54 x1 x5).f0.f12) ((rd_T54 x1 x5).f0.f13) ((rd_T54 x1 x5).f1.f0) ((rd_T54 x1 x5).f1.f1) ((rd_T54 x1 x5).f1.f2) ((rd_T54 x1 x5).f2.f0) ((rd_T54 x1 x5).f2.f1) ((rd_T54 x1 x5).f3)).bind fun t346 => (if t346 = true then (laws_eqNodeS.l0 k x0 x1 (wrap64 (x5 + 1))) else (some false))) else (none)) else (none)) else (some true)
def laws_eqNodeS.f (k : Nat) (l0 : List (S54)) (l1 : List (S54)) : Option (Bool) := if (l0.length : Int) = (l1.length : Int) then (laws_eqNodeS.l0 k l0 l1 0) else (some false)
def laws_eqNodeS.T6 : Bool × List (List Nat × List Nat) := (true, [([], []), ([], []), ([0, 1], [0, 1]), ([2], [2]), ([], []), ([], []), ([4, 5], [4, 5]), ([6], [6]), ([3, 7], [3, 7]), ([8], [8])])
def laws_eqNodeS.B6 : List Nat := [0, 0, 3, 7, 0, 0, 48, 112, 255, 511]
theorem laws_eqNodeS.tab6 : rtab .any (opsOf Try.f13 6) = laws_eqNodeS.T6 := by kernel_rfl
theorem laws_eqNodeS.bits6 : waitsOk laws_eqNodeS.T6.2 laws_eqNodeS.B6 = true := by kernel_rfl
set_option maxHeartbeats 8000000 in
set_option maxRecDepth 100000 in
theorem laws_eqNodeS.calls (k : Nat) (A0 : Option Addr) (c0 : Nat) (l0 : List (S54)) (A1 : Option Addr) (c1 : Nat) (l1 : List (S54)) (r : Bool) (w : World) (hr0 : Kd.C k54 w A0 l0.length l0) (hc0 : l0.length ≤ c0) (hr1 : Kd.C k54 w A1 l1.length l1) (hc1 : l1.length ≤ c1) (h : laws_eqNodeS.f k l0 l1 = some r) :
  Calls Try.prog 13 #[.slice A0 l0.length c0, .slice A1 l1.length c1] w fun e w' => e = .returned (.bool r) ∧ Below w.heap.size w w' := by
 have hu54 := Try.underlying54
 have HR0 := zc.mk hr0
 have HC0 := zc.mk hc0
 clear hr0 hc0
 have HR1 := zc.mk hr1
 have HC1 := zc.mk hc1
 clear hr1 hc1
 have HB := zc.mk (Below.refl w.heap.size w)
 have H : (if (l0.length : Int) = (l1.length : Int) then (laws_eqNodeS.l0 k l0 l1 0) else (some false)) = some r := h
 clear h
 by_cases c3 : (l0.length : Int) = (l1.length : Int)
 ·rw [if_pos c3] at H
  have c3b0 : ((l0.length : Int) == (l1.length : Int)) = true := beq_iff_eq.mpr c3
  have c3b1 : ((l0.length : Int) != (l1.length : Int)) = false := bne_eq_false_iff_eq.mpr c3
  have c3b2 : (l0.length == l1.length) = true := by first | simpa using c3 | (simp at c3 ⊢; omega)
  clear c3
  have H' := zc.mk H
  clear H
  go_enter Try.func13, Try.ntmps13
  go_wp2
  go_loopg [5] k (fun kq v5 w' => ∃ (x5_1 : Int), v5 = .int .i64 x5_1 ∧ zc (laws_eqNodeS.l0 kq l0 l1 x5_1 = some r) ∧ zc (kq ≤ k) ∧ zc (Below w.heap.size w w'))
  case atStart => exact ⟨(0), (by first | rfl | (simp; done) | (simp [*]; done)), H', ⟨Nat.le_refl _⟩, ⟨by repeat (first | (with_reducible first | exact HB.out | apply zd | apply za | apply zb) | exact HB.out)⟩⟩
  case round =>
   clear H'
   try clear c1
   try clear p2
   try clear c3
   try clear c3b0
   try clear c3b1
   try clear c3b2
   obtain ⟨x5_1, rfl, HA, HK1, HB⟩ := hrel
   cases gk with
   | zero => exact absurd HA.out (by simp [laws_eqNodeS.l0])
   | succ k1 =>
    have H := HA.out
    clear HA
    simp only [laws_eqNodeS.l0] at H
    by_cases c4 : x5_1 < (l0.length : Int)
    ·rw [if_pos c4] at H
     have c4b0 : decide (x5_1 < (l0.length : Int)) = true := decide_eq_true c4
     clear c4
     by_cases c5 : 0 ≤ x5_1
     ·rw [if_pos c5] at H
      have c5b0 : decide (0 ≤ x5_1) = true := decide_eq_true c5
      clear c5
      by_cases c6 : x5_1 < (l1.length : Int)
      ·rw [if_pos c6] at H
       have c6b0 : decide (x5_1 < (l1.length : Int)) = true := decide_eq_true c6
       clear c6
       replace H := Option.bind_eq_some_iff.mp H
       obtain ⟨t346, A70, H⟩ := H
       replace H : (if t346 = true then (laws_eqNodeS.l0 k1 l0 l1 (wrap64 (x5_1 + 1))) else (some false)) = some r := H
       have A7 := zc.mk A70
       clear A70
       by_cases c8 : t346 = true
       ·subst c8
        have H1 : (laws_eqNodeS.l0 k1 l0 l1 (wrap64 (x5_1 + 1))) = some r := by rw [if_pos rfl] at H; exact H
        clear H
        have H := H1
        clear H1
        have H' := zc.mk H
        clear H
        try go_wp2
        have n0_ := zc.mk (zb HB.out)
        clear HB
        have HB := n0_
        clear n0_
        have p344 : 0 ≤ (x5_1 : Int) := of_decide_eq_true (by first | (with_reducible assumption) | assumption)
        have q344 : x5_1 < (l0.length : Int) := of_decide_eq_true (by first | (with_reducible assumption) | assumption)
        obtain ⟨ad344, e344, hx344_0, hx344_1, hx344_2, hx344_3, hx344_4, hx344_5, hx344_6, hx344_7, hx344_8, hx344_9, hx344_10, hx344_11, hx344_12, hx344_13, hx344_14, hx344_15, hx344_16, hx344_17, hx344_18, hx344_19, hw344_0, hw344_1, hw344_2, hw344_3, hw344_4, hw344_5, hw344_6, hw344_7, hw344_8, hw344_9, hw344_10, hw344_11, hw344_12, hw344_13, hw344_14, hw344_15, hw344_16, hw344_17, hw344_18, hw344_19⟩ := ab_T54 HB.out HR0.out x5_1 p344 q344
        cases e344
        replace p344 := eq_true p344
        replace q344 := eq_true q344
        have p345 : 0 ≤ (x5_1 : Int) := of_decide_eq_true (by first | (with_reducible assumption) | assumption)
        have q345 : x5_1 < (l1.length : Int) := of_decide_eq_true (by first | (with_reducible assumption) | assumption)
        obtain ⟨ad345, e345, hx345_0, hx345_1, hx345_2, hx345_3, hx345_4, hx345_5, hx345_6, hx345_7, hx345_8, hx345_9, hx345_10, hx345_11, hx345_12, hx345_13, hx345_14, hx345_15, hx345_16, hx345_17, hx345_18, hx345_19, hw345_0, hw345_1, hw345_2, hw345_3, hw345_4, hw345_5, hw345_6, hw345_7, hw345_8, hw345_9, hw345_10, hw345_11, hw345_12, hw345_13, hw345_14, hw345_15, hw345_16, hw345_17, hw345_18, hw345_19⟩ := ab_T54 HB.out HR1.out x5_1 p345 q345
        cases e345
        replace p345 := eq_true p345
        replace q345 := eq_true q345
        refine start_ (n := 10) (S := fun w' => w'.cell? (ad344.add ((x5_1).toNat * 20)) = some (.int .i8 ((rd_T54 l0 x5_1).f0.f0)) ∧ w'.cell? ⟨(ad344.add ((x5_1).toNat * 20)).block, (ad344.add ((x5_1).toNat * 20)).off + 1, none⟩ = some (.int .i8 ((rd_T54 l0 x5_1).f0.f1)) ∧ w'.cell? ⟨(ad344.add ((x5_1).toNat * 20)).block, (ad344.add ((x5_1).toNat * 20)).off + 2, none⟩ = some (.int .i8 ((rd_T54 l0 x5_1).f0.f2)) ∧ w'.cell? ⟨(ad344.add ((x5_1).toNat * 20)).block, (ad344.add ((x5_1).toNat * 20)).off + 3, none⟩ = some (.int .i8 ((rd_T54 l0 x5_1).f0.f3)) ∧ w'.cell? ⟨(ad344.add ((x5_1).toNat * 20)).block, (ad344.add ((x5_1).toNat * 20)).off + 4, none⟩ = some (.int .i8 ((rd_T54 l0 x5_1).f0.f4)) ∧ w'.cell? ⟨(ad344.add ((x5_1).toNat * 20)).block, (ad344.add ((x5_1).toNat * 20)).off + 5, none⟩ = some (.int .i8 ((rd_T54 l0 x5_1).f0.f5)) ∧ w'.cell? ⟨(ad344.add ((x5_1).toNat * 20)).block, (ad344.add ((x5_1).toNat * 20)).off + 6, none⟩ = some (.int .i8 ((rd_T54 l0 x5_1).f0.f6)) ∧ w'.cell? ⟨(ad344.add ((x5_1).toNat * 20)).block, (ad344.add ((x5_1).toNat * 20)).off + 7, none⟩ = some (.int .i8 ((rd_T54 l0 x5_1).f0.f7)) ∧ w'.cell? ⟨(ad344.add ((x5_1).toNat * 20)).block, (ad344.add ((x5_1).toNat * 20)).off + 8, none⟩ = some (.int .i8 ((rd_T54 l0 x5_1).f0.f8)) ∧ w'.cell? ⟨(ad344.add ((x5_1).toNat * 20)).block, (ad344.add ((x5_1).toNat * 20)).off + 9, none⟩ = some (.int .i8 ((rd_T54 l0 x5_1).f0.f9)) ∧ w'.cell? ⟨(ad344.add ((x5_1).toNat * 20)).block, (ad344.add ((x5_1).toNat * 20)).off + 10, none⟩ = some (.int .i8 ((rd_T54 l0 x5_1).f0.f10)) ∧ w'.cell? ⟨(ad344.add ((x5_1).toNat * 20)).block, (ad344.add ((x5_1).toNat * 20)).off + 11, none⟩ = some (.int .i8 ((rd_T54 l0 x5_1).f0.f11)) ∧ w'.cell? ⟨(ad344.add ((x5_1).toNat * 20)).block, (ad344.add ((x5_1).toNat * 20)).off + 12, none⟩ = some (.int .i8 ((rd_T54 l0 x5_1).f0.f12)) ∧ w'.cell? ⟨(ad344.add ((x5_1).toNat * 20)).block, (ad344.add ((x5_1).toNat * 20)).off + 13, none⟩ = some (.int .i8 ((rd_T54 l0 x5_1).f0.f13)) ∧ w'.cell? ⟨(ad344.add ((x5_1).toNat * 20)).block, (ad344.add ((x5_1).toNat * 20)).off + 14, none⟩ = some (.int .i16 ((rd_T54 l0 x5_1).f1.f0)) ∧ w'.cell? ⟨(ad344.add ((x5_1).toNat * 20)).block, (ad344.add ((x5_1).toNat * 20)).off + 15, none⟩ = some (.int .i16 ((rd_T54 l0 x5_1).f1.f1)) ∧ w'.cell? ⟨(ad344.add ((x5_1).toNat * 20)).block, (ad344.add ((x5_1).toNat * 20)).off + 16, none⟩ = some (.int .i16 ((rd_T54 l0 x5_1).f1.f2)) ∧ w'.cell? ⟨(ad344.add ((x5_1).toNat * 20)).block, (ad344.add ((x5_1).toNat * 20)).off + 17, none⟩ = some (.int .i8 ((rd_T54 l0 x5_1).f2.f0)) ∧ w'.cell? ⟨(ad344.add ((x5_1).toNat * 20)).block, (ad344.add ((x5_1).toNat * 20)).off + 18, none⟩ = some (.bool ((rd_T54 l0 x5_1).f2.f1)) ∧ w'.cell? ⟨(ad344.add ((x5_1).toNat * 20)).block, (ad344.add ((x5_1).toNat * 20)).off + 19, none⟩ = some (.bool ((rd_T54 l0 x5_1).f3)) ∧ w'.cell? (ad345.add ((x5_1).toNat * 20)) = some (.int .i8 ((rd_T54 l1 x5_1).f0.f0)) ∧ w'.cell? ⟨(ad345.add ((x5_1).toNat * 20)).block, (ad345.add ((x5_1).toNat * 20)).off + 1, none⟩ = some (.int .i8 ((rd_T54 l1 x5_1).f0.f1)) ∧ w'.cell? ⟨(ad345.add ((x5_1).toNat * 20)).block, (ad345.add ((x5_1).toNat * 20)).off + 2, none⟩ = some (.int .i8 ((rd_T54 l1 x5_1).f0.f2)) ∧ w'.cell? ⟨(ad345.add ((x5_1).toNat * 20)).block, (ad345.add ((x5_1).toNat * 20)).off + 3, none⟩ = some (.int .i8 ((rd_T54 l1 x5_1).f0.f3)) ∧ w'.cell? ⟨(ad345.add ((x5_1).toNat * 20)).block, (ad345.add ((x5_1).toNat * 20)).off + 4, none⟩ = some (.int .i8 ((rd_T54 l1 x5_1).f0.f4)) ∧ w'.cell? ⟨(ad345.add ((x5_1).toNat * 20)).block, (ad345.add ((x5_1).toNat * 20)).off + 5, none⟩ = some (.int .i8 ((rd_T54 l1 x5_1).f0.f5)) ∧ w'.cell? ⟨(ad345.add ((x5_1).toNat * 20)).block, (ad345.add ((x5_1).toNat * 20)).off + 6, none⟩ = some (.int .i8 ((rd_T54 l1 x5_1).f0.f6)) ∧ w'.cell? ⟨(ad345.add ((x5_1).toNat * 20)).block, (ad345.add ((x5_1).toNat * 20)).off + 7, none⟩ = some (.int .i8 ((rd_T54 l1 x5_1).f0.f7)) ∧ w'.cell? ⟨(ad345.add ((x5_1).toNat * 20)).block, (ad345.add ((x5_1).toNat * 20)).off + 8, none⟩ = some (.int .i8 ((rd_T54 l1 x5_1).f0.f8)) ∧ w'.cell? ⟨(ad345.add ((x5_1).toNat * 20)).block, (ad345.add ((x5_1).toNat * 20)).off + 9, none⟩ = some (.int .i8 ((rd_T54 l1 x5_1).f0.f9)) ∧ w'.cell? ⟨(ad345.add ((x5_1).toNat * 20)).block, (ad345.add ((x5_1).toNat * 20)).off + 10, none⟩ = some (.int .i8 ((rd_T54 l1 x5_1).f0.f10)) ∧ w'.cell? ⟨(ad345.add ((x5_1).toNat * 20)).block, (ad345.add ((x5_1).toNat * 20)).off + 11, none⟩ = some (.int .i8 ((rd_T54 l1 x5_1).f0.f11)) ∧ w'.cell? ⟨(ad345.add ((x5_1).toNat * 20)).block, (ad345.add ((x5_1).toNat * 20)).off + 12, none⟩ = some (.int .i8 ((rd_T54 l1 x5_1).f0.f12)) ∧ w'.cell? ⟨(ad345.add ((x5_1).toNat * 20)).block, (ad345.add ((x5_1).toNat * 20)).off + 13, none⟩ = some (.int .i8 ((rd_T54 l1 x5_1).f0.f13)) ∧ w'.cell? ⟨(ad345.add ((x5_1).toNat * 20)).block, (ad345.add ((x5_1).toNat * 20)).off + 14, none⟩ = some (.int .i16 ((rd_T54 l1 x5_1).f1.f0)) ∧ w'.cell? ⟨(ad345.add ((x5_1).toNat * 20)).block, (ad345.add ((x5_1).toNat * 20)).off + 15, none⟩ = some (.int .i16 ((rd_T54 l1 x5_1).f1.f1)) ∧ w'.cell? ⟨(ad345.add ((x5_1).toNat * 20)).block, (ad345.add ((x5_1).toNat * 20)).off + 16, none⟩ = some (.int .i16 ((rd_T54 l1 x5_1).f1.f2)) ∧ w'.cell? ⟨(ad345.add ((x5_1).toNat * 20)).block, (ad345.add ((x5_1).toNat * 20)).off + 17, none⟩ = some (.int .i8 ((rd_T54 l1 x5_1).f2.f0)) ∧ w'.cell? ⟨(ad345.add ((x5_1).toNat * 20)).block, (ad345.add ((x5_1).toNat * 20)).off + 18, none⟩ = some (.bool ((rd_T54 l1 x5_1).f2.f1)) ∧ w'.cell? ⟨(ad345.add ((x5_1).toNat * 20)).block, (ad345.add ((x5_1).toNat * 20)).off + 19, none⟩ = some (.bool ((rd_T54 l1 x5_1).f3))) (ds := []) (fm 10 0) (by kernel_rfl) rfl rfl ⟨(bc HB.out hw344_0), (bc HB.out hw344_1), (bc HB.out hw344_2), (bc HB.out hw344_3), (bc HB.out hw344_4), (bc HB.out hw344_5), (bc HB.out hw344_6), (bc HB.out hw344_7), (bc HB.out hw344_8), (bc HB.out hw344_9), (bc HB.out hw344_10), (bc HB.out hw344_11), (bc HB.out hw344_12), (bc HB.out hw344_13), (bc HB.out hw344_14), (bc HB.out hw344_15), (bc HB.out hw344_16), (bc HB.out hw344_17), (bc HB.out hw344_18), (bc HB.out hw344_19), (bc HB.out hw345_0), (bc HB.out hw345_1), (bc HB.out hw345_2), (bc HB.out hw345_3), (bc HB.out hw345_4), (bc HB.out hw345_5), (bc HB.out hw345_6), (bc HB.out hw345_7), (bc HB.out hw345_8), (bc HB.out hw345_9), (bc HB.out hw345_10), (bc HB.out hw345_11), (bc HB.out hw345_12), (bc HB.out hw345_13), (bc HB.out hw345_14), (bc HB.out hw345_15), (bc HB.out hw345_16), (bc HB.out hw345_17), (bc HB.out hw345_18), (bc HB.out hw345_19)⟩ (fun hHeld => ?_); refine zma laws_eqNodeS.tab6 laws_eqNodeS.bits6 (fun HT_ HW_ => ?_)
        generalize wr.drew = w9 at HB hx344_0 hx344_1 hx344_10 hx344_11 hx344_12 hx344_13 hx344_14 hx344_15 hx344_16 hx344_17 hx344_18 hx344_19 hx344_2 hx344_3 hx344_4 hx344_5 hx344_6 hx344_7 hx344_8 hx344_9 hx345_0 hx345_1 hx345_10 hx345_11 hx345_12 hx345_13 hx345_14 hx345_15 hx345_16 hx345_17 hx345_18 hx345_19 hx345_2 hx345_3 hx345_4 hx345_5 hx345_6 hx345_7 hx345_8 hx345_9 hHeld ⊢
        refine pv 0 17 (fm 10 1) rfl rfl (zj HT_.out (by kernel_rfl)) (fun _ _ _ h => h) (Or.inl ⟨by rfl, by intro w'; go_simp; with_reducible rfl⟩) (by simp only [Act.put, ea, eb, ec, zm, zk]; rfl) ?_
        refine pv 1 18 (fm 10 2) rfl rfl (zj HT_.out (by kernel_rfl)) (fun _ _ _ h => h) (Or.inl ⟨by rfl, by intro w'; go_simp; with_reducible rfl⟩) (by simp only [Act.put, ea, eb, ec, zm, zk]; rfl) ?_
        refine pv 2 19 (fm 10 3) rfl rfl (zj HT_.out (by kernel_rfl)) (fun _ _ _ h => h) (Or.inl ⟨by rfl, by intro w'; go_simp; with_reducible rfl⟩) (by simp only [Act.put, ea, eb, ec, zm, zk]; rfl) ?_
        refine pv 4 21 #[T, T, T, F, T, F, F, F, F, F] rfl rfl (zj HT_.out (by kernel_rfl)) (fun _ _ _ h => h) (Or.inl ⟨by rfl, by intro w'; go_simp; with_reducible rfl⟩) (by simp only [Act.put, ea, eb, ec, zm, zk]; rfl) ?_
        refine pv 5 22 #[T, T, T, F, T, T, F, F, F, F] rfl rfl (zj HT_.out (by kernel_rfl)) (fun _ _ _ h => h) (Or.inl ⟨by rfl, by intro w'; go_simp; with_reducible rfl⟩) (by simp only [Act.put, ea, eb, ec, zm, zk]; rfl) ?_
        refine pv 6 23 #[T, T, T, F, T, T, T, F, F, F] rfl rfl (zj HT_.out (by kernel_rfl)) (fun _ _ _ h => h) (Or.inl ⟨by rfl, by intro w'; go_simp; with_reducible rfl⟩) (by simp only [Act.put, ea, eb, ec, zm, zk]; rfl) ?_
        refine take_ (i := 3) (N := some 20) (v := ?_) (a' := ?_) (fm 10 7) rfl rfl (zca HT_.out HW_.out (by kernel_rfl)) (fun _ _ _ h => h) (Or.inl ⟨by rfl, ?_⟩) hHeld ?_ ?_
        rotate_left
        ·rintro w' ⟨s0, s1, s2, s3, s4, s5, s6, s7, s8, s9, s10, s11, s12, s13, s14, s15, s16, s17, s18, s19, s20, s21, s22, s23, s24, s25, s26, s27, s28, s29, s30, s31, s32, s33, s34, s35, s36, s37, s38, s39⟩
         first | (refine load20_go (x := ?ldx0_0) ?lda0_0 ?ldb0_0 hu54 ?ldc0_0 ?ldd0_0 s0 s1 s2 s3 s4 s5 s6 s7 s8 s9 s10 s11 s12 s13 s14 s15 s16 s17 s18 s19; (case lda0_0 => rfl); (case ldb0_0 => rfl); (case ldc0_0 => rfl); (case ldd0_0 => kernel_rfl)) | (refine load20_go (x := ?ldx0_1) ?lda0_1 ?ldb0_1 hu54 ?ldc0_1 ?ldd0_1 s20 s21 s22 s23 s24 s25 s26 s27 s28 s29 s30 s31 s32 s33 s34 s35 s36 s37 s38 s39; (case lda0_1 => rfl); (case ldb0_1 => rfl); (case ldc0_1 => rfl); (case ldd0_1 => kernel_rfl))
        rotate_left
        ·simp only [Act.put, List.setIfInBounds_toArray, List.set_cons_zero, List.set_cons_succ, zm, zk]
         rfl
        refine take_ (i := 7) (N := some 24) (v := ?_) (a' := ?_) (fm 10 8) rfl rfl (zca HT_.out HW_.out (by kernel_rfl)) (fun _ _ _ h => h) (Or.inl ⟨by rfl, ?_⟩) hHeld ?_ ?_
        rotate_left
        ·rintro w' ⟨s0, s1, s2, s3, s4, s5, s6, s7, s8, s9, s10, s11, s12, s13, s14, s15, s16, s17, s18, s19, s20, s21, s22, s23, s24, s25, s26, s27, s28, s29, s30, s31, s32, s33, s34, s35, s36, s37, s38, s39⟩
         first | (refine load20_go (x := ?ldx1_0) ?lda1_0 ?ldb1_0 hu54 ?ldc1_0 ?ldd1_0 s0 s1 s2 s3 s4 s5 s6 s7 s8 s9 s10 s11 s12 s13 s14 s15 s16 s17 s18 s19; (case lda1_0 => rfl); (case ldb1_0 => rfl); (case ldc1_0 => rfl); (case ldd1_0 => kernel_rfl)) | (refine load20_go (x := ?ldx1_1) ?lda1_1 ?ldb1_1 hu54 ?ldc1_1 ?ldd1_1 s20 s21 s22 s23 s24 s25 s26 s27 s28 s29 s30 s31 s32 s33 s34 s35 s36 s37 s38 s39; (case lda1_1 => rfl); (case ldb1_1 => rfl); (case ldc1_1 => rfl); (case ldd1_1 => kernel_rfl))
        rotate_left
        ·simp only [Act.put, List.setIfInBounds_toArray, List.set_cons_zero, List.set_cons_succ, zm, zk]
         rfl
        refine one_ (i := 8) (N := some 25) (fm 10 9) rfl rfl (one_of HT_.out (by kernel_rfl)) (by decide) (fun K hK => ?_)
        refine goes_ Try.func32 (by kernel_rfl) rfl #[.agg #[.int .i8 ((rd_T54 l0 x5_1).f0.f0), .int .i8 ((rd_T54 l0 x5_1).f0.f1), .int .i8 ((rd_T54 l0 x5_1).f0.f2), .int .i8 ((rd_T54 l0 x5_1).f0.f3), .int .i8 ((rd_T54 l0 x5_1).f0.f4), .int .i8 ((rd_T54 l0 x5_1).f0.f5), .int .i8 ((rd_T54 l0 x5_1).f0.f6), .int .i8 ((rd_T54 l0 x5_1).f0.f7), .int .i8 ((rd_T54 l0 x5_1).f0.f8), .int .i8 ((rd_T54 l0 x5_1).f0.f9), .int .i8 ((rd_T54 l0 x5_1).f0.f10), .int .i8 ((rd_T54 l0 x5_1).f0.f11), .int .i8 ((rd_T54 l0 x5_1).f0.f12), .int .i8 ((rd_T54 l0 x5_1).f0.f13), .int .i16 ((rd_T54 l0 x5_1).f1.f0), .int .i16 ((rd_T54 l0 x5_1).f1.f1), .int .i16 ((rd_T54 l0 x5_1).f1.f2), .int .i8 ((rd_T54 l0 x5_1).f2.f0), .bool ((rd_T54 l0 x5_1).f2.f1), .bool ((rd_T54 l0 x5_1).f3)], .agg #[.int .i8 ((rd_T54 l1 x5_1).f0.f0), .int .i8 ((rd_T54 l1 x5_1).f0.f1), .int .i8 ((rd_T54 l1 x5_1).f0.f2), .int .i8 ((rd_T54 l1 x5_1).f0.f3), .int .i8 ((rd_T54 l1 x5_1).f0.f4), .int .i8 ((rd_T54 l1 x5_1).f0.f5), .int .i8 ((rd_T54 l1 x5_1).f0.f6), .int .i8 ((rd_T54 l1 x5_1).f0.f7), .int .i8 ((rd_T54 l1 x5_1).f0.f8), .int .i8 ((rd_T54 l1 x5_1).f0.f9), .int .i8 ((rd_T54 l1 x5_1).f0.f10), .int .i8 ((rd_T54 l1 x5_1).f0.f11), .int .i8 ((rd_T54 l1 x5_1).f0.f12), .int .i8 ((rd_T54 l1 x5_1).f0.f13), .int .i16 ((rd_T54 l1 x5_1).f1.f0), .int .i16 ((rd_T54 l1 x5_1).f1.f1), .int .i16 ((rd_T54 l1 x5_1).f1.f2), .int .i8 ((rd_T54 l1 x5_1).f2.f0), .bool ((rd_T54 l1 x5_1).f2.f1), .bool ((rd_T54 l1 x5_1).f3)]] (by rfl) rfl rfl (by (try simp only [List.map_toArray, List.map_cons, List.map_nil]); first | done | rfl | (simp only [List.length_drop, List.length_take]; rfl)) ?_
        with_reducible refine (laws_eqNode.calls k1 ((rd_T54 l0 x5_1).f0.f0) ((rd_T54 l0 x5_1).f0.f1) ((rd_T54 l0 x5_1).f0.f2) ((rd_T54 l0 x5_1).f0.f3) ((rd_T54 l0 x5_1).f0.f4) ((rd_T54 l0 x5_1).f0.f5) ((rd_T54 l0 x5_1).f0.f6) ((rd_T54 l0 x5_1).f0.f7) ((rd_T54 l0 x5_1).f0.f8) ((rd_T54 l0 x5_1).f0.f9) ((rd_T54 l0 x5_1).f0.f10) ((rd_T54 l0 x5_1).f0.f11) ((rd_T54 l0 x5_1).f0.f12) ((rd_T54 l0 x5_1).f0.f13) ((rd_T54 l0 x5_1).f1.f0) ((rd_T54 l0 x5_1).f1.f1) ((rd_T54 l0 x5_1).f1.f2) ((rd_T54 l0 x5_1).f2.f0) ((rd_T54 l0 x5_1).f2.f1) ((rd_T54 l0 x5_1).f3) ((rd_T54 l1 x5_1).f0.f0) ((rd_T54 l1 x5_1).f0.f1) ((rd_T54 l1 x5_1).f0.f2) ((rd_T54 l1 x5_1).f0.f3) ((rd_T54 l1 x5_1).f0.f4) ((rd_T54 l1 x5_1).f0.f5) ((rd_T54 l1 x5_1).f0.f6) ((rd_T54 l1 x5_1).f0.f7) ((rd_T54 l1 x5_1).f0.f8) ((rd_T54 l1 x5_1).f0.f9) ((rd_T54 l1 x5_1).f0.f10) ((rd_T54 l1 x5_1).f0.f11) ((rd_T54 l1 x5_1).f0.f12) ((rd_T54 l1 x5_1).f0.f13) ((rd_T54 l1 x5_1).f1.f0) ((rd_T54 l1 x5_1).f1.f1) ((rd_T54 l1 x5_1).f1.f2) ((rd_T54 l1 x5_1).f2.f0) ((rd_T54 l1 x5_1).f2.f1) ((rd_T54 l1 x5_1).f3) true _ A7.out).mono ?_
        rintro e w10 ⟨rfl, hb⟩
        refine ⟨_, rfl, ?_⟩
        have n0_ := zc.mk (zp (by repeat (first | (with_reducible first | exact HB.out | apply zd | apply za | apply zb) | exact HB.out)) hb)
        clear HB
        have HB := n0_
        clear n0_
        (try clear hb)
        (try clear hb2)
        (try clear hk)
        (try clear hi)
        refine hK.out _ _ ⟨(bc HB.out hw344_0), (bc HB.out hw344_1), (bc HB.out hw344_2), (bc HB.out hw344_3), (bc HB.out hw344_4), (bc HB.out hw344_5), (bc HB.out hw344_6), (bc HB.out hw344_7), (bc HB.out hw344_8), (bc HB.out hw344_9), (bc HB.out hw344_10), (bc HB.out hw344_11), (bc HB.out hw344_12), (bc HB.out hw344_13), (bc HB.out hw344_14), (bc HB.out hw344_15), (bc HB.out hw344_16), (bc HB.out hw344_17), (bc HB.out hw344_18), (bc HB.out hw344_19), (bc HB.out hw345_0), (bc HB.out hw345_1), (bc HB.out hw345_2), (bc HB.out hw345_3), (bc HB.out hw345_4), (bc HB.out hw345_5), (bc HB.out hw345_6), (bc HB.out hw345_7), (bc HB.out hw345_8), (bc HB.out hw345_9), (bc HB.out hw345_10), (bc HB.out hw345_11), (bc HB.out hw345_12), (bc HB.out hw345_13), (bc HB.out hw345_14), (bc HB.out hw345_15), (bc HB.out hw345_16), (bc HB.out hw345_17), (bc HB.out hw345_18), (bc HB.out hw345_19)⟩ (fun hHeld => ?_)
        clear hK K
        refine norm_ (a' := ?_) ?_ ?_
        rotate_left
        ·show Act.put _ (some 25) _ = _
         simp only [Act.put, List.setIfInBounds_toArray, List.set_cons_zero, List.set_cons_succ, zm, zk]
         rfl
        refine pv 9 26 (fm 10 10) rfl rfl (zj HT_.out (by kernel_rfl)) (fun _ _ _ h => h) (Or.inl ⟨by rfl, by intro w'; go_simp; with_reducible rfl⟩) (by simp only [Act.put, ea, eb, ec, zm, zk]; rfl) ?_
        refine done_ (done_of HT_.out (by kernel_rfl)) ?_
        try go_wp2
        go_roundg k1
        case measure => have := HK1.out; omega
        case rel => exact ⟨(wrap64 (x5_1 + 1)), (by first | rfl | (simp; done) | (simp [*]; done)), H', ⟨by have := HK1.out; omega⟩, ⟨by repeat (first | (with_reducible first | exact HB.out | apply zd | apply za | apply zb) | exact HB.out)⟩⟩
       replace c8 := Bool.eq_false_iff.mpr c8
       subst c8
       have H1 : (some false) = some r := by rw [if_neg (show ¬ (false = true) by decide)] at H; exact H
       clear H
       have H := H1
       clear H1
       obtain rfl := Option.some.inj H
       try go_wp2
       have n0_ := zc.mk (zb HB.out)
       clear HB
       have HB := n0_
       clear n0_
       have p344 : 0 ≤ (x5_1 : Int) := of_decide_eq_true (by first | (with_reducible assumption) | assumption)
       have q344 : x5_1 < (l0.length : Int) := of_decide_eq_true (by first | (with_reducible assumption) | assumption)
       obtain ⟨ad344, e344, hx344_0, hx344_1, hx344_2, hx344_3, hx344_4, hx344_5, hx344_6, hx344_7, hx344_8, hx344_9, hx344_10, hx344_11, hx344_12, hx344_13, hx344_14, hx344_15, hx344_16, hx344_17, hx344_18, hx344_19, hw344_0, hw344_1, hw344_2, hw344_3, hw344_4, hw344_5, hw344_6, hw344_7, hw344_8, hw344_9, hw344_10, hw344_11, hw344_12, hw344_13, hw344_14, hw344_15, hw344_16, hw344_17, hw344_18, hw344_19⟩ := ab_T54 HB.out HR0.out x5_1 p344 q344
       cases e344
       replace p344 := eq_true p344
       replace q344 := eq_true q344
       have p345 : 0 ≤ (x5_1 : Int) := of_decide_eq_true (by first | (with_reducible assumption) | assumption)
       have q345 : x5_1 < (l1.length : Int) := of_decide_eq_true (by first | (with_reducible assumption) | assumption)
       obtain ⟨ad345, e345, hx345_0, hx345_1, hx345_2, hx345_3, hx345_4, hx345_5, hx345_6, hx345_7, hx345_8, hx345_9, hx345_10, hx345_11, hx345_12, hx345_13, hx345_14, hx345_15, hx345_16, hx345_17, hx345_18, hx345_19, hw345_0, hw345_1, hw345_2, hw345_3, hw345_4, hw345_5, hw345_6, hw345_7, hw345_8, hw345_9, hw345_10, hw345_11, hw345_12, hw345_13, hw345_14, hw345_15, hw345_16, hw345_17, hw345_18, hw345_19⟩ := ab_T54 HB.out HR1.out x5_1 p345 q345
       cases e345
       replace p345 := eq_true p345
       replace q345 := eq_true q345
       refine start_ (n := 10) (S := fun w' => w'.cell? (ad344.add ((x5_1).toNat * 20)) = some (.int .i8 ((rd_T54 l0 x5_1).f0.f0)) ∧ w'.cell? ⟨(ad344.add ((x5_1).toNat * 20)).block, (ad344.add ((x5_1).toNat * 20)).off + 1, none⟩ = some (.int .i8 ((rd_T54 l0 x5_1).f0.f1)) ∧ w'.cell? ⟨(ad344.add ((x5_1).toNat * 20)).block, (ad344.add ((x5_1).toNat * 20)).off + 2, none⟩ = some (.int .i8 ((rd_T54 l0 x5_1).f0.f2)) ∧ w'.cell? ⟨(ad344.add ((x5_1).toNat * 20)).block, (ad344.add ((x5_1).toNat * 20)).off + 3, none⟩ = some (.int .i8 ((rd_T54 l0 x5_1).f0.f3)) ∧ w'.cell? ⟨(ad344.add ((x5_1).toNat * 20)).block, (ad344.add ((x5_1).toNat * 20)).off + 4, none⟩ = some (.int .i8 ((rd_T54 l0 x5_1).f0.f4)) ∧ w'.cell? ⟨(ad344.add ((x5_1).toNat * 20)).block, (ad344.add ((x5_1).toNat * 20)).off + 5, none⟩ = some (.int .i8 ((rd_T54 l0 x5_1).f0.f5)) ∧ w'.cell? ⟨(ad344.add ((x5_1).toNat * 20)).block, (ad344.add ((x5_1).toNat * 20)).off + 6, none⟩ = some (.int .i8 ((rd_T54 l0 x5_1).f0.f6)) ∧ w'.cell? ⟨(ad344.add ((x5_1).toNat * 20)).block, (ad344.add ((x5_1).toNat * 20)).off + 7, none⟩ = some (.int .i8 ((rd_T54 l0 x5_1).f0.f7)) ∧ w'.cell? ⟨(ad344.add ((x5_1).toNat * 20)).block, (ad344.add ((x5_1).toNat * 20)).off + 8, none⟩ = some (.int .i8 ((rd_T54 l0 x5_1).f0.f8)) ∧ w'.cell? ⟨(ad344.add ((x5_1).toNat * 20)).block, (ad344.add ((x5_1).toNat * 20)).off + 9, none⟩ = some (.int .i8 ((rd_T54 l0 x5_1).f0.f9)) ∧ w'.cell? ⟨(ad344.add ((x5_1).toNat * 20)).block, (ad344.add ((x5_1).toNat * 20)).off + 10, none⟩ = some (.int .i8 ((rd_T54 l0 x5_1).f0.f10)) ∧ w'.cell? ⟨(ad344.add ((x5_1).toNat * 20)).block, (ad344.add ((x5_1).toNat * 20)).off + 11, none⟩ = some (.int .i8 ((rd_T54 l0 x5_1).f0.f11)) ∧ w'.cell? ⟨(ad344.add ((x5_1).toNat * 20)).block, (ad344.add ((x5_1).toNat * 20)).off + 12, none⟩ = some (.int .i8 ((rd_T54 l0 x5_1).f0.f12)) ∧ w'.cell? ⟨(ad344.add ((x5_1).toNat * 20)).block, (ad344.add ((x5_1).toNat * 20)).off + 13, none⟩ = some (.int .i8 ((rd_T54 l0 x5_1).f0.f13)) ∧ w'.cell? ⟨(ad344.add ((x5_1).toNat * 20)).block, (ad344.add ((x5_1).toNat * 20)).off + 14, none⟩ = some (.int .i16 ((rd_T54 l0 x5_1).f1.f0)) ∧ w'.cell? ⟨(ad344.add ((x5_1).toNat * 20)).block, (ad344.add ((x5_1).toNat * 20)).off + 15, none⟩ = some (.int .i16 ((rd_T54 l0 x5_1).f1.f1)) ∧ w'.cell? ⟨(ad344.add ((x5_1).toNat * 20)).block, (ad344.add ((x5_1).toNat * 20)).off + 16, none⟩ = some (.int .i16 ((rd_T54 l0 x5_1).f1.f2)) ∧ w'.cell? ⟨(ad344.add ((x5_1).toNat * 20)).block, (ad344.add ((x5_1).toNat * 20)).off + 17, none⟩ = some (.int .i8 ((rd_T54 l0 x5_1).f2.f0)) ∧ w'.cell? ⟨(ad344.add ((x5_1).toNat * 20)).block, (ad344.add ((x5_1).toNat * 20)).off + 18, none⟩ = some (.bool ((rd_T54 l0 x5_1).f2.f1)) ∧ w'.cell? ⟨(ad344.add ((x5_1).toNat * 20)).block, (ad344.add ((x5_1).toNat * 20)).off + 19, none⟩ = some (.bool ((rd_T54 l0 x5_1).f3)) ∧ w'.cell? (ad345.add ((x5_1).toNat * 20)) = some (.int .i8 ((rd_T54 l1 x5_1).f0.f0)) ∧ w'.cell? ⟨(ad345.add ((x5_1).toNat * 20)).block, (ad345.add ((x5_1).toNat * 20)).off + 1, none⟩ = some (.int .i8 ((rd_T54 l1 x5_1).f0.f1)) ∧ w'.cell? ⟨(ad345.add ((x5_1).toNat * 20)).block, (ad345.add ((x5_1).toNat * 20)).off + 2, none⟩ = some (.int .i8 ((rd_T54 l1 x5_1).f0.f2)) ∧ w'.cell? ⟨(ad345.add ((x5_1).toNat * 20)).block, (ad345.add ((x5_1).toNat * 20)).off + 3, none⟩ = some (.int .i8 ((rd_T54 l1 x5_1).f0.f3)) ∧ w'.cell? ⟨(ad345.add ((x5_1).toNat * 20)).block, (ad345.add ((x5_1).toNat * 20)).off + 4, none⟩ = some (.int .i8 ((rd_T54 l1 x5_1).f0.f4)) ∧ w'.cell? ⟨(ad345.add ((x5_1).toNat * 20)).block, (ad345.add ((x5_1).toNat * 20)).off + 5, none⟩ = some (.int .i8 ((rd_T54 l1 x5_1).f0.f5)) ∧ w'.cell? ⟨(ad345.add ((x5_1).toNat * 20)).block, (ad345.add ((x5_1).toNat * 20)).off + 6, none⟩ = some (.int .i8 ((rd_T54 l1 x5_1).f0.f6)) ∧ w'.cell? ⟨(ad345.add ((x5_1).toNat * 20)).block, (ad345.add ((x5_1).toNat * 20)).off + 7, none⟩ = some (.int .i8 ((rd_T54 l1 x5_1).f0.f7)) ∧ w'.cell? ⟨(ad345.add ((x5_1).toNat * 20)).block, (ad345.add ((x5_1).toNat * 20)).off + 8, none⟩ = some (.int .i8 ((rd_T54 l1 x5_1).f0.f8)) ∧ w'.cell? ⟨(ad345.add ((x5_1).toNat * 20)).block, (ad345.add ((x5_1).toNat * 20)).off + 9, none⟩ = some (.int .i8 ((rd_T54 l1 x5_1).f0.f9)) ∧ w'.cell? ⟨(ad345.add ((x5_1).toNat * 20)).block, (ad345.add ((x5_1).toNat * 20)).off + 10, none⟩ = some (.int .i8 ((rd_T54 l1 x5_1).f0.f10)) ∧ w'.cell? ⟨(ad345.add ((x5_1).toNat * 20)).block, (ad345.add ((x5_1).toNat * 20)).off + 11, none⟩ = some (.int .i8 ((rd_T54 l1 x5_1).f0.f11)) ∧ w'.cell? ⟨(ad345.add ((x5_1).toNat * 20)).block, (ad345.add ((x5_1).toNat * 20)).off + 12, none⟩ = some (.int .i8 ((rd_T54 l1 x5_1).f0.f12)) ∧ w'.cell? ⟨(ad345.add ((x5_1).toNat * 20)).block, (ad345.add ((x5_1).toNat * 20)).off + 13, none⟩ = some (.int .i8 ((rd_T54 l1 x5_1).f0.f13)) ∧ w'.cell? ⟨(ad345.add ((x5_1).toNat * 20)).block, (ad345.add ((x5_1).toNat * 20)).off + 14, none⟩ = some (.int .i16 ((rd_T54 l1 x5_1).f1.f0)) ∧ w'.cell? ⟨(ad345.add ((x5_1).toNat * 20)).block, (ad345.add ((x5_1).toNat * 20)).off + 15, none⟩ = some (.int .i16 ((rd_T54 l1 x5_1).f1.f1)) ∧ w'.cell? ⟨(ad345.add ((x5_1).toNat * 20)).block, (ad345.add ((x5_1).toNat * 20)).off + 16, none⟩ = some (.int .i16 ((rd_T54 l1 x5_1).f1.f2)) ∧ w'.cell? ⟨(ad345.add ((x5_1).toNat * 20)).block, (ad345.add ((x5_1).toNat * 20)).off + 17, none⟩ = some (.int .i8 ((rd_T54 l1 x5_1).f2.f0)) ∧ w'.cell? ⟨(ad345.add ((x5_1).toNat * 20)).block, (ad345.add ((x5_1).toNat * 20)).off + 18, none⟩ = some (.bool ((rd_T54 l1 x5_1).f2.f1)) ∧ w'.cell? ⟨(ad345.add ((x5_1).toNat * 20)).block, (ad345.add ((x5_1).toNat * 20)).off + 19, none⟩ = some (.bool ((rd_T54 l1 x5_1).f3))) (ds := []) (fm 10 0) (by kernel_rfl) rfl rfl ⟨(bc HB.out hw344_0), (bc HB.out hw344_1), (bc HB.out hw344_2), (bc HB.out hw344_3), (bc HB.out hw344_4), (bc HB.out hw344_5), (bc HB.out hw344_6), (bc HB.out hw344_7), (bc HB.out hw344_8), (bc HB.out hw344_9), (bc HB.out hw344_10), (bc HB.out hw344_11), (bc HB.out hw344_12), (bc HB.out hw344_13), (bc HB.out hw344_14), (bc HB.out hw344_15), (bc HB.out hw344_16), (bc HB.out hw344_17), (bc HB.out hw344_18), (bc HB.out hw344_19), (bc HB.out hw345_0), (bc HB.out hw345_1), (bc HB.out hw345_2), (bc HB.out hw345_3), (bc HB.out hw345_4), (bc HB.out hw345_5), (bc HB.out hw345_6), (bc HB.out hw345_7), (bc HB.out hw345_8), (bc HB.out hw345_9), (bc HB.out hw345_10), (bc HB.out hw345_11), (bc HB.out hw345_12), (bc HB.out hw345_13), (bc HB.out hw345_14), (bc HB.out hw345_15), (bc HB.out hw345_16), (bc HB.out hw345_17), (bc HB.out hw345_18), (bc HB.out hw345_19)⟩ (fun hHeld => ?_); refine zma laws_eqNodeS.tab6 laws_eqNodeS.bits6 (fun HT_ HW_ => ?_)
       generalize wr.drew = w11 at HB hx344_0 hx344_1 hx344_10 hx344_11 hx344_12 hx344_13 hx344_14 hx344_15 hx344_16 hx344_17 hx344_18 hx344_19 hx344_2 hx344_3 hx344_4 hx344_5 hx344_6 hx344_7 hx344_8 hx344_9 hx345_0 hx345_1 hx345_10 hx345_11 hx345_12 hx345_13 hx345_14 hx345_15 hx345_16 hx345_17 hx345_18 hx345_19 hx345_2 hx345_3 hx345_4 hx345_5 hx345_6 hx345_7 hx345_8 hx345_9 hHeld ⊢
       refine pv 0 17 (fm 10 1) rfl rfl (zj HT_.out (by kernel_rfl)) (fun _ _ _ h => h) (Or.inl ⟨by rfl, by intro w'; go_simp; with_reducible rfl⟩) (by simp only [Act.put, ea, eb, ec, zm, zk]; rfl) ?_
       refine pv 1 18 (fm 10 2) rfl rfl (zj HT_.out (by kernel_rfl)) (fun _ _ _ h => h) (Or.inl ⟨by rfl, by intro w'; go_simp; with_reducible rfl⟩) (by simp only [Act.put, ea, eb, ec, zm, zk]; rfl) ?_
       refine pv 2 19 (fm 10 3) rfl rfl (zj HT_.out (by kernel_rfl)) (fun _ _ _ h => h) (Or.inl ⟨by rfl, by intro w'; go_simp; with_reducible rfl⟩) (by simp only [Act.put, ea, eb, ec, zm, zk]; rfl) ?_
       refine pv 4 21 #[T, T, T, F, T, F, F, F, F, F] rfl rfl (zj HT_.out (by kernel_rfl)) (fun _ _ _ h => h) (Or.inl ⟨by rfl, by intro w'; go_simp; with_reducible rfl⟩) (by simp only [Act.put, ea, eb, ec, zm, zk]; rfl) ?_
       refine pv 5 22 #[T, T, T, F, T, T, F, F, F, F] rfl rfl (zj HT_.out (by kernel_rfl)) (fun _ _ _ h => h) (Or.inl ⟨by rfl, by intro w'; go_simp; with_reducible rfl⟩) (by simp only [Act.put, ea, eb, ec, zm, zk]; rfl) ?_
       refine pv 6 23 #[T, T, T, F, T, T, T, F, F, F] rfl rfl (zj HT_.out (by kernel_rfl)) (fun _ _ _ h => h) (Or.inl ⟨by rfl, by intro w'; go_simp; with_reducible rfl⟩) (by simp only [Act.put, ea, eb, ec, zm, zk]; rfl) ?_
       refine take_ (i := 3) (N := some 20) (v := ?_) (a' := ?_) (fm 10 7) rfl rfl (zca HT_.out HW_.out (by kernel_rfl)) (fun _ _ _ h => h) (Or.inl ⟨by rfl, ?_⟩) hHeld ?_ ?_
       rotate_left
       ·rintro w' ⟨s0, s1, s2, s3, s4, s5, s6, s7, s8, s9, s10, s11, s12, s13, s14, s15, s16, s17, s18, s19, s20, s21, s22, s23, s24, s25, s26, s27, s28, s29, s30, s31, s32, s33, s34, s35, s36, s37, s38, s39⟩
        first | (refine load20_go (x := ?ldx2_0) ?lda2_0 ?ldb2_0 hu54 ?ldc2_0 ?ldd2_0 s0 s1 s2 s3 s4 s5 s6 s7 s8 s9 s10 s11 s12 s13 s14 s15 s16 s17 s18 s19; (case lda2_0 => rfl); (case ldb2_0 => rfl); (case ldc2_0 => rfl); (case ldd2_0 => kernel_rfl)) | (refine load20_go (x := ?ldx2_1) ?lda2_1 ?ldb2_1 hu54 ?ldc2_1 ?ldd2_1 s20 s21 s22 s23 s24 s25 s26 s27 s28 s29 s30 s31 s32 s33 s34 s35 s36 s37 s38 s39; (case lda2_1 => rfl); (case ldb2_1 => rfl); (case ldc2_1 => rfl); (case ldd2_1 => kernel_rfl))
       rotate_left
       ·simp only [Act.put, List.setIfInBounds_toArray, List.set_cons_zero, List.set_cons_succ, zm, zk]
        rfl
       refine take_ (i := 7) (N := some 24) (v := ?_) (a' := ?_) (fm 10 8) rfl rfl (zca HT_.out HW_.out (by kernel_rfl)) (fun _ _ _ h => h) (Or.inl ⟨by rfl, ?_⟩) hHeld ?_ ?_
       rotate_left
       ·rintro w' ⟨s0, s1, s2, s3, s4, s5, s6, s7, s8, s9, s10, s11, s12, s13, s14, s15, s16, s17, s18, s19, s20, s21, s22, s23, s24, s25, s26, s27, s28, s29, s30, s31, s32, s33, s34, s35, s36, s37, s38, s39⟩
        first | (refine load20_go (x := ?ldx3_0) ?lda3_0 ?ldb3_0 hu54 ?ldc3_0 ?ldd3_0 s0 s1 s2 s3 s4 s5 s6 s7 s8 s9 s10 s11 s12 s13 s14 s15 s16 s17 s18 s19; (case lda3_0 => rfl); (case ldb3_0 => rfl); (case ldc3_0 => rfl); (case ldd3_0 => kernel_rfl)) | (refine load20_go (x := ?ldx3_1) ?lda3_1 ?ldb3_1 hu54 ?ldc3_1 ?ldd3_1 s20 s21 s22 s23 s24 s25 s26 s27 s28 s29 s30 s31 s32 s33 s34 s35 s36 s37 s38 s39; (case lda3_1 => rfl); (case ldb3_1 => rfl); (case ldc3_1 => rfl); (case ldd3_1 => kernel_rfl))
       rotate_left
       ·simp only [Act.put, List.setIfInBounds_toArray, List.set_cons_zero, List.set_cons_succ, zm, zk]
        rfl
       refine one_ (i := 8) (N := some 25) (fm 10 9) rfl rfl (one_of HT_.out (by kernel_rfl)) (by decide) (fun K hK => ?_)
       refine goes_ Try.func32 (by kernel_rfl) rfl #[.agg #[.int .i8 ((rd_T54 l0 x5_1).f0.f0), .int .i8 ((rd_T54 l0 x5_1).f0.f1), .int .i8 ((rd_T54 l0 x5_1).f0.f2), .int .i8 ((rd_T54 l0 x5_1).f0.f3), .int .i8 ((rd_T54 l0 x5_1).f0.f4), .int .i8 ((rd_T54 l0 x5_1).f0.f5), .int .i8 ((rd_T54 l0 x5_1).f0.f6), .int .i8 ((rd_T54 l0 x5_1).f0.f7), .int .i8 ((rd_T54 l0 x5_1).f0.f8), .int .i8 ((rd_T54 l0 x5_1).f0.f9), .int .i8 ((rd_T54 l0 x5_1).f0.f10), .int .i8 ((rd_T54 l0 x5_1).f0.f11), .int .i8 ((rd_T54 l0 x5_1).f0.f12), .int .i8 ((rd_T54 l0 x5_1).f0.f13), .int .i16 ((rd_T54 l0 x5_1).f1.f0), .int .i16 ((rd_T54 l0 x5_1).f1.f1), .int .i16 ((rd_T54 l0 x5_1).f1.f2), .int .i8 ((rd_T54 l0 x5_1).f2.f0), .bool ((rd_T54 l0 x5_1).f2.f1), .bool ((rd_T54 l0 x5_1).f3)], .agg #[.int .i8 ((rd_T54 l1 x5_1).f0.f0), .int .i8 ((rd_T54 l1 x5_1).f0.f1), .int .i8 ((rd_T54 l1 x5_1).f0.f2), .int .i8 ((rd_T54 l1 x5_1).f0.f3), .int .i8 ((rd_T54 l1 x5_1).f0.f4), .int .i8 ((rd_T54 l1 x5_1).f0.f5), .int .i8 ((rd_T54 l1 x5_1).f0.f6), .int .i8 ((rd_T54 l1 x5_1).f0.f7), .int .i8 ((rd_T54 l1 x5_1).f0.f8), .int .i8 ((rd_T54 l1 x5_1).f0.f9), .int .i8 ((rd_T54 l1 x5_1).f0.f10), .int .i8 ((rd_T54 l1 x5_1).f0.f11), .int .i8 ((rd_T54 l1 x5_1).f0.f12), .int .i8 ((rd_T54 l1 x5_1).f0.f13), .int .i16 ((rd_T54 l1 x5_1).f1.f0), .int .i16 ((rd_T54 l1 x5_1).f1.f1), .int .i16 ((rd_T54 l1 x5_1).f1.f2), .int .i8 ((rd_T54 l1 x5_1).f2.f0), .bool ((rd_T54 l1 x5_1).f2.f1), .bool ((rd_T54 l1 x5_1).f3)]] (by rfl) rfl rfl (by (try simp only [List.map_toArray, List.map_cons, List.map_nil]); first | done | rfl | (simp only [List.length_drop, List.length_take]; rfl)) ?_
       with_reducible refine (laws_eqNode.calls k1 ((rd_T54 l0 x5_1).f0.f0) ((rd_T54 l0 x5_1).f0.f1) ((rd_T54 l0 x5_1).f0.f2) ((rd_T54 l0 x5_1).f0.f3) ((rd_T54 l0 x5_1).f0.f4) ((rd_T54 l0 x5_1).f0.f5) ((rd_T54 l0 x5_1).f0.f6) ((rd_T54 l0 x5_1).f0.f7) ((rd_T54 l0 x5_1).f0.f8) ((rd_T54 l0 x5_1).f0.f9) ((rd_T54 l0 x5_1).f0.f10) ((rd_T54 l0 x5_1).f0.f11) ((rd_T54 l0 x5_1).f0.f12) ((rd_T54 l0 x5_1).f0.f13) ((rd_T54 l0 x5_1).f1.f0) ((rd_T54 l0 x5_1).f1.f1) ((rd_T54 l0 x5_1).f1.f2) ((rd_T54 l0 x5_1).f2.f0) ((rd_T54 l0 x5_1).f2.f1) ((rd_T54 l0 x5_1).f3) ((rd_T54 l1 x5_1).f0.f0) ((rd_T54 l1 x5_1).f0.f1) ((rd_T54 l1 x5_1).f0.f2) ((rd_T54 l1 x5_1).f0.f3) ((rd_T54 l1 x5_1).f0.f4) ((rd_T54 l1 x5_1).f0.f5) ((rd_T54 l1 x5_1).f0.f6) ((rd_T54 l1 x5_1).f0.f7) ((rd_T54 l1 x5_1).f0.f8) ((rd_T54 l1 x5_1).f0.f9) ((rd_T54 l1 x5_1).f0.f10) ((rd_T54 l1 x5_1).f0.f11) ((rd_T54 l1 x5_1).f0.f12) ((rd_T54 l1 x5_1).f0.f13) ((rd_T54 l1 x5_1).f1.f0) ((rd_T54 l1 x5_1).f1.f1) ((rd_T54 l1 x5_1).f1.f2) ((rd_T54 l1 x5_1).f2.f0) ((rd_T54 l1 x5_1).f2.f1) ((rd_T54 l1 x5_1).f3) false _ A7.out).mono ?_
       rintro e w12 ⟨rfl, hb⟩
       refine ⟨_, rfl, ?_⟩
       have n0_ := zc.mk (zp (by repeat (first | (with_reducible first | exact HB.out | apply zd | apply za | apply zb) | exact HB.out)) hb)
       clear HB
       have HB := n0_
       clear n0_
       (try clear hb)
       (try clear hb2)
       (try clear hk)
       (try clear hi)
       refine hK.out _ _ ⟨(bc HB.out hw344_0), (bc HB.out hw344_1), (bc HB.out hw344_2), (bc HB.out hw344_3), (bc HB.out hw344_4), (bc HB.out hw344_5), (bc HB.out hw344_6), (bc HB.out hw344_7), (bc HB.out hw344_8), (bc HB.out hw344_9), (bc HB.out hw344_10), (bc HB.out hw344_11), (bc HB.out hw344_12), (bc HB.out hw344_13), (bc HB.out hw344_14), (bc HB.out hw344_15), (bc HB.out hw344_16), (bc HB.out hw344_17), (bc HB.out hw344_18), (bc HB.out hw344_19), (bc HB.out hw345_0), (bc HB.out hw345_1), (bc HB.out hw345_2), (bc HB.out hw345_3), (bc HB.out hw345_4), (bc HB.out hw345_5), (bc HB.out hw345_6), (bc HB.out hw345_7), (bc HB.out hw345_8), (bc HB.out hw345_9), (bc HB.out hw345_10), (bc HB.out hw345_11), (bc HB.out hw345_12), (bc HB.out hw345_13), (bc HB.out hw345_14), (bc HB.out hw345_15), (bc HB.out hw345_16), (bc HB.out hw345_17), (bc HB.out hw345_18), (bc HB.out hw345_19)⟩ (fun hHeld => ?_)
       clear hK K
       refine norm_ (a' := ?_) ?_ ?_
       rotate_left
       ·show Act.put _ (some 25) _ = _
        simp only [Act.put, List.setIfInBounds_toArray, List.set_cons_zero, List.set_cons_succ, zm, zk]
        rfl
       refine pv 9 26 (fm 10 10) rfl rfl (zj HT_.out (by kernel_rfl)) (fun _ _ _ h => h) (Or.inl ⟨by rfl, by intro w'; go_simp; with_reducible rfl⟩) (by simp only [Act.put, ea, eb, ec, zm, zk]; rfl) ?_
       refine done_ (done_of HT_.out (by kernel_rfl)) ?_
       try go_wp2
       go_ret
       exact ⟨by first | rfl | (simp [errW_none, errW_some] <;> rfl) | (simp [*, errW_none, errW_some] <;> rfl), by repeat (first | (with_reducible first | exact HB.out | apply zd | apply za | apply zb) | exact HB.out)⟩
      rw [if_neg c6] at H
      exact absurd H (by simp)
     rw [if_neg c5] at H
     exact absurd H (by simp)
    rw [if_neg c4] at H
    have c4b0 : decide (x5_1 < (l0.length : Int)) = false := decide_eq_false c4
    clear c4
    obtain rfl := Option.some.inj H
    go_wp2
    go_ret
    exact ⟨by first | rfl | (simp [errW_none, errW_some] <;> rfl) | (simp [*, errW_none, errW_some] <;> rfl), by repeat (first | (with_reducible first | exact HB.out | apply zd | apply za | apply zb) | exact HB.out)⟩
 rw [if_neg c3] at H
 have c3b0 : ((l0.length : Int) == (l1.length : Int)) = false := beq_eq_false_iff_ne.mpr c3
 have c3b1 : ((l0.length : Int) != (l1.length : Int)) = true := bne_iff_ne.mpr c3
 have c3b2 : (l0.length == l1.length) = false := by first | simpa using c3 | (simp at c3 ⊢; omega)
 obtain rfl := Option.some.inj H
 go_enter Try.func13, Try.ntmps13
 go_wp2
 go_ret
 exact ⟨by first | rfl | (simp [errW_none, errW_some] <;> rfl) | (simp [*, errW_none, errW_some] <;> rfl), by repeat (first | (with_reducible first | exact HB.out | apply zd | apply za | apply zb) | exact HB.out)⟩

end Go.Proofs.Ytmmonhpjjjdnjaa.Y
