-- Written by wip/tools/myprint.py.
import Derived.Test.YtmfbcklaomigaaaMx0
import Derived.Test.YtmfbcklaomigaaaLLoad
import Derived.Test.YtmfbcklaomigaaaMx11
import Derived.Test.YtmfbcklaomigaaaMx22
import Derived.Test.YtmfbcklaomigaaaMx26
namespace Go.Proofs.Ytmfbcklaomigaaa.M
open Go.RowKit Go.Proofs.YtmfbcklaomigaaaW.PrintWords Go.Proofs.YtmfbcklaomigaaaW.PrintLast Go.Proofs.YtmfbcklaomigaaaW.PrintMore
attribute [local go_sem] zrb zqb zkc zhc zlb zkb ztb zub
set_option linter.unusedVariables false
set_option linter.unusedSimpArgs false
mutual
def laws_markNodeS.l0 : Nat → List (S102) → Int → Int → Option (Int × (List (S102)))
 | 0, _, _, _ => none
 | k + 1, x0, x1, x5 => if x5 < (x0.length : Int) then (laws_markNodeS.l1 k x0 x1 x5 0) else (some (x1, x0))
def laws_markNodeS.l1 : Nat → List (S102) → Int → Int → Int → Option (Int × (List (S102)))
 | 0, _, _, _, _ => none
 | k + 1, x0, x1, x5, x6 => if x6 < 14 then (if 0 ≤ x5 then (if x5 < (x0.length : Int) then (if 0 ≤ x6 then (laws_markNodeS.l1 k (x0.set (x5 : Int).toNat (⟨(⟨(zv x6 0 (IntKind.i8.wrap (x1)) ((zh x0 x5).f0.f0)), (zv x6 1 (IntKind.i8.wrap (x1)) ((zh x0 x5).f0.f1)), (zv x6 2 (IntKind.i8.wrap (x1)) ((zh x0 x5).f0.f2)), (zv x6 3 (IntKind.i8.wrap (x1)) ((zh x0 x5).f0.f3)), (zv x6 4 (IntKind.i8.wrap (x1)) ((zh x0 x5).f0.f4)), (zv x6 5 (IntKind.i8.wrap (x1)) ((zh x0 x5).f0.f5)), (zv x6 6 (IntKind.i8.wrap (x1)) ((zh x0 x5).f0.f6)), (zv x6 7 (IntKind.i8.wrap (x1)) ((zh x0 x5).f0.f7)), (zv x6 8 (IntKind.i8.wrap (x1)) ((zh x0 x5).f0.f8)), (zv x6 9 (IntKind.i8.wrap (x1)) ((zh x0 x5).f0.f9)), (zv x6 10 (IntKind.i8.wrap (x1)) ((zh x0 x5).f0.f10)), (zv x6 11 (IntKind.i8.wrap (x1)) ((zh x0 x5).f0.f11)), (zv x6 12 (IntKind.i8.wrap (x1)) ((zh x0 x5).f0.f12)), (zv x6 13 (IntKind.i8.wrap (x1)) ((zh x0 x5).f0.f13))⟩ : S96), (⟨(zh x0 x5).f1.f0, (zh x0 x5).f1.f1, (zh x0 x5).f1.f2⟩ : S100), (⟨(zh x0 x5).f2.f0, (zh x0 x5).f2.f1⟩ : S38), (zh x0 x5).f3⟩ : S102)) (wrap64 (x1 + 1)) x5 (wrap64 (x6 + 1))) else (none)) else (none)) else (none)) else (laws_markNodeS.l2 k x0 x1 x5 0)
def laws_markNodeS.l2 : Nat → List (S102) → Int → Int → Int → Option (Int × (List (S102)))
 | 0, _, _, _, _ => none
 | k + 1, x0, x1, x5, x7 => if x7 < 3 then (if 0 ≤ x5 then (if x5 < (x0.length : Int) then (if 0 ≤ x7 then (laws_markNodeS.l2 k (x0.set (x5 : Int).toNat (⟨(⟨(zh x0 x5).f0.f0, (zh x0 x5).f0.f1, (zh x0 x5).f0.f2, (zh x0 x5).f0.f3, (zh x0 x5).f0.f4, (zh x0 x5).f0.f5, (zh x0 x5).f0.f6, (zh x0 x5).f0.f7, (zh x0 x5).f0.f8, (zh x0 x5).f0.f9, (zh x0 x5).f0.f10, (zh x0 x5).f0.f11, (zh x0 x5).f0.f12, (zh x0 x5).f0.f13⟩ : S96), (⟨(zv x7 0 (IntKind.i16.wrap (x1)) ((zh x0 x5).f1.f0)), (zv x7 1 (IntKind.i16.wrap (x1)) ((zh x0 x5).f1.f1)), (zv x7 2 (IntKind.i16.wrap (x1)) ((zh x0 x5).f1.f2))⟩ : S100), (⟨(zh x0 x5).f2.f0, (zh x0 x5).f2.f1⟩ : S38), (zh x0 x5).f3⟩ : S102)) (wrap64 (x1 + 1)) x5 (wrap64 (x7 + 1))) else (none)) else (none)) else (none)) else (if 0 ≤ x5 then (if x5 < (x0.length : Int) then ((some (x0.set (x5 : Int).toNat (⟨(⟨(zh x0 x5).f0.f0, (zh x0 x5).f0.f1, (zh x0 x5).f0.f2, (zh x0 x5).f0.f3, (zh x0 x5).f0.f4, (zh x0 x5).f0.f5, (zh x0 x5).f0.f6, (zh x0 x5).f0.f7, (zh x0 x5).f0.f8, (zh x0 x5).f0.f9, (zh x0 x5).f0.f10, (zh x0 x5).f0.f11, (zh x0 x5).f0.f12, (zh x0 x5).f0.f13⟩ : S96), (⟨(zh x0 x5).f1.f0, (zh x0 x5).f1.f1, (zh x0 x5).f1.f2⟩ : S100), (⟨IntKind.i8.wrap (x1), (zh x0 x5).f2.f1⟩ : S38), (zh x0 x5).f3⟩ : S102) : List (S102))).bind fun y438 => ((some (y438.set (x5 : Int).toNat (⟨(⟨(zh y438 x5).f0.f0, (zh y438 x5).f0.f1, (zh y438 x5).f0.f2, (zh y438 x5).f0.f3, (zh y438 x5).f0.f4, (zh y438 x5).f0.f5, (zh y438 x5).f0.f6, (zh y438 x5).f0.f7, (zh y438 x5).f0.f8, (zh y438 x5).f0.f9, (zh y438 x5).f0.f10, (zh y438 x5).f0.f11, (zh y438 x5).f0.f12, (zh y438 x5).f0.f13⟩ : S96), (⟨(zh y438 x5).f1.f0, (zh y438 x5).f1.f1, (zh y438 x5).f1.f2⟩ : S100), (⟨(zh y438 x5).f2.f0, ((Int.tmod (wrap64 (x1 + 1)) 3) == 0)⟩ : S38), (zh y438 x5).f3⟩ : S102) : List (S102))).bind fun y439 => (laws_markNodeS.l0 k (y439.set (x5 : Int).toNat (⟨(⟨(zh y439 x5).f0.f0, (zh y439 x5).f0.f1, (zh y439 x5).f0.f2, (zh y439 x5).f0.f3, (zh y439 x5).f0.f4, (zh y439 x5).f0.f5, (zh y439 x5).f0.f6, (zh y439 x5).f0.f7, (zh y439 x5).f0.f8, (zh y439 x5).f0.f9, (zh y439 x5).f0.f10, (zh y439 x5).f0.f11, (zh y439 x5).f0.f12, (zh y439 x5).f0.f13⟩ : S96), (⟨(zh y439 x5).f1.f0, (zh y439 x5).f1.f1, (zh y439 x5).f1.f2⟩ : S100), (⟨(zh y439 x5).f2.f0, (zh y439 x5).f2.f1⟩ : S38), ((Int.tmod (wrap64 ((wrap64 (x1 + 1)) + 1)) 3) == 0)⟩ : S102)) (wrap64 ((wrap64 ((wrap64 (x1 + 1)) + 1)) + 1)) (wrap64 (x5 + 1))))) else (none)) else (none))
end
def laws_markNodeS.f (k : Nat) (l0 : List (S102)) (a1 : Int) : Option (Int × (List (S102))) := laws_markNodeS.l0 k l0 a1 0
set_option maxHeartbeats 8000000 in
set_option maxRecDepth 100000 in
theorem laws_markNodeS.calls (k : Nat) (P0_ : Nat → Prop) (u9000_ : Value) (l0 : List (S102)) (a1 : Int) (r1 : Int) (r2 : List (S102)) (w0 w : World) (hB : Below w0.heap.size w0 w) (ho0 : Kd.R k102 102 w w0.heap.size P0_ u9000_ l0) (h : laws_markNodeS.f k l0 a1 = some (r1, r2)) :
  Calls Try.prog 37 #[u9000_, .int .i64 a1] w fun e w' => e = .returned (.int .i64 r1) ∧ Kd.R k102 102 w' w0.heap.size (fun k_ => (P0_ k_ ∨ w.heap.size ≤ k_)) u9000_ r2 ∧ Below w0.heap.size w0 w' ∧ Kept w w' (fun k_ => P0_ k_) := by
 have HO0 := ze.mk (show Kd.R k102 102 w w0.heap.size (fun k_ => (P0_ k_ ∨ w.heap.size ≤ k_)) u9000_ l0 from Kd.R_mono ho0 (fun k_ hk => (.inl hk)))
 have HK := ze.mk (Kept.refl w (fun k_ => P0_ k_))
 have HW0 := ze.mk hB.size
 have HB := ze.mk hB
 clear hB
 have H : (laws_markNodeS.l0 k l0 a1 0) = some (r1, r2) := h
 clear h
 have H' := ze.mk H
 clear H
 go_enter Try.func37, Try.ntmps37
 go_wp2
 go_loopg [1, 5] k (fun kq v1 v5 w' => ∃ (x0_1 : List (S102)) (x1_1 : Int) (x5_1 : Int), v1 = .int .i64 x1_1 ∧ v5 = .int .i64 x5_1 ∧ ze (laws_markNodeS.l0 kq x0_1 x1_1 x5_1 = some (r1, r2)) ∧ ze (kq ≤ k) ∧ ze (Kd.R k102 102 w' w0.heap.size (fun k_ => (P0_ k_ ∨ w.heap.size ≤ k_)) u9000_ x0_1) ∧ ze (Kept w w' (fun k_ => P0_ k_)) ∧ ze (Below w0.heap.size w0 w'))
 case atStart => exact ⟨(l0), (a1), (0), (by first | rfl | (simp; done) | (simp [*]; done)), (by first | rfl | (simp; done) | (simp [*]; done)), H', ⟨Nat.le_refl _⟩, ⟨by (with_reducible repeat (first | apply Kd.R_alloc | apply Kd.R_drewN | apply Kd.R_drew)); exact HO0.out⟩, ⟨by repeat (first | (with_reducible first | exact HK.out | apply Kept.alloc | apply Kept.drewN | apply Kept.drew) | exact HK.out)⟩, ⟨by repeat (first | (with_reducible first | exact HB.out | apply zg | apply zc | apply zf) | exact HB.out)⟩⟩
 case round =>
  clear H'
  try clear p2
  obtain ⟨x0_1, x1_1, x5_1, rfl, rfl, HA, HK1, HO_0, HK, HB⟩ := hrel
  cases gk with
  | zero => exact absurd HA.out (by simp [laws_markNodeS.l0])
  | succ k1 =>
   have H := HA.out
   clear HA
   simp only [laws_markNodeS.l0] at H
   by_cases c3 : x5_1 < (x0_1.length : Int)
   ·rw [if_pos c3] at H
    have c3b0 : decide (x5_1 < (x0_1.length : Int)) = true := decide_eq_true c3
    clear c3
    have H' := ze.mk H
    clear H
    obtain ⟨Ao4, co4, eo4⟩ := Kd.R_slice HO_0.out
    subst eo4
    go_wp2
    go_loopg [1, 6] k1 (fun kq v1 v6 w' => ∃ (x0_2 : List (S102)) (x1_2 : Int) (x6_2 : Int), v1 = .int .i64 x1_2 ∧ v6 = .int .i64 x6_2 ∧ ze (laws_markNodeS.l1 kq x0_2 x1_2 x5_1 x6_2 = some (r1, r2)) ∧ ze (kq ≤ k1) ∧ ze (Kd.R k102 102 w' w0.heap.size (fun k_ => (P0_ k_ ∨ w.heap.size ≤ k_)) (.slice Ao4 x0_1.length co4) x0_2) ∧ ze (Kept w w' (fun k_ => P0_ k_)) ∧ ze (Below w0.heap.size w0 w'))
    case atStart => exact ⟨(x0_1), (x1_1), (0), (by first | rfl | (simp; done) | (simp [*]; done)), (by first | rfl | (simp; done) | (simp [*]; done)), H', ⟨Nat.le_refl _⟩, ⟨by (with_reducible repeat (first | apply Kd.R_alloc | apply Kd.R_drewN | apply Kd.R_drew)); exact HO_0.out⟩, ⟨by repeat (first | (with_reducible first | exact HK.out | apply Kept.alloc | apply Kept.drewN | apply Kept.drew) | exact HK.out)⟩, ⟨by repeat (first | (with_reducible first | exact HB.out | apply zg | apply zc | apply zf) | exact HB.out)⟩⟩
    case round =>
     clear H'
     try clear p2
     try clear c3
     try clear c3b0
     try clear p2
     obtain ⟨x0_2, x1_2, x6_2, rfl, rfl, HA, HK2, HO_0, HK, HB⟩ := hrel
     have hl0_2 := (Kd.R_reads' HO_0.out).1
     rw [hl0_2] at HO_0
     (try simp only [hl0_2])
     cases gk with
     | zero => exact absurd HA.out (by simp [laws_markNodeS.l1])
     | succ k2 =>
      have H := HA.out
      clear HA
      simp only [laws_markNodeS.l1] at H
      by_cases c5 : x6_2 < 14
      ·rw [if_pos c5] at H
       have c5b0 : decide (x6_2 < 14) = true := decide_eq_true c5
       clear c5
       by_cases c6 : 0 ≤ x5_1
       ·rw [if_pos c6] at H
        have c6b0 : decide (0 ≤ x5_1) = true := decide_eq_true c6
        clear c6
        by_cases c7 : x5_1 < (x0_2.length : Int)
        ·rw [if_pos c7] at H
         have c7b0 : decide (x5_1 < (x0_2.length : Int)) = true := decide_eq_true c7
         clear c7
         by_cases c9 : 0 ≤ x6_2
         ·rw [if_pos c9] at H
          have c9b0 : decide (0 ≤ x6_2) = true := decide_eq_true c9
          clear c9
          obtain ⟨y435, hy435⟩ : ∃ y_ : List (S102), y_ = (x0_2.set (x5_1 : Int).toNat (⟨(⟨(zv x6_2 0 (IntKind.i8.wrap (x1_2)) ((zh x0_2 x5_1).f0.f0)), (zv x6_2 1 (IntKind.i8.wrap (x1_2)) ((zh x0_2 x5_1).f0.f1)), (zv x6_2 2 (IntKind.i8.wrap (x1_2)) ((zh x0_2 x5_1).f0.f2)), (zv x6_2 3 (IntKind.i8.wrap (x1_2)) ((zh x0_2 x5_1).f0.f3)), (zv x6_2 4 (IntKind.i8.wrap (x1_2)) ((zh x0_2 x5_1).f0.f4)), (zv x6_2 5 (IntKind.i8.wrap (x1_2)) ((zh x0_2 x5_1).f0.f5)), (zv x6_2 6 (IntKind.i8.wrap (x1_2)) ((zh x0_2 x5_1).f0.f6)), (zv x6_2 7 (IntKind.i8.wrap (x1_2)) ((zh x0_2 x5_1).f0.f7)), (zv x6_2 8 (IntKind.i8.wrap (x1_2)) ((zh x0_2 x5_1).f0.f8)), (zv x6_2 9 (IntKind.i8.wrap (x1_2)) ((zh x0_2 x5_1).f0.f9)), (zv x6_2 10 (IntKind.i8.wrap (x1_2)) ((zh x0_2 x5_1).f0.f10)), (zv x6_2 11 (IntKind.i8.wrap (x1_2)) ((zh x0_2 x5_1).f0.f11)), (zv x6_2 12 (IntKind.i8.wrap (x1_2)) ((zh x0_2 x5_1).f0.f12)), (zv x6_2 13 (IntKind.i8.wrap (x1_2)) ((zh x0_2 x5_1).f0.f13))⟩ : S96), (⟨(zh x0_2 x5_1).f1.f0, (zh x0_2 x5_1).f1.f1, (zh x0_2 x5_1).f1.f2⟩ : S100), (⟨(zh x0_2 x5_1).f2.f0, (zh x0_2 x5_1).f2.f1⟩ : S38), (zh x0_2 x5_1).f3⟩ : S102)) := ⟨_, rfl⟩
          replace H : (laws_markNodeS.l1 k2 y435 (wrap64 (x1_2 + 1)) x5_1 (wrap64 (x6_2 + 1))) = some (r1, r2) := by first | (rw [hy435]; with_reducible exact H) | (have H2_ := (Option.bind_some _ _).symm.trans H; rw [hy435]; with_reducible exact H2_) | (have H2_ := (Option.bind_some _ _).symm.trans H; with_reducible exact H2_) | with_reducible exact H | (rw [hy435]; exact H) | exact H
          have Ny435 := ze.mk hy435
          clear hy435
          have H' := ze.mk H
          clear H
          have p8 : 0 ≤ (x5_1 : Int) := od (by first | (with_reducible assumption) | assumption)
          have q8 : (x5_1 : Int) < ((x0_2.length : Int) : Int) := od (by first | (with_reducible assumption) | assumption)
          obtain ⟨go8, co8, eo8, gb8, gl8, cl8, HG8⟩ := Kd.R_form HO_0.out (by omega)
          (first | cases eo8 | (injection eo8 with ea_ en_ ec_; (first | subst ea_ | (injection ea_ with ea_; subst ea_)); subst ec_; clear en_))
          have GB8 := ze.mk gb8
          have GG8 := ze.mk HG8
          clear gb8 gl8 HG8
          have HMgo8 := ze.mk (show (P0_ go8 ∨ w.heap.size ≤ go8) from (HO_0.out.1 _ rfl))
          obtain ⟨ce8, hcl8, hM8, hcc8, hfr8⟩ := Kd.R_elem HO_0.out z102 (x5_1 : Int) p8 q8
          obtain rfl := zqa hM8
          obtain ⟨u1_0, u1_1, u1_2, u1_3, u1_4, u1_5, u1_6, u1_7, u1_8, u1_9, u1_10, u1_11, u1_12, u1_13, u1_14, u1_15, u1_16, u1_17, u1_18, u1_19⟩ := rx20 (g := go8) (b := (x5_1 : Int).toNat * 20) hcc8
          obtain ⟨t1_0, t1_1, t1_2, t1_3, t1_4, t1_5, t1_6, t1_7, t1_8, t1_9, t1_10, t1_11, t1_12, t1_13, t1_14, t1_15, t1_16, t1_17, t1_18, t1_19⟩ := rf20 (g := go8) (b := (x5_1 : Int).toNat * 20) hfr8
          clear hcl8 hcc8 hfr8 hM8
          replace p8 := eq_true p8
          replace q8 := eq_true q8
          have u2_0 : wr.cell? ⟨go8, (x5_1 : Int).toNat * 20 + (x6_2).toNat, none⟩ = some (.int .i8 (rd [(zh x0_2 x5_1).f0.f0, (zh x0_2 x5_1).f0.f1, (zh x0_2 x5_1).f0.f2, (zh x0_2 x5_1).f0.f3, (zh x0_2 x5_1).f0.f4, (zh x0_2 x5_1).f0.f5, (zh x0_2 x5_1).f0.f6, (zh x0_2 x5_1).f0.f7, (zh x0_2 x5_1).f0.f8, (zh x0_2 x5_1).f0.f9, (zh x0_2 x5_1).f0.f10, (zh x0_2 x5_1).f0.f11, (zh x0_2 x5_1).f0.f12, (zh x0_2 x5_1).f0.f13] x6_2)) := by rcases (is14 (j := x6_2) (od (by first | (with_reducible assumption) | assumption)) (od (by first | (with_reducible assumption) | assumption))) with h_ | h_ | h_ | h_ | h_ | h_ | h_ | h_ | h_ | h_ | h_ | h_ | h_ | h_ <;> rw [h_] <;> first | exact u1_0 | exact u1_1 | exact u1_2 | exact u1_3 | exact u1_4 | exact u1_5 | exact u1_6 | exact u1_7 | exact u1_8 | exact u1_9 | exact u1_10 | exact u1_11 | exact u1_12 | exact u1_13
          have t2_0 : wr.frozen? ⟨go8, (x5_1 : Int).toNat * 20 + (x6_2).toNat, none⟩ = false := by rcases (is14 (j := x6_2) (od (by first | (with_reducible assumption) | assumption)) (od (by first | (with_reducible assumption) | assumption))) with h_ | h_ | h_ | h_ | h_ | h_ | h_ | h_ | h_ | h_ | h_ | h_ | h_ | h_ <;> rw [h_] <;> first | exact t1_0 | exact t1_1 | exact t1_2 | exact t1_3 | exact t1_4 | exact t1_5 | exact t1_6 | exact t1_7 | exact t1_8 | exact t1_9 | exact t1_10 | exact t1_11 | exact t1_12 | exact t1_13
          have p10 : 0 ≤ (x6_2 : Int) := od (by first | (with_reducible assumption) | assumption)
          have q10 : x6_2 < (14 : Int) := od (by first | (with_reducible assumption) | assumption)
          replace p10 := eq_true p10
          replace q10 := eq_true q10
          have HX11 := ze.mk (show Kd.R k102 102 wr w0.heap.size (fun k_ => (P0_ k_ ∨ w.heap.size ≤ k_)) (.slice (some ⟨go8, 0, none⟩) x0_2.length co4) x0_2 from (by (with_reducible repeat (first | apply Kd.R_alloc | apply Kd.R_drewN | apply Kd.R_drew)); exact HO_0.out))
          obtain ⟨ce11, hcl11, hM11, hcc11, hfr11⟩ := Kd.R_elem HX11.out z102 (x5_1 : Int) (od (by first | (with_reducible assumption) | assumption)) (by have h_ : (x5_1 : Int) < ((x0_2.length : Int) : Int) := od (by first | (with_reducible assumption) | assumption); first | exact h_ | (have e_ := (Kd.R_reads' HO_0.out).1; omega) | simpa using h_)
          obtain rfl := zqa hM11
          have HP11 := Kd.R_seg HX11.out (x5_1 : Int) (od (by first | (with_reducible assumption) | assumption)) (by have h_ : (x5_1 : Int) < ((x0_2.length : Int) : Int) := od (by first | (with_reducible assumption) | assumption); first | exact h_ | (have e_ := (Kd.R_reads' HO_0.out).1; omega) | simpa using h_) (seg := [.int .i8 (IntKind.i8.wrap (x1_2))]) (j := (x6_2).toNat) hcl11 hcc11 (show (x6_2).toNat + 1 ≤ 20 from by have hp_ : 0 ≤ (x6_2 : Int) := od (by first | (with_reducible assumption) | assumption); have hq_ : x6_2 < (14 : Int) := od (by first | (with_reducible assumption) | assumption); omega) (x' := (⟨(⟨(zv x6_2 0 (IntKind.i8.wrap (x1_2)) ((zh x0_2 x5_1).f0.f0)), (zv x6_2 1 (IntKind.i8.wrap (x1_2)) ((zh x0_2 x5_1).f0.f1)), (zv x6_2 2 (IntKind.i8.wrap (x1_2)) ((zh x0_2 x5_1).f0.f2)), (zv x6_2 3 (IntKind.i8.wrap (x1_2)) ((zh x0_2 x5_1).f0.f3)), (zv x6_2 4 (IntKind.i8.wrap (x1_2)) ((zh x0_2 x5_1).f0.f4)), (zv x6_2 5 (IntKind.i8.wrap (x1_2)) ((zh x0_2 x5_1).f0.f5)), (zv x6_2 6 (IntKind.i8.wrap (x1_2)) ((zh x0_2 x5_1).f0.f6)), (zv x6_2 7 (IntKind.i8.wrap (x1_2)) ((zh x0_2 x5_1).f0.f7)), (zv x6_2 8 (IntKind.i8.wrap (x1_2)) ((zh x0_2 x5_1).f0.f8)), (zv x6_2 9 (IntKind.i8.wrap (x1_2)) ((zh x0_2 x5_1).f0.f9)), (zv x6_2 10 (IntKind.i8.wrap (x1_2)) ((zh x0_2 x5_1).f0.f10)), (zv x6_2 11 (IntKind.i8.wrap (x1_2)) ((zh x0_2 x5_1).f0.f11)), (zv x6_2 12 (IntKind.i8.wrap (x1_2)) ((zh x0_2 x5_1).f0.f12)), (zv x6_2 13 (IntKind.i8.wrap (x1_2)) ((zh x0_2 x5_1).f0.f13))⟩ : S96), (⟨(zh x0_2 x5_1).f1.f0, (zh x0_2 x5_1).f1.f1, (zh x0_2 x5_1).f1.f2⟩ : S100), (⟨(zh x0_2 x5_1).f2.f0, (zh x0_2 x5_1).f2.f1⟩ : S38), (zh x0_2 x5_1).f3⟩ : S102)) (by rcases (is14 (j := x6_2) (od (by first | (with_reducible assumption) | assumption)) (od (by first | (with_reducible assumption) | assumption))) with h_ | h_ | h_ | h_ | h_ | h_ | h_ | h_ | h_ | h_ | h_ | h_ | h_ | h_ <;> rw [h_] <;> exact zza _ _ _ _) (fun _ hk => hk)
          skip
          (try simp only [show (k102).sz = 20 from rfl, Nat.mul_one, Nat.add_zero] at u3_0)
          skip
          (try simp only [show (k102).sz = 20 from rfl, Nat.mul_one, Nat.add_zero] at t3_0)
          clear hcl11 hcc11 hfr11 hM11
          go_wp2_with (first | ((with_reducible refine zja (t := 25) (p := 25) rfl ?_); refine zia (t := 25) (p := 25) (v := ?vo_w12) (w1 := (wr.setCell ⟨go8, (x5_1 : Int).toNat * 20 + (x6_2).toNat, none⟩ (.int .i8 (IntKind.i8.wrap (x1_2))))) ?hg ?ho ?hn ?hr ?_; (case ho => rfl); (case hg => rfl); (case hn => rfl); (case hr => first | (go_simp; done) | (go_simp; rfl)); intro w12 hw; have hg : wr.grownBy w12 (some go8) := (by rw [hw]; exact HP11.2); have hp_ : Kd.R k102 102 w12 w0.heap.size (fun k_ => (P0_ k_ ∨ w.heap.size ≤ k_)) (.slice (some ⟨go8, 0, none⟩) x0_2.length co4) y435 := (by rw [hw, Ny435.out]; exact HP11.1); clear HP11; have n0_ := ze.mk (hp_); have n1_ := ze.mk ((by rw [hw]; exact zi (HB.out) GB8.out : Below w0.heap.size w0 w12)); have n2_ := ze.mk (Kept.of_grown (S := (fun k_ => P0_ k_)) hg (by repeat (first | (with_reducible first | exact HK.out | apply Kept.alloc | apply Kept.drewN | apply Kept.drew) | exact HK.out)) (fun k_ e_ => (HO_0.out.1 k_ e_))); clear HO_0; clear HB; clear HK; have HO_0 := n0_; have HB := n1_; have HK := n2_; clear n0_ n1_ n2_; clear hg hw hp_))
          (try simp only [← hl0_2])
          go_roundg k2
          case measure => have := HK1.out; have := HK2.out; omega
          case rel => exact ⟨(y435), (wrap64 (x1_2 + 1)), (wrap64 (x6_2 + 1)), (by first | rfl | (simp; done) | (simp [*]; done)), (by first | rfl | (simp; done) | (simp [*]; done)), H', ⟨by have := HK1.out; have := HK2.out; omega⟩, ⟨by (try simp only [hl0_2]); (with_reducible repeat (first | apply Kd.R_alloc | apply Kd.R_drewN | apply Kd.R_drew)); exact HO_0.out⟩, ⟨by repeat (first | (with_reducible first | exact HK.out | apply Kept.alloc | apply Kept.drewN | apply Kept.drew) | exact HK.out)⟩, ⟨by repeat (first | (with_reducible first | exact HB.out | apply zg | apply zc | apply zf) | exact HB.out)⟩⟩
         rw [if_neg c9] at H
         exact absurd H (by simp)
        rw [if_neg c7] at H
        exact absurd H (by simp)
       rw [if_neg c6] at H
       exact absurd H (by simp)
      rw [if_neg c5] at H
      have c5b0 : decide (x6_2 < 14) = false := decide_eq_false c5
      clear c5
      have H' := ze.mk H
      clear H
      go_wp2
      go_loopg [1, 7] k2 (fun kq v1 v7 w' => ∃ (x0_3 : List (S102)) (x1_3 : Int) (x7_3 : Int), v1 = .int .i64 x1_3 ∧ v7 = .int .i64 x7_3 ∧ ze (laws_markNodeS.l2 kq x0_3 x1_3 x5_1 x7_3 = some (r1, r2)) ∧ ze (kq ≤ k2) ∧ ze (Kd.R k102 102 w' w0.heap.size (fun k_ => (P0_ k_ ∨ w.heap.size ≤ k_)) (.slice Ao4 x0_2.length co4) x0_3) ∧ ze (Kept w w' (fun k_ => P0_ k_)) ∧ ze (Below w0.heap.size w0 w'))
      case atStart => exact ⟨(x0_2), (x1_2), (0), (by first | rfl | (simp; done) | (simp [*]; done)), (by first | rfl | (simp; done) | (simp [*]; done)), H', ⟨Nat.le_refl _⟩, ⟨by (try simp only [hl0_2]); (with_reducible repeat (first | apply Kd.R_alloc | apply Kd.R_drewN | apply Kd.R_drew)); exact HO_0.out⟩, ⟨by repeat (first | (with_reducible first | exact HK.out | apply Kept.alloc | apply Kept.drewN | apply Kept.drew) | exact HK.out)⟩, ⟨by repeat (first | (with_reducible first | exact HB.out | apply zg | apply zc | apply zf) | exact HB.out)⟩⟩
      case round =>
       clear H'
       try clear c1
       try clear p1
       try clear q1
       try clear hx1
       try clear p2
       try clear c3
       try clear c3b0
       try clear c5
       try clear c5b0
       try clear c6
       try clear c6b0
       try clear p6
       try clear c7
       try clear c7b0
       try clear c8
       try clear p8
       try clear q8
       try clear hx8
       try clear hf8
       try clear c9
       try clear c9b0
       try clear p10
       try clear q10
       try clear hx10
       try clear hf10
       try clear c11
       try clear hx11
       try clear hf11
       try clear u2_0
       try clear u3_0
       try clear u1_0
       try clear u1_1
       try clear u1_10
       try clear u1_11
       try clear u1_12
       try clear u1_13
       try clear u1_14
       try clear u1_15
       try clear u1_16
       try clear u1_17
       try clear u1_18
       try clear u1_19
       try clear u1_2
       try clear u1_3
       try clear u1_4
       try clear u1_5
       try clear u1_6
       try clear u1_7
       try clear u1_8
       try clear u1_9
       try clear p10
       try clear p2
       try clear p8
       try clear q10
       try clear q8
       obtain ⟨x0_3, x1_3, x7_3, rfl, rfl, HA, HK3, HO_0, HK, HB⟩ := hrel
       have hl0_3 := (Kd.R_reads' HO_0.out).1
       rw [hl0_3] at HO_0
       (try simp only [hl0_3])
       cases gk with
       | zero => exact absurd HA.out (by simp [laws_markNodeS.l2])
       | succ k3 =>
        have H := HA.out
        clear HA
        simp only [laws_markNodeS.l2] at H
        by_cases c13 : x7_3 < 3
        ·rw [if_pos c13] at H
         have c13b0 : decide (x7_3 < 3) = true := decide_eq_true c13
         clear c13
         by_cases c14 : 0 ≤ x5_1
         ·rw [if_pos c14] at H
          have c14b0 : decide (0 ≤ x5_1) = true := decide_eq_true c14
          clear c14
          by_cases c15 : x5_1 < (x0_3.length : Int)
          ·rw [if_pos c15] at H
           have c15b0 : decide (x5_1 < (x0_3.length : Int)) = true := decide_eq_true c15
           clear c15
           by_cases c17 : 0 ≤ x7_3
           ·rw [if_pos c17] at H
            have c17b0 : decide (0 ≤ x7_3) = true := decide_eq_true c17
            clear c17
            obtain ⟨y437, hy437⟩ : ∃ y_ : List (S102), y_ = (x0_3.set (x5_1 : Int).toNat (⟨(⟨(zh x0_3 x5_1).f0.f0, (zh x0_3 x5_1).f0.f1, (zh x0_3 x5_1).f0.f2, (zh x0_3 x5_1).f0.f3, (zh x0_3 x5_1).f0.f4, (zh x0_3 x5_1).f0.f5, (zh x0_3 x5_1).f0.f6, (zh x0_3 x5_1).f0.f7, (zh x0_3 x5_1).f0.f8, (zh x0_3 x5_1).f0.f9, (zh x0_3 x5_1).f0.f10, (zh x0_3 x5_1).f0.f11, (zh x0_3 x5_1).f0.f12, (zh x0_3 x5_1).f0.f13⟩ : S96), (⟨(zv x7_3 0 (IntKind.i16.wrap (x1_3)) ((zh x0_3 x5_1).f1.f0)), (zv x7_3 1 (IntKind.i16.wrap (x1_3)) ((zh x0_3 x5_1).f1.f1)), (zv x7_3 2 (IntKind.i16.wrap (x1_3)) ((zh x0_3 x5_1).f1.f2))⟩ : S100), (⟨(zh x0_3 x5_1).f2.f0, (zh x0_3 x5_1).f2.f1⟩ : S38), (zh x0_3 x5_1).f3⟩ : S102)) := ⟨_, rfl⟩
            replace H : (laws_markNodeS.l2 k3 y437 (wrap64 (x1_3 + 1)) x5_1 (wrap64 (x7_3 + 1))) = some (r1, r2) := by first | (rw [hy437]; with_reducible exact H) | (have H2_ := (Option.bind_some _ _).symm.trans H; rw [hy437]; with_reducible exact H2_) | (have H2_ := (Option.bind_some _ _).symm.trans H; with_reducible exact H2_) | with_reducible exact H | (rw [hy437]; exact H) | exact H
            have Ny437 := ze.mk hy437
            clear hy437
            have H' := ze.mk H
            clear H
            have p16 : 0 ≤ (x5_1 : Int) := od (by first | (with_reducible assumption) | assumption)
            have q16 : (x5_1 : Int) < ((x0_3.length : Int) : Int) := od (by first | (with_reducible assumption) | assumption)
            obtain ⟨go16, co16, eo16, gb16, gl16, cl16, HG16⟩ := Kd.R_form HO_0.out (by omega)
            (first | cases eo16 | (injection eo16 with ea_ en_ ec_; (first | subst ea_ | (injection ea_ with ea_; subst ea_)); subst ec_; clear en_))
            have GB16 := ze.mk gb16
            have GG16 := ze.mk HG16
            clear gb16 gl16 HG16
            have HMgo16 := ze.mk (show (P0_ go16 ∨ w.heap.size ≤ go16) from (HO_0.out.1 _ rfl))
            obtain ⟨ce16, hcl16, hM16, hcc16, hfr16⟩ := Kd.R_elem HO_0.out z102 (x5_1 : Int) p16 q16
            obtain rfl := zqa hM16
            obtain ⟨u4_0, u4_1, u4_2, u4_3, u4_4, u4_5, u4_6, u4_7, u4_8, u4_9, u4_10, u4_11, u4_12, u4_13, u4_14, u4_15, u4_16, u4_17, u4_18, u4_19⟩ := rx20 (g := go16) (b := (x5_1 : Int).toNat * 20) hcc16
            obtain ⟨t4_0, t4_1, t4_2, t4_3, t4_4, t4_5, t4_6, t4_7, t4_8, t4_9, t4_10, t4_11, t4_12, t4_13, t4_14, t4_15, t4_16, t4_17, t4_18, t4_19⟩ := rf20 (g := go16) (b := (x5_1 : Int).toNat * 20) hfr16
            clear hcl16 hcc16 hfr16 hM16
            replace p16 := eq_true p16
            replace q16 := eq_true q16
            have u5_0 : wr.cell? ⟨go16, (x5_1 : Int).toNat * 20 + 14 + (x7_3).toNat, none⟩ = some (.int .i16 (rd [(zh x0_3 x5_1).f1.f0, (zh x0_3 x5_1).f1.f1, (zh x0_3 x5_1).f1.f2] x7_3)) := by rcases (show (x7_3 : Int) = 0 ∨ (x7_3 : Int) = 1 ∨ (x7_3 : Int) = 2 by have hp_ : 0 ≤ (x7_3 : Int) := od (by first | (with_reducible assumption) | assumption); have hq_ : x7_3 < (3 : Int) := od (by first | (with_reducible assumption) | assumption); omega) with h_ | h_ | h_ <;> rw [h_] <;> first | exact u4_14 | exact u4_15 | exact u4_16
            have t5_0 : wr.frozen? ⟨go16, (x5_1 : Int).toNat * 20 + 14 + (x7_3).toNat, none⟩ = false := by rcases (show (x7_3 : Int) = 0 ∨ (x7_3 : Int) = 1 ∨ (x7_3 : Int) = 2 by have hp_ : 0 ≤ (x7_3 : Int) := od (by first | (with_reducible assumption) | assumption); have hq_ : x7_3 < (3 : Int) := od (by first | (with_reducible assumption) | assumption); omega) with h_ | h_ | h_ <;> rw [h_] <;> first | exact t4_14 | exact t4_15 | exact t4_16
            have p18 : 0 ≤ (x7_3 : Int) := od (by first | (with_reducible assumption) | assumption)
            have q18 : x7_3 < (3 : Int) := od (by first | (with_reducible assumption) | assumption)
            replace p18 := eq_true p18
            replace q18 := eq_true q18
            have HX19 := ze.mk (show Kd.R k102 102 wr w0.heap.size (fun k_ => (P0_ k_ ∨ w.heap.size ≤ k_)) (.slice (some ⟨go16, 0, none⟩) x0_3.length co4) x0_3 from (by (with_reducible repeat (first | apply Kd.R_alloc | apply Kd.R_drewN | apply Kd.R_drew)); exact HO_0.out))
            obtain ⟨ce19, hcl19, hM19, hcc19, hfr19⟩ := Kd.R_elem HX19.out z102 (x5_1 : Int) (od (by first | (with_reducible assumption) | assumption)) (by have h_ : (x5_1 : Int) < ((x0_3.length : Int) : Int) := od (by first | (with_reducible assumption) | assumption); first | exact h_ | (have e_ := (Kd.R_reads' HO_0.out).1; omega) | simpa using h_)
            obtain rfl := zqa hM19
            have HP19 := Kd.R_seg HX19.out (x5_1 : Int) (od (by first | (with_reducible assumption) | assumption)) (by have h_ : (x5_1 : Int) < ((x0_3.length : Int) : Int) := od (by first | (with_reducible assumption) | assumption); first | exact h_ | (have e_ := (Kd.R_reads' HO_0.out).1; omega) | simpa using h_) (seg := [.int .i16 (IntKind.i16.wrap (x1_3))]) (j := 14 + (x7_3).toNat) hcl19 hcc19 (show 14 + (x7_3).toNat + 1 ≤ 20 from by have hp_ : 0 ≤ (x7_3 : Int) := od (by first | (with_reducible assumption) | assumption); have hq_ : x7_3 < (3 : Int) := od (by first | (with_reducible assumption) | assumption); omega) (x' := (⟨(⟨(zh x0_3 x5_1).f0.f0, (zh x0_3 x5_1).f0.f1, (zh x0_3 x5_1).f0.f2, (zh x0_3 x5_1).f0.f3, (zh x0_3 x5_1).f0.f4, (zh x0_3 x5_1).f0.f5, (zh x0_3 x5_1).f0.f6, (zh x0_3 x5_1).f0.f7, (zh x0_3 x5_1).f0.f8, (zh x0_3 x5_1).f0.f9, (zh x0_3 x5_1).f0.f10, (zh x0_3 x5_1).f0.f11, (zh x0_3 x5_1).f0.f12, (zh x0_3 x5_1).f0.f13⟩ : S96), (⟨(zv x7_3 0 (IntKind.i16.wrap (x1_3)) ((zh x0_3 x5_1).f1.f0)), (zv x7_3 1 (IntKind.i16.wrap (x1_3)) ((zh x0_3 x5_1).f1.f1)), (zv x7_3 2 (IntKind.i16.wrap (x1_3)) ((zh x0_3 x5_1).f1.f2))⟩ : S100), (⟨(zh x0_3 x5_1).f2.f0, (zh x0_3 x5_1).f2.f1⟩ : S38), (zh x0_3 x5_1).f3⟩ : S102)) (by rcases (show (x7_3 : Int) = 0 ∨ (x7_3 : Int) = 1 ∨ (x7_3 : Int) = 2 by have hp_ : 0 ≤ (x7_3 : Int) := od (by first | (with_reducible assumption) | assumption); have hq_ : x7_3 < (3 : Int) := od (by first | (with_reducible assumption) | assumption); omega) with h_ | h_ | h_ <;> rw [h_] <;> exact zza _ _ _ _) (fun _ hk => hk); (try simp only [← Nat.add_assoc] at HP19)
            skip
            (try simp only [show (k102).sz = 20 from rfl, Nat.mul_one, Nat.add_zero] at u6_14)
            skip
            (try simp only [show (k102).sz = 20 from rfl, Nat.mul_one, Nat.add_zero] at t6_14)
            clear hcl19 hcc19 hfr19 hM19
            go_wp2_with (first | ((with_reducible refine zja (t := 99) (p := 39) rfl ?_); refine zia (t := 99) (p := 39) (v := ?vo_w20) (w1 := (wr.setCell ⟨go16, (x5_1 : Int).toNat * 20 + 14 + (x7_3).toNat, none⟩ (.int .i16 (IntKind.i16.wrap (x1_3))))) ?hg ?ho ?hn ?hr ?_; (case ho => rfl); (case hg => rfl); (case hn => rfl); (case hr => first | (go_simp; done) | (go_simp; rfl)); intro w20 hw; have hg : wr.grownBy w20 (some go16) := (by rw [hw]; exact HP19.2); have hp_ : Kd.R k102 102 w20 w0.heap.size (fun k_ => (P0_ k_ ∨ w.heap.size ≤ k_)) (.slice (some ⟨go16, 0, none⟩) x0_3.length co4) y437 := (by rw [hw, Ny437.out]; exact HP19.1); clear HP19; have n0_ := ze.mk (hp_); have n1_ := ze.mk ((by rw [hw]; exact zi (HB.out) GB16.out : Below w0.heap.size w0 w20)); have n2_ := ze.mk (Kept.of_grown (S := (fun k_ => P0_ k_)) hg (by repeat (first | (with_reducible first | exact HK.out | apply Kept.alloc | apply Kept.drewN | apply Kept.drew) | exact HK.out)) (fun k_ e_ => (HO_0.out.1 k_ e_))); clear HO_0; clear HB; clear HK; have HO_0 := n0_; have HB := n1_; have HK := n2_; clear n0_ n1_ n2_; clear hg hw hp_))
            (try simp only [← hl0_3])
            go_roundg k3
            case measure => have := HK1.out; have := HK2.out; have := HK3.out; omega
            case rel => exact ⟨(y437), (wrap64 (x1_3 + 1)), (wrap64 (x7_3 + 1)), (by first | rfl | (simp; done) | (simp [*]; done)), (by first | rfl | (simp; done) | (simp [*]; done)), H', ⟨by have := HK1.out; have := HK2.out; have := HK3.out; omega⟩, ⟨by (try simp only [hl0_2]); (try simp only [hl0_3]); (with_reducible repeat (first | apply Kd.R_alloc | apply Kd.R_drewN | apply Kd.R_drew)); exact HO_0.out⟩, ⟨by repeat (first | (with_reducible first | exact HK.out | apply Kept.alloc | apply Kept.drewN | apply Kept.drew) | exact HK.out)⟩, ⟨by repeat (first | (with_reducible first | exact HB.out | apply zg | apply zc | apply zf) | exact HB.out)⟩⟩
           rw [if_neg c17] at H
           exact absurd H (by simp)
          rw [if_neg c15] at H
          exact absurd H (by simp)
         rw [if_neg c14] at H
         exact absurd H (by simp)
        rw [if_neg c13] at H
        have c13b0 : decide (x7_3 < 3) = false := decide_eq_false c13
        clear c13
        by_cases c21 : 0 ≤ x5_1
        ·rw [if_pos c21] at H
         have c21b0 : decide (0 ≤ x5_1) = true := decide_eq_true c21
         clear c21
         by_cases c22 : x5_1 < (x0_3.length : Int)
         ·rw [if_pos c22] at H
          have c22b0 : decide (x5_1 < (x0_3.length : Int)) = true := decide_eq_true c22
          clear c22
          obtain ⟨y438, hy438⟩ : ∃ y_ : List (S102), y_ = (x0_3.set (x5_1 : Int).toNat (⟨(⟨(zh x0_3 x5_1).f0.f0, (zh x0_3 x5_1).f0.f1, (zh x0_3 x5_1).f0.f2, (zh x0_3 x5_1).f0.f3, (zh x0_3 x5_1).f0.f4, (zh x0_3 x5_1).f0.f5, (zh x0_3 x5_1).f0.f6, (zh x0_3 x5_1).f0.f7, (zh x0_3 x5_1).f0.f8, (zh x0_3 x5_1).f0.f9, (zh x0_3 x5_1).f0.f10, (zh x0_3 x5_1).f0.f11, (zh x0_3 x5_1).f0.f12, (zh x0_3 x5_1).f0.f13⟩ : S96), (⟨(zh x0_3 x5_1).f1.f0, (zh x0_3 x5_1).f1.f1, (zh x0_3 x5_1).f1.f2⟩ : S100), (⟨IntKind.i8.wrap (x1_3), (zh x0_3 x5_1).f2.f1⟩ : S38), (zh x0_3 x5_1).f3⟩ : S102)) := ⟨_, rfl⟩
          replace H : ((some (y438.set (x5_1 : Int).toNat (⟨(⟨(zh y438 x5_1).f0.f0, (zh y438 x5_1).f0.f1, (zh y438 x5_1).f0.f2, (zh y438 x5_1).f0.f3, (zh y438 x5_1).f0.f4, (zh y438 x5_1).f0.f5, (zh y438 x5_1).f0.f6, (zh y438 x5_1).f0.f7, (zh y438 x5_1).f0.f8, (zh y438 x5_1).f0.f9, (zh y438 x5_1).f0.f10, (zh y438 x5_1).f0.f11, (zh y438 x5_1).f0.f12, (zh y438 x5_1).f0.f13⟩ : S96), (⟨(zh y438 x5_1).f1.f0, (zh y438 x5_1).f1.f1, (zh y438 x5_1).f1.f2⟩ : S100), (⟨(zh y438 x5_1).f2.f0, ((Int.tmod (wrap64 (x1_3 + 1)) 3) == 0)⟩ : S38), (zh y438 x5_1).f3⟩ : S102) : List (S102))).bind fun y439 => (laws_markNodeS.l0 k3 (y439.set (x5_1 : Int).toNat (⟨(⟨(zh y439 x5_1).f0.f0, (zh y439 x5_1).f0.f1, (zh y439 x5_1).f0.f2, (zh y439 x5_1).f0.f3, (zh y439 x5_1).f0.f4, (zh y439 x5_1).f0.f5, (zh y439 x5_1).f0.f6, (zh y439 x5_1).f0.f7, (zh y439 x5_1).f0.f8, (zh y439 x5_1).f0.f9, (zh y439 x5_1).f0.f10, (zh y439 x5_1).f0.f11, (zh y439 x5_1).f0.f12, (zh y439 x5_1).f0.f13⟩ : S96), (⟨(zh y439 x5_1).f1.f0, (zh y439 x5_1).f1.f1, (zh y439 x5_1).f1.f2⟩ : S100), (⟨(zh y439 x5_1).f2.f0, (zh y439 x5_1).f2.f1⟩ : S38), ((Int.tmod (wrap64 ((wrap64 (x1_3 + 1)) + 1)) 3) == 0)⟩ : S102)) (wrap64 ((wrap64 ((wrap64 (x1_3 + 1)) + 1)) + 1)) (wrap64 (x5_1 + 1)))) = some (r1, r2) := by first | (rw [hy438]; with_reducible exact H) | (have H2_ := (Option.bind_some _ _).symm.trans H; rw [hy438]; with_reducible exact H2_) | (have H2_ := (Option.bind_some _ _).symm.trans H; with_reducible exact H2_) | with_reducible exact H | (rw [hy438]; exact H) | exact H
          have Ny438 := ze.mk hy438
          clear hy438
          obtain ⟨y439, hy439⟩ : ∃ y_ : List (S102), y_ = (y438.set (x5_1 : Int).toNat (⟨(⟨(zh y438 x5_1).f0.f0, (zh y438 x5_1).f0.f1, (zh y438 x5_1).f0.f2, (zh y438 x5_1).f0.f3, (zh y438 x5_1).f0.f4, (zh y438 x5_1).f0.f5, (zh y438 x5_1).f0.f6, (zh y438 x5_1).f0.f7, (zh y438 x5_1).f0.f8, (zh y438 x5_1).f0.f9, (zh y438 x5_1).f0.f10, (zh y438 x5_1).f0.f11, (zh y438 x5_1).f0.f12, (zh y438 x5_1).f0.f13⟩ : S96), (⟨(zh y438 x5_1).f1.f0, (zh y438 x5_1).f1.f1, (zh y438 x5_1).f1.f2⟩ : S100), (⟨(zh y438 x5_1).f2.f0, ((Int.tmod (wrap64 (x1_3 + 1)) 3) == 0)⟩ : S38), (zh y438 x5_1).f3⟩ : S102)) := ⟨_, rfl⟩
          replace H : (laws_markNodeS.l0 k3 (y439.set (x5_1 : Int).toNat (⟨(⟨(zh y439 x5_1).f0.f0, (zh y439 x5_1).f0.f1, (zh y439 x5_1).f0.f2, (zh y439 x5_1).f0.f3, (zh y439 x5_1).f0.f4, (zh y439 x5_1).f0.f5, (zh y439 x5_1).f0.f6, (zh y439 x5_1).f0.f7, (zh y439 x5_1).f0.f8, (zh y439 x5_1).f0.f9, (zh y439 x5_1).f0.f10, (zh y439 x5_1).f0.f11, (zh y439 x5_1).f0.f12, (zh y439 x5_1).f0.f13⟩ : S96), (⟨(zh y439 x5_1).f1.f0, (zh y439 x5_1).f1.f1, (zh y439 x5_1).f1.f2⟩ : S100), (⟨(zh y439 x5_1).f2.f0, (zh y439 x5_1).f2.f1⟩ : S38), ((Int.tmod (wrap64 ((wrap64 (x1_3 + 1)) + 1)) 3) == 0)⟩ : S102)) (wrap64 ((wrap64 ((wrap64 (x1_3 + 1)) + 1)) + 1)) (wrap64 (x5_1 + 1))) = some (r1, r2) := by first | (rw [hy439]; with_reducible exact H) | (have H2_ := (Option.bind_some _ _).symm.trans H; rw [hy439]; with_reducible exact H2_) | (have H2_ := (Option.bind_some _ _).symm.trans H; with_reducible exact H2_) | with_reducible exact H | (rw [hy439]; exact H) | exact H
          have Ny439 := ze.mk hy439
          clear hy439
          obtain ⟨y440, hy440⟩ : ∃ y_ : List (S102), y_ = (y439.set (x5_1 : Int).toNat (⟨(⟨(zh y439 x5_1).f0.f0, (zh y439 x5_1).f0.f1, (zh y439 x5_1).f0.f2, (zh y439 x5_1).f0.f3, (zh y439 x5_1).f0.f4, (zh y439 x5_1).f0.f5, (zh y439 x5_1).f0.f6, (zh y439 x5_1).f0.f7, (zh y439 x5_1).f0.f8, (zh y439 x5_1).f0.f9, (zh y439 x5_1).f0.f10, (zh y439 x5_1).f0.f11, (zh y439 x5_1).f0.f12, (zh y439 x5_1).f0.f13⟩ : S96), (⟨(zh y439 x5_1).f1.f0, (zh y439 x5_1).f1.f1, (zh y439 x5_1).f1.f2⟩ : S100), (⟨(zh y439 x5_1).f2.f0, (zh y439 x5_1).f2.f1⟩ : S38), ((Int.tmod (wrap64 ((wrap64 (x1_3 + 1)) + 1)) 3) == 0)⟩ : S102)) := ⟨_, rfl⟩
          replace H : (laws_markNodeS.l0 k3 y440 (wrap64 ((wrap64 ((wrap64 (x1_3 + 1)) + 1)) + 1)) (wrap64 (x5_1 + 1))) = some (r1, r2) := by first | (rw [hy440]; with_reducible exact H) | (have H2_ := (Option.bind_some _ _).symm.trans H; rw [hy440]; with_reducible exact H2_) | (have H2_ := (Option.bind_some _ _).symm.trans H; with_reducible exact H2_) | with_reducible exact H | (rw [hy440]; exact H) | exact H
          have Ny440 := ze.mk hy440
          clear hy440
          have H' := ze.mk H
          clear H
          have p23 : 0 ≤ (x5_1 : Int) := od (by first | (with_reducible assumption) | assumption)
          have q23 : (x5_1 : Int) < ((x0_3.length : Int) : Int) := od (by first | (with_reducible assumption) | assumption)
          obtain ⟨go23, co23, eo23, gb23, gl23, cl23, HG23⟩ := Kd.R_form HO_0.out (by omega)
          (first | cases eo23 | (injection eo23 with ea_ en_ ec_; (first | subst ea_ | (injection ea_ with ea_; subst ea_)); subst ec_; clear en_))
          have GB23 := ze.mk gb23
          have GG23 := ze.mk HG23
          clear gb23 gl23 HG23
          have HMgo23 := ze.mk (show (P0_ go23 ∨ w.heap.size ≤ go23) from (HO_0.out.1 _ rfl))
          obtain ⟨ce23, hcl23, hM23, hcc23, hfr23⟩ := Kd.R_elem HO_0.out z102 (x5_1 : Int) p23 q23
          obtain rfl := zqa hM23
          obtain ⟨u7_0, u7_1, u7_2, u7_3, u7_4, u7_5, u7_6, u7_7, u7_8, u7_9, u7_10, u7_11, u7_12, u7_13, u7_14, u7_15, u7_16, u7_17, u7_18, u7_19⟩ := rx20 (g := go23) (b := (x5_1 : Int).toNat * 20) hcc23
          obtain ⟨t7_0, t7_1, t7_2, t7_3, t7_4, t7_5, t7_6, t7_7, t7_8, t7_9, t7_10, t7_11, t7_12, t7_13, t7_14, t7_15, t7_16, t7_17, t7_18, t7_19⟩ := rf20 (g := go23) (b := (x5_1 : Int).toNat * 20) hfr23
          clear hcl23 hcc23 hfr23 hM23
          replace p23 := eq_true p23
          replace q23 := eq_true q23
          have HX26 := ze.mk (show Kd.R k102 102 wr w0.heap.size (fun k_ => (P0_ k_ ∨ w.heap.size ≤ k_)) (.slice (some ⟨go23, 0, none⟩) x0_3.length co4) x0_3 from (by (with_reducible repeat (first | apply Kd.R_alloc | apply Kd.R_drewN | apply Kd.R_drew)); exact HO_0.out))
          obtain ⟨ce26, hcl26, hM26, hcc26, hfr26⟩ := Kd.R_elem HX26.out z102 (x5_1 : Int) (od (by first | (with_reducible assumption) | assumption)) (by have h_ : (x5_1 : Int) < ((x0_3.length : Int) : Int) := od (by first | (with_reducible assumption) | assumption); first | exact h_ | (have e_ := (Kd.R_reads' HO_0.out).1; omega) | simpa using h_)
          obtain rfl := zqa hM26
          have HP26 := Kd.R_seg HX26.out (x5_1 : Int) (od (by first | (with_reducible assumption) | assumption)) (by have h_ : (x5_1 : Int) < ((x0_3.length : Int) : Int) := od (by first | (with_reducible assumption) | assumption); first | exact h_ | (have e_ := (Kd.R_reads' HO_0.out).1; omega) | simpa using h_) (seg := [.int .i8 (IntKind.i8.wrap (x1_3))]) (j := 17) hcl26 hcc26 (show 18 ≤ 20 from by decide) (x' := (⟨(⟨(zh x0_3 x5_1).f0.f0, (zh x0_3 x5_1).f0.f1, (zh x0_3 x5_1).f0.f2, (zh x0_3 x5_1).f0.f3, (zh x0_3 x5_1).f0.f4, (zh x0_3 x5_1).f0.f5, (zh x0_3 x5_1).f0.f6, (zh x0_3 x5_1).f0.f7, (zh x0_3 x5_1).f0.f8, (zh x0_3 x5_1).f0.f9, (zh x0_3 x5_1).f0.f10, (zh x0_3 x5_1).f0.f11, (zh x0_3 x5_1).f0.f12, (zh x0_3 x5_1).f0.f13⟩ : S96), (⟨(zh x0_3 x5_1).f1.f0, (zh x0_3 x5_1).f1.f1, (zh x0_3 x5_1).f1.f2⟩ : S100), (⟨IntKind.i8.wrap (x1_3), (zh x0_3 x5_1).f2.f1⟩ : S38), (zh x0_3 x5_1).f3⟩ : S102)) (zza _ _ _ (⟨(⟨(zh x0_3 x5_1).f0.f0, (zh x0_3 x5_1).f0.f1, (zh x0_3 x5_1).f0.f2, (zh x0_3 x5_1).f0.f3, (zh x0_3 x5_1).f0.f4, (zh x0_3 x5_1).f0.f5, (zh x0_3 x5_1).f0.f6, (zh x0_3 x5_1).f0.f7, (zh x0_3 x5_1).f0.f8, (zh x0_3 x5_1).f0.f9, (zh x0_3 x5_1).f0.f10, (zh x0_3 x5_1).f0.f11, (zh x0_3 x5_1).f0.f12, (zh x0_3 x5_1).f0.f13⟩ : S96), (⟨(zh x0_3 x5_1).f1.f0, (zh x0_3 x5_1).f1.f1, (zh x0_3 x5_1).f1.f2⟩ : S100), (⟨IntKind.i8.wrap (x1_3), (zh x0_3 x5_1).f2.f1⟩ : S38), (zh x0_3 x5_1).f3⟩ : S102) ) (fun _ hk => hk)
          have u8_17 := hcc26 17 _ rfl
          (try simp only [show (k102).sz = 20 from rfl, Nat.mul_one, Nat.add_zero] at u8_17)
          have t8_17 := hfr26 17
          (try simp only [show (k102).sz = 20 from rfl, Nat.mul_one, Nat.add_zero] at t8_17)
          clear hcl26 hcc26 hfr26 hM26
          go_wp2_with (first | ((with_reducible refine zja (t := 25) (p := 48) rfl ?_); refine zia (t := 25) (p := 48) (v := ?vo_w27) (w1 := (wr.setCell ⟨go23, (x5_1 : Int).toNat * 20 + 17, none⟩ (.int .i8 (IntKind.i8.wrap (x1_3))))) ?hg ?ho ?hn ?hr ?_; (case ho => rfl); (case hg => rfl); (case hn => rfl); (case hr => first | (go_simp; done) | (go_simp; rfl)); intro w27 hw; have hg : wr.grownBy w27 (some go23) := (by rw [hw]; exact HP26.2); have hp_ : Kd.R k102 102 w27 w0.heap.size (fun k_ => (P0_ k_ ∨ w.heap.size ≤ k_)) (.slice (some ⟨go23, 0, none⟩) x0_3.length co4) y438 := (by rw [hw, Ny438.out]; exact HP26.1); clear HP26; have n0_ := ze.mk (hp_); have n1_ := ze.mk ((by rw [hw]; exact zi (HB.out) GB23.out : Below w0.heap.size w0 w27)); have n2_ := ze.mk (Kept.of_grown (S := (fun k_ => P0_ k_)) hg (by repeat (first | (with_reducible first | exact HK.out | apply Kept.alloc | apply Kept.drewN | apply Kept.drew) | exact HK.out)) (fun k_ e_ => (HO_0.out.1 k_ e_))); clear HO_0; clear HB; clear HK; have HO_0 := n0_; have HB := n1_; have HK := n2_; clear n0_ n1_ n2_; clear hg hw hp_; have p24 : 0 ≤ (x5_1 : Int) := od (by first | (with_reducible assumption) | assumption); have q24 : (x5_1 : Int) < ((x0_3.length : Int) : Int) := od (by first | (with_reducible assumption) | assumption); obtain ⟨ce24, hcl24, hM24, hcc24, hfr24⟩ := Kd.R_elem HO_0.out z102 (x5_1 : Int) p24 q24; obtain rfl := zqa hM24; have u9_0 : w27.cell? ⟨go23, (x5_1 : Int).toNat * 20, none⟩ = some (.int .i8 ((zh y438 x5_1).f0.f0)) := hcc24 0 _ rfl; have u9_1 : w27.cell? ⟨go23, (x5_1 : Int).toNat * 20 + 1, none⟩ = some (.int .i8 ((zh y438 x5_1).f0.f1)) := hcc24 1 _ rfl; have u9_2 : w27.cell? ⟨go23, (x5_1 : Int).toNat * 20 + 2, none⟩ = some (.int .i8 ((zh y438 x5_1).f0.f2)) := hcc24 2 _ rfl; have u9_3 : w27.cell? ⟨go23, (x5_1 : Int).toNat * 20 + 3, none⟩ = some (.int .i8 ((zh y438 x5_1).f0.f3)) := hcc24 3 _ rfl; have u9_4 : w27.cell? ⟨go23, (x5_1 : Int).toNat * 20 + 4, none⟩ = some (.int .i8 ((zh y438 x5_1).f0.f4)) := hcc24 4 _ rfl; have u9_5 : w27.cell? ⟨go23, (x5_1 : Int).toNat * 20 + 5, none⟩ = some (.int .i8 ((zh y438 x5_1).f0.f5)) := hcc24 5 _ rfl; have u9_6 : w27.cell? ⟨go23, (x5_1 : Int).toNat * 20 + 6, none⟩ = some (.int .i8 ((zh y438 x5_1).f0.f6)) := hcc24 6 _ rfl; have u9_7 : w27.cell? ⟨go23, (x5_1 : Int).toNat * 20 + 7, none⟩ = some (.int .i8 ((zh y438 x5_1).f0.f7)) := hcc24 7 _ rfl; have u9_8 : w27.cell? ⟨go23, (x5_1 : Int).toNat * 20 + 8, none⟩ = some (.int .i8 ((zh y438 x5_1).f0.f8)) := hcc24 8 _ rfl; have u9_9 : w27.cell? ⟨go23, (x5_1 : Int).toNat * 20 + 9, none⟩ = some (.int .i8 ((zh y438 x5_1).f0.f9)) := hcc24 9 _ rfl; have u9_10 : w27.cell? ⟨go23, (x5_1 : Int).toNat * 20 + 10, none⟩ = some (.int .i8 ((zh y438 x5_1).f0.f10)) := hcc24 10 _ rfl; have u9_11 : w27.cell? ⟨go23, (x5_1 : Int).toNat * 20 + 11, none⟩ = some (.int .i8 ((zh y438 x5_1).f0.f11)) := hcc24 11 _ rfl; have u9_12 : w27.cell? ⟨go23, (x5_1 : Int).toNat * 20 + 12, none⟩ = some (.int .i8 ((zh y438 x5_1).f0.f12)) := hcc24 12 _ rfl; have u9_13 : w27.cell? ⟨go23, (x5_1 : Int).toNat * 20 + 13, none⟩ = some (.int .i8 ((zh y438 x5_1).f0.f13)) := hcc24 13 _ rfl; have u9_14 : w27.cell? ⟨go23, (x5_1 : Int).toNat * 20 + 14, none⟩ = some (.int .i16 ((zh y438 x5_1).f1.f0)) := hcc24 14 _ rfl; have u9_15 : w27.cell? ⟨go23, (x5_1 : Int).toNat * 20 + 15, none⟩ = some (.int .i16 ((zh y438 x5_1).f1.f1)) := hcc24 15 _ rfl; have u9_16 : w27.cell? ⟨go23, (x5_1 : Int).toNat * 20 + 16, none⟩ = some (.int .i16 ((zh y438 x5_1).f1.f2)) := hcc24 16 _ rfl; have u9_17 : w27.cell? ⟨go23, (x5_1 : Int).toNat * 20 + 17, none⟩ = some (.int .i8 ((zh y438 x5_1).f2.f0)) := hcc24 17 _ rfl; have u9_18 : w27.cell? ⟨go23, (x5_1 : Int).toNat * 20 + 18, none⟩ = some (.bool ((zh y438 x5_1).f2.f1)) := hcc24 18 _ rfl; have u9_19 : w27.cell? ⟨go23, (x5_1 : Int).toNat * 20 + 19, none⟩ = some (.bool ((zh y438 x5_1).f3)) := hcc24 19 _ rfl; have t9_0 : w27.frozen? ⟨go23, (x5_1 : Int).toNat * 20, none⟩ = false := hfr24 0; have t9_1 : w27.frozen? ⟨go23, (x5_1 : Int).toNat * 20 + 1, none⟩ = false := hfr24 1; have t9_2 : w27.frozen? ⟨go23, (x5_1 : Int).toNat * 20 + 2, none⟩ = false := hfr24 2; have t9_3 : w27.frozen? ⟨go23, (x5_1 : Int).toNat * 20 + 3, none⟩ = false := hfr24 3; have t9_4 : w27.frozen? ⟨go23, (x5_1 : Int).toNat * 20 + 4, none⟩ = false := hfr24 4; have t9_5 : w27.frozen? ⟨go23, (x5_1 : Int).toNat * 20 + 5, none⟩ = false := hfr24 5; have t9_6 : w27.frozen? ⟨go23, (x5_1 : Int).toNat * 20 + 6, none⟩ = false := hfr24 6; have t9_7 : w27.frozen? ⟨go23, (x5_1 : Int).toNat * 20 + 7, none⟩ = false := hfr24 7; have t9_8 : w27.frozen? ⟨go23, (x5_1 : Int).toNat * 20 + 8, none⟩ = false := hfr24 8; have t9_9 : w27.frozen? ⟨go23, (x5_1 : Int).toNat * 20 + 9, none⟩ = false := hfr24 9; have t9_10 : w27.frozen? ⟨go23, (x5_1 : Int).toNat * 20 + 10, none⟩ = false := hfr24 10; have t9_11 : w27.frozen? ⟨go23, (x5_1 : Int).toNat * 20 + 11, none⟩ = false := hfr24 11; have t9_12 : w27.frozen? ⟨go23, (x5_1 : Int).toNat * 20 + 12, none⟩ = false := hfr24 12; have t9_13 : w27.frozen? ⟨go23, (x5_1 : Int).toNat * 20 + 13, none⟩ = false := hfr24 13; have t9_14 : w27.frozen? ⟨go23, (x5_1 : Int).toNat * 20 + 14, none⟩ = false := hfr24 14; have t9_15 : w27.frozen? ⟨go23, (x5_1 : Int).toNat * 20 + 15, none⟩ = false := hfr24 15; have t9_16 : w27.frozen? ⟨go23, (x5_1 : Int).toNat * 20 + 16, none⟩ = false := hfr24 16; have t9_17 : w27.frozen? ⟨go23, (x5_1 : Int).toNat * 20 + 17, none⟩ = false := hfr24 17; have t9_18 : w27.frozen? ⟨go23, (x5_1 : Int).toNat * 20 + 18, none⟩ = false := hfr24 18; have t9_19 : w27.frozen? ⟨go23, (x5_1 : Int).toNat * 20 + 19, none⟩ = false := hfr24 19; clear hcl24 hcc24 hfr24 hM24; replace p24 := eq_true p24; replace q24 := eq_true q24; have HX28 := ze.mk (show Kd.R k102 102 w27 w0.heap.size (fun k_ => (P0_ k_ ∨ w.heap.size ≤ k_)) (.slice (some ⟨go23, 0, none⟩) x0_3.length co4) y438 from (by (with_reducible repeat (first | apply Kd.R_alloc | apply Kd.R_drewN | apply Kd.R_drew)); exact HO_0.out)); obtain ⟨ce28, hcl28, hM28, hcc28, hfr28⟩ := Kd.R_elem HX28.out z102 (x5_1 : Int) (od (by first | (with_reducible assumption) | assumption)) (by have h_ : (x5_1 : Int) < ((x0_3.length : Int) : Int) := od (by first | (with_reducible assumption) | assumption); first | exact h_ | (have e_ := (Kd.R_reads' HO_0.out).1; omega) | simpa using h_); obtain rfl := zqa hM28; have HP28 := Kd.R_seg HX28.out (x5_1 : Int) (od (by first | (with_reducible assumption) | assumption)) (by have h_ : (x5_1 : Int) < ((x0_3.length : Int) : Int) := od (by first | (with_reducible assumption) | assumption); first | exact h_ | (have e_ := (Kd.R_reads' HO_0.out).1; omega) | simpa using h_) (seg := [.bool ((Int.tmod (wrap64 (x1_3 + 1)) 3) == 0)]) (j := 18) hcl28 hcc28 (show 19 ≤ 20 from by decide) (x' := (⟨(⟨(zh y438 x5_1).f0.f0, (zh y438 x5_1).f0.f1, (zh y438 x5_1).f0.f2, (zh y438 x5_1).f0.f3, (zh y438 x5_1).f0.f4, (zh y438 x5_1).f0.f5, (zh y438 x5_1).f0.f6, (zh y438 x5_1).f0.f7, (zh y438 x5_1).f0.f8, (zh y438 x5_1).f0.f9, (zh y438 x5_1).f0.f10, (zh y438 x5_1).f0.f11, (zh y438 x5_1).f0.f12, (zh y438 x5_1).f0.f13⟩ : S96), (⟨(zh y438 x5_1).f1.f0, (zh y438 x5_1).f1.f1, (zh y438 x5_1).f1.f2⟩ : S100), (⟨(zh y438 x5_1).f2.f0, ((Int.tmod (wrap64 (x1_3 + 1)) 3) == 0)⟩ : S38), (zh y438 x5_1).f3⟩ : S102)) (zza _ _ _ (⟨(⟨(zh y438 x5_1).f0.f0, (zh y438 x5_1).f0.f1, (zh y438 x5_1).f0.f2, (zh y438 x5_1).f0.f3, (zh y438 x5_1).f0.f4, (zh y438 x5_1).f0.f5, (zh y438 x5_1).f0.f6, (zh y438 x5_1).f0.f7, (zh y438 x5_1).f0.f8, (zh y438 x5_1).f0.f9, (zh y438 x5_1).f0.f10, (zh y438 x5_1).f0.f11, (zh y438 x5_1).f0.f12, (zh y438 x5_1).f0.f13⟩ : S96), (⟨(zh y438 x5_1).f1.f0, (zh y438 x5_1).f1.f1, (zh y438 x5_1).f1.f2⟩ : S100), (⟨(zh y438 x5_1).f2.f0, ((Int.tmod (wrap64 (x1_3 + 1)) 3) == 0)⟩ : S38), (zh y438 x5_1).f3⟩ : S102) ) (fun _ hk => hk); have u10_18 := hcc28 18 _ rfl; (try simp only [show (k102).sz = 20 from rfl, Nat.mul_one, Nat.add_zero] at u10_18); have t10_18 := hfr28 18; (try simp only [show (k102).sz = 20 from rfl, Nat.mul_one, Nat.add_zero] at t10_18); clear hcl28 hcc28 hfr28 hM28) | ((with_reducible refine zja (t := 4) (p := 58) rfl ?_); refine zia (t := 4) (p := 58) (v := ?vo_w29) (w1 := (w27.setCell ⟨go23, (x5_1 : Int).toNat * 20 + 18, none⟩ (.bool ((Int.tmod (wrap64 (x1_3 + 1)) 3) == 0)))) ?hg ?ho ?hn ?hr ?_; (case ho => rfl); (case hg => rfl); (case hn => rfl); (case hr => first | (go_simp; done) | (go_simp; rfl)); intro w29 hw; have hg : w27.grownBy w29 (some go23) := (by rw [hw]; exact HP28.2); have hp_ : Kd.R k102 102 w29 w0.heap.size (fun k_ => (P0_ k_ ∨ w.heap.size ≤ k_)) (.slice (some ⟨go23, 0, none⟩) x0_3.length co4) y439 := (by rw [hw, Ny439.out]; exact HP28.1); clear HP28; have n0_ := ze.mk (hp_); have n1_ := ze.mk ((by rw [hw]; exact zi (HB.out) GB23.out : Below w0.heap.size w0 w29)); have n2_ := ze.mk (Kept.of_grown (S := (fun k_ => P0_ k_)) hg (by repeat (first | (with_reducible first | exact HK.out | apply Kept.alloc | apply Kept.drewN | apply Kept.drew) | exact HK.out)) (fun k_ e_ => (HO_0.out.1 k_ e_))); clear HO_0; clear HB; clear HK; have HO_0 := n0_; have HB := n1_; have HK := n2_; clear n0_ n1_ n2_; clear hg hw hp_; have p25 : 0 ≤ (x5_1 : Int) := od (by first | (with_reducible assumption) | assumption); have q25 : (x5_1 : Int) < ((x0_3.length : Int) : Int) := od (by first | (with_reducible assumption) | assumption); obtain ⟨ce25, hcl25, hM25, hcc25, hfr25⟩ := Kd.R_elem HO_0.out z102 (x5_1 : Int) p25 q25; obtain rfl := zqa hM25; have u11_0 : w29.cell? ⟨go23, (x5_1 : Int).toNat * 20, none⟩ = some (.int .i8 ((zh y439 x5_1).f0.f0)) := hcc25 0 _ rfl; have u11_1 : w29.cell? ⟨go23, (x5_1 : Int).toNat * 20 + 1, none⟩ = some (.int .i8 ((zh y439 x5_1).f0.f1)) := hcc25 1 _ rfl; have u11_2 : w29.cell? ⟨go23, (x5_1 : Int).toNat * 20 + 2, none⟩ = some (.int .i8 ((zh y439 x5_1).f0.f2)) := hcc25 2 _ rfl; have u11_3 : w29.cell? ⟨go23, (x5_1 : Int).toNat * 20 + 3, none⟩ = some (.int .i8 ((zh y439 x5_1).f0.f3)) := hcc25 3 _ rfl; have u11_4 : w29.cell? ⟨go23, (x5_1 : Int).toNat * 20 + 4, none⟩ = some (.int .i8 ((zh y439 x5_1).f0.f4)) := hcc25 4 _ rfl; have u11_5 : w29.cell? ⟨go23, (x5_1 : Int).toNat * 20 + 5, none⟩ = some (.int .i8 ((zh y439 x5_1).f0.f5)) := hcc25 5 _ rfl; have u11_6 : w29.cell? ⟨go23, (x5_1 : Int).toNat * 20 + 6, none⟩ = some (.int .i8 ((zh y439 x5_1).f0.f6)) := hcc25 6 _ rfl; have u11_7 : w29.cell? ⟨go23, (x5_1 : Int).toNat * 20 + 7, none⟩ = some (.int .i8 ((zh y439 x5_1).f0.f7)) := hcc25 7 _ rfl; have u11_8 : w29.cell? ⟨go23, (x5_1 : Int).toNat * 20 + 8, none⟩ = some (.int .i8 ((zh y439 x5_1).f0.f8)) := hcc25 8 _ rfl; have u11_9 : w29.cell? ⟨go23, (x5_1 : Int).toNat * 20 + 9, none⟩ = some (.int .i8 ((zh y439 x5_1).f0.f9)) := hcc25 9 _ rfl; have u11_10 : w29.cell? ⟨go23, (x5_1 : Int).toNat * 20 + 10, none⟩ = some (.int .i8 ((zh y439 x5_1).f0.f10)) := hcc25 10 _ rfl; have u11_11 : w29.cell? ⟨go23, (x5_1 : Int).toNat * 20 + 11, none⟩ = some (.int .i8 ((zh y439 x5_1).f0.f11)) := hcc25 11 _ rfl; have u11_12 : w29.cell? ⟨go23, (x5_1 : Int).toNat * 20 + 12, none⟩ = some (.int .i8 ((zh y439 x5_1).f0.f12)) := hcc25 12 _ rfl; have u11_13 : w29.cell? ⟨go23, (x5_1 : Int).toNat * 20 + 13, none⟩ = some (.int .i8 ((zh y439 x5_1).f0.f13)) := hcc25 13 _ rfl; have u11_14 : w29.cell? ⟨go23, (x5_1 : Int).toNat * 20 + 14, none⟩ = some (.int .i16 ((zh y439 x5_1).f1.f0)) := hcc25 14 _ rfl; have u11_15 : w29.cell? ⟨go23, (x5_1 : Int).toNat * 20 + 15, none⟩ = some (.int .i16 ((zh y439 x5_1).f1.f1)) := hcc25 15 _ rfl; have u11_16 : w29.cell? ⟨go23, (x5_1 : Int).toNat * 20 + 16, none⟩ = some (.int .i16 ((zh y439 x5_1).f1.f2)) := hcc25 16 _ rfl; have u11_17 : w29.cell? ⟨go23, (x5_1 : Int).toNat * 20 + 17, none⟩ = some (.int .i8 ((zh y439 x5_1).f2.f0)) := hcc25 17 _ rfl; have u11_18 : w29.cell? ⟨go23, (x5_1 : Int).toNat * 20 + 18, none⟩ = some (.bool ((zh y439 x5_1).f2.f1)) := hcc25 18 _ rfl; have u11_19 : w29.cell? ⟨go23, (x5_1 : Int).toNat * 20 + 19, none⟩ = some (.bool ((zh y439 x5_1).f3)) := hcc25 19 _ rfl; have t11_0 : w29.frozen? ⟨go23, (x5_1 : Int).toNat * 20, none⟩ = false := hfr25 0; have t11_1 : w29.frozen? ⟨go23, (x5_1 : Int).toNat * 20 + 1, none⟩ = false := hfr25 1; have t11_2 : w29.frozen? ⟨go23, (x5_1 : Int).toNat * 20 + 2, none⟩ = false := hfr25 2; have t11_3 : w29.frozen? ⟨go23, (x5_1 : Int).toNat * 20 + 3, none⟩ = false := hfr25 3; have t11_4 : w29.frozen? ⟨go23, (x5_1 : Int).toNat * 20 + 4, none⟩ = false := hfr25 4; have t11_5 : w29.frozen? ⟨go23, (x5_1 : Int).toNat * 20 + 5, none⟩ = false := hfr25 5; have t11_6 : w29.frozen? ⟨go23, (x5_1 : Int).toNat * 20 + 6, none⟩ = false := hfr25 6; have t11_7 : w29.frozen? ⟨go23, (x5_1 : Int).toNat * 20 + 7, none⟩ = false := hfr25 7; have t11_8 : w29.frozen? ⟨go23, (x5_1 : Int).toNat * 20 + 8, none⟩ = false := hfr25 8; have t11_9 : w29.frozen? ⟨go23, (x5_1 : Int).toNat * 20 + 9, none⟩ = false := hfr25 9; have t11_10 : w29.frozen? ⟨go23, (x5_1 : Int).toNat * 20 + 10, none⟩ = false := hfr25 10; have t11_11 : w29.frozen? ⟨go23, (x5_1 : Int).toNat * 20 + 11, none⟩ = false := hfr25 11; have t11_12 : w29.frozen? ⟨go23, (x5_1 : Int).toNat * 20 + 12, none⟩ = false := hfr25 12; have t11_13 : w29.frozen? ⟨go23, (x5_1 : Int).toNat * 20 + 13, none⟩ = false := hfr25 13; have t11_14 : w29.frozen? ⟨go23, (x5_1 : Int).toNat * 20 + 14, none⟩ = false := hfr25 14; have t11_15 : w29.frozen? ⟨go23, (x5_1 : Int).toNat * 20 + 15, none⟩ = false := hfr25 15; have t11_16 : w29.frozen? ⟨go23, (x5_1 : Int).toNat * 20 + 16, none⟩ = false := hfr25 16; have t11_17 : w29.frozen? ⟨go23, (x5_1 : Int).toNat * 20 + 17, none⟩ = false := hfr25 17; have t11_18 : w29.frozen? ⟨go23, (x5_1 : Int).toNat * 20 + 18, none⟩ = false := hfr25 18; have t11_19 : w29.frozen? ⟨go23, (x5_1 : Int).toNat * 20 + 19, none⟩ = false := hfr25 19; clear hcl25 hcc25 hfr25 hM25; replace p25 := eq_true p25; replace q25 := eq_true q25; have HX30 := ze.mk (show Kd.R k102 102 w29 w0.heap.size (fun k_ => (P0_ k_ ∨ w.heap.size ≤ k_)) (.slice (some ⟨go23, 0, none⟩) x0_3.length co4) y439 from (by (with_reducible repeat (first | apply Kd.R_alloc | apply Kd.R_drewN | apply Kd.R_drew)); exact HO_0.out)); obtain ⟨ce30, hcl30, hM30, hcc30, hfr30⟩ := Kd.R_elem HX30.out z102 (x5_1 : Int) (od (by first | (with_reducible assumption) | assumption)) (by have h_ : (x5_1 : Int) < ((x0_3.length : Int) : Int) := od (by first | (with_reducible assumption) | assumption); first | exact h_ | (have e_ := (Kd.R_reads' HO_0.out).1; omega) | simpa using h_); obtain rfl := zqa hM30; have HP30 := Kd.R_seg HX30.out (x5_1 : Int) (od (by first | (with_reducible assumption) | assumption)) (by have h_ : (x5_1 : Int) < ((x0_3.length : Int) : Int) := od (by first | (with_reducible assumption) | assumption); first | exact h_ | (have e_ := (Kd.R_reads' HO_0.out).1; omega) | simpa using h_) (seg := [.bool ((Int.tmod (wrap64 ((wrap64 (x1_3 + 1)) + 1)) 3) == 0)]) (j := 19) hcl30 hcc30 (show 20 ≤ 20 from by decide) (x' := (⟨(⟨(zh y439 x5_1).f0.f0, (zh y439 x5_1).f0.f1, (zh y439 x5_1).f0.f2, (zh y439 x5_1).f0.f3, (zh y439 x5_1).f0.f4, (zh y439 x5_1).f0.f5, (zh y439 x5_1).f0.f6, (zh y439 x5_1).f0.f7, (zh y439 x5_1).f0.f8, (zh y439 x5_1).f0.f9, (zh y439 x5_1).f0.f10, (zh y439 x5_1).f0.f11, (zh y439 x5_1).f0.f12, (zh y439 x5_1).f0.f13⟩ : S96), (⟨(zh y439 x5_1).f1.f0, (zh y439 x5_1).f1.f1, (zh y439 x5_1).f1.f2⟩ : S100), (⟨(zh y439 x5_1).f2.f0, (zh y439 x5_1).f2.f1⟩ : S38), ((Int.tmod (wrap64 ((wrap64 (x1_3 + 1)) + 1)) 3) == 0)⟩ : S102)) (zza _ _ _ (⟨(⟨(zh y439 x5_1).f0.f0, (zh y439 x5_1).f0.f1, (zh y439 x5_1).f0.f2, (zh y439 x5_1).f0.f3, (zh y439 x5_1).f0.f4, (zh y439 x5_1).f0.f5, (zh y439 x5_1).f0.f6, (zh y439 x5_1).f0.f7, (zh y439 x5_1).f0.f8, (zh y439 x5_1).f0.f9, (zh y439 x5_1).f0.f10, (zh y439 x5_1).f0.f11, (zh y439 x5_1).f0.f12, (zh y439 x5_1).f0.f13⟩ : S96), (⟨(zh y439 x5_1).f1.f0, (zh y439 x5_1).f1.f1, (zh y439 x5_1).f1.f2⟩ : S100), (⟨(zh y439 x5_1).f2.f0, (zh y439 x5_1).f2.f1⟩ : S38), ((Int.tmod (wrap64 ((wrap64 (x1_3 + 1)) + 1)) 3) == 0)⟩ : S102) ) (fun _ hk => hk); have u12_19 := hcc30 19 _ rfl; (try simp only [show (k102).sz = 20 from rfl, Nat.mul_one, Nat.add_zero] at u12_19); have t12_19 := hfr30 19; (try simp only [show (k102).sz = 20 from rfl, Nat.mul_one, Nat.add_zero] at t12_19); clear hcl30 hcc30 hfr30 hM30) | ((with_reducible refine zja (t := 4) (p := 67) rfl ?_); refine zia (t := 4) (p := 67) (v := ?vo_w31) (w1 := (w29.setCell ⟨go23, (x5_1 : Int).toNat * 20 + 19, none⟩ (.bool ((Int.tmod (wrap64 ((wrap64 (x1_3 + 1)) + 1)) 3) == 0)))) ?hg ?ho ?hn ?hr ?_; (case ho => rfl); (case hg => rfl); (case hn => rfl); (case hr => first | (go_simp; done) | (go_simp; rfl)); intro w31 hw; have hg : w29.grownBy w31 (some go23) := (by rw [hw]; exact HP30.2); have hp_ : Kd.R k102 102 w31 w0.heap.size (fun k_ => (P0_ k_ ∨ w.heap.size ≤ k_)) (.slice (some ⟨go23, 0, none⟩) x0_3.length co4) y440 := (by rw [hw, Ny440.out]; exact HP30.1); clear HP30; have n0_ := ze.mk (hp_); have n1_ := ze.mk ((by rw [hw]; exact zi (HB.out) GB23.out : Below w0.heap.size w0 w31)); have n2_ := ze.mk (Kept.of_grown (S := (fun k_ => P0_ k_)) hg (by repeat (first | (with_reducible first | exact HK.out | apply Kept.alloc | apply Kept.drewN | apply Kept.drew) | exact HK.out)) (fun k_ e_ => (HO_0.out.1 k_ e_))); clear HO_0; clear HB; clear HK; have HO_0 := n0_; have HB := n1_; have HK := n2_; clear n0_ n1_ n2_; clear hg hw hp_))
          (try simp only [← hl0_2, ← hl0_3])
          go_roundg k3
          case measure => have := HK1.out; have := HK2.out; have := HK3.out; omega
          case rel => exact ⟨(y440), (wrap64 ((wrap64 ((wrap64 (x1_3 + 1)) + 1)) + 1)), (wrap64 (x5_1 + 1)), (by first | rfl | (simp; done) | (simp [*]; done)), (by first | rfl | (simp; done) | (simp [*]; done)), H', ⟨by have := HK1.out; have := HK2.out; have := HK3.out; omega⟩, ⟨by (try simp only [hl0_2]); (try simp only [hl0_3]); (with_reducible repeat (first | apply Kd.R_alloc | apply Kd.R_drewN | apply Kd.R_drew)); exact HO_0.out⟩, ⟨by repeat (first | (with_reducible first | exact HK.out | apply Kept.alloc | apply Kept.drewN | apply Kept.drew) | exact HK.out)⟩, ⟨by repeat (first | (with_reducible first | exact HB.out | apply zg | apply zc | apply zf) | exact HB.out)⟩⟩
         rw [if_neg c22] at H
         exact absurd H (by simp)
        rw [if_neg c21] at H
        exact absurd H (by simp)
   rw [if_neg c3] at H
   have c3b0 : decide (x5_1 < (x0_1.length : Int)) = false := decide_eq_false c3
   clear c3
   simp only [Option.some.injEq, Prod.mk.injEq] at H
   obtain ⟨rfl, rfl⟩ := H
   obtain ⟨Ao32, co32, eo32⟩ := Kd.R_slice HO_0.out
   subst eo32
   go_wp2
   go_ret
   exact ⟨by first | rfl | (simp [zn, zm] <;> rfl) | (simp [*, zn, zm] <;> rfl), by (with_reducible repeat (first | apply Kd.R_alloc | apply Kd.R_drewN | apply Kd.R_drew)); exact HO_0.out, by repeat (first | (with_reducible first | exact HB.out | apply zg | apply zc | apply zf) | exact HB.out), by repeat (first | (with_reducible first | exact HK.out | apply Kept.alloc | apply Kept.drewN | apply Kept.drew) | exact HK.out)⟩
mutual
def laws_heldNodeS.l0 : Nat → List (S102) → Int → Int → Option (Int)
 | 0, _, _, _ => none
 | k + 1, x0, x1, x5 => if x5 < (x0.length : Int) then (laws_heldNodeS.l1 k x0 x1 x5 0) else (some x1)
def laws_heldNodeS.l1 : Nat → List (S102) → Int → Int → Int → Option (Int)
 | 0, _, _, _, _ => none
 | k + 1, x0, x1, x5, x6 => if x6 < 14 then (if 0 ≤ x5 then (if x5 < (x0.length : Int) then (if 0 ≤ x6 then (if (rd [(zh x0 x5).f0.f0, (zh x0 x5).f0.f1, (zh x0 x5).f0.f2, (zh x0 x5).f0.f3, (zh x0 x5).f0.f4, (zh x0 x5).f0.f5, (zh x0 x5).f0.f6, (zh x0 x5).f0.f7, (zh x0 x5).f0.f8, (zh x0 x5).f0.f9, (zh x0 x5).f0.f10, (zh x0 x5).f0.f11, (zh x0 x5).f0.f12, (zh x0 x5).f0.f13] x6) = (IntKind.i8.wrap (x1)) then (laws_heldNodeS.l1 k x0 (wrap64 (x1 + 1)) x5 (wrap64 (x6 + 1))) else (some (-1))) else (none)) else (none)) else (none)) else (laws_heldNodeS.l2 k x0 x1 x5 0)
def laws_heldNodeS.l2 : Nat → List (S102) → Int → Int → Int → Option (Int)
 | 0, _, _, _, _ => none
 | k + 1, x0, x1, x5, x7 => if x7 < 3 then (if 0 ≤ x5 then (if x5 < (x0.length : Int) then (if 0 ≤ x7 then (if (rd [(zh x0 x5).f1.f0, (zh x0 x5).f1.f1, (zh x0 x5).f1.f2] x7) = (IntKind.i16.wrap (x1)) then (laws_heldNodeS.l2 k x0 (wrap64 (x1 + 1)) x5 (wrap64 (x7 + 1))) else (some (-1))) else (none)) else (none)) else (none)) else (if 0 ≤ x5 then (if x5 < (x0.length : Int) then (if ((zh x0 x5).f2.f0) = (IntKind.i8.wrap (x1)) then (if (((zh x0 x5).f2.f1) != ((Int.tmod (wrap64 (x1 + 1)) 3) == 0)) = true then (some (-1)) else (if (((zh x0 x5).f3) != ((Int.tmod (wrap64 ((wrap64 (x1 + 1)) + 1)) 3) == 0)) = true then (some (-1)) else (laws_heldNodeS.l0 k x0 (wrap64 ((wrap64 ((wrap64 (x1 + 1)) + 1)) + 1)) (wrap64 (x5 + 1))))) else (some (-1))) else (none)) else (none))
end
def laws_heldNodeS.f (k : Nat) (l0 : List (S102)) (a1 : Int) : Option (Int) := laws_heldNodeS.l0 k l0 a1 0
set_option maxHeartbeats 8000000 in
set_option maxRecDepth 100000 in
theorem laws_heldNodeS.calls (k : Nat) (A0 : Option Addr) (c0 : Nat) (l0 : List (S102)) (a1 : Int) (r : Int) (w : World) (hr0 : Kd.C k102 w A0 l0.length l0) (hc0 : l0.length ≤ c0) (h : laws_heldNodeS.f k l0 a1 = some r) :
  Calls Try.prog 38 #[.slice A0 l0.length c0, .int .i64 a1] w fun e w' => e = .returned (.int .i64 r) ∧ zca w w' := by
 have HR0 := ze.mk hr0
 have HC0 := ze.mk hc0
 clear hr0 hc0
 have H : (laws_heldNodeS.l0 k l0 a1 0) = some r := h
 clear h
 have H' := ze.mk H
 clear H
 go_enter Try.func38, Try.ntmps38
 go_wp2
 go_loopg [1, 5] k (fun kq v1 v5 w' => ∃ (x1_1 : Int) (x5_1 : Int), v1 = .int .i64 x1_1 ∧ v5 = .int .i64 x5_1 ∧ ze (laws_heldNodeS.l0 kq l0 x1_1 x5_1 = some r) ∧ ze (kq ≤ k) ∧ zca w w')
 case atStart => exact ⟨(a1), (0), (by first | rfl | (simp; done) | (simp [*]; done)), (by first | rfl | (simp; done) | (simp [*]; done)), H', ⟨Nat.le_refl _⟩, by repeat (first | exact zca.refl _ | apply zca.step)⟩
 case round =>
  clear H'
  try clear p2
  obtain ⟨x1_1, x5_1, rfl, rfl, HA, HK1, ⟨m1, rfl⟩⟩ := hrel
  cases gk with
  | zero => exact absurd HA.out (by simp [laws_heldNodeS.l0])
  | succ k1 =>
   have H := HA.out
   clear HA
   simp only [laws_heldNodeS.l0] at H
   by_cases c3 : x5_1 < (l0.length : Int)
   ·rw [if_pos c3] at H
    have c3b0 : decide (x5_1 < (l0.length : Int)) = true := decide_eq_true c3
    clear c3
    have H' := ze.mk H
    clear H
    go_wp2
    go_loopg [1, 6] k1 (fun kq v1 v6 w' => ∃ (x1_2 : Int) (x6_2 : Int), v1 = .int .i64 x1_2 ∧ v6 = .int .i64 x6_2 ∧ ze (laws_heldNodeS.l1 kq l0 x1_2 x5_1 x6_2 = some r) ∧ ze (kq ≤ k1) ∧ zca w w')
    case atStart => exact ⟨(x1_1), (0), (by first | rfl | (simp; done) | (simp [*]; done)), (by first | rfl | (simp; done) | (simp [*]; done)), H', ⟨Nat.le_refl _⟩, by repeat (first | exact zca.refl _ | apply zca.step)⟩
    case round =>
     clear H'
     try clear p2
     try clear c3
     try clear c3b0
     try clear p2
     obtain ⟨x1_2, x6_2, rfl, rfl, HA, HK2, ⟨m2, rfl⟩⟩ := hrel
     cases gk with
     | zero => exact absurd HA.out (by simp [laws_heldNodeS.l1])
     | succ k2 =>
      have H := HA.out
      clear HA
      simp only [laws_heldNodeS.l1] at H
      by_cases c4 : x6_2 < 14
      ·rw [if_pos c4] at H
       have c4b0 : decide (x6_2 < 14) = true := decide_eq_true c4
       clear c4
       by_cases c5 : 0 ≤ x5_1
       ·rw [if_pos c5] at H
        have c5b0 : decide (0 ≤ x5_1) = true := decide_eq_true c5
        clear c5
        by_cases c6 : x5_1 < (l0.length : Int)
        ·rw [if_pos c6] at H
         have c6b0 : decide (x5_1 < (l0.length : Int)) = true := decide_eq_true c6
         clear c6
         by_cases c7 : 0 ≤ x6_2
         ·rw [if_pos c7] at H
          have c7b0 : decide (0 ≤ x6_2) = true := decide_eq_true c7
          clear c7
          by_cases c8 : (rd [(zh l0 x5_1).f0.f0, (zh l0 x5_1).f0.f1, (zh l0 x5_1).f0.f2, (zh l0 x5_1).f0.f3, (zh l0 x5_1).f0.f4, (zh l0 x5_1).f0.f5, (zh l0 x5_1).f0.f6, (zh l0 x5_1).f0.f7, (zh l0 x5_1).f0.f8, (zh l0 x5_1).f0.f9, (zh l0 x5_1).f0.f10, (zh l0 x5_1).f0.f11, (zh l0 x5_1).f0.f12, (zh l0 x5_1).f0.f13] x6_2) = (IntKind.i8.wrap (x1_2))
          ·rw [if_pos c8] at H
           have c8b0 : ((rd [(zh l0 x5_1).f0.f0, (zh l0 x5_1).f0.f1, (zh l0 x5_1).f0.f2, (zh l0 x5_1).f0.f3, (zh l0 x5_1).f0.f4, (zh l0 x5_1).f0.f5, (zh l0 x5_1).f0.f6, (zh l0 x5_1).f0.f7, (zh l0 x5_1).f0.f8, (zh l0 x5_1).f0.f9, (zh l0 x5_1).f0.f10, (zh l0 x5_1).f0.f11, (zh l0 x5_1).f0.f12, (zh l0 x5_1).f0.f13] x6_2) == (IntKind.i8.wrap (x1_2))) = true := beq_iff_eq.mpr c8
           have c8b1 : ((rd [(zh l0 x5_1).f0.f0, (zh l0 x5_1).f0.f1, (zh l0 x5_1).f0.f2, (zh l0 x5_1).f0.f3, (zh l0 x5_1).f0.f4, (zh l0 x5_1).f0.f5, (zh l0 x5_1).f0.f6, (zh l0 x5_1).f0.f7, (zh l0 x5_1).f0.f8, (zh l0 x5_1).f0.f9, (zh l0 x5_1).f0.f10, (zh l0 x5_1).f0.f11, (zh l0 x5_1).f0.f12, (zh l0 x5_1).f0.f13] x6_2) != (IntKind.i8.wrap (x1_2))) = false := bne_eq_false_iff_eq.mpr c8
           clear c8
           have H' := ze.mk H
           clear H
           have p441 : 0 ≤ (x5_1 : Int) := od (by first | (with_reducible assumption) | assumption)
           have q441 : x5_1 < (l0.length : Int) := od (by first | (with_reducible assumption) | assumption)
           obtain ⟨ad441, e441, u1_0, u1_1, u1_2, u1_3, u1_4, u1_5, u1_6, u1_7, u1_8, u1_9, u1_10, u1_11, u1_12, u1_13, u1_14, u1_15, u1_16, u1_17, u1_18, u1_19⟩ := zab HR0.out x5_1 p441 q441
           cases e441
           replace p441 := eq_true p441
           replace q441 := eq_true q441
           have u2_0 : w.cell? ((ad441.add ((x5_1).toNat * 20)).add (x6_2).toNat) = some (.int .i8 (rd [(zh l0 x5_1).f0.f0, (zh l0 x5_1).f0.f1, (zh l0 x5_1).f0.f2, (zh l0 x5_1).f0.f3, (zh l0 x5_1).f0.f4, (zh l0 x5_1).f0.f5, (zh l0 x5_1).f0.f6, (zh l0 x5_1).f0.f7, (zh l0 x5_1).f0.f8, (zh l0 x5_1).f0.f9, (zh l0 x5_1).f0.f10, (zh l0 x5_1).f0.f11, (zh l0 x5_1).f0.f12, (zh l0 x5_1).f0.f13] x6_2)) := by rcases (is14 (j := x6_2) (od (by first | (with_reducible assumption) | assumption)) (od (by first | (with_reducible assumption) | assumption))) with h_ | h_ | h_ | h_ | h_ | h_ | h_ | h_ | h_ | h_ | h_ | h_ | h_ | h_ <;> rw [h_] <;> first | exact u1_0 | exact u1_1 | exact u1_2 | exact u1_3 | exact u1_4 | exact u1_5 | exact u1_6 | exact u1_7 | exact u1_8 | exact u1_9 | exact u1_10 | exact u1_11 | exact u1_12 | exact u1_13
           have p9 : 0 ≤ (x6_2 : Int) := od (by first | (with_reducible assumption) | assumption)
           have q9 : x6_2 < (14 : Int) := od (by first | (with_reducible assumption) | assumption)
           replace p9 := eq_true p9
           replace q9 := eq_true q9
           go_wp2
           go_roundg k2
           case measure => have := HK1.out; have := HK2.out; omega
           case rel => exact ⟨(wrap64 (x1_2 + 1)), (wrap64 (x6_2 + 1)), (by first | rfl | (simp; done) | (simp [*]; done)), (by first | rfl | (simp; done) | (simp [*]; done)), H', ⟨by have := HK1.out; have := HK2.out; omega⟩, by repeat (first | exact zca.refl _ | apply zca.step)⟩
          rw [if_neg c8] at H
          have c8b0 : ((rd [(zh l0 x5_1).f0.f0, (zh l0 x5_1).f0.f1, (zh l0 x5_1).f0.f2, (zh l0 x5_1).f0.f3, (zh l0 x5_1).f0.f4, (zh l0 x5_1).f0.f5, (zh l0 x5_1).f0.f6, (zh l0 x5_1).f0.f7, (zh l0 x5_1).f0.f8, (zh l0 x5_1).f0.f9, (zh l0 x5_1).f0.f10, (zh l0 x5_1).f0.f11, (zh l0 x5_1).f0.f12, (zh l0 x5_1).f0.f13] x6_2) == (IntKind.i8.wrap (x1_2))) = false := beq_eq_false_iff_ne.mpr c8
          have c8b1 : ((rd [(zh l0 x5_1).f0.f0, (zh l0 x5_1).f0.f1, (zh l0 x5_1).f0.f2, (zh l0 x5_1).f0.f3, (zh l0 x5_1).f0.f4, (zh l0 x5_1).f0.f5, (zh l0 x5_1).f0.f6, (zh l0 x5_1).f0.f7, (zh l0 x5_1).f0.f8, (zh l0 x5_1).f0.f9, (zh l0 x5_1).f0.f10, (zh l0 x5_1).f0.f11, (zh l0 x5_1).f0.f12, (zh l0 x5_1).f0.f13] x6_2) != (IntKind.i8.wrap (x1_2))) = true := bne_iff_ne.mpr c8
          obtain rfl := Option.some.inj H
          have p441 : 0 ≤ (x5_1 : Int) := od (by first | (with_reducible assumption) | assumption)
          have q441 : x5_1 < (l0.length : Int) := od (by first | (with_reducible assumption) | assumption)
          obtain ⟨ad441, e441, u1_0, u1_1, u1_2, u1_3, u1_4, u1_5, u1_6, u1_7, u1_8, u1_9, u1_10, u1_11, u1_12, u1_13, u1_14, u1_15, u1_16, u1_17, u1_18, u1_19⟩ := zab HR0.out x5_1 p441 q441
          cases e441
          replace p441 := eq_true p441
          replace q441 := eq_true q441
          have u3_0 : w.cell? ((ad441.add ((x5_1).toNat * 20)).add (x6_2).toNat) = some (.int .i8 (rd [(zh l0 x5_1).f0.f0, (zh l0 x5_1).f0.f1, (zh l0 x5_1).f0.f2, (zh l0 x5_1).f0.f3, (zh l0 x5_1).f0.f4, (zh l0 x5_1).f0.f5, (zh l0 x5_1).f0.f6, (zh l0 x5_1).f0.f7, (zh l0 x5_1).f0.f8, (zh l0 x5_1).f0.f9, (zh l0 x5_1).f0.f10, (zh l0 x5_1).f0.f11, (zh l0 x5_1).f0.f12, (zh l0 x5_1).f0.f13] x6_2)) := by rcases (is14 (j := x6_2) (od (by first | (with_reducible assumption) | assumption)) (od (by first | (with_reducible assumption) | assumption))) with h_ | h_ | h_ | h_ | h_ | h_ | h_ | h_ | h_ | h_ | h_ | h_ | h_ | h_ <;> rw [h_] <;> first | exact u1_0 | exact u1_1 | exact u1_2 | exact u1_3 | exact u1_4 | exact u1_5 | exact u1_6 | exact u1_7 | exact u1_8 | exact u1_9 | exact u1_10 | exact u1_11 | exact u1_12 | exact u1_13
          have p10 : 0 ≤ (x6_2 : Int) := od (by first | (with_reducible assumption) | assumption)
          have q10 : x6_2 < (14 : Int) := od (by first | (with_reducible assumption) | assumption)
          replace p10 := eq_true p10
          replace q10 := eq_true q10
          go_wp2
          go_ret
          exact ⟨by first | rfl | (simp; done) | (simp [*]; done), by repeat (first | exact zca.refl _ | apply zca.step)⟩
         rw [if_neg c7] at H
         exact absurd H (by simp)
        rw [if_neg c6] at H
        exact absurd H (by simp)
       rw [if_neg c5] at H
       exact absurd H (by simp)
      rw [if_neg c4] at H
      have c4b0 : decide (x6_2 < 14) = false := decide_eq_false c4
      clear c4
      have H' := ze.mk H
      clear H
      go_wp2
      go_loopg [1, 7] k2 (fun kq v1 v7 w' => ∃ (x1_3 : Int) (x7_3 : Int), v1 = .int .i64 x1_3 ∧ v7 = .int .i64 x7_3 ∧ ze (laws_heldNodeS.l2 kq l0 x1_3 x5_1 x7_3 = some r) ∧ ze (kq ≤ k2) ∧ zca w w')
      case atStart => exact ⟨(x1_2), (0), (by first | rfl | (simp; done) | (simp [*]; done)), (by first | rfl | (simp; done) | (simp [*]; done)), H', ⟨Nat.le_refl _⟩, by repeat (first | exact zca.refl _ | apply zca.step)⟩
      case round =>
       clear H'
       try clear p1
       try clear q1
       try clear hx1
       try clear p2
       try clear c3
       try clear c3b0
       try clear c4
       try clear c4b0
       try clear p4
       try clear q4
       try clear hx4
       try clear c5
       try clear c5b0
       try clear c6
       try clear c6b0
       try clear p6
       try clear c7
       try clear c7b0
       try clear c8
       try clear c8b0
       try clear c8b1
       try clear p9
       try clear q9
       try clear hx9
       try clear p10
       try clear q10
       try clear hx10
       try clear u3_0
       try clear u1_0
       try clear u1_1
       try clear u1_10
       try clear u1_11
       try clear u1_12
       try clear u1_13
       try clear u1_14
       try clear u1_15
       try clear u1_16
       try clear u1_17
       try clear u1_18
       try clear u1_19
       try clear u1_2
       try clear u1_3
       try clear u1_4
       try clear u1_5
       try clear u1_6
       try clear u1_7
       try clear u1_8
       try clear u1_9
       try clear u2_0
       try clear p10
       try clear p2
       try clear p441
       try clear p9
       try clear q10
       try clear q441
       try clear q9
       obtain ⟨x1_3, x7_3, rfl, rfl, HA, HK3, ⟨m3, rfl⟩⟩ := hrel
       cases gk with
       | zero => exact absurd HA.out (by simp [laws_heldNodeS.l2])
       | succ k3 =>
        have H := HA.out
        clear HA
        simp only [laws_heldNodeS.l2] at H
        by_cases c11 : x7_3 < 3
        ·rw [if_pos c11] at H
         have c11b0 : decide (x7_3 < 3) = true := decide_eq_true c11
         clear c11
         by_cases c12 : 0 ≤ x5_1
         ·rw [if_pos c12] at H
          have c12b0 : decide (0 ≤ x5_1) = true := decide_eq_true c12
          clear c12
          by_cases c13 : x5_1 < (l0.length : Int)
          ·rw [if_pos c13] at H
           have c13b0 : decide (x5_1 < (l0.length : Int)) = true := decide_eq_true c13
           clear c13
           by_cases c14 : 0 ≤ x7_3
           ·rw [if_pos c14] at H
            have c14b0 : decide (0 ≤ x7_3) = true := decide_eq_true c14
            clear c14
            by_cases c15 : (rd [(zh l0 x5_1).f1.f0, (zh l0 x5_1).f1.f1, (zh l0 x5_1).f1.f2] x7_3) = (IntKind.i16.wrap (x1_3))
            ·rw [if_pos c15] at H
             have c15b0 : ((rd [(zh l0 x5_1).f1.f0, (zh l0 x5_1).f1.f1, (zh l0 x5_1).f1.f2] x7_3) == (IntKind.i16.wrap (x1_3))) = true := beq_iff_eq.mpr c15
             have c15b1 : ((rd [(zh l0 x5_1).f1.f0, (zh l0 x5_1).f1.f1, (zh l0 x5_1).f1.f2] x7_3) != (IntKind.i16.wrap (x1_3))) = false := bne_eq_false_iff_eq.mpr c15
             clear c15
             have H' := ze.mk H
             clear H
             have p443 : 0 ≤ (x5_1 : Int) := od (by first | (with_reducible assumption) | assumption)
             have q443 : x5_1 < (l0.length : Int) := od (by first | (with_reducible assumption) | assumption)
             obtain ⟨ad443, e443, u4_0, u4_1, u4_2, u4_3, u4_4, u4_5, u4_6, u4_7, u4_8, u4_9, u4_10, u4_11, u4_12, u4_13, u4_14, u4_15, u4_16, u4_17, u4_18, u4_19⟩ := zab HR0.out x5_1 p443 q443
             cases e443
             replace p443 := eq_true p443
             replace q443 := eq_true q443
             have u5_0 : w.cell? ⟨(ad443.add ((x5_1).toNat * 20)).block, (ad443.add ((x5_1).toNat * 20)).off + 14 + (x7_3).toNat, none⟩ = some (.int .i16 (rd [(zh l0 x5_1).f1.f0, (zh l0 x5_1).f1.f1, (zh l0 x5_1).f1.f2] x7_3)) := by rcases (show (x7_3 : Int) = 0 ∨ (x7_3 : Int) = 1 ∨ (x7_3 : Int) = 2 by have hp_ : 0 ≤ (x7_3 : Int) := od (by first | (with_reducible assumption) | assumption); have hq_ : x7_3 < (3 : Int) := od (by first | (with_reducible assumption) | assumption); omega) with h_ | h_ | h_ <;> rw [h_] <;> first | exact u4_14 | exact u4_15 | exact u4_16
             have p16 : 0 ≤ (x7_3 : Int) := od (by first | (with_reducible assumption) | assumption)
             have q16 : x7_3 < (3 : Int) := od (by first | (with_reducible assumption) | assumption)
             replace p16 := eq_true p16
             replace q16 := eq_true q16
             go_wp2
             go_roundg k3
             case measure => have := HK1.out; have := HK2.out; have := HK3.out; omega
             case rel => exact ⟨(wrap64 (x1_3 + 1)), (wrap64 (x7_3 + 1)), (by first | rfl | (simp; done) | (simp [*]; done)), (by first | rfl | (simp; done) | (simp [*]; done)), H', ⟨by have := HK1.out; have := HK2.out; have := HK3.out; omega⟩, by repeat (first | exact zca.refl _ | apply zca.step)⟩
            rw [if_neg c15] at H
            have c15b0 : ((rd [(zh l0 x5_1).f1.f0, (zh l0 x5_1).f1.f1, (zh l0 x5_1).f1.f2] x7_3) == (IntKind.i16.wrap (x1_3))) = false := beq_eq_false_iff_ne.mpr c15
            have c15b1 : ((rd [(zh l0 x5_1).f1.f0, (zh l0 x5_1).f1.f1, (zh l0 x5_1).f1.f2] x7_3) != (IntKind.i16.wrap (x1_3))) = true := bne_iff_ne.mpr c15
            obtain rfl := Option.some.inj H
            have p443 : 0 ≤ (x5_1 : Int) := od (by first | (with_reducible assumption) | assumption)
            have q443 : x5_1 < (l0.length : Int) := od (by first | (with_reducible assumption) | assumption)
            obtain ⟨ad443, e443, u4_0, u4_1, u4_2, u4_3, u4_4, u4_5, u4_6, u4_7, u4_8, u4_9, u4_10, u4_11, u4_12, u4_13, u4_14, u4_15, u4_16, u4_17, u4_18, u4_19⟩ := zab HR0.out x5_1 p443 q443
            cases e443
            replace p443 := eq_true p443
            replace q443 := eq_true q443
            have u6_0 : w.cell? ⟨(ad443.add ((x5_1).toNat * 20)).block, (ad443.add ((x5_1).toNat * 20)).off + 14 + (x7_3).toNat, none⟩ = some (.int .i16 (rd [(zh l0 x5_1).f1.f0, (zh l0 x5_1).f1.f1, (zh l0 x5_1).f1.f2] x7_3)) := by rcases (show (x7_3 : Int) = 0 ∨ (x7_3 : Int) = 1 ∨ (x7_3 : Int) = 2 by have hp_ : 0 ≤ (x7_3 : Int) := od (by first | (with_reducible assumption) | assumption); have hq_ : x7_3 < (3 : Int) := od (by first | (with_reducible assumption) | assumption); omega) with h_ | h_ | h_ <;> rw [h_] <;> first | exact u4_14 | exact u4_15 | exact u4_16
            have p17 : 0 ≤ (x7_3 : Int) := od (by first | (with_reducible assumption) | assumption)
            have q17 : x7_3 < (3 : Int) := od (by first | (with_reducible assumption) | assumption)
            replace p17 := eq_true p17
            replace q17 := eq_true q17
            go_wp2
            go_ret
            exact ⟨by first | rfl | (simp; done) | (simp [*]; done), by repeat (first | exact zca.refl _ | apply zca.step)⟩
           rw [if_neg c14] at H
           exact absurd H (by simp)
          rw [if_neg c13] at H
          exact absurd H (by simp)
         rw [if_neg c12] at H
         exact absurd H (by simp)
        rw [if_neg c11] at H
        have c11b0 : decide (x7_3 < 3) = false := decide_eq_false c11
        clear c11
        by_cases c18 : 0 ≤ x5_1
        ·rw [if_pos c18] at H
         have c18b0 : decide (0 ≤ x5_1) = true := decide_eq_true c18
         clear c18
         by_cases c19 : x5_1 < (l0.length : Int)
         ·rw [if_pos c19] at H
          have c19b0 : decide (x5_1 < (l0.length : Int)) = true := decide_eq_true c19
          clear c19
          by_cases c20 : ((zh l0 x5_1).f2.f0) = (IntKind.i8.wrap (x1_3))
          ·rw [if_pos c20] at H
           have c20b0 : (((zh l0 x5_1).f2.f0) == (IntKind.i8.wrap (x1_3))) = true := beq_iff_eq.mpr c20
           have c20b1 : (((zh l0 x5_1).f2.f0) != (IntKind.i8.wrap (x1_3))) = false := bne_eq_false_iff_eq.mpr c20
           clear c20
           by_cases c21 : (((zh l0 x5_1).f2.f1) != ((Int.tmod (wrap64 (x1_3 + 1)) 3) == 0)) = true
           ·rw [if_pos c21] at H
            have c21b0 : (((zh l0 x5_1).f2.f1) != ((Int.tmod (wrap64 (x1_3 + 1)) 3) == 0)) = true := c21
            (try (have c21b1 : decide (((zh l0 x5_1).f2.f1) = ((Int.tmod (wrap64 (x1_3 + 1)) 3) == 0)) = false := by simpa using c21))
            (try (have c21b2 : (((zh l0 x5_1).f2.f1) == ((Int.tmod (wrap64 (x1_3 + 1)) 3) == 0)) = false := by simpa using c21))
            (try (have c21b3 : ¬ (((zh l0 x5_1).f2.f1) = ((Int.tmod (wrap64 (x1_3 + 1)) 3) == 0)) := by simpa using c21))
            (try (have c21b4 : (((zh l0 x5_1).f2.f1) != ((Int.tmod (IntKind.i64.wrap (x1_3 + 1)) 3) == 0)) = true := by have h_ : (((zh l0 x5_1).f2.f1) != ((Int.tmod (wrap64 (x1_3 + 1)) 3) == 0)) = true := c21; simpa only [zy, zz] using h_))
            (try (have c21b5 : decide (((zh l0 x5_1).f2.f1) = ((Int.tmod (IntKind.i64.wrap (x1_3 + 1)) 3) == 0)) = false := by have h_ : decide (((zh l0 x5_1).f2.f1) = ((Int.tmod (wrap64 (x1_3 + 1)) 3) == 0)) = false := by simpa using c21; simpa only [zy, zz] using h_))
            (try (have c21b6 : (((zh l0 x5_1).f2.f1) == ((Int.tmod (IntKind.i64.wrap (x1_3 + 1)) 3) == 0)) = false := by have h_ : (((zh l0 x5_1).f2.f1) == ((Int.tmod (wrap64 (x1_3 + 1)) 3) == 0)) = false := by simpa using c21; simpa only [zy, zz] using h_))
            (try (have c21b7 : ¬ (((zh l0 x5_1).f2.f1) = ((Int.tmod (IntKind.i64.wrap (x1_3 + 1)) 3) == 0)) := by have h_ : ¬ (((zh l0 x5_1).f2.f1) = ((Int.tmod (wrap64 (x1_3 + 1)) 3) == 0)) := by simpa using c21; simpa only [zy, zz] using h_))
            clear c21
            obtain rfl := Option.some.inj H
            have p445 : 0 ≤ (x5_1 : Int) := od (by first | (with_reducible assumption) | assumption)
            have q445 : x5_1 < (l0.length : Int) := od (by first | (with_reducible assumption) | assumption)
            obtain ⟨ad445, e445, u7_0, u7_1, u7_2, u7_3, u7_4, u7_5, u7_6, u7_7, u7_8, u7_9, u7_10, u7_11, u7_12, u7_13, u7_14, u7_15, u7_16, u7_17, u7_18, u7_19⟩ := zab HR0.out x5_1 p445 q445
            cases e445
            replace p445 := eq_true p445
            replace q445 := eq_true q445
            have p446 : 0 ≤ (x5_1 : Int) := od (by first | (with_reducible assumption) | assumption)
            have q446 : x5_1 < (l0.length : Int) := od (by first | (with_reducible assumption) | assumption)
            obtain ⟨ad446, e446, u8_0, u8_1, u8_2, u8_3, u8_4, u8_5, u8_6, u8_7, u8_8, u8_9, u8_10, u8_11, u8_12, u8_13, u8_14, u8_15, u8_16, u8_17, u8_18, u8_19⟩ := zab HR0.out x5_1 p446 q446
            obtain rfl : ad445 = ad446 := (by injection e446)
            replace p446 := eq_true p446
            replace q446 := eq_true q446
            go_wp2
            go_ret
            exact ⟨by first | rfl | (simp; done) | (simp [*]; done), by repeat (first | exact zca.refl _ | apply zca.step)⟩
           rw [if_neg c21] at H
           have c21b0 : (((zh l0 x5_1).f2.f1) != ((Int.tmod (wrap64 (x1_3 + 1)) 3) == 0)) = false := by simpa using c21
           (try (have c21b1 : decide (((zh l0 x5_1).f2.f1) = ((Int.tmod (wrap64 (x1_3 + 1)) 3) == 0)) = true := by simpa using c21))
           (try (have c21b2 : (((zh l0 x5_1).f2.f1) == ((Int.tmod (wrap64 (x1_3 + 1)) 3) == 0)) = true := by simpa using c21))
           (try (have c21b3 : (((zh l0 x5_1).f2.f1) != ((Int.tmod (IntKind.i64.wrap (x1_3 + 1)) 3) == 0)) = false := by have h_ : (((zh l0 x5_1).f2.f1) != ((Int.tmod (wrap64 (x1_3 + 1)) 3) == 0)) = false := by simpa using c21; simpa only [zy, zz] using h_))
           (try (have c21b4 : decide (((zh l0 x5_1).f2.f1) = ((Int.tmod (IntKind.i64.wrap (x1_3 + 1)) 3) == 0)) = true := by have h_ : decide (((zh l0 x5_1).f2.f1) = ((Int.tmod (wrap64 (x1_3 + 1)) 3) == 0)) = true := by simpa using c21; simpa only [zy, zz] using h_))
           (try (have c21b5 : (((zh l0 x5_1).f2.f1) == ((Int.tmod (IntKind.i64.wrap (x1_3 + 1)) 3) == 0)) = true := by have h_ : (((zh l0 x5_1).f2.f1) == ((Int.tmod (wrap64 (x1_3 + 1)) 3) == 0)) = true := by simpa using c21; simpa only [zy, zz] using h_))
           clear c21
           by_cases c22 : (((zh l0 x5_1).f3) != ((Int.tmod (wrap64 ((wrap64 (x1_3 + 1)) + 1)) 3) == 0)) = true
           ·rw [if_pos c22] at H
            have c22b0 : (((zh l0 x5_1).f3) != ((Int.tmod (wrap64 ((wrap64 (x1_3 + 1)) + 1)) 3) == 0)) = true := c22
            (try (have c22b1 : decide (((zh l0 x5_1).f3) = ((Int.tmod (wrap64 ((wrap64 (x1_3 + 1)) + 1)) 3) == 0)) = false := by simpa using c22))
            (try (have c22b2 : (((zh l0 x5_1).f3) == ((Int.tmod (wrap64 ((wrap64 (x1_3 + 1)) + 1)) 3) == 0)) = false := by simpa using c22))
            (try (have c22b3 : ¬ (((zh l0 x5_1).f3) = ((Int.tmod (wrap64 ((wrap64 (x1_3 + 1)) + 1)) 3) == 0)) := by simpa using c22))
            (try (have c22b4 : (((zh l0 x5_1).f3) != ((Int.tmod (IntKind.i64.wrap ((IntKind.i64.wrap (x1_3 + 1)) + 1)) 3) == 0)) = true := by have h_ : (((zh l0 x5_1).f3) != ((Int.tmod (wrap64 ((wrap64 (x1_3 + 1)) + 1)) 3) == 0)) = true := c22; simpa only [zy, zz] using h_))
            (try (have c22b5 : decide (((zh l0 x5_1).f3) = ((Int.tmod (IntKind.i64.wrap ((IntKind.i64.wrap (x1_3 + 1)) + 1)) 3) == 0)) = false := by have h_ : decide (((zh l0 x5_1).f3) = ((Int.tmod (wrap64 ((wrap64 (x1_3 + 1)) + 1)) 3) == 0)) = false := by simpa using c22; simpa only [zy, zz] using h_))
            (try (have c22b6 : (((zh l0 x5_1).f3) == ((Int.tmod (IntKind.i64.wrap ((IntKind.i64.wrap (x1_3 + 1)) + 1)) 3) == 0)) = false := by have h_ : (((zh l0 x5_1).f3) == ((Int.tmod (wrap64 ((wrap64 (x1_3 + 1)) + 1)) 3) == 0)) = false := by simpa using c22; simpa only [zy, zz] using h_))
            (try (have c22b7 : ¬ (((zh l0 x5_1).f3) = ((Int.tmod (IntKind.i64.wrap ((IntKind.i64.wrap (x1_3 + 1)) + 1)) 3) == 0)) := by have h_ : ¬ (((zh l0 x5_1).f3) = ((Int.tmod (wrap64 ((wrap64 (x1_3 + 1)) + 1)) 3) == 0)) := by simpa using c22; simpa only [zy, zz] using h_))
            clear c22
            obtain rfl := Option.some.inj H
            have p445 : 0 ≤ (x5_1 : Int) := od (by first | (with_reducible assumption) | assumption)
            have q445 : x5_1 < (l0.length : Int) := od (by first | (with_reducible assumption) | assumption)
            obtain ⟨ad445, e445, u7_0, u7_1, u7_2, u7_3, u7_4, u7_5, u7_6, u7_7, u7_8, u7_9, u7_10, u7_11, u7_12, u7_13, u7_14, u7_15, u7_16, u7_17, u7_18, u7_19⟩ := zab HR0.out x5_1 p445 q445
            cases e445
            replace p445 := eq_true p445
            replace q445 := eq_true q445
            have p446 : 0 ≤ (x5_1 : Int) := od (by first | (with_reducible assumption) | assumption)
            have q446 : x5_1 < (l0.length : Int) := od (by first | (with_reducible assumption) | assumption)
            obtain ⟨ad446, e446, u8_0, u8_1, u8_2, u8_3, u8_4, u8_5, u8_6, u8_7, u8_8, u8_9, u8_10, u8_11, u8_12, u8_13, u8_14, u8_15, u8_16, u8_17, u8_18, u8_19⟩ := zab HR0.out x5_1 p446 q446
            obtain rfl : ad445 = ad446 := (by injection e446)
            replace p446 := eq_true p446
            replace q446 := eq_true q446
            have p447 : 0 ≤ (x5_1 : Int) := od (by first | (with_reducible assumption) | assumption)
            have q447 : x5_1 < (l0.length : Int) := od (by first | (with_reducible assumption) | assumption)
            obtain ⟨ad447, e447, u9_0, u9_1, u9_2, u9_3, u9_4, u9_5, u9_6, u9_7, u9_8, u9_9, u9_10, u9_11, u9_12, u9_13, u9_14, u9_15, u9_16, u9_17, u9_18, u9_19⟩ := zab HR0.out x5_1 p447 q447
            obtain rfl : ad445 = ad447 := (by injection e447)
            replace p447 := eq_true p447
            replace q447 := eq_true q447
            go_wp2
            go_ret
            exact ⟨by first | rfl | (simp; done) | (simp [*]; done), by repeat (first | exact zca.refl _ | apply zca.step)⟩
           rw [if_neg c22] at H
           have c22b0 : (((zh l0 x5_1).f3) != ((Int.tmod (wrap64 ((wrap64 (x1_3 + 1)) + 1)) 3) == 0)) = false := by simpa using c22
           (try (have c22b1 : decide (((zh l0 x5_1).f3) = ((Int.tmod (wrap64 ((wrap64 (x1_3 + 1)) + 1)) 3) == 0)) = true := by simpa using c22))
           (try (have c22b2 : (((zh l0 x5_1).f3) == ((Int.tmod (wrap64 ((wrap64 (x1_3 + 1)) + 1)) 3) == 0)) = true := by simpa using c22))
           (try (have c22b3 : (((zh l0 x5_1).f3) != ((Int.tmod (IntKind.i64.wrap ((IntKind.i64.wrap (x1_3 + 1)) + 1)) 3) == 0)) = false := by have h_ : (((zh l0 x5_1).f3) != ((Int.tmod (wrap64 ((wrap64 (x1_3 + 1)) + 1)) 3) == 0)) = false := by simpa using c22; simpa only [zy, zz] using h_))
           (try (have c22b4 : decide (((zh l0 x5_1).f3) = ((Int.tmod (IntKind.i64.wrap ((IntKind.i64.wrap (x1_3 + 1)) + 1)) 3) == 0)) = true := by have h_ : decide (((zh l0 x5_1).f3) = ((Int.tmod (wrap64 ((wrap64 (x1_3 + 1)) + 1)) 3) == 0)) = true := by simpa using c22; simpa only [zy, zz] using h_))
           (try (have c22b5 : (((zh l0 x5_1).f3) == ((Int.tmod (IntKind.i64.wrap ((IntKind.i64.wrap (x1_3 + 1)) + 1)) 3) == 0)) = true := by have h_ : (((zh l0 x5_1).f3) == ((Int.tmod (wrap64 ((wrap64 (x1_3 + 1)) + 1)) 3) == 0)) = true := by simpa using c22; simpa only [zy, zz] using h_))
           clear c22
           have H' := ze.mk H
           clear H
           have p445 : 0 ≤ (x5_1 : Int) := od (by first | (with_reducible assumption) | assumption)
           have q445 : x5_1 < (l0.length : Int) := od (by first | (with_reducible assumption) | assumption)
           obtain ⟨ad445, e445, u7_0, u7_1, u7_2, u7_3, u7_4, u7_5, u7_6, u7_7, u7_8, u7_9, u7_10, u7_11, u7_12, u7_13, u7_14, u7_15, u7_16, u7_17, u7_18, u7_19⟩ := zab HR0.out x5_1 p445 q445
           cases e445
           replace p445 := eq_true p445
           replace q445 := eq_true q445
           have p446 : 0 ≤ (x5_1 : Int) := od (by first | (with_reducible assumption) | assumption)
           have q446 : x5_1 < (l0.length : Int) := od (by first | (with_reducible assumption) | assumption)
           obtain ⟨ad446, e446, u8_0, u8_1, u8_2, u8_3, u8_4, u8_5, u8_6, u8_7, u8_8, u8_9, u8_10, u8_11, u8_12, u8_13, u8_14, u8_15, u8_16, u8_17, u8_18, u8_19⟩ := zab HR0.out x5_1 p446 q446
           obtain rfl : ad445 = ad446 := (by injection e446)
           replace p446 := eq_true p446
           replace q446 := eq_true q446
           have p447 : 0 ≤ (x5_1 : Int) := od (by first | (with_reducible assumption) | assumption)
           have q447 : x5_1 < (l0.length : Int) := od (by first | (with_reducible assumption) | assumption)
           obtain ⟨ad447, e447, u9_0, u9_1, u9_2, u9_3, u9_4, u9_5, u9_6, u9_7, u9_8, u9_9, u9_10, u9_11, u9_12, u9_13, u9_14, u9_15, u9_16, u9_17, u9_18, u9_19⟩ := zab HR0.out x5_1 p447 q447
           obtain rfl : ad445 = ad447 := (by injection e447)
           replace p447 := eq_true p447
           replace q447 := eq_true q447
           go_wp2
           go_roundg k3
           case measure => have := HK1.out; have := HK2.out; have := HK3.out; omega
           case rel => exact ⟨(wrap64 ((wrap64 ((wrap64 (x1_3 + 1)) + 1)) + 1)), (wrap64 (x5_1 + 1)), (by first | rfl | (simp; done) | (simp [*]; done)), (by first | rfl | (simp; done) | (simp [*]; done)), H', ⟨by have := HK1.out; have := HK2.out; have := HK3.out; omega⟩, by repeat (first | exact zca.refl _ | apply zca.step)⟩
          rw [if_neg c20] at H
          have c20b0 : (((zh l0 x5_1).f2.f0) == (IntKind.i8.wrap (x1_3))) = false := beq_eq_false_iff_ne.mpr c20
          have c20b1 : (((zh l0 x5_1).f2.f0) != (IntKind.i8.wrap (x1_3))) = true := bne_iff_ne.mpr c20
          obtain rfl := Option.some.inj H
          have p445 : 0 ≤ (x5_1 : Int) := od (by first | (with_reducible assumption) | assumption)
          have q445 : x5_1 < (l0.length : Int) := od (by first | (with_reducible assumption) | assumption)
          obtain ⟨ad445, e445, u7_0, u7_1, u7_2, u7_3, u7_4, u7_5, u7_6, u7_7, u7_8, u7_9, u7_10, u7_11, u7_12, u7_13, u7_14, u7_15, u7_16, u7_17, u7_18, u7_19⟩ := zab HR0.out x5_1 p445 q445
          cases e445
          replace p445 := eq_true p445
          replace q445 := eq_true q445
          go_wp2
          go_ret
          exact ⟨by first | rfl | (simp; done) | (simp [*]; done), by repeat (first | exact zca.refl _ | apply zca.step)⟩
         rw [if_neg c19] at H
         exact absurd H (by simp)
        rw [if_neg c18] at H
        exact absurd H (by simp)
   rw [if_neg c3] at H
   have c3b0 : decide (x5_1 < (l0.length : Int)) = false := decide_eq_false c3
   clear c3
   obtain rfl := Option.some.inj H
   go_wp2
   go_ret
   exact ⟨by first | rfl | (simp; done) | (simp [*]; done), by repeat (first | exact zca.refl _ | apply zca.step)⟩
mutual
def laws_FnExactTreeOf.j0 : Nat → List (S102) → Int → List (S102) → Int → Bool → Int → Int → List (S42) → Int → Int → List (S43) → Option (Bool)
 | 0, _, _, _, _, _, _, _, _, _, _, _ => none
 | k + 1, x4, x5, x7, x8, x40, x449000, x449001, x449002, x465000, x465001, x465002 => if x40 = true then (some false) else ((laws_toFixed.f k x449000 x449001 x449002).bind fun bt470 => ((laws_eqFixed.f k x465000 x465001 x465002 bt470.1 bt470.2.1 bt470.2.2).bind fun t475 => (if t475 = true then ((laws_markFixed.f k x465000 x465001 x465002 1).bind fun bt476 => (if bt476.1 < 0 then (laws_FnExactTreeOf.j1 k x4 x5 x7 true x449000 x449001 x449002) else ((laws_eqNodeS.f k x7 x4).bind fun t478 => (if t478 = true then (laws_FnExactTreeOf.j1 k x4 x5 x7 (x8 != x5) x449000 x449001 x449002) else (laws_FnExactTreeOf.j1 k x4 x5 x7 true x449000 x449001 x449002))))) else (some false))))
def laws_FnExactTreeOf.j1 : Nat → List (S102) → Int → List (S102) → Bool → Int → Int → List (S42) → Option (Bool)
 | 0, _, _, _, _, _, _, _ => none
 | k + 1, x4, x5, x7, x61, x449000, x449001, x449002 => if x61 = true then (some false) else ((laws_markNodeS.f k x7 1).bind fun bt479 => ((laws_heldNodeS.f k bt479.2 1).bind fun t481 => (if t481 < 0 then (some false) else (if t481 = bt479.1 then ((laws_toFixed.f k x449000 x449001 x449002).bind fun bt482 => ((impl_TreeOf.f k bt482.1 bt482.2.1 bt482.2.2).bind fun bt487 => ((laws_eqNodeS.f k bt487.1 x4).bind fun t491 => (if t491 = true then (laws_FnExactTreeOf.j2 k bt479.2 bt479.1 (bt487.2 != x5)) else (laws_FnExactTreeOf.j2 k bt479.2 bt479.1 true))))) else (some false)))))
def laws_FnExactTreeOf.j2 : Nat → List (S102) → Int → Bool → Option (Bool)
 | 0, _, _, _ => none
 | k + 1, x7, x10, x87 => if x87 = true then (some false) else ((laws_heldNodeS.f k x7 1).bind fun t492 => (if t492 < 0 then (some false) else (if t492 = x10 then (some true) else (some false))))
end
def laws_FnExactTreeOf.f (k : Nat) (a0_0 : Int) (a0_1 : Int) (l0_2 : List (S42)) : Option (Bool) := (laws_szFixed.f a0_0 a0_1 l0_2 1048576).bind fun t449 => (if t449 < 0 then (some true) else ((laws_toFixed.f k a0_0 a0_1 l0_2).bind fun bt450 => ((spec_TreeOf.f k bt450.1 bt450.2.1 bt450.2.2).bind fun bt455 => ((laws_toFixed.f k a0_0 a0_1 l0_2).bind fun bt459 => ((impl_TreeOf.f k bt459.1 bt459.2.1 bt459.2.2).bind fun bt465 => ((laws_eqNodeS.f k bt465.1 bt455.1).bind fun t469 => (if t469 = true then (laws_FnExactTreeOf.j0 k bt455.1 bt455.2 bt465.1 bt465.2 (bt465.2 != bt455.2) a0_0 a0_1 l0_2 bt459.1 bt459.2.1 bt459.2.2) else (laws_FnExactTreeOf.j0 k bt455.1 bt455.2 bt465.1 bt465.2 true a0_0 a0_1 l0_2 bt459.1 bt459.2.1 bt459.2.2))))))))
set_option maxHeartbeats 8000000 in
set_option maxRecDepth 100000 in
theorem laws_FnExactTreeOf.calls (k : Nat) (a0_0 : Int) (a0_1 : Int) (A0_2 : Option Addr) (c0_2 : Nat) (l0_2 : List (S42)) (r : Bool) (w : World) (hr0_2 : Kd.C k42 w A0_2 l0_2.length l0_2) (hc0_2 : l0_2.length ≤ c0_2) (h : laws_FnExactTreeOf.f k a0_0 a0_1 l0_2 = some r) :
  Calls Try.prog 5 #[.agg #[.int .i8 a0_0, .int .i8 a0_1, .slice A0_2 l0_2.length c0_2]] w fun e w' => e = .returned (.bool r) ∧ Below w.heap.size w w' := by
 have hu67 := Try.underlying67
 have hu28 := Try.underlying28
 have HR0_2 := ze.mk hr0_2
 have HC0_2 := ze.mk hc0_2
 clear hr0_2 hc0_2
 have HB := ze.mk (Below.refl w.heap.size w)
 have H : ((laws_szFixed.f a0_0 a0_1 l0_2 1048576).bind fun t449 => (if t449 < 0 then (some true) else ((laws_toFixed.f k a0_0 a0_1 l0_2).bind fun bt450 => ((spec_TreeOf.f k bt450.1 bt450.2.1 bt450.2.2).bind fun bt455 => ((laws_toFixed.f k a0_0 a0_1 l0_2).bind fun bt459 => ((impl_TreeOf.f k bt459.1 bt459.2.1 bt459.2.2).bind fun bt465 => ((laws_eqNodeS.f k bt465.1 bt455.1).bind fun t469 => (if t469 = true then (laws_FnExactTreeOf.j0 k bt455.1 bt455.2 bt465.1 bt465.2 (bt465.2 != bt455.2) a0_0 a0_1 l0_2 bt459.1 bt459.2.1 bt459.2.2) else (laws_FnExactTreeOf.j0 k bt455.1 bt455.2 bt465.1 bt465.2 true a0_0 a0_1 l0_2 bt459.1 bt459.2.1 bt459.2.2))))))))) = some r := h
 clear h
 replace H := Option.bind_eq_some_iff.mp H
 obtain ⟨t449, A20, H⟩ := H
 replace H : (if t449 < 0 then (some true) else ((laws_toFixed.f k a0_0 a0_1 l0_2).bind fun bt450 => ((spec_TreeOf.f k bt450.1 bt450.2.1 bt450.2.2).bind fun bt455 => ((laws_toFixed.f k a0_0 a0_1 l0_2).bind fun bt459 => ((impl_TreeOf.f k bt459.1 bt459.2.1 bt459.2.2).bind fun bt465 => ((laws_eqNodeS.f k bt465.1 bt455.1).bind fun t469 => (if t469 = true then (laws_FnExactTreeOf.j0 k bt455.1 bt455.2 bt465.1 bt465.2 (bt465.2 != bt455.2) a0_0 a0_1 l0_2 bt459.1 bt459.2.1 bt459.2.2) else (laws_FnExactTreeOf.j0 k bt455.1 bt455.2 bt465.1 bt465.2 true a0_0 a0_1 l0_2 bt459.1 bt459.2.1 bt459.2.2)))))))) = some r := H
 have A2 := ze.mk A20
 clear A20
 by_cases c3 : t449 < 0
 ·rw [if_pos c3] at H
  have c3b0 : decide (t449 < 0) = true := decide_eq_true c3
  clear c3
  obtain rfl := Option.some.inj H
  go_enter Try.func5, Try.ntmps5
  go_wp2_with (first | ((with_reducible refine zu (N := 1) rfl ?_); refine zr ?hg (N := 1) ?hd (cs := #[.int .i8 a0_0, .int .i8 a0_1, .slice A0_2 l0_2.length c0_2]) (t := 67) ?hr ?_; (case hd => rfl); (case hg => rfl); (case hr => first | (go_simp; done) | (go_simp; rfl)); intro gb448 hg w4 hbox hb; obtain ⟨n0_, n2_⟩ := bx (by repeat (first | (with_reducible first | exact HB.out | apply zg | apply zc | apply zf) | exact HB.out)) hb hg; have n1_ := ze.mk (hbox); have n3_ := n2_; clear HB; have HB := n0_; have BK448 := n1_; have GW448 := n2_; have GE448 := n3_; clear n0_ n1_ n2_ n3_; clear hb hbox hg; obtain ⟨y1_0, y1_1, y1_2, z1_0, z1_1, z1_2⟩ := cf3 BK448.out) | ((with_reducible refine zs (f := 32) rfl ?_); refine zda (some 16) rfl rfl Try.func32 (by kernel_rfl) rfl #[.agg #[.int .i8 a0_0, .int .i8 a0_1, .slice A0_2 l0_2.length c0_2], .int .i64 1048576] rfl (by (try simp only [List.map_toArray, List.map_cons, List.map_nil]); first | done | rfl | (simp only [List.length_drop, List.length_take]; rfl)) ?_; (with_reducible refine (laws_szFixed.calls a0_0 a0_1 _ _ l0_2 1048576 t449 _ ?side1 ?side2 A2.out).mono ?_); (case side1 => repeat (first | exact (Kd.C_below HR0_2.out HB.out) | (with_reducible refine Kd.C_alloc ?_ _) | (with_reducible refine Kd.C_drewN ?_ _) | (with_reducible refine Kd.C_drew ?_))); (case side2 => exact HC0_2.out); rintro e w6 ⟨rfl, hb⟩; refine ⟨_, rfl, ?_⟩; have n0_ := ze.mk (zk (by (with_reducible repeat (first | refine zb ?_ _ | refine zd ?_ | refine za ?_ _)); exact BK448.out) hb); have n1_ := ze.mk (zt (by repeat (first | (with_reducible first | exact HB.out | apply zg | apply zc | apply zf | refine zi ?_ GE448.out) | exact HB.out)) hb); clear BK448; clear HB; have BK448 := n0_; have HB := n1_; clear n0_ n1_; (try clear hb); (try clear hb2); (try clear hk); (try clear hi)))
  go_ret
  exact ⟨by first | rfl | (simp [zn, zm] <;> rfl) | (simp [*, zn, zm] <;> rfl), by repeat (first | (with_reducible first | exact HB.out | apply zg | apply zc | apply zf | refine zi ?_ GE448.out) | exact HB.out)⟩
 rw [if_neg c3] at H
 have c3b0 : decide (t449 < 0) = false := decide_eq_false c3
 clear c3
 replace H := Option.bind_eq_some_iff.mp H
 obtain ⟨⟨t450, t451, t452⟩, A70, H⟩ := H
 replace H : ((spec_TreeOf.f k t450 t451 t452).bind fun bt455 => ((laws_toFixed.f k a0_0 a0_1 l0_2).bind fun bt459 => ((impl_TreeOf.f k bt459.1 bt459.2.1 bt459.2.2).bind fun bt465 => ((laws_eqNodeS.f k bt465.1 bt455.1).bind fun t469 => (if t469 = true then (laws_FnExactTreeOf.j0 k bt455.1 bt455.2 bt465.1 bt465.2 (bt465.2 != bt455.2) a0_0 a0_1 l0_2 bt459.1 bt459.2.1 bt459.2.2) else (laws_FnExactTreeOf.j0 k bt455.1 bt455.2 bt465.1 bt465.2 true a0_0 a0_1 l0_2 bt459.1 bt459.2.1 bt459.2.2)))))) = some r := H
 have A7 := ze.mk A70
 clear A70
 replace H := Option.bind_eq_some_iff.mp H
 obtain ⟨⟨t455, t458⟩, A80, H⟩ := H
 replace H : ((laws_toFixed.f k a0_0 a0_1 l0_2).bind fun bt459 => ((impl_TreeOf.f k bt459.1 bt459.2.1 bt459.2.2).bind fun bt465 => ((laws_eqNodeS.f k bt465.1 t455).bind fun t469 => (if t469 = true then (laws_FnExactTreeOf.j0 k t455 t458 bt465.1 bt465.2 (bt465.2 != t458) a0_0 a0_1 l0_2 bt459.1 bt459.2.1 bt459.2.2) else (laws_FnExactTreeOf.j0 k t455 t458 bt465.1 bt465.2 true a0_0 a0_1 l0_2 bt459.1 bt459.2.1 bt459.2.2))))) = some r := H
 have A8 := ze.mk A80
 clear A80
 replace H := Option.bind_eq_some_iff.mp H
 obtain ⟨⟨t459, t460, t461⟩, A90, H⟩ := H
 replace H : ((impl_TreeOf.f k t459 t460 t461).bind fun bt465 => ((laws_eqNodeS.f k bt465.1 t455).bind fun t469 => (if t469 = true then (laws_FnExactTreeOf.j0 k t455 t458 bt465.1 bt465.2 (bt465.2 != t458) a0_0 a0_1 l0_2 t459 t460 t461) else (laws_FnExactTreeOf.j0 k t455 t458 bt465.1 bt465.2 true a0_0 a0_1 l0_2 t459 t460 t461)))) = some r := H
 have A9 := ze.mk A90
 clear A90
 replace H := Option.bind_eq_some_iff.mp H
 obtain ⟨⟨t465, t468⟩, A100, H⟩ := H
 replace H : ((laws_eqNodeS.f k t465 t455).bind fun t469 => (if t469 = true then (laws_FnExactTreeOf.j0 k t455 t458 t465 t468 (t468 != t458) a0_0 a0_1 l0_2 t459 t460 t461) else (laws_FnExactTreeOf.j0 k t455 t458 t465 t468 true a0_0 a0_1 l0_2 t459 t460 t461))) = some r := H
 have A10 := ze.mk A100
 clear A100
 have HC11 := ze.mk H
 clear H
 go_enter Try.func5, Try.ntmps5
 go_upto_region 8 with (first | ((with_reducible refine zu (N := 1) rfl ?_); refine zr ?hg (N := 1) ?hd (cs := #[.int .i8 a0_0, .int .i8 a0_1, .slice A0_2 l0_2.length c0_2]) (t := 67) ?hr ?_; (case hd => rfl); (case hg => rfl); (case hr => first | (go_simp; done) | (go_simp; rfl)); intro gb448 hg w12 hbox hb; obtain ⟨n0_, n2_⟩ := bx (by repeat (first | (with_reducible first | exact HB.out | apply zg | apply zc | apply zf) | exact HB.out)) hb hg; have n1_ := ze.mk (hbox); have n3_ := n2_; clear HB; have HB := n0_; have BK448 := n1_; have GW448 := n2_; have GE448 := n3_; clear n0_ n1_ n2_ n3_; clear hb hbox hg; obtain ⟨y2_0, y2_1, y2_2, z2_0, z2_1, z2_2⟩ := cf3 BK448.out) | ((with_reducible refine zs (f := 32) rfl ?_); refine zda (some 16) rfl rfl Try.func32 (by kernel_rfl) rfl #[.agg #[.int .i8 a0_0, .int .i8 a0_1, .slice A0_2 l0_2.length c0_2], .int .i64 1048576] rfl (by (try simp only [List.map_toArray, List.map_cons, List.map_nil]); first | done | rfl | (simp only [List.length_drop, List.length_take]; rfl)) ?_; (with_reducible refine (laws_szFixed.calls a0_0 a0_1 _ _ l0_2 1048576 t449 _ ?side1 ?side2 A2.out).mono ?_); (case side1 => repeat (first | exact (Kd.C_below HR0_2.out HB.out) | (with_reducible refine Kd.C_alloc ?_ _) | (with_reducible refine Kd.C_drewN ?_ _) | (with_reducible refine Kd.C_drew ?_))); (case side2 => exact HC0_2.out); rintro e w14 ⟨rfl, hb⟩; refine ⟨_, rfl, ?_⟩; have n0_ := ze.mk (zk (by (with_reducible repeat (first | refine zb ?_ _ | refine zd ?_ | refine za ?_ _)); exact BK448.out) hb); have n1_ := ze.mk (zt (by repeat (first | (with_reducible first | exact HB.out | apply zg | apply zc | apply zf | refine zi ?_ GE448.out) | exact HB.out)) hb); clear BK448; clear HB; have BK448 := n0_; have HB := n1_; clear n0_ n1_; (try clear hb); (try clear hb2); (try clear hk); (try clear hi); obtain ⟨y3_0, y3_1, y3_2, z3_0, z3_1, z3_2⟩ := cf3 BK448.out) | ((with_reducible refine zs (f := 33) rfl ?_); refine zda (some 21) rfl rfl Try.func33 (by kernel_rfl) rfl #[.agg #[.int .i8 a0_0, .int .i8 a0_1, .slice A0_2 l0_2.length c0_2]] rfl (by (try simp only [List.map_toArray, List.map_cons, List.map_nil]); first | done | rfl | (simp only [List.length_drop, List.length_take]; rfl)) ?_; (with_reducible refine (laws_toFixed.calls k a0_0 a0_1 _ _ l0_2 t450 t451 t452 _ ?side1 ?side2 A7.out).mono ?_); (case side1 => repeat (first | exact (Kd.C_below HR0_2.out HB.out) | (with_reducible refine Kd.C_alloc ?_ _) | (with_reducible refine Kd.C_drewN ?_ _) | (with_reducible refine Kd.C_drew ?_))); (case side2 => exact HC0_2.out); rintro e w16 ⟨v453, rfl, ho0, hb⟩; refine ⟨_, rfl, ?_⟩; have n0_ := ze.mk (Kd.R_lower ho0 (zaa (by repeat (first | (with_reducible first | exact HB.out | apply zg | apply zc | apply zf | refine zi ?_ GE448.out) | exact HB.out)))); have n1_ := ze.mk (zk (by (with_reducible repeat (first | refine zb ?_ _ | refine zd ?_ | refine za ?_ _)); exact BK448.out) hb); have n2_ := ze.mk (zt (by repeat (first | (with_reducible first | exact HB.out | apply zg | apply zc | apply zf | refine zi ?_ GE448.out) | exact HB.out)) hb); clear BK448; clear HB; have HO454 := n0_; have BK448 := n1_; have HB := n2_; clear n0_ n1_ n2_; (try clear hb); (try clear hb2); (try clear hk); (try clear hi); (try clear ho0); obtain ⟨Ao17, co17, eo17⟩ := Kd.R_slice HO454.out; subst eo17) | ((with_reducible refine zs (f := 22) rfl ?_); refine zda (some 22) rfl rfl Try.func22 (by kernel_rfl) rfl #[.agg #[.int .i8 t450, .int .i8 t451, .slice Ao17 t452.length co17]] rfl (by (try simp only [List.map_toArray, List.map_cons, List.map_nil]); first | done | rfl | (simp only [List.length_drop, List.length_take]; rfl)) ?_; (with_reducible refine (spec_TreeOf.calls k t450 t451 _ _ t452 t455 t458 _ ?side1 ?side2 A8.out).mono ?_); (case side1 => repeat (first | exact (Kd.R_reads' HO454.out).2.2 | (with_reducible refine Kd.C_alloc ?_ _) | (with_reducible refine Kd.C_drewN ?_ _) | (with_reducible refine Kd.C_drew ?_))); (case side2 => exact (Kd.R_reads' HO454.out).2.1); rintro e w18 ⟨v456, rfl, ho0, hb⟩; refine ⟨_, rfl, ?_⟩; have n0_ := ze.mk (Kd.R_below (by (with_reducible repeat (first | apply Kd.R_alloc | apply Kd.R_drewN | apply Kd.R_drew)); exact HO454.out) hb); have n1_ := ze.mk (Kd.R_lower ho0 (zaa (by repeat (first | (with_reducible first | exact HB.out | apply zg | apply zc | apply zf | refine zi ?_ GE448.out) | exact HB.out)))); have n2_ := ze.mk (zk (by (with_reducible repeat (first | refine zb ?_ _ | refine zd ?_ | refine za ?_ _)); exact BK448.out) hb); have n3_ := ze.mk (zt (by repeat (first | (with_reducible first | exact HB.out | apply zg | apply zc | apply zf | refine zi ?_ GE448.out) | exact HB.out)) hb); clear HO454; clear BK448; clear HB; have HO454 := n0_; have HO457 := n1_; have BK448 := n2_; have HB := n3_; clear n0_ n1_ n2_ n3_; (try clear hb); (try clear hb2); (try clear hk); (try clear hi); (try clear ho0); obtain ⟨y4_0, y4_1, y4_2, z4_0, z4_1, z4_2⟩ := cf3 BK448.out) | ((with_reducible refine zs (f := 33) rfl ?_); refine zda (some 26) rfl rfl Try.func33 (by kernel_rfl) rfl #[.agg #[.int .i8 a0_0, .int .i8 a0_1, .slice A0_2 l0_2.length c0_2]] rfl (by (try simp only [List.map_toArray, List.map_cons, List.map_nil]); first | done | rfl | (simp only [List.length_drop, List.length_take]; rfl)) ?_; (with_reducible refine (laws_toFixed.calls k a0_0 a0_1 _ _ l0_2 t459 t460 t461 _ ?side1 ?side2 A9.out).mono ?_); (case side1 => repeat (first | exact (Kd.C_below HR0_2.out HB.out) | (with_reducible refine Kd.C_alloc ?_ _) | (with_reducible refine Kd.C_drewN ?_ _) | (with_reducible refine Kd.C_drew ?_))); (case side2 => exact HC0_2.out); rintro e w20 ⟨v462, rfl, ho0, hb⟩; refine ⟨_, rfl, ?_⟩; have n0_ := ze.mk (Kd.R_elder' (by (with_reducible repeat (first | apply Kd.R_alloc | apply Kd.R_drewN | apply Kd.R_drew)); exact HO454.out) (Kd.R_base ho0) hb); have n1_ := ze.mk (Kd.R_below (by (with_reducible repeat (first | apply Kd.R_alloc | apply Kd.R_drewN | apply Kd.R_drew)); exact HO457.out) hb); have n2_ := ze.mk (Kd.R_lower (Kd.R_new' ho0 (Kd.R_lt (by (with_reducible repeat (first | apply Kd.R_alloc | apply Kd.R_drewN | apply Kd.R_drew)); exact HO454.out))) (zaa (by repeat (first | (with_reducible first | exact HB.out | apply zg | apply zc | apply zf | refine zi ?_ GE448.out) | exact HB.out)))); have n3_ := ze.mk (zk (by (with_reducible repeat (first | refine zb ?_ _ | refine zd ?_ | refine za ?_ _)); exact BK448.out) hb); have n4_ := ze.mk (zt (by repeat (first | (with_reducible first | exact HB.out | apply zg | apply zc | apply zf | refine zi ?_ GE448.out) | exact HB.out)) hb); clear HO454; clear HO457; clear BK448; clear HB; have HO454 := n0_; have HO457 := n1_; have HO463 := n2_; have BK448 := n3_; have HB := n4_; clear n0_ n1_ n2_ n3_ n4_; (try clear hb); (try clear hb2); (try clear hk); (try clear hi); (try clear ho0)) | ((with_reducible refine zu (N := 6) rfl ?_); refine zr ?hg (N := 6) ?hd (cs := #[.int .i8 0, .int .i8 0, .slice none 0 0]) (t := 28) ?hr ?_; (case hd => rfl); (case hg => rfl); (case hr => first | (go_simp; done) | (go_simp; rfl)); intro gb464 hg w21 hbox hb; have n0_ := ze.mk (Kd.R_below (by (with_reducible repeat (first | apply Kd.R_alloc | apply Kd.R_drewN | apply Kd.R_drew)); exact HO454.out) hb); have n1_ := ze.mk (Kd.R_below (by (with_reducible repeat (first | apply Kd.R_alloc | apply Kd.R_drewN | apply Kd.R_drew)); exact HO457.out) hb); have n2_ := ze.mk (Kd.R_below (by (with_reducible repeat (first | apply Kd.R_alloc | apply Kd.R_drewN | apply Kd.R_drew)); exact HO463.out) hb); have n3_ := ze.mk (zk (by (with_reducible repeat (first | refine zb ?_ _ | refine zd ?_ | refine za ?_ _)); exact BK448.out) hb); obtain ⟨n4_, n6_⟩ := bx (by repeat (first | (with_reducible first | exact HB.out | apply zg | apply zc | apply zf | refine zi ?_ GE448.out) | exact HB.out)) hb hg; have n5_ := ze.mk (hbox); have n7_ := n6_; have n8_ := ze.mk ((by rw [hg]; exact Nat.ne_of_lt (zba (by (with_reducible repeat (first | refine zb ?_ _ | refine zd ?_ | refine za ?_ _)); exact BK448.out)) : gb448 ≠ gb464)); have n9_ := ze.mk n8_.out.symm; clear HO454; clear HO457; clear HO463; clear BK448; clear HB; have HO454 := n0_; have HO457 := n1_; have HO463 := n2_; have BK448 := n3_; have HB := n4_; have BK464 := n5_; have GW464 := n6_; have GE464 := n7_; have NB448_464 := n8_; have NB464_448 := n9_; clear n0_ n1_ n2_ n3_ n4_ n5_ n6_ n7_ n8_ n9_; clear hb hbox hg; have hnb22 := NB464_448.out; have hnc22 := NB448_464.out; obtain ⟨y5_0, y5_1, y5_2, z5_0, z5_1, z5_2⟩ := cf3 BK464.out; obtain ⟨Ao24, co24, eo24⟩ := Kd.R_slice HO463.out; subst eo24) | ((with_reducible refine zs (f := 21) rfl ?_); refine zda (some 29) rfl rfl Try.func21 (by kernel_rfl) rfl #[.agg #[.int .i8 t459, .int .i8 t460, .slice Ao24 t461.length co24]] rfl (by (try simp only [List.map_toArray, List.map_cons, List.map_nil]); first | done | rfl | (simp only [List.length_drop, List.length_take]; rfl)) ?_; (with_reducible refine (impl_TreeOf.calls k t459 t460 _ _ t461 t465 t468 _ ?side1 ?side2 A10.out).mono ?_); (case side1 => refine (Kd.R_reads' (e := 43) (base := w.heap.size) (ok := fun k_ => (True ∧ some k_ ≠ (.slice Ao17 t452.length co17 : Value).ownBlock)) (n := t461.length) (c := co24) ?_).2.2; exact (by (with_reducible repeat (first | apply Kd.R_alloc | apply Kd.R_drewN | apply Kd.R_drew)); exact (Kd.R_mono (Kd.R_far (p := ⟨gb464, 2, none⟩) (Kd.R_far (p := ⟨gb464, 1, none⟩) (Kd.R_far (p := ⟨gb464, 0, none⟩) (Kd.R_types HO463.out BK464.out (by decide)) (fun _ hk => hk.2) (.int .i8 t459)) (fun _ hk => hk.2) (.int .i8 t460)) (fun _ hk => hk.2) (.slice Ao24 t461.length co24)) (fun _ h_ => h_.1)))); (case side2 => exact (Kd.R_reads' HO463.out).2.1); rintro e w25 ⟨v466, rfl, ho0, hb⟩; refine ⟨_, rfl, ?_⟩; have n0_ := ze.mk (Kd.R_below (by (with_reducible repeat (first | apply Kd.R_alloc | apply Kd.R_drewN | apply Kd.R_drew)); exact (Kd.R_mono (Kd.R_far (p := ⟨gb464, 2, none⟩) (Kd.R_far (p := ⟨gb464, 1, none⟩) (Kd.R_far (p := ⟨gb464, 0, none⟩) (Kd.R_types HO454.out BK464.out (by decide)) (fun _ hk => hk.2) (.int .i8 t459)) (fun _ hk => hk.2) (.int .i8 t460)) (fun _ hk => hk.2) (.slice Ao24 t461.length co24)) (fun _ h_ => h_.1))) hb); have n1_ := ze.mk (Kd.R_elder' (by (with_reducible repeat (first | apply Kd.R_alloc | apply Kd.R_drewN | apply Kd.R_drew)); exact (Kd.R_mono (Kd.R_far (p := ⟨gb464, 2, none⟩) (Kd.R_far (p := ⟨gb464, 1, none⟩) (Kd.R_far (p := ⟨gb464, 0, none⟩) (Kd.R_types HO457.out BK464.out (by decide)) (fun _ hk => hk.2) (.int .i8 t459)) (fun _ hk => hk.2) (.int .i8 t460)) (fun _ hk => hk.2) (.slice Ao24 t461.length co24)) (fun _ h_ => h_.1))) (Kd.R_base ho0) hb); have n2_ := ze.mk (Kd.R_below (by (with_reducible repeat (first | apply Kd.R_alloc | apply Kd.R_drewN | apply Kd.R_drew)); exact (Kd.R_mono (Kd.R_far (p := ⟨gb464, 2, none⟩) (Kd.R_far (p := ⟨gb464, 1, none⟩) (Kd.R_far (p := ⟨gb464, 0, none⟩) (Kd.R_types HO463.out BK464.out (by decide)) (fun _ hk => hk.2) (.int .i8 t459)) (fun _ hk => hk.2) (.int .i8 t460)) (fun _ hk => hk.2) (.slice Ao24 t461.length co24)) (fun _ h_ => h_.1))) hb); have n3_ := ze.mk (Kd.R_lower (Kd.R_new' ho0 (Kd.R_lt (by (with_reducible repeat (first | apply Kd.R_alloc | apply Kd.R_drewN | apply Kd.R_drew)); exact (Kd.R_mono (Kd.R_far (p := ⟨gb464, 2, none⟩) (Kd.R_far (p := ⟨gb464, 1, none⟩) (Kd.R_far (p := ⟨gb464, 0, none⟩) (Kd.R_types HO457.out BK464.out (by decide)) (fun _ hk => hk.2) (.int .i8 t459)) (fun _ hk => hk.2) (.int .i8 t460)) (fun _ hk => hk.2) (.slice Ao24 t461.length co24)) (fun _ h_ => h_.1))))) (zaa (by repeat (first | (with_reducible first | exact HB.out | apply zg | apply zc | apply zf | refine zi ?_ GE448.out | refine zi ?_ GE464.out) | exact HB.out)))); have n4_ := ze.mk (zk (g := gb448) (o := .cells #[.int .i8 a0_0, .int .i8 a0_1, .slice A0_2 l0_2.length c0_2] 67 (0, 0)) (by (with_reducible repeat (first | refine zb ?_ _ | refine zd ?_ | refine za ?_ _)); refine zq ?_ NB448_464.out _; (with_reducible repeat (first | refine zb ?_ _ | refine zd ?_ | refine za ?_ _)); refine zq ?_ NB448_464.out _; (with_reducible repeat (first | refine zb ?_ _ | refine zd ?_ | refine za ?_ _)); refine zq ?_ NB448_464.out _; (with_reducible repeat (first | refine zb ?_ _ | refine zd ?_ | refine za ?_ _)); exact BK448.out) hb); have n5_ := ze.mk (zk (g := gb464) (o := .cells #[.int .i8 t459, .int .i8 t460, .slice Ao24 t461.length co24] 28 (0, 0)) (by (with_reducible repeat (first | refine zb ?_ _ | refine zd ?_ | refine za ?_ _)); refine zp (cs := #[.int .i8 t459, .int .i8 t460, .slice none 0 0]) ?_ 2 _ rfl; (with_reducible repeat (first | refine zb ?_ _ | refine zd ?_ | refine za ?_ _)); refine zp (cs := #[.int .i8 t459, .int .i8 0, .slice none 0 0]) ?_ 1 _ rfl; (with_reducible repeat (first | refine zb ?_ _ | refine zd ?_ | refine za ?_ _)); refine zp (cs := #[.int .i8 0, .int .i8 0, .slice none 0 0]) ?_ 0 _ rfl; (with_reducible repeat (first | refine zb ?_ _ | refine zd ?_ | refine za ?_ _)); exact BK464.out) hb); have n6_ := ze.mk (zt (by repeat (first | (with_reducible first | exact HB.out | apply zg | apply zc | apply zf | refine zi ?_ GE448.out | refine zi ?_ GE464.out) | exact HB.out)) hb); clear HO454; clear HO457; clear HO463; clear BK448; clear BK464; clear HB; have HO454 := n0_; have HO457 := n1_; have HO463 := n2_; have HO467 := n3_; have BK448 := n4_; have BK464 := n5_; have HB := n6_; clear n0_ n1_ n2_ n3_ n4_ n5_ n6_; (try clear hb); (try clear hb2); (try clear hk); (try clear hi); (try clear ho0)))
 (try simp only [Act.put, List.setIfInBounds_toArray, List.set_cons_zero, List.set_cons_succ])
 go_cut [40] (fun v40 wc => ∃ (kq : Nat) (x40_10 : Bool), v40 = .bool x40_10 ∧ ze (laws_FnExactTreeOf.j0 kq t455 t458 t465 t468 x40_10 a0_0 a0_1 l0_2 t459 t460 t461 = some r) ∧ ze (kq ≤ k) ∧ ze (Kd.R k102 102 wc w.heap.size (fun k_ => some k_ ≠ (v466 : Value).ownBlock) v456 t455) ∧ ze (Kd.R k102 102 wc w.heap.size (fun k_ => some k_ ≠ (v456 : Value).ownBlock) v466 t465) ∧ ze (Kd.R k43 43 wc w.heap.size (fun _ => True) (.slice Ao24 t461.length co24) t461) ∧ ze (wc.heap[gb448]? = some (.cells #[.int .i8 a0_0, .int .i8 a0_1, (.slice A0_2 l0_2.length c0_2)] 67 (0, 0))) ∧ ze (wc.heap[gb464]? = some (.cells #[.int .i8 t459, .int .i8 t460, (.slice Ao24 t461.length co24)] 28 (0, 0))) ∧ ze (Below w.heap.size w wc))
 case first =>
  have H := HC11.out
  clear HC11
  replace H := Option.bind_eq_some_iff.mp H
  obtain ⟨t469, A260, H⟩ := H
  replace H : (if t469 = true then (laws_FnExactTreeOf.j0 k t455 t458 t465 t468 (t468 != t458) a0_0 a0_1 l0_2 t459 t460 t461) else (laws_FnExactTreeOf.j0 k t455 t458 t465 t468 true a0_0 a0_1 l0_2 t459 t460 t461)) = some r := H
  have A26 := ze.mk A260
  clear A260
  by_cases c27 : t469 = true
  ·subst c27
   have H1 : (laws_FnExactTreeOf.j0 k t455 t458 t465 t468 (t468 != t458) a0_0 a0_1 l0_2 t459 t460 t461) = some r := by rw [if_pos rfl] at H; exact H
   clear H
   have H := H1
   clear H1
   have H' := ze.mk H
   clear H
   obtain ⟨Ao28, co28, eo28⟩ := Kd.R_slice HO467.out
   subst eo28
   obtain ⟨Ao29, co29, eo29⟩ := Kd.R_slice HO457.out
   subst eo29
   go_wp2_with (first | ((with_reducible refine zs (f := 34) rfl ?_); refine zda (some 34) rfl rfl Try.func34 (by kernel_rfl) rfl #[.slice Ao28 t465.length co28, .slice Ao29 t455.length co29] rfl (by (try simp only [List.map_toArray, List.map_cons, List.map_nil]); first | done | rfl | (simp only [List.length_drop, List.length_take]; rfl)) ?_; (with_reducible refine (laws_eqNodeS.calls k _ _ t465 _ _ t455 true _ ?side1 ?side2 ?side3 ?side4 A26.out).mono ?_); (case side1 => repeat (first | exact (Kd.R_reads' HO467.out).2.2 | (with_reducible refine Kd.C_alloc ?_ _) | (with_reducible refine Kd.C_drewN ?_ _) | (with_reducible refine Kd.C_drew ?_))); (case side2 => exact (Kd.R_reads' HO467.out).2.1); (case side3 => repeat (first | exact (Kd.R_reads' HO457.out).2.2 | (with_reducible refine Kd.C_alloc ?_ _) | (with_reducible refine Kd.C_drewN ?_ _) | (with_reducible refine Kd.C_drew ?_))); (case side4 => exact (Kd.R_reads' HO457.out).2.1); rintro e w30 ⟨rfl, hb⟩; refine ⟨_, rfl, ?_⟩; have n0_ := ze.mk (Kd.R_below (by (with_reducible repeat (first | apply Kd.R_alloc | apply Kd.R_drewN | apply Kd.R_drew)); exact HO454.out) hb); have n1_ := ze.mk (Kd.R_below (by (with_reducible repeat (first | apply Kd.R_alloc | apply Kd.R_drewN | apply Kd.R_drew)); exact HO457.out) hb); have n2_ := ze.mk (Kd.R_below (by (with_reducible repeat (first | apply Kd.R_alloc | apply Kd.R_drewN | apply Kd.R_drew)); exact HO463.out) hb); have n3_ := ze.mk (Kd.R_below (by (with_reducible repeat (first | apply Kd.R_alloc | apply Kd.R_drewN | apply Kd.R_drew)); exact HO467.out) hb); have n4_ := ze.mk (zk (by (with_reducible repeat (first | refine zb ?_ _ | refine zd ?_ | refine za ?_ _)); exact BK448.out) hb); have n5_ := ze.mk (zk (by (with_reducible repeat (first | refine zb ?_ _ | refine zd ?_ | refine za ?_ _)); exact BK464.out) hb); have n6_ := ze.mk (zt (by repeat (first | (with_reducible first | exact HB.out | apply zg | apply zc | apply zf | refine zi ?_ GE448.out | refine zi ?_ GE464.out) | exact HB.out)) hb); clear HO454; clear HO457; clear HO463; clear HO467; clear BK448; clear BK464; clear HB; have HO454 := n0_; have HO457 := n1_; have HO463 := n2_; have HO467 := n3_; have BK448 := n4_; have BK464 := n5_; have HB := n6_; clear n0_ n1_ n2_ n3_ n4_ n5_ n6_; (try clear hb); (try clear hb2); (try clear hk); (try clear hi)))
   go_meet
   case rel => exact ⟨_, ((t468 != t458)), (by first | rfl | (simp; done) | (simp [*]; done)), H', ⟨by first | omega | exact Nat.le_refl _⟩, ⟨by (with_reducible repeat (first | apply Kd.R_alloc | apply Kd.R_drewN | apply Kd.R_drew)); exact Kd.R_mono HO457.out (fun _ hk => hk.2)⟩, ⟨by (with_reducible repeat (first | apply Kd.R_alloc | apply Kd.R_drewN | apply Kd.R_drew)); exact Kd.R_mono HO467.out (fun _ hk => hk.2)⟩, ⟨by (with_reducible repeat (first | apply Kd.R_alloc | apply Kd.R_drewN | apply Kd.R_drew)); exact Kd.R_mono HO463.out (fun _ hk => trivial)⟩, ⟨by (with_reducible repeat (first | refine zb ?_ _ | refine zd ?_ | refine za ?_ _)); exact BK448.out⟩, ⟨by (with_reducible repeat (first | refine zb ?_ _ | refine zd ?_ | refine za ?_ _)); exact BK464.out⟩, ⟨by repeat (first | (with_reducible first | exact HB.out | apply zg | apply zc | apply zf | refine zi ?_ GE448.out | refine zi ?_ GE464.out) | exact HB.out)⟩⟩
  replace c27 := Bool.eq_false_iff.mpr c27
  subst c27
  have H1 : (laws_FnExactTreeOf.j0 k t455 t458 t465 t468 true a0_0 a0_1 l0_2 t459 t460 t461) = some r := by rw [if_neg (show ¬ (false = true) by decide)] at H; exact H
  clear H
  have H := H1
  clear H1
  have H' := ze.mk H
  clear H
  obtain ⟨Ao31, co31, eo31⟩ := Kd.R_slice HO467.out
  subst eo31
  obtain ⟨Ao32, co32, eo32⟩ := Kd.R_slice HO457.out
  subst eo32
  go_wp2_with (first | ((with_reducible refine zs (f := 34) rfl ?_); refine zda (some 34) rfl rfl Try.func34 (by kernel_rfl) rfl #[.slice Ao31 t465.length co31, .slice Ao32 t455.length co32] rfl (by (try simp only [List.map_toArray, List.map_cons, List.map_nil]); first | done | rfl | (simp only [List.length_drop, List.length_take]; rfl)) ?_; (with_reducible refine (laws_eqNodeS.calls k _ _ t465 _ _ t455 false _ ?side1 ?side2 ?side3 ?side4 A26.out).mono ?_); (case side1 => repeat (first | exact (Kd.R_reads' HO467.out).2.2 | (with_reducible refine Kd.C_alloc ?_ _) | (with_reducible refine Kd.C_drewN ?_ _) | (with_reducible refine Kd.C_drew ?_))); (case side2 => exact (Kd.R_reads' HO467.out).2.1); (case side3 => repeat (first | exact (Kd.R_reads' HO457.out).2.2 | (with_reducible refine Kd.C_alloc ?_ _) | (with_reducible refine Kd.C_drewN ?_ _) | (with_reducible refine Kd.C_drew ?_))); (case side4 => exact (Kd.R_reads' HO457.out).2.1); rintro e w33 ⟨rfl, hb⟩; refine ⟨_, rfl, ?_⟩; have n0_ := ze.mk (Kd.R_below (by (with_reducible repeat (first | apply Kd.R_alloc | apply Kd.R_drewN | apply Kd.R_drew)); exact HO454.out) hb); have n1_ := ze.mk (Kd.R_below (by (with_reducible repeat (first | apply Kd.R_alloc | apply Kd.R_drewN | apply Kd.R_drew)); exact HO457.out) hb); have n2_ := ze.mk (Kd.R_below (by (with_reducible repeat (first | apply Kd.R_alloc | apply Kd.R_drewN | apply Kd.R_drew)); exact HO463.out) hb); have n3_ := ze.mk (Kd.R_below (by (with_reducible repeat (first | apply Kd.R_alloc | apply Kd.R_drewN | apply Kd.R_drew)); exact HO467.out) hb); have n4_ := ze.mk (zk (by (with_reducible repeat (first | refine zb ?_ _ | refine zd ?_ | refine za ?_ _)); exact BK448.out) hb); have n5_ := ze.mk (zk (by (with_reducible repeat (first | refine zb ?_ _ | refine zd ?_ | refine za ?_ _)); exact BK464.out) hb); have n6_ := ze.mk (zt (by repeat (first | (with_reducible first | exact HB.out | apply zg | apply zc | apply zf | refine zi ?_ GE448.out | refine zi ?_ GE464.out) | exact HB.out)) hb); clear HO454; clear HO457; clear HO463; clear HO467; clear BK448; clear BK464; clear HB; have HO454 := n0_; have HO457 := n1_; have HO463 := n2_; have HO467 := n3_; have BK448 := n4_; have BK464 := n5_; have HB := n6_; clear n0_ n1_ n2_ n3_ n4_ n5_ n6_; (try clear hb); (try clear hb2); (try clear hk); (try clear hi)))
  go_meet
  case rel => exact ⟨_, (true), (by first | rfl | (simp; done) | (simp [*]; done)), H', ⟨by first | omega | exact Nat.le_refl _⟩, ⟨by (with_reducible repeat (first | apply Kd.R_alloc | apply Kd.R_drewN | apply Kd.R_drew)); exact Kd.R_mono HO457.out (fun _ hk => hk.2)⟩, ⟨by (with_reducible repeat (first | apply Kd.R_alloc | apply Kd.R_drewN | apply Kd.R_drew)); exact Kd.R_mono HO467.out (fun _ hk => hk.2)⟩, ⟨by (with_reducible repeat (first | apply Kd.R_alloc | apply Kd.R_drewN | apply Kd.R_drew)); exact Kd.R_mono HO463.out (fun _ hk => trivial)⟩, ⟨by (with_reducible repeat (first | refine zb ?_ _ | refine zd ?_ | refine za ?_ _)); exact BK448.out⟩, ⟨by (with_reducible repeat (first | refine zb ?_ _ | refine zd ?_ | refine za ?_ _)); exact BK464.out⟩, ⟨by repeat (first | (with_reducible first | exact HB.out | apply zg | apply zc | apply zf | refine zi ?_ GE448.out | refine zi ?_ GE464.out) | exact HB.out)⟩⟩
 case rest =>
  clear HC11
  try clear c2
  try clear p2
  try clear c3
  try clear c3b0
  try clear c5
  try clear c21
  try clear c22
  try clear c27
  try clear c32
  try clear c33
  try clear y2_0 y2_1 y2_2
  try clear y3_0 y3_1 y3_2
  try clear y4_0 y4_1 y4_2
  try clear y5_0 y5_1 y5_2
  try clear y1_0 y1_1 y1_2
  try clear z2_0 z2_1 z2_2
  try clear z3_0 z3_1 z3_2
  try clear z4_0 z4_1 z4_2
  try clear z5_0 z5_1 z5_2
  try clear z1_0 z1_1 z1_2
  obtain ⟨kq, x40_10, rfl, HA, HJ10, HO_4, HO_7, HO_465002, BK448, BK464, HB⟩ := hcut
  cases kq with
  | zero => exact absurd HA.out (by simp [laws_FnExactTreeOf.j0])
  | succ kj10 =>
   have H := HA.out
   clear HA
   simp only [laws_FnExactTreeOf.j0] at H
   by_cases c34 : x40_10 = true
   ·subst c34
    have H1 : (some false) = some r := by rw [if_pos rfl] at H; exact H
    clear H
    have H := H1
    clear H1
    obtain rfl := Option.some.inj H
    go_wp2
    go_ret
    exact ⟨by first | rfl | (simp [zn, zm] <;> rfl) | (simp [*, zn, zm] <;> rfl), by repeat (first | (with_reducible first | exact HB.out | apply zg | apply zc | apply zf | refine zi ?_ GE448.out | refine zi ?_ GE464.out) | exact HB.out)⟩
   replace c34 := Bool.eq_false_iff.mpr c34
   subst c34
   have H1 : ((laws_toFixed.f kj10 a0_0 a0_1 l0_2).bind fun bt470 => ((laws_eqFixed.f kj10 t459 t460 t461 bt470.1 bt470.2.1 bt470.2.2).bind fun t475 => (if t475 = true then ((laws_markFixed.f kj10 t459 t460 t461 1).bind fun bt476 => (if bt476.1 < 0 then (laws_FnExactTreeOf.j1 kj10 t455 t458 t465 true a0_0 a0_1 l0_2) else ((laws_eqNodeS.f kj10 t465 t455).bind fun t478 => (if t478 = true then (laws_FnExactTreeOf.j1 kj10 t455 t458 t465 (t468 != t458) a0_0 a0_1 l0_2) else (laws_FnExactTreeOf.j1 kj10 t455 t458 t465 true a0_0 a0_1 l0_2))))) else (some false)))) = some r := by rw [if_neg (show ¬ (false = true) by decide)] at H; exact H
   clear H
   have H := H1
   clear H1
   replace H := Option.bind_eq_some_iff.mp H
   obtain ⟨⟨t470, t471, t472⟩, A350, H⟩ := H
   replace H : ((laws_eqFixed.f kj10 t459 t460 t461 t470 t471 t472).bind fun t475 => (if t475 = true then ((laws_markFixed.f kj10 t459 t460 t461 1).bind fun bt476 => (if bt476.1 < 0 then (laws_FnExactTreeOf.j1 kj10 t455 t458 t465 true a0_0 a0_1 l0_2) else ((laws_eqNodeS.f kj10 t465 t455).bind fun t478 => (if t478 = true then (laws_FnExactTreeOf.j1 kj10 t455 t458 t465 (t468 != t458) a0_0 a0_1 l0_2) else (laws_FnExactTreeOf.j1 kj10 t455 t458 t465 true a0_0 a0_1 l0_2))))) else (some false))) = some r := H
   have A35 := ze.mk A350
   clear A350
   replace H := Option.bind_eq_some_iff.mp H
   obtain ⟨t475, A360, H⟩ := H
   replace H : (if t475 = true then ((laws_markFixed.f kj10 t459 t460 t461 1).bind fun bt476 => (if bt476.1 < 0 then (laws_FnExactTreeOf.j1 kj10 t455 t458 t465 true a0_0 a0_1 l0_2) else ((laws_eqNodeS.f kj10 t465 t455).bind fun t478 => (if t478 = true then (laws_FnExactTreeOf.j1 kj10 t455 t458 t465 (t468 != t458) a0_0 a0_1 l0_2) else (laws_FnExactTreeOf.j1 kj10 t455 t458 t465 true a0_0 a0_1 l0_2))))) else (some false)) = some r := H
   have A36 := ze.mk A360
   clear A360
   by_cases c37 : t475 = true
   ·subst c37
    have H1 : ((laws_markFixed.f kj10 t459 t460 t461 1).bind fun bt476 => (if bt476.1 < 0 then (laws_FnExactTreeOf.j1 kj10 t455 t458 t465 true a0_0 a0_1 l0_2) else ((laws_eqNodeS.f kj10 t465 t455).bind fun t478 => (if t478 = true then (laws_FnExactTreeOf.j1 kj10 t455 t458 t465 (t468 != t458) a0_0 a0_1 l0_2) else (laws_FnExactTreeOf.j1 kj10 t455 t458 t465 true a0_0 a0_1 l0_2))))) = some r := by rw [if_pos rfl] at H; exact H
    clear H
    have H := H1
    clear H1
    replace H := Option.bind_eq_some_iff.mp H
    obtain ⟨⟨t476, t477⟩, A380, H⟩ := H
    replace H : (if t476 < 0 then (laws_FnExactTreeOf.j1 kj10 t455 t458 t465 true a0_0 a0_1 l0_2) else ((laws_eqNodeS.f kj10 t465 t455).bind fun t478 => (if t478 = true then (laws_FnExactTreeOf.j1 kj10 t455 t458 t465 (t468 != t458) a0_0 a0_1 l0_2) else (laws_FnExactTreeOf.j1 kj10 t455 t458 t465 true a0_0 a0_1 l0_2)))) = some r := H
    have A38 := ze.mk A380
    clear A380
    have HC39 := ze.mk H
    clear H
    try go_wp2
    have n0_ := ze.mk (Kd.R_drew HO_4.out)
    have n1_ := ze.mk (Kd.R_drew HO_7.out)
    have n2_ := ze.mk (Kd.R_drew HO_465002.out)
    have n3_ := ze.mk (zd BK448.out)
    have n4_ := ze.mk (zd BK464.out)
    have n5_ := ze.mk (zf HB.out)
    clear HO_4
    clear HO_7
    clear HO_465002
    clear BK448
    clear BK464
    clear HB
    have HO_4 := n0_
    have HO_7 := n1_
    have HO_465002 := n2_
    have BK448 := n3_
    have BK464 := n4_
    have HB := n5_
    clear n0_ n1_ n2_ n3_ n4_ n5_
    refine zfb (n := 5) (S := fun w' => w'.cell? ⟨gb464, 0, none⟩ = some (.int .i8 t459) ∧ w'.cell? ⟨gb464, 1, none⟩ = some (.int .i8 t460) ∧ w'.cell? ⟨gb464, 2, none⟩ = some (.slice Ao24 t461.length co24) ∧ w'.cell? ⟨gb448, 0, none⟩ = some (.int .i8 a0_0) ∧ w'.cell? ⟨gb448, 1, none⟩ = some (.int .i8 a0_1) ∧ w'.cell? ⟨gb448, 2, none⟩ = some (.slice A0_2 l0_2.length c0_2)) (ds := []) (fm 5 0) (by kernel_rfl) rfl rfl ⟨(zo BK464.out 0).trans rfl, (zo BK464.out 1).trans rfl, (zo BK464.out 2).trans rfl, (zo BK448.out 0).trans rfl, (zo BK448.out 1).trans rfl, (zo BK448.out 2).trans rfl⟩ (fun hHeld => ?_)
    generalize wc.drew = w40 at HO_4 HO_7 HO_465002 BK448 BK464 HB hHeld ⊢
    refine take_ (i := 0) (N := some 41) (v := ?_) (a' := ?_) (fm 5 1) rfl rfl (by kernel_rfl) (fun _ _ _ h => h) (Or.inl ⟨by rfl, ?_⟩) hHeld ?_ ?_
    rotate_left
    ·rintro w' ⟨s0, s1, s2, s3, s4, s5⟩
     go_simp
     with_reducible rfl
    rotate_left
    ·simp only [Act.put, List.setIfInBounds_toArray, List.set_cons_zero, List.set_cons_succ, zy, zz]
     rfl
    refine take_ (i := 1) (N := some 42) (v := ?_) (a' := ?_) (fm 5 2) rfl rfl (by kernel_rfl) (fun _ _ _ h => h) (Or.inl ⟨by rfl, ?_⟩) hHeld ?_ ?_
    rotate_left
    ·rintro w' ⟨s0, s1, s2, s3, s4, s5⟩
     go_simp
     with_reducible rfl
    rotate_left
    ·simp only [Act.put, List.setIfInBounds_toArray, List.set_cons_zero, List.set_cons_succ, zy, zz]
     rfl
    refine one_ (i := 2) (N := some 43) (fm 5 3) rfl rfl (by kernel_rfl) (by decide) (fun K hK => ?_)
    refine zdb Try.func33 (by kernel_rfl) rfl #[.agg #[.int .i8 a0_0, .int .i8 a0_1, .slice A0_2 l0_2.length c0_2]] (by rfl) rfl rfl (by (try simp only [List.map_toArray, List.map_cons, List.map_nil]); first | done | rfl | (simp only [List.length_drop, List.length_take]; rfl)) ?_
    with_reducible refine (laws_toFixed.calls kj10 a0_0 a0_1 _ _ l0_2 t470 t471 t472 _ ?side1 ?side2 A35.out).mono ?_
    (case side1 => repeat (first | exact (Kd.C_below HR0_2.out HB.out) | (with_reducible refine Kd.C_alloc ?_ _) | (with_reducible refine Kd.C_drewN ?_ _) | (with_reducible refine Kd.C_drew ?_)))
    (case side2 => exact HC0_2.out)
    rintro e w41 ⟨v473, rfl, ho0, hb⟩
    refine ⟨_, rfl, ?_⟩
    have n0_ := ze.mk (Kd.R_below (by (with_reducible repeat (first | apply Kd.R_alloc | apply Kd.R_drewN | apply Kd.R_drew)); exact HO_4.out) hb)
    have n1_ := ze.mk (Kd.R_below (by (with_reducible repeat (first | apply Kd.R_alloc | apply Kd.R_drewN | apply Kd.R_drew)); exact HO_7.out) hb)
    have n2_ := ze.mk (Kd.R_elder' (by (with_reducible repeat (first | apply Kd.R_alloc | apply Kd.R_drewN | apply Kd.R_drew)); exact HO_465002.out) (Kd.R_base ho0) hb)
    have n3_ := ze.mk (Kd.R_lower (Kd.R_new' ho0 (Kd.R_lt (by (with_reducible repeat (first | apply Kd.R_alloc | apply Kd.R_drewN | apply Kd.R_drew)); exact HO_465002.out))) (zaa (by repeat (first | (with_reducible first | exact HB.out | apply zg | apply zc | apply zf | refine zi ?_ GE448.out | refine zi ?_ GE464.out) | exact HB.out))))
    have n4_ := ze.mk (zk (by (with_reducible repeat (first | refine zb ?_ _ | refine zd ?_ | refine za ?_ _)); exact BK448.out) hb)
    have n5_ := ze.mk (zk (by (with_reducible repeat (first | refine zb ?_ _ | refine zd ?_ | refine za ?_ _)); exact BK464.out) hb)
    have n6_ := ze.mk (zt (by repeat (first | (with_reducible first | exact HB.out | apply zg | apply zc | apply zf | refine zi ?_ GE448.out | refine zi ?_ GE464.out) | exact HB.out)) hb)
    clear HO_4
    clear HO_7
    clear HO_465002
    clear BK448
    clear BK464
    clear HB
    have HO_4 := n0_
    have HO_7 := n1_
    have HO_465002 := n2_
    have HO474 := n3_
    have BK448 := n4_
    have BK464 := n5_
    have HB := n6_
    clear n0_ n1_ n2_ n3_ n4_ n5_ n6_
    (try clear hb)
    (try clear hb2)
    (try clear hk)
    (try clear hi)
    (try clear ho0)
    obtain ⟨Ao42, co42, eo42⟩ := Kd.R_slice HO474.out
    (first | subst eo42 | (injection eo42 with f1_ f2_ f3_; have f4_ := f1_.symm; have f5_ := f3_.symm; clear f1_ f2_ f3_; subst f4_; subst f5_))
    refine hK.out _ _ ⟨(zo BK464.out 0).trans rfl, (zo BK464.out 1).trans rfl, (zo BK464.out 2).trans rfl, (zo BK448.out 0).trans rfl, (zo BK448.out 1).trans rfl, (zo BK448.out 2).trans rfl⟩ (fun hHeld => ?_)
    clear hK K
    refine zpa (a' := ?_) ?_ ?_
    rotate_left
    ·show Act.put _ (some 43) _ = _
     simp only [Act.put, List.setIfInBounds_toArray, List.set_cons_zero, List.set_cons_succ, zy, zz]
     rfl
    refine one_ (i := 3) (N := some 44) (fm 5 4) rfl rfl (by kernel_rfl) (by decide) (fun K hK => ?_)
    refine zdb Try.func35 (by kernel_rfl) rfl #[.agg #[.int .i8 t459, .int .i8 t460, .slice Ao24 t461.length co24], .agg #[.int .i8 t470, .int .i8 t471, .slice Ao42 t472.length co42]] (by rfl) rfl rfl (by (try simp only [List.map_toArray, List.map_cons, List.map_nil]); first | done | rfl | (simp only [List.length_drop, List.length_take]; rfl)) ?_
    with_reducible refine (laws_eqFixed.calls kj10 t459 t460 _ _ t461 t470 t471 _ _ t472 true _ ?side1 ?side2 ?side3 ?side4 A36.out).mono ?_
    (case side1 => repeat (first | exact (Kd.R_reads' HO_465002.out).2.2 | (with_reducible refine Kd.C_alloc ?_ _) | (with_reducible refine Kd.C_drewN ?_ _) | (with_reducible refine Kd.C_drew ?_)))
    (case side2 => exact (Kd.R_reads' HO_465002.out).2.1)
    (case side3 => repeat (first | exact (Kd.R_reads' HO474.out).2.2 | (with_reducible refine Kd.C_alloc ?_ _) | (with_reducible refine Kd.C_drewN ?_ _) | (with_reducible refine Kd.C_drew ?_)))
    (case side4 => exact (Kd.R_reads' HO474.out).2.1)
    rintro e w43 ⟨rfl, hb⟩
    refine ⟨_, rfl, ?_⟩
    have n0_ := ze.mk (Kd.R_below (by (with_reducible repeat (first | apply Kd.R_alloc | apply Kd.R_drewN | apply Kd.R_drew)); exact HO_4.out) hb)
    have n1_ := ze.mk (Kd.R_below (by (with_reducible repeat (first | apply Kd.R_alloc | apply Kd.R_drewN | apply Kd.R_drew)); exact HO_7.out) hb)
    have n2_ := ze.mk (Kd.R_below (by (with_reducible repeat (first | apply Kd.R_alloc | apply Kd.R_drewN | apply Kd.R_drew)); exact HO_465002.out) hb)
    have n3_ := ze.mk (Kd.R_below (by (with_reducible repeat (first | apply Kd.R_alloc | apply Kd.R_drewN | apply Kd.R_drew)); exact HO474.out) hb)
    have n4_ := ze.mk (zk (by (with_reducible repeat (first | refine zb ?_ _ | refine zd ?_ | refine za ?_ _)); exact BK448.out) hb)
    have n5_ := ze.mk (zk (by (with_reducible repeat (first | refine zb ?_ _ | refine zd ?_ | refine za ?_ _)); exact BK464.out) hb)
    have n6_ := ze.mk (zt (by repeat (first | (with_reducible first | exact HB.out | apply zg | apply zc | apply zf | refine zi ?_ GE448.out | refine zi ?_ GE464.out) | exact HB.out)) hb)
    clear HO_4
    clear HO_7
    clear HO_465002
    clear HO474
    clear BK448
    clear BK464
    clear HB
    have HO_4 := n0_
    have HO_7 := n1_
    have HO_465002 := n2_
    have HO474 := n3_
    have BK448 := n4_
    have BK464 := n5_
    have HB := n6_
    clear n0_ n1_ n2_ n3_ n4_ n5_ n6_
    (try clear hb)
    (try clear hb2)
    (try clear hk)
    (try clear hi)
    refine hK.out _ _ ⟨(zo BK464.out 0).trans rfl, (zo BK464.out 1).trans rfl, (zo BK464.out 2).trans rfl, (zo BK448.out 0).trans rfl, (zo BK448.out 1).trans rfl, (zo BK448.out 2).trans rfl⟩ (fun hHeld => ?_)
    clear hK K
    refine zpa (a' := ?_) ?_ ?_
    rotate_left
    ·show Act.put _ (some 44) _ = _
     simp only [Act.put, List.setIfInBounds_toArray, List.set_cons_zero, List.set_cons_succ, zy, zz]
     rfl
    refine znd (i := 4) (N := some 45) (v := ?_) (a' := ?_) (fm 5 5) rfl rfl (by kernel_rfl) (fun _ _ _ h => h) (Or.inl ⟨by rfl, ?_⟩) ?_ ?_
    rotate_left
    ·intro w'
     go_simp
     with_reducible rfl
    rotate_left
    ·simp only [Act.put, List.setIfInBounds_toArray, List.set_cons_zero, List.set_cons_succ, zy, zz]
     rfl
    refine zxb (by kernel_rfl) ?_
    have hnb44 := NB464_448.out
    have hnc44 := NB448_464.out
    obtain ⟨y6_0, y6_1, y6_2, z6_0, z6_1, z6_2⟩ := cf3 BK464.out
    go_upto_region 14 with (first | ((with_reducible refine zs (f := 36) rfl ?_); refine zda (some 48) rfl rfl Try.func36 (by kernel_rfl) rfl #[.agg #[.int .i8 t459, .int .i8 t460, .slice Ao24 t461.length co24], .int .i64 1] rfl (by (try simp only [List.map_toArray, List.map_cons, List.map_nil]); first | done | rfl | (simp only [List.length_drop, List.length_take]; rfl)) ?_; (with_reducible refine (laws_markFixed.calls kj10 t459 t460 (fun k_ => some k_ = (.slice Ao24 t461.length co24 : Value).ownBlock) (.slice Ao24 t461.length co24) t461 1 t476 t477 w _ ?side1 ?side2 A38.out).mono ?_); (case side1 => repeat (first | (with_reducible first | exact HB.out | apply zg | apply zc | apply zf | refine zi ?_ GE448.out | refine zi ?_ GE464.out) | exact HB.out)); (case side2 => exact Kd.R_tight rfl HO_465002.out); rintro e w46 ⟨rfl, hy0, hb, hkp⟩; refine ⟨_, rfl, ?_⟩; have n0_ := ze.mk (Kd.R_mono (ok' := fun k_ => some k_ ≠ (v466 : Value).ownBlock) (Kd.R_keptB ((Kd.R_apart' HO_4.out (Kd.R_typed HO_465002.out) (by decide))) hkp (fun k_ hk_ hs_ => (hk_.2) hs_)) (fun k_ hk_ => hk_.1.1)); have n1_ := ze.mk (Kd.R_mono (ok' := fun k_ => some k_ ≠ (v456 : Value).ownBlock) (Kd.R_keptB ((Kd.R_apart' HO_7.out (Kd.R_typed HO_465002.out) (by decide))) hkp (fun k_ hk_ hs_ => (hk_.2) hs_)) (fun k_ hk_ => hk_.1.1)); have n2_ := ze.mk (Kd.R_reok rfl hy0 (fun k_ e_ => HO_465002.out.1 k_ e_)); have n3_ := ze.mk (zhb (by (with_reducible repeat (first | refine zb ?_ _ | refine zd ?_ | refine za ?_ _)); exact BK448.out) hkp (fun hs_ => (fun e_ => (Kd.R_ne HO_465002.out BK448.out (by decide)) e_) hs_)); have n4_ := ze.mk (zhb (by (with_reducible repeat (first | refine zb ?_ _ | refine zd ?_ | refine za ?_ _)); exact BK464.out) hkp (fun hs_ => (fun e_ => (Kd.R_ne HO_465002.out BK464.out (by decide)) e_) hs_)); have n5_ := ze.mk (Kd.R_mono (ok' := fun k_ => some k_ ≠ (.slice Ao24 t461.length co24 : Value).ownBlock) (Kd.R_keptB (HO474.out) hkp (fun k_ hk_ hs_ => (hk_.2) hs_)) (fun k_ hk_ => hk_.1.2)); have n6_ := ze.mk (hb); clear HO_4; clear HO_7; clear HO_465002; clear BK448; clear BK464; clear HO474; clear HB; have HO_4 := n0_; have HO_7 := n1_; have HO_465002 := n2_; have BK448 := n3_; have BK464 := n4_; have HO474 := n5_; have HB := n6_; clear n0_ n1_ n2_ n3_ n4_ n5_ n6_; (try clear hb); (try clear hkp); (try clear hy0)))
    (try simp only [Act.put, List.setIfInBounds_toArray, List.set_cons_zero, List.set_cons_succ])
    go_cut [61] (fun v61 wc => ∃ (kq : Nat) (x61_38 : Bool), v61 = .bool x61_38 ∧ ze (laws_FnExactTreeOf.j1 kq t455 t458 t465 x61_38 a0_0 a0_1 l0_2 = some r) ∧ ze (kq ≤ kj10) ∧ ze (Kd.R k102 102 wc w.heap.size (fun k_ => some k_ ≠ (v466 : Value).ownBlock) v456 t455) ∧ ze (Kd.R k102 102 wc w.heap.size (fun k_ => some k_ ≠ (v456 : Value).ownBlock) v466 t465) ∧ ze (Kd.R k43 43 wc w.heap.size (fun _ => True) (.slice Ao24 t461.length co24) t477) ∧ ze (wc.heap[gb448]? = some (.cells #[.int .i8 a0_0, .int .i8 a0_1, (.slice A0_2 l0_2.length c0_2)] 67 (0, 0))) ∧ ze (wc.heap[gb464]? = some (.cells #[.int .i8 t459, .int .i8 t460, (.slice Ao24 t461.length co24)] 28 (0, 0))) ∧ ze (Below w.heap.size w wc))
    case first =>
     have H := HC39.out
     clear HC39
     by_cases c47 : t476 < 0
     ·rw [if_pos c47] at H
      have c47b0 : decide (t476 < 0) = true := decide_eq_true c47
      clear c47
      (first | rw [c47b0] | (simp only [zy, zz]; rw [c47b0]) | skip)
      have H' := ze.mk H
      clear H
      go_wp2
      go_meet
      case rel => exact ⟨_, (true), (by first | rfl | (simp; done) | (simp [*]; done)), H', ⟨by have := HJ10.out; first | omega | exact Nat.le_refl _⟩, ⟨by (with_reducible repeat (first | apply Kd.R_alloc | apply Kd.R_drewN | apply Kd.R_drew)); exact HO_4.out⟩, ⟨by (with_reducible repeat (first | apply Kd.R_alloc | apply Kd.R_drewN | apply Kd.R_drew)); exact HO_7.out⟩, ⟨by (with_reducible repeat (first | apply Kd.R_alloc | apply Kd.R_drewN | apply Kd.R_drew)); exact Kd.R_mono HO_465002.out (fun _ hk => trivial)⟩, ⟨by (with_reducible repeat (first | refine zb ?_ _ | refine zd ?_ | refine za ?_ _)); exact BK448.out⟩, ⟨by (with_reducible repeat (first | refine zb ?_ _ | refine zd ?_ | refine za ?_ _)); exact BK464.out⟩, ⟨by repeat (first | (with_reducible first | exact HB.out | apply zg | apply zc | apply zf | refine zi ?_ GE448.out | refine zi ?_ GE464.out) | exact HB.out)⟩⟩
     rw [if_neg c47] at H
     have c47b0 : decide (t476 < 0) = false := decide_eq_false c47
     clear c47
     (first | rw [c47b0] | (simp only [zy, zz]; rw [c47b0]) | skip)
     replace H := Option.bind_eq_some_iff.mp H
     obtain ⟨t478, A480, H⟩ := H
     replace H : (if t478 = true then (laws_FnExactTreeOf.j1 kj10 t455 t458 t465 (t468 != t458) a0_0 a0_1 l0_2) else (laws_FnExactTreeOf.j1 kj10 t455 t458 t465 true a0_0 a0_1 l0_2)) = some r := H
     have A48 := ze.mk A480
     clear A480
     by_cases c49 : t478 = true
     ·subst c49
      have H1 : (laws_FnExactTreeOf.j1 kj10 t455 t458 t465 (t468 != t458) a0_0 a0_1 l0_2) = some r := by rw [if_pos rfl] at H; exact H
      clear H
      have H := H1
      clear H1
      have H' := ze.mk H
      clear H
      obtain ⟨Ao50, co50, eo50⟩ := Kd.R_slice HO_7.out
      subst eo50
      obtain ⟨Ao51, co51, eo51⟩ := Kd.R_slice HO_4.out
      subst eo51
      go_wp2_with (first | (go_at_call 34; (with_reducible refine (laws_eqNodeS.calls kj10 _ _ t465 _ _ t455 true _ ?side1 ?side2 ?side3 ?side4 A48.out).mono ?_); (case side1 => repeat (first | exact (Kd.R_reads' HO_7.out).2.2 | (with_reducible refine Kd.C_alloc ?_ _) | (with_reducible refine Kd.C_drewN ?_ _) | (with_reducible refine Kd.C_drew ?_))); (case side2 => exact (Kd.R_reads' HO_7.out).2.1); (case side3 => repeat (first | exact (Kd.R_reads' HO_4.out).2.2 | (with_reducible refine Kd.C_alloc ?_ _) | (with_reducible refine Kd.C_drewN ?_ _) | (with_reducible refine Kd.C_drew ?_))); (case side4 => exact (Kd.R_reads' HO_4.out).2.1); rintro e w52 ⟨rfl, hb⟩; have n0_ := ze.mk (Kd.R_below (by (with_reducible repeat (first | apply Kd.R_alloc | apply Kd.R_drewN | apply Kd.R_drew)); exact HO_4.out) hb); have n1_ := ze.mk (Kd.R_below (by (with_reducible repeat (first | apply Kd.R_alloc | apply Kd.R_drewN | apply Kd.R_drew)); exact HO_7.out) hb); have n2_ := ze.mk (Kd.R_below (by (with_reducible repeat (first | apply Kd.R_alloc | apply Kd.R_drewN | apply Kd.R_drew)); exact HO_465002.out) hb); have n3_ := ze.mk (Kd.R_below (by (with_reducible repeat (first | apply Kd.R_alloc | apply Kd.R_drewN | apply Kd.R_drew)); exact HO474.out) hb); have n4_ := ze.mk (zk (by (with_reducible repeat (first | refine zb ?_ _ | refine zd ?_ | refine za ?_ _)); exact BK448.out) hb); have n5_ := ze.mk (zk (by (with_reducible repeat (first | refine zb ?_ _ | refine zd ?_ | refine za ?_ _)); exact BK464.out) hb); have n6_ := ze.mk (zt (by repeat (first | (with_reducible first | exact HB.out | apply zg | apply zc | apply zf | refine zi ?_ GE448.out | refine zi ?_ GE464.out) | exact HB.out)) hb); clear HO_4; clear HO_7; clear HO_465002; clear HO474; clear BK448; clear BK464; clear HB; have HO_4 := n0_; have HO_7 := n1_; have HO_465002 := n2_; have HO474 := n3_; have BK448 := n4_; have BK464 := n5_; have HB := n6_; clear n0_ n1_ n2_ n3_ n4_ n5_ n6_; (try clear hb); (try clear hb2); (try clear hk); (try clear hi)))
      go_meet
      case rel => exact ⟨_, ((t468 != t458)), (by first | rfl | (simp; done) | (simp [*]; done)), H', ⟨by have := HJ10.out; first | omega | exact Nat.le_refl _⟩, ⟨by (with_reducible repeat (first | apply Kd.R_alloc | apply Kd.R_drewN | apply Kd.R_drew)); exact HO_4.out⟩, ⟨by (with_reducible repeat (first | apply Kd.R_alloc | apply Kd.R_drewN | apply Kd.R_drew)); exact HO_7.out⟩, ⟨by (with_reducible repeat (first | apply Kd.R_alloc | apply Kd.R_drewN | apply Kd.R_drew)); exact Kd.R_mono HO_465002.out (fun _ hk => trivial)⟩, ⟨by (with_reducible repeat (first | refine zb ?_ _ | refine zd ?_ | refine za ?_ _)); exact BK448.out⟩, ⟨by (with_reducible repeat (first | refine zb ?_ _ | refine zd ?_ | refine za ?_ _)); exact BK464.out⟩, ⟨by repeat (first | (with_reducible first | exact HB.out | apply zg | apply zc | apply zf | refine zi ?_ GE448.out | refine zi ?_ GE464.out) | exact HB.out)⟩⟩
     replace c49 := Bool.eq_false_iff.mpr c49
     subst c49
     have H1 : (laws_FnExactTreeOf.j1 kj10 t455 t458 t465 true a0_0 a0_1 l0_2) = some r := by rw [if_neg (show ¬ (false = true) by decide)] at H; exact H
     clear H
     have H := H1
     clear H1
     have H' := ze.mk H
     clear H
     obtain ⟨Ao53, co53, eo53⟩ := Kd.R_slice HO_7.out
     subst eo53
     obtain ⟨Ao54, co54, eo54⟩ := Kd.R_slice HO_4.out
     subst eo54
     go_wp2_with (first | (go_at_call 34; (with_reducible refine (laws_eqNodeS.calls kj10 _ _ t465 _ _ t455 false _ ?side1 ?side2 ?side3 ?side4 A48.out).mono ?_); (case side1 => repeat (first | exact (Kd.R_reads' HO_7.out).2.2 | (with_reducible refine Kd.C_alloc ?_ _) | (with_reducible refine Kd.C_drewN ?_ _) | (with_reducible refine Kd.C_drew ?_))); (case side2 => exact (Kd.R_reads' HO_7.out).2.1); (case side3 => repeat (first | exact (Kd.R_reads' HO_4.out).2.2 | (with_reducible refine Kd.C_alloc ?_ _) | (with_reducible refine Kd.C_drewN ?_ _) | (with_reducible refine Kd.C_drew ?_))); (case side4 => exact (Kd.R_reads' HO_4.out).2.1); rintro e w55 ⟨rfl, hb⟩; have n0_ := ze.mk (Kd.R_below (by (with_reducible repeat (first | apply Kd.R_alloc | apply Kd.R_drewN | apply Kd.R_drew)); exact HO_4.out) hb); have n1_ := ze.mk (Kd.R_below (by (with_reducible repeat (first | apply Kd.R_alloc | apply Kd.R_drewN | apply Kd.R_drew)); exact HO_7.out) hb); have n2_ := ze.mk (Kd.R_below (by (with_reducible repeat (first | apply Kd.R_alloc | apply Kd.R_drewN | apply Kd.R_drew)); exact HO_465002.out) hb); have n3_ := ze.mk (Kd.R_below (by (with_reducible repeat (first | apply Kd.R_alloc | apply Kd.R_drewN | apply Kd.R_drew)); exact HO474.out) hb); have n4_ := ze.mk (zk (by (with_reducible repeat (first | refine zb ?_ _ | refine zd ?_ | refine za ?_ _)); exact BK448.out) hb); have n5_ := ze.mk (zk (by (with_reducible repeat (first | refine zb ?_ _ | refine zd ?_ | refine za ?_ _)); exact BK464.out) hb); have n6_ := ze.mk (zt (by repeat (first | (with_reducible first | exact HB.out | apply zg | apply zc | apply zf | refine zi ?_ GE448.out | refine zi ?_ GE464.out) | exact HB.out)) hb); clear HO_4; clear HO_7; clear HO_465002; clear HO474; clear BK448; clear BK464; clear HB; have HO_4 := n0_; have HO_7 := n1_; have HO_465002 := n2_; have HO474 := n3_; have BK448 := n4_; have BK464 := n5_; have HB := n6_; clear n0_ n1_ n2_ n3_ n4_ n5_ n6_; (try clear hb); (try clear hb2); (try clear hk); (try clear hi)))
     go_meet
     case rel => exact ⟨_, (true), (by first | rfl | (simp; done) | (simp [*]; done)), H', ⟨by have := HJ10.out; first | omega | exact Nat.le_refl _⟩, ⟨by (with_reducible repeat (first | apply Kd.R_alloc | apply Kd.R_drewN | apply Kd.R_drew)); exact HO_4.out⟩, ⟨by (with_reducible repeat (first | apply Kd.R_alloc | apply Kd.R_drewN | apply Kd.R_drew)); exact HO_7.out⟩, ⟨by (with_reducible repeat (first | apply Kd.R_alloc | apply Kd.R_drewN | apply Kd.R_drew)); exact Kd.R_mono HO_465002.out (fun _ hk => trivial)⟩, ⟨by (with_reducible repeat (first | refine zb ?_ _ | refine zd ?_ | refine za ?_ _)); exact BK448.out⟩, ⟨by (with_reducible repeat (first | refine zb ?_ _ | refine zd ?_ | refine za ?_ _)); exact BK464.out⟩, ⟨by repeat (first | (with_reducible first | exact HB.out | apply zg | apply zc | apply zf | refine zi ?_ GE448.out | refine zi ?_ GE464.out) | exact HB.out)⟩⟩
    case rest =>
     clear HC39
     try clear c2
     try clear p2
     try clear c3
     try clear c3b0
     try clear c4
     try clear c5
     try clear c21
     try clear c22
     try clear c27
     try clear c32
     try clear c33
     try clear c34
     try clear c35
     try clear c36
     try clear c37
     try clear c44
     try clear c47
     try clear c47b0
     try clear c49
     try clear y2_0 y2_1 y2_2
     try clear y3_0 y3_1 y3_2
     try clear y4_0 y4_1 y4_2
     try clear y5_0 y5_1 y5_2
     try clear y6_0 y6_1 y6_2
     try clear y1_0 y1_1 y1_2
     try clear z2_0 z2_1 z2_2
     try clear z3_0 z3_1 z3_2
     try clear z4_0 z4_1 z4_2
     try clear z5_0 z5_1 z5_2
     try clear z6_0 z6_1 z6_2
     try clear z1_0 z1_1 z1_2
     try clear p2
     obtain ⟨kq, x61_38, rfl, HA, HJ38, HO_4, HO_7, HO_465002, BK448, BK464, HB⟩ := hcut
     have hl465002_38 := (Kd.R_reads' HO_465002.out).1
     rw [hl465002_38] at HO_465002
     (try simp only [hl465002_38])
     (try simp only [hl465002_38] at BK448)
     (try simp only [hl465002_38] at BK464)
     (try simp only [hl465002_38] at HO_4)
     (try simp only [hl465002_38] at HO_7)
     cases kq with
     | zero => exact absurd HA.out (by simp [laws_FnExactTreeOf.j1])
     | succ kj38 =>
      have H := HA.out
      clear HA
      simp only [laws_FnExactTreeOf.j1] at H
      by_cases c56 : x61_38 = true
      ·subst c56
       have H1 : (some false) = some r := by rw [if_pos rfl] at H; exact H
       clear H
       have H := H1
       clear H1
       obtain rfl := Option.some.inj H
       go_wp2
       go_ret
       exact ⟨by first | rfl | (simp [zn, zm] <;> rfl) | (simp [*, zn, zm] <;> rfl), by repeat (first | (with_reducible first | exact HB.out | apply zg | apply zc | apply zf | refine zi ?_ GE448.out | refine zi ?_ GE464.out) | exact HB.out)⟩
      replace c56 := Bool.eq_false_iff.mpr c56
      subst c56
      have H1 : ((laws_markNodeS.f kj38 t465 1).bind fun bt479 => ((laws_heldNodeS.f kj38 bt479.2 1).bind fun t481 => (if t481 < 0 then (some false) else (if t481 = bt479.1 then ((laws_toFixed.f kj38 a0_0 a0_1 l0_2).bind fun bt482 => ((impl_TreeOf.f kj38 bt482.1 bt482.2.1 bt482.2.2).bind fun bt487 => ((laws_eqNodeS.f kj38 bt487.1 t455).bind fun t491 => (if t491 = true then (laws_FnExactTreeOf.j2 kj38 bt479.2 bt479.1 (bt487.2 != t458)) else (laws_FnExactTreeOf.j2 kj38 bt479.2 bt479.1 true))))) else (some false))))) = some r := by rw [if_neg (show ¬ (false = true) by decide)] at H; exact H
      clear H
      have H := H1
      clear H1
      replace H := Option.bind_eq_some_iff.mp H
      obtain ⟨⟨t479, t480⟩, A570, H⟩ := H
      replace H : ((laws_heldNodeS.f kj38 t480 1).bind fun t481 => (if t481 < 0 then (some false) else (if t481 = t479 then ((laws_toFixed.f kj38 a0_0 a0_1 l0_2).bind fun bt482 => ((impl_TreeOf.f kj38 bt482.1 bt482.2.1 bt482.2.2).bind fun bt487 => ((laws_eqNodeS.f kj38 bt487.1 t455).bind fun t491 => (if t491 = true then (laws_FnExactTreeOf.j2 kj38 t480 t479 (bt487.2 != t458)) else (laws_FnExactTreeOf.j2 kj38 t480 t479 true))))) else (some false)))) = some r := H
      have A57 := ze.mk A570
      clear A570
      replace H := Option.bind_eq_some_iff.mp H
      obtain ⟨t481, A580, H⟩ := H
      replace H : (if t481 < 0 then (some false) else (if t481 = t479 then ((laws_toFixed.f kj38 a0_0 a0_1 l0_2).bind fun bt482 => ((impl_TreeOf.f kj38 bt482.1 bt482.2.1 bt482.2.2).bind fun bt487 => ((laws_eqNodeS.f kj38 bt487.1 t455).bind fun t491 => (if t491 = true then (laws_FnExactTreeOf.j2 kj38 t480 t479 (bt487.2 != t458)) else (laws_FnExactTreeOf.j2 kj38 t480 t479 true))))) else (some false))) = some r := H
      have A58 := ze.mk A580
      clear A580
      by_cases c59 : t481 < 0
      ·rw [if_pos c59] at H
       have c59b0 : decide (t481 < 0) = true := decide_eq_true c59
       clear c59
       obtain rfl := Option.some.inj H
       obtain ⟨Ao60, co60, eo60⟩ := Kd.R_slice HO_7.out
       subst eo60
       go_wp2_with (first | ((with_reducible refine zs (f := 37) rfl ?_); refine zda (some 64) rfl rfl Try.func37 (by kernel_rfl) rfl #[.slice Ao60 t465.length co60, .int .i64 1] rfl (by (try simp only [List.map_toArray, List.map_cons, List.map_nil]); first | done | rfl | (simp only [List.length_drop, List.length_take]; rfl)) ?_; (with_reducible refine (laws_markNodeS.calls kj38 (fun k_ => some k_ = (.slice Ao60 t465.length co60 : Value).ownBlock) (.slice Ao60 t465.length co60) t465 1 t479 t480 w _ ?side1 ?side2 A57.out).mono ?_); (case side1 => repeat (first | (with_reducible first | exact HB.out | apply zg | apply zc | apply zf | refine zi ?_ GE448.out | refine zi ?_ GE464.out) | exact HB.out)); (case side2 => exact Kd.R_tight rfl HO_7.out); rintro e w61 ⟨rfl, hy0, hb, hkp⟩; refine ⟨_, rfl, ?_⟩; have n0_ := ze.mk (Kd.R_mono (ok' := fun k_ => some k_ ≠ (.slice Ao60 t465.length co60 : Value).ownBlock) (Kd.R_keptB (HO_4.out) hkp (fun k_ hk_ hs_ => (hk_) hs_)) (fun k_ hk_ => hk_.1)); have n1_ := ze.mk (Kd.R_reok rfl hy0 (fun k_ e_ => HO_7.out.1 k_ e_)); have n2_ := ze.mk (Kd.R_mono (ok' := fun k_ => True) (Kd.R_keptB ((Kd.R_apart' HO_465002.out (Kd.R_typed HO_7.out) (by decide))) hkp (fun k_ hk_ hs_ => (hk_.2) hs_)) (fun k_ hk_ => trivial)); have n3_ := ze.mk (zhb (by (with_reducible repeat (first | refine zb ?_ _ | refine zd ?_ | refine za ?_ _)); exact BK448.out) hkp (fun hs_ => (fun e_ => (Kd.R_ne HO_7.out BK448.out (by decide)) e_) hs_)); have n4_ := ze.mk (zhb (by (with_reducible repeat (first | refine zb ?_ _ | refine zd ?_ | refine za ?_ _)); exact BK464.out) hkp (fun hs_ => (fun e_ => (Kd.R_ne HO_7.out BK464.out (by decide)) e_) hs_)); have n5_ := ze.mk (hb); clear HO_4; clear HO_7; clear HO_465002; clear BK448; clear BK464; clear HB; have HO_4 := n0_; have HO_7 := n1_; have HO_465002 := n2_; have BK448 := n3_; have BK464 := n4_; have HB := n5_; clear n0_ n1_ n2_ n3_ n4_ n5_; (try clear hb); (try clear hkp); (try clear hy0)) | ((with_reducible refine zs (f := 38) rfl ?_); refine zda (some 67) rfl rfl Try.func38 (by kernel_rfl) rfl #[.slice Ao60 t480.length co60, .int .i64 1] rfl (by (try simp only [List.map_toArray, List.map_cons, List.map_nil]); first | done | (rw [show t480.length = t465.length from (Kd.R_reads' HO_7.out).1.symm] <;> rfl) | rfl | (simp only [List.length_drop, List.length_take]; rfl)) ?_; (with_reducible refine (laws_heldNodeS.calls kj38 _ _ t480 1 t481 _ ?side1 ?side2 A58.out).mono ?_); (case side1 => repeat (first | exact (Kd.R_reads' HO_7.out).2.2 | (with_reducible refine Kd.C_alloc ?_ _) | (with_reducible refine Kd.C_drewN ?_ _) | (with_reducible refine Kd.C_drew ?_))); (case side2 => rw [show t480.length = t465.length from (Kd.R_reads' HO_7.out).1.symm]; exact (Kd.R_reads' HO_7.out).2.1); rintro e w' ⟨rfl, ⟨nd, rfl⟩⟩; refine ⟨_, rfl, ?_⟩))
       go_ret
       exact ⟨by first | rfl | (simp [zn, zm] <;> rfl) | (simp [*, zn, zm] <;> rfl), by repeat (first | (with_reducible first | exact HB.out | apply zg | apply zc | apply zf | refine zi ?_ GE448.out | refine zi ?_ GE464.out) | exact HB.out)⟩
      rw [if_neg c59] at H
      have c59b0 : decide (t481 < 0) = false := decide_eq_false c59
      clear c59
      by_cases c62 : t481 = t479
      ·rw [if_pos c62] at H
       have c62b0 : (t481 == t479) = true := beq_iff_eq.mpr c62
       have c62b1 : (t481 != t479) = false := bne_eq_false_iff_eq.mpr c62
       clear c62
       replace H := Option.bind_eq_some_iff.mp H
       obtain ⟨⟨t482, t483, t484⟩, A630, H⟩ := H
       replace H : ((impl_TreeOf.f kj38 t482 t483 t484).bind fun bt487 => ((laws_eqNodeS.f kj38 bt487.1 t455).bind fun t491 => (if t491 = true then (laws_FnExactTreeOf.j2 kj38 t480 t479 (bt487.2 != t458)) else (laws_FnExactTreeOf.j2 kj38 t480 t479 true)))) = some r := H
       have A63 := ze.mk A630
       clear A630
       replace H := Option.bind_eq_some_iff.mp H
       obtain ⟨⟨t487, t490⟩, A640, H⟩ := H
       replace H : ((laws_eqNodeS.f kj38 t487 t455).bind fun t491 => (if t491 = true then (laws_FnExactTreeOf.j2 kj38 t480 t479 (t490 != t458)) else (laws_FnExactTreeOf.j2 kj38 t480 t479 true))) = some r := H
       have A64 := ze.mk A640
       clear A640
       have HC65 := ze.mk H
       clear H
       obtain ⟨Ao66, co66, eo66⟩ := Kd.R_slice HO_7.out
       subst eo66
       go_upto_region 25 with (first | ((with_reducible refine zs (f := 37) rfl ?_); refine zda (some 64) rfl rfl Try.func37 (by kernel_rfl) rfl #[.slice Ao66 t465.length co66, .int .i64 1] rfl (by (try simp only [List.map_toArray, List.map_cons, List.map_nil]); first | done | rfl | (simp only [List.length_drop, List.length_take]; rfl)) ?_; (with_reducible refine (laws_markNodeS.calls kj38 (fun k_ => some k_ = (.slice Ao66 t465.length co66 : Value).ownBlock) (.slice Ao66 t465.length co66) t465 1 t479 t480 w _ ?side1 ?side2 A57.out).mono ?_); (case side1 => repeat (first | (with_reducible first | exact HB.out | apply zg | apply zc | apply zf | refine zi ?_ GE448.out | refine zi ?_ GE464.out) | exact HB.out)); (case side2 => exact Kd.R_tight rfl HO_7.out); rintro e w67 ⟨rfl, hy0, hb, hkp⟩; refine ⟨_, rfl, ?_⟩; have n0_ := ze.mk (Kd.R_mono (ok' := fun k_ => some k_ ≠ (.slice Ao66 t465.length co66 : Value).ownBlock) (Kd.R_keptB (HO_4.out) hkp (fun k_ hk_ hs_ => (hk_) hs_)) (fun k_ hk_ => hk_.1)); have n1_ := ze.mk (Kd.R_reok rfl hy0 (fun k_ e_ => HO_7.out.1 k_ e_)); have n2_ := ze.mk (Kd.R_mono (ok' := fun k_ => True) (Kd.R_keptB ((Kd.R_apart' HO_465002.out (Kd.R_typed HO_7.out) (by decide))) hkp (fun k_ hk_ hs_ => (hk_.2) hs_)) (fun k_ hk_ => trivial)); have n3_ := ze.mk (zhb (by (with_reducible repeat (first | refine zb ?_ _ | refine zd ?_ | refine za ?_ _)); exact BK448.out) hkp (fun hs_ => (fun e_ => (Kd.R_ne HO_7.out BK448.out (by decide)) e_) hs_)); have n4_ := ze.mk (zhb (by (with_reducible repeat (first | refine zb ?_ _ | refine zd ?_ | refine za ?_ _)); exact BK464.out) hkp (fun hs_ => (fun e_ => (Kd.R_ne HO_7.out BK464.out (by decide)) e_) hs_)); have n5_ := ze.mk (hb); clear HO_4; clear HO_7; clear HO_465002; clear BK448; clear BK464; clear HB; have HO_4 := n0_; have HO_7 := n1_; have HO_465002 := n2_; have BK448 := n3_; have BK464 := n4_; have HB := n5_; clear n0_ n1_ n2_ n3_ n4_ n5_; (try clear hb); (try clear hkp); (try clear hy0)) | ((with_reducible refine zs (f := 38) rfl ?_); refine zda (some 67) rfl rfl Try.func38 (by kernel_rfl) rfl #[.slice Ao66 t480.length co66, .int .i64 1] rfl (by (try simp only [List.map_toArray, List.map_cons, List.map_nil]); first | done | (rw [show t480.length = t465.length from (Kd.R_reads' HO_7.out).1.symm] <;> rfl) | rfl | (simp only [List.length_drop, List.length_take]; rfl)) ?_; (with_reducible refine (laws_heldNodeS.calls kj38 _ _ t480 1 t481 _ ?side1 ?side2 A58.out).mono ?_); (case side1 => repeat (first | exact (Kd.R_reads' HO_7.out).2.2 | (with_reducible refine Kd.C_alloc ?_ _) | (with_reducible refine Kd.C_drewN ?_ _) | (with_reducible refine Kd.C_drew ?_))); (case side2 => rw [show t480.length = t465.length from (Kd.R_reads' HO_7.out).1.symm]; exact (Kd.R_reads' HO_7.out).2.1); rintro e w' ⟨rfl, ⟨nd, rfl⟩⟩; refine ⟨_, rfl, ?_⟩; have hnb68 := NB448_464.out; have hnc68 := NB464_448.out; obtain ⟨y7_0, y7_1, y7_2, z7_0, z7_1, z7_2⟩ := cf3 BK448.out) | ((with_reducible refine zs (f := 33) rfl ?_); refine zda (some 75) rfl rfl Try.func33 (by kernel_rfl) rfl #[.agg #[.int .i8 a0_0, .int .i8 a0_1, .slice A0_2 l0_2.length c0_2]] rfl (by (try simp only [List.map_toArray, List.map_cons, List.map_nil]); first | done | rfl | (simp only [List.length_drop, List.length_take]; rfl)) ?_; (with_reducible refine (laws_toFixed.calls kj38 a0_0 a0_1 _ _ l0_2 t482 t483 t484 _ ?side1 ?side2 A63.out).mono ?_); (case side1 => repeat (first | exact (Kd.C_below HR0_2.out (by repeat (first | (with_reducible first | exact HB.out | apply zg | apply zc | apply zf | refine zi ?_ GE448.out | refine zi ?_ GE464.out) | exact HB.out))) | (with_reducible refine Kd.C_alloc ?_ _) | (with_reducible refine Kd.C_drewN ?_ _) | (with_reducible refine Kd.C_drew ?_))); (case side2 => exact HC0_2.out); rintro e w70 ⟨v485, rfl, ho0, hb⟩; refine ⟨_, rfl, ?_⟩; have n0_ := ze.mk (Kd.R_below (by (with_reducible repeat (first | apply Kd.R_alloc | apply Kd.R_drewN | apply Kd.R_drew)); exact HO_4.out) hb); have n1_ := ze.mk (Kd.R_below (by (with_reducible repeat (first | apply Kd.R_alloc | apply Kd.R_drewN | apply Kd.R_drew)); exact HO_7.out) hb); have n2_ := ze.mk (Kd.R_elder' (by (with_reducible repeat (first | apply Kd.R_alloc | apply Kd.R_drewN | apply Kd.R_drew)); exact HO_465002.out) (Kd.R_base ho0) hb); have n3_ := ze.mk (Kd.R_lower (Kd.R_new' ho0 (Kd.R_lt (by (with_reducible repeat (first | apply Kd.R_alloc | apply Kd.R_drewN | apply Kd.R_drew)); exact HO_465002.out))) (zaa (by repeat (first | (with_reducible first | exact HB.out | apply zg | apply zc | apply zf | refine zi ?_ GE448.out | refine zi ?_ GE464.out) | exact HB.out)))); have n4_ := ze.mk (zk (by (with_reducible repeat (first | refine zb ?_ _ | refine zd ?_ | refine za ?_ _)); exact BK448.out) hb); have n5_ := ze.mk (zk (by (with_reducible repeat (first | refine zb ?_ _ | refine zd ?_ | refine za ?_ _)); exact BK464.out) hb); have n6_ := ze.mk (zt (by repeat (first | (with_reducible first | exact HB.out | apply zg | apply zc | apply zf | refine zi ?_ GE448.out | refine zi ?_ GE464.out) | exact HB.out)) hb); clear HO_4; clear HO_7; clear HO_465002; clear BK448; clear BK464; clear HB; have HO_4 := n0_; have HO_7 := n1_; have HO_465002 := n2_; have HO486 := n3_; have BK448 := n4_; have BK464 := n5_; have HB := n6_; clear n0_ n1_ n2_ n3_ n4_ n5_ n6_; (try clear hb); (try clear hb2); (try clear hk); (try clear hi); (try clear ho0); obtain ⟨Ao71, co71, eo71⟩ := Kd.R_slice HO486.out; subst eo71) | ((with_reducible refine zs (f := 21) rfl ?_); refine zda (some 76) rfl rfl Try.func21 (by kernel_rfl) rfl #[.agg #[.int .i8 t482, .int .i8 t483, .slice Ao71 t484.length co71]] rfl (by (try simp only [List.map_toArray, List.map_cons, List.map_nil]); first | done | rfl | (simp only [List.length_drop, List.length_take]; rfl)) ?_; (with_reducible refine (impl_TreeOf.calls kj38 t482 t483 _ _ t484 t487 t490 _ ?side1 ?side2 A64.out).mono ?_); (case side1 => repeat (first | exact (Kd.R_reads' HO486.out).2.2 | (with_reducible refine Kd.C_alloc ?_ _) | (with_reducible refine Kd.C_drewN ?_ _) | (with_reducible refine Kd.C_drew ?_))); (case side2 => exact (Kd.R_reads' HO486.out).2.1); rintro e w72 ⟨v488, rfl, ho0, hb⟩; refine ⟨_, rfl, ?_⟩; have n0_ := ze.mk (Kd.R_elder' (by (with_reducible repeat (first | apply Kd.R_alloc | apply Kd.R_drewN | apply Kd.R_drew)); exact HO_4.out) (Kd.R_base ho0) hb); have n1_ := ze.mk (Kd.R_elder' (by (with_reducible repeat (first | apply Kd.R_alloc | apply Kd.R_drewN | apply Kd.R_drew)); exact HO_7.out) (Kd.R_base ho0) hb); have n2_ := ze.mk (Kd.R_below (by (with_reducible repeat (first | apply Kd.R_alloc | apply Kd.R_drewN | apply Kd.R_drew)); exact HO_465002.out) hb); have n3_ := ze.mk (Kd.R_below (by (with_reducible repeat (first | apply Kd.R_alloc | apply Kd.R_drewN | apply Kd.R_drew)); exact HO486.out) hb); have n4_ := ze.mk (Kd.R_lower (Kd.R_new' (Kd.R_new' ho0 (Kd.R_lt (by (with_reducible repeat (first | apply Kd.R_alloc | apply Kd.R_drewN | apply Kd.R_drew)); exact HO_4.out))) (Kd.R_lt (by (with_reducible repeat (first | apply Kd.R_alloc | apply Kd.R_drewN | apply Kd.R_drew)); exact HO_7.out))) (zaa (by repeat (first | (with_reducible first | exact HB.out | apply zg | apply zc | apply zf | refine zi ?_ GE448.out | refine zi ?_ GE464.out) | exact HB.out)))); have n5_ := ze.mk (zk (by (with_reducible repeat (first | refine zb ?_ _ | refine zd ?_ | refine za ?_ _)); exact BK448.out) hb); have n6_ := ze.mk (zk (by (with_reducible repeat (first | refine zb ?_ _ | refine zd ?_ | refine za ?_ _)); exact BK464.out) hb); have n7_ := ze.mk (zt (by repeat (first | (with_reducible first | exact HB.out | apply zg | apply zc | apply zf | refine zi ?_ GE448.out | refine zi ?_ GE464.out) | exact HB.out)) hb); clear HO_4; clear HO_7; clear HO_465002; clear HO486; clear BK448; clear BK464; clear HB; have HO_4 := n0_; have HO_7 := n1_; have HO_465002 := n2_; have HO486 := n3_; have HO489 := n4_; have BK448 := n5_; have BK464 := n6_; have HB := n7_; clear n0_ n1_ n2_ n3_ n4_ n5_ n6_ n7_; (try clear hb); (try clear hb2); (try clear hk); (try clear hi); (try clear ho0)))
       (try simp only [Act.put, List.setIfInBounds_toArray, List.set_cons_zero, List.set_cons_succ])
       go_cut [87] (fun v87 wc => ∃ (kq : Nat) (x87_64 : Bool), v87 = .bool x87_64 ∧ ze (laws_FnExactTreeOf.j2 kq t480 t479 x87_64 = some r) ∧ ze (kq ≤ kj38) ∧ ze (Kd.R k102 102 wc w.heap.size (fun _ => True) (.slice Ao66 t465.length co66) t480) ∧ ze (Kd.R k43 43 wc w.heap.size (fun _ => True) (.slice Ao24 t477.length co24) t477) ∧ ze (wc.heap[gb448]? = some (.cells #[.int .i8 a0_0, .int .i8 a0_1, (.slice A0_2 l0_2.length c0_2)] 67 (0, 0))) ∧ ze (wc.heap[gb464]? = some (.cells #[.int .i8 t459, .int .i8 t460, (.slice Ao24 t477.length co24)] 28 (0, 0))) ∧ ze (Below w.heap.size w wc))
       case first =>
        have H := HC65.out
        clear HC65
        replace H := Option.bind_eq_some_iff.mp H
        obtain ⟨t491, A730, H⟩ := H
        replace H : (if t491 = true then (laws_FnExactTreeOf.j2 kj38 t480 t479 (t490 != t458)) else (laws_FnExactTreeOf.j2 kj38 t480 t479 true)) = some r := H
        have A73 := ze.mk A730
        clear A730
        by_cases c74 : t491 = true
        ·subst c74
         have H1 : (laws_FnExactTreeOf.j2 kj38 t480 t479 (t490 != t458)) = some r := by rw [if_pos rfl] at H; exact H
         clear H
         have H := H1
         clear H1
         have H' := ze.mk H
         clear H
         obtain ⟨Ao75, co75, eo75⟩ := Kd.R_slice HO489.out
         subst eo75
         obtain ⟨Ao76, co76, eo76⟩ := Kd.R_slice HO_4.out
         subst eo76
         go_wp2_with (first | ((with_reducible refine zs (f := 34) rfl ?_); refine zda (some 81) rfl rfl Try.func34 (by kernel_rfl) rfl #[.slice Ao75 t487.length co75, .slice Ao76 t455.length co76] rfl (by (try simp only [List.map_toArray, List.map_cons, List.map_nil]); first | done | rfl | (simp only [List.length_drop, List.length_take]; rfl)) ?_; (with_reducible refine (laws_eqNodeS.calls kj38 _ _ t487 _ _ t455 true _ ?side1 ?side2 ?side3 ?side4 A73.out).mono ?_); (case side1 => repeat (first | exact (Kd.R_reads' HO489.out).2.2 | (with_reducible refine Kd.C_alloc ?_ _) | (with_reducible refine Kd.C_drewN ?_ _) | (with_reducible refine Kd.C_drew ?_))); (case side2 => exact (Kd.R_reads' HO489.out).2.1); (case side3 => repeat (first | exact (Kd.R_reads' HO_4.out).2.2 | (with_reducible refine Kd.C_alloc ?_ _) | (with_reducible refine Kd.C_drewN ?_ _) | (with_reducible refine Kd.C_drew ?_))); (case side4 => exact (Kd.R_reads' HO_4.out).2.1); rintro e w77 ⟨rfl, hb⟩; refine ⟨_, rfl, ?_⟩; have n0_ := ze.mk (Kd.R_below (by (with_reducible repeat (first | apply Kd.R_alloc | apply Kd.R_drewN | apply Kd.R_drew)); exact HO_4.out) hb); have n1_ := ze.mk (Kd.R_below (by (with_reducible repeat (first | apply Kd.R_alloc | apply Kd.R_drewN | apply Kd.R_drew)); exact HO_7.out) hb); have n2_ := ze.mk (Kd.R_below (by (with_reducible repeat (first | apply Kd.R_alloc | apply Kd.R_drewN | apply Kd.R_drew)); exact HO_465002.out) hb); have n3_ := ze.mk (Kd.R_below (by (with_reducible repeat (first | apply Kd.R_alloc | apply Kd.R_drewN | apply Kd.R_drew)); exact HO486.out) hb); have n4_ := ze.mk (Kd.R_below (by (with_reducible repeat (first | apply Kd.R_alloc | apply Kd.R_drewN | apply Kd.R_drew)); exact HO489.out) hb); have n5_ := ze.mk (zk (by (with_reducible repeat (first | refine zb ?_ _ | refine zd ?_ | refine za ?_ _)); exact BK448.out) hb); have n6_ := ze.mk (zk (by (with_reducible repeat (first | refine zb ?_ _ | refine zd ?_ | refine za ?_ _)); exact BK464.out) hb); have n7_ := ze.mk (zt (by repeat (first | (with_reducible first | exact HB.out | apply zg | apply zc | apply zf | refine zi ?_ GE448.out | refine zi ?_ GE464.out) | exact HB.out)) hb); clear HO_4; clear HO_7; clear HO_465002; clear HO486; clear HO489; clear BK448; clear BK464; clear HB; have HO_4 := n0_; have HO_7 := n1_; have HO_465002 := n2_; have HO486 := n3_; have HO489 := n4_; have BK448 := n5_; have BK464 := n6_; have HB := n7_; clear n0_ n1_ n2_ n3_ n4_ n5_ n6_ n7_; (try clear hb); (try clear hb2); (try clear hk); (try clear hi)))
         go_meet
         case rel => exact ⟨_, ((t490 != t458)), (by first | rfl | (simp; done) | (simp [*]; done)), H', ⟨by have := HJ10.out; have := HJ38.out; first | omega | exact Nat.le_refl _⟩, ⟨by (try simp only [hl465002_38]); (with_reducible repeat (first | apply Kd.R_alloc | apply Kd.R_drewN | apply Kd.R_drew)); exact Kd.R_mono HO_7.out (fun _ hk => trivial)⟩, ⟨by (try simp only [hl465002_38]); (with_reducible repeat (first | apply Kd.R_alloc | apply Kd.R_drewN | apply Kd.R_drew)); exact Kd.R_mono HO_465002.out (fun _ hk => trivial)⟩, ⟨by (try simp only [hl465002_38]); (with_reducible repeat (first | refine zb ?_ _ | refine zd ?_ | refine za ?_ _)); exact BK448.out⟩, ⟨by (try simp only [hl465002_38]); (with_reducible repeat (first | refine zb ?_ _ | refine zd ?_ | refine za ?_ _)); exact BK464.out⟩, ⟨by repeat (first | (with_reducible first | exact HB.out | apply zg | apply zc | apply zf | refine zi ?_ GE448.out | refine zi ?_ GE464.out) | exact HB.out)⟩⟩
        replace c74 := Bool.eq_false_iff.mpr c74
        subst c74
        have H1 : (laws_FnExactTreeOf.j2 kj38 t480 t479 true) = some r := by rw [if_neg (show ¬ (false = true) by decide)] at H; exact H
        clear H
        have H := H1
        clear H1
        have H' := ze.mk H
        clear H
        obtain ⟨Ao78, co78, eo78⟩ := Kd.R_slice HO489.out
        subst eo78
        obtain ⟨Ao79, co79, eo79⟩ := Kd.R_slice HO_4.out
        subst eo79
        go_wp2_with (first | ((with_reducible refine zs (f := 34) rfl ?_); refine zda (some 81) rfl rfl Try.func34 (by kernel_rfl) rfl #[.slice Ao78 t487.length co78, .slice Ao79 t455.length co79] rfl (by (try simp only [List.map_toArray, List.map_cons, List.map_nil]); first | done | rfl | (simp only [List.length_drop, List.length_take]; rfl)) ?_; (with_reducible refine (laws_eqNodeS.calls kj38 _ _ t487 _ _ t455 false _ ?side1 ?side2 ?side3 ?side4 A73.out).mono ?_); (case side1 => repeat (first | exact (Kd.R_reads' HO489.out).2.2 | (with_reducible refine Kd.C_alloc ?_ _) | (with_reducible refine Kd.C_drewN ?_ _) | (with_reducible refine Kd.C_drew ?_))); (case side2 => exact (Kd.R_reads' HO489.out).2.1); (case side3 => repeat (first | exact (Kd.R_reads' HO_4.out).2.2 | (with_reducible refine Kd.C_alloc ?_ _) | (with_reducible refine Kd.C_drewN ?_ _) | (with_reducible refine Kd.C_drew ?_))); (case side4 => exact (Kd.R_reads' HO_4.out).2.1); rintro e w80 ⟨rfl, hb⟩; refine ⟨_, rfl, ?_⟩; have n0_ := ze.mk (Kd.R_below (by (with_reducible repeat (first | apply Kd.R_alloc | apply Kd.R_drewN | apply Kd.R_drew)); exact HO_4.out) hb); have n1_ := ze.mk (Kd.R_below (by (with_reducible repeat (first | apply Kd.R_alloc | apply Kd.R_drewN | apply Kd.R_drew)); exact HO_7.out) hb); have n2_ := ze.mk (Kd.R_below (by (with_reducible repeat (first | apply Kd.R_alloc | apply Kd.R_drewN | apply Kd.R_drew)); exact HO_465002.out) hb); have n3_ := ze.mk (Kd.R_below (by (with_reducible repeat (first | apply Kd.R_alloc | apply Kd.R_drewN | apply Kd.R_drew)); exact HO486.out) hb); have n4_ := ze.mk (Kd.R_below (by (with_reducible repeat (first | apply Kd.R_alloc | apply Kd.R_drewN | apply Kd.R_drew)); exact HO489.out) hb); have n5_ := ze.mk (zk (by (with_reducible repeat (first | refine zb ?_ _ | refine zd ?_ | refine za ?_ _)); exact BK448.out) hb); have n6_ := ze.mk (zk (by (with_reducible repeat (first | refine zb ?_ _ | refine zd ?_ | refine za ?_ _)); exact BK464.out) hb); have n7_ := ze.mk (zt (by repeat (first | (with_reducible first | exact HB.out | apply zg | apply zc | apply zf | refine zi ?_ GE448.out | refine zi ?_ GE464.out) | exact HB.out)) hb); clear HO_4; clear HO_7; clear HO_465002; clear HO486; clear HO489; clear BK448; clear BK464; clear HB; have HO_4 := n0_; have HO_7 := n1_; have HO_465002 := n2_; have HO486 := n3_; have HO489 := n4_; have BK448 := n5_; have BK464 := n6_; have HB := n7_; clear n0_ n1_ n2_ n3_ n4_ n5_ n6_ n7_; (try clear hb); (try clear hb2); (try clear hk); (try clear hi)))
        go_meet
        case rel => exact ⟨_, (true), (by first | rfl | (simp; done) | (simp [*]; done)), H', ⟨by have := HJ10.out; have := HJ38.out; first | omega | exact Nat.le_refl _⟩, ⟨by (try simp only [hl465002_38]); (with_reducible repeat (first | apply Kd.R_alloc | apply Kd.R_drewN | apply Kd.R_drew)); exact Kd.R_mono HO_7.out (fun _ hk => trivial)⟩, ⟨by (try simp only [hl465002_38]); (with_reducible repeat (first | apply Kd.R_alloc | apply Kd.R_drewN | apply Kd.R_drew)); exact Kd.R_mono HO_465002.out (fun _ hk => trivial)⟩, ⟨by (try simp only [hl465002_38]); (with_reducible repeat (first | refine zb ?_ _ | refine zd ?_ | refine za ?_ _)); exact BK448.out⟩, ⟨by (try simp only [hl465002_38]); (with_reducible repeat (first | refine zb ?_ _ | refine zd ?_ | refine za ?_ _)); exact BK464.out⟩, ⟨by repeat (first | (with_reducible first | exact HB.out | apply zg | apply zc | apply zf | refine zi ?_ GE448.out | refine zi ?_ GE464.out) | exact HB.out)⟩⟩
       case rest =>
        clear HC65
        try clear c2
        try clear p2
        try clear c3
        try clear c3b0
        try clear c4
        try clear c5
        try clear c6
        try clear c7
        try clear c21
        try clear c22
        try clear c27
        try clear c32
        try clear c33
        try clear c34
        try clear c35
        try clear c36
        try clear c37
        try clear c38
        try clear c44
        try clear c47
        try clear c47b0
        try clear c49
        try clear c56
        try clear c59
        try clear c59b0
        try clear c62
        try clear c62b0
        try clear c62b1
        try clear c68
        try clear c74
        try clear y2_0 y2_1 y2_2
        try clear y3_0 y3_1 y3_2
        try clear y4_0 y4_1 y4_2
        try clear y5_0 y5_1 y5_2
        try clear y6_0 y6_1 y6_2
        try clear y1_0 y1_1 y1_2
        try clear y7_0 y7_1 y7_2
        try clear z2_0 z2_1 z2_2
        try clear z3_0 z3_1 z3_2
        try clear z4_0 z4_1 z4_2
        try clear z5_0 z5_1 z5_2
        try clear z6_0 z6_1 z6_2
        try clear z1_0 z1_1 z1_2
        try clear z7_0 z7_1 z7_2
        try clear p2
        obtain ⟨kq, x87_64, rfl, HA, HJ64, HO_7, HO_465002, BK448, BK464, HB⟩ := hcut
        have hl7_64 := (Kd.R_reads' HO_7.out).1
        rw [hl7_64] at HO_7
        (try simp only [hl7_64])
        (try simp only [hl7_64] at BK448)
        (try simp only [hl7_64] at BK464)
        (try simp only [hl7_64] at HO_465002)
        cases kq with
        | zero => exact absurd HA.out (by simp [laws_FnExactTreeOf.j2])
        | succ kj64 =>
         have H := HA.out
         clear HA
         simp only [laws_FnExactTreeOf.j2] at H
         by_cases c81 : x87_64 = true
         ·subst c81
          have H1 : (some false) = some r := by rw [if_pos rfl] at H; exact H
          clear H
          have H := H1
          clear H1
          obtain rfl := Option.some.inj H
          go_wp2
          go_ret
          exact ⟨by first | rfl | (simp [zn, zm] <;> rfl) | (simp [*, zn, zm] <;> rfl), by repeat (first | (with_reducible first | exact HB.out | apply zg | apply zc | apply zf | refine zi ?_ GE448.out | refine zi ?_ GE464.out) | exact HB.out)⟩
         replace c81 := Bool.eq_false_iff.mpr c81
         subst c81
         have H1 : ((laws_heldNodeS.f kj64 t480 1).bind fun t492 => (if t492 < 0 then (some false) else (if t492 = t479 then (some true) else (some false)))) = some r := by rw [if_neg (show ¬ (false = true) by decide)] at H; exact H
         clear H
         have H := H1
         clear H1
         replace H := Option.bind_eq_some_iff.mp H
         obtain ⟨t492, A820, H⟩ := H
         replace H : (if t492 < 0 then (some false) else (if t492 = t479 then (some true) else (some false))) = some r := H
         have A82 := ze.mk A820
         clear A820
         by_cases c83 : t492 < 0
         ·rw [if_pos c83] at H
          have c83b0 : decide (t492 < 0) = true := decide_eq_true c83
          clear c83
          obtain rfl := Option.some.inj H
          go_wp2_with (first | ((with_reducible refine zs (f := 38) rfl ?_); refine zda (some 90) rfl rfl Try.func38 (by kernel_rfl) rfl #[.slice Ao66 t480.length co66, .int .i64 1] rfl (by (try simp only [List.map_toArray, List.map_cons, List.map_nil]); first | done | rfl | (simp only [List.length_drop, List.length_take]; rfl)) ?_; (with_reducible refine (laws_heldNodeS.calls kj64 _ _ t480 1 t492 _ ?side1 ?side2 A82.out).mono ?_); (case side1 => repeat (first | exact (Kd.R_reads' HO_7.out).2.2 | (with_reducible refine Kd.C_alloc ?_ _) | (with_reducible refine Kd.C_drewN ?_ _) | (with_reducible refine Kd.C_drew ?_))); (case side2 => exact (Kd.R_reads' HO_7.out).2.1); rintro e w' ⟨rfl, ⟨nd, rfl⟩⟩; refine ⟨_, rfl, ?_⟩))
          go_ret
          exact ⟨by first | rfl | (simp [zn, zm] <;> rfl) | (simp [*, zn, zm] <;> rfl), by repeat (first | (with_reducible first | exact HB.out | apply zg | apply zc | apply zf | refine zi ?_ GE448.out | refine zi ?_ GE464.out) | exact HB.out)⟩
         rw [if_neg c83] at H
         have c83b0 : decide (t492 < 0) = false := decide_eq_false c83
         clear c83
         by_cases c84 : t492 = t479
         ·rw [if_pos c84] at H
          have c84b0 : (t492 == t479) = true := beq_iff_eq.mpr c84
          have c84b1 : (t492 != t479) = false := bne_eq_false_iff_eq.mpr c84
          clear c84
          obtain rfl := Option.some.inj H
          go_wp2_with (first | ((with_reducible refine zs (f := 38) rfl ?_); refine zda (some 90) rfl rfl Try.func38 (by kernel_rfl) rfl #[.slice Ao66 t480.length co66, .int .i64 1] rfl (by (try simp only [List.map_toArray, List.map_cons, List.map_nil]); first | done | rfl | (simp only [List.length_drop, List.length_take]; rfl)) ?_; (with_reducible refine (laws_heldNodeS.calls kj64 _ _ t480 1 t492 _ ?side1 ?side2 A82.out).mono ?_); (case side1 => repeat (first | exact (Kd.R_reads' HO_7.out).2.2 | (with_reducible refine Kd.C_alloc ?_ _) | (with_reducible refine Kd.C_drewN ?_ _) | (with_reducible refine Kd.C_drew ?_))); (case side2 => exact (Kd.R_reads' HO_7.out).2.1); rintro e w' ⟨rfl, ⟨nd, rfl⟩⟩; refine ⟨_, rfl, ?_⟩))
          go_ret
          exact ⟨by first | rfl | (simp [zn, zm] <;> rfl) | (simp [*, zn, zm] <;> rfl), by repeat (first | (with_reducible first | exact HB.out | apply zg | apply zc | apply zf | refine zi ?_ GE448.out | refine zi ?_ GE464.out) | exact HB.out)⟩
         rw [if_neg c84] at H
         have c84b0 : (t492 == t479) = false := beq_eq_false_iff_ne.mpr c84
         have c84b1 : (t492 != t479) = true := bne_iff_ne.mpr c84
         obtain rfl := Option.some.inj H
         go_wp2_with (first | ((with_reducible refine zs (f := 38) rfl ?_); refine zda (some 90) rfl rfl Try.func38 (by kernel_rfl) rfl #[.slice Ao66 t480.length co66, .int .i64 1] rfl (by (try simp only [List.map_toArray, List.map_cons, List.map_nil]); first | done | rfl | (simp only [List.length_drop, List.length_take]; rfl)) ?_; (with_reducible refine (laws_heldNodeS.calls kj64 _ _ t480 1 t492 _ ?side1 ?side2 A82.out).mono ?_); (case side1 => repeat (first | exact (Kd.R_reads' HO_7.out).2.2 | (with_reducible refine Kd.C_alloc ?_ _) | (with_reducible refine Kd.C_drewN ?_ _) | (with_reducible refine Kd.C_drew ?_))); (case side2 => exact (Kd.R_reads' HO_7.out).2.1); rintro e w' ⟨rfl, ⟨nd, rfl⟩⟩; refine ⟨_, rfl, ?_⟩))
         go_ret
         exact ⟨by first | rfl | (simp [zn, zm] <;> rfl) | (simp [*, zn, zm] <;> rfl), by repeat (first | (with_reducible first | exact HB.out | apply zg | apply zc | apply zf | refine zi ?_ GE448.out | refine zi ?_ GE464.out) | exact HB.out)⟩
      rw [if_neg c62] at H
      have c62b0 : (t481 == t479) = false := beq_eq_false_iff_ne.mpr c62
      have c62b1 : (t481 != t479) = true := bne_iff_ne.mpr c62
      obtain rfl := Option.some.inj H
      obtain ⟨Ao85, co85, eo85⟩ := Kd.R_slice HO_7.out
      subst eo85
      go_wp2_with (first | ((with_reducible refine zs (f := 37) rfl ?_); refine zda (some 64) rfl rfl Try.func37 (by kernel_rfl) rfl #[.slice Ao85 t465.length co85, .int .i64 1] rfl (by (try simp only [List.map_toArray, List.map_cons, List.map_nil]); first | done | rfl | (simp only [List.length_drop, List.length_take]; rfl)) ?_; (with_reducible refine (laws_markNodeS.calls kj38 (fun k_ => some k_ = (.slice Ao85 t465.length co85 : Value).ownBlock) (.slice Ao85 t465.length co85) t465 1 t479 t480 w _ ?side1 ?side2 A57.out).mono ?_); (case side1 => repeat (first | (with_reducible first | exact HB.out | apply zg | apply zc | apply zf | refine zi ?_ GE448.out | refine zi ?_ GE464.out) | exact HB.out)); (case side2 => exact Kd.R_tight rfl HO_7.out); rintro e w86 ⟨rfl, hy0, hb, hkp⟩; refine ⟨_, rfl, ?_⟩; have n0_ := ze.mk (Kd.R_mono (ok' := fun k_ => some k_ ≠ (.slice Ao85 t465.length co85 : Value).ownBlock) (Kd.R_keptB (HO_4.out) hkp (fun k_ hk_ hs_ => (hk_) hs_)) (fun k_ hk_ => hk_.1)); have n1_ := ze.mk (Kd.R_reok rfl hy0 (fun k_ e_ => HO_7.out.1 k_ e_)); have n2_ := ze.mk (Kd.R_mono (ok' := fun k_ => True) (Kd.R_keptB ((Kd.R_apart' HO_465002.out (Kd.R_typed HO_7.out) (by decide))) hkp (fun k_ hk_ hs_ => (hk_.2) hs_)) (fun k_ hk_ => trivial)); have n3_ := ze.mk (zhb (by (with_reducible repeat (first | refine zb ?_ _ | refine zd ?_ | refine za ?_ _)); exact BK448.out) hkp (fun hs_ => (fun e_ => (Kd.R_ne HO_7.out BK448.out (by decide)) e_) hs_)); have n4_ := ze.mk (zhb (by (with_reducible repeat (first | refine zb ?_ _ | refine zd ?_ | refine za ?_ _)); exact BK464.out) hkp (fun hs_ => (fun e_ => (Kd.R_ne HO_7.out BK464.out (by decide)) e_) hs_)); have n5_ := ze.mk (hb); clear HO_4; clear HO_7; clear HO_465002; clear BK448; clear BK464; clear HB; have HO_4 := n0_; have HO_7 := n1_; have HO_465002 := n2_; have BK448 := n3_; have BK464 := n4_; have HB := n5_; clear n0_ n1_ n2_ n3_ n4_ n5_; (try clear hb); (try clear hkp); (try clear hy0)) | ((with_reducible refine zs (f := 38) rfl ?_); refine zda (some 67) rfl rfl Try.func38 (by kernel_rfl) rfl #[.slice Ao85 t480.length co85, .int .i64 1] rfl (by (try simp only [List.map_toArray, List.map_cons, List.map_nil]); first | done | (rw [show t480.length = t465.length from (Kd.R_reads' HO_7.out).1.symm] <;> rfl) | rfl | (simp only [List.length_drop, List.length_take]; rfl)) ?_; (with_reducible refine (laws_heldNodeS.calls kj38 _ _ t480 1 t481 _ ?side1 ?side2 A58.out).mono ?_); (case side1 => repeat (first | exact (Kd.R_reads' HO_7.out).2.2 | (with_reducible refine Kd.C_alloc ?_ _) | (with_reducible refine Kd.C_drewN ?_ _) | (with_reducible refine Kd.C_drew ?_))); (case side2 => rw [show t480.length = t465.length from (Kd.R_reads' HO_7.out).1.symm]; exact (Kd.R_reads' HO_7.out).2.1); rintro e w' ⟨rfl, ⟨nd, rfl⟩⟩; refine ⟨_, rfl, ?_⟩))
      go_ret
      exact ⟨by first | rfl | (simp [zn, zm] <;> rfl) | (simp [*, zn, zm] <;> rfl), by repeat (first | (with_reducible first | exact HB.out | apply zg | apply zc | apply zf | refine zi ?_ GE448.out | refine zi ?_ GE464.out) | exact HB.out)⟩
   replace c37 := Bool.eq_false_iff.mpr c37
   subst c37
   have H1 : (some false) = some r := by rw [if_neg (show ¬ (false = true) by decide)] at H; exact H
   clear H
   have H := H1
   clear H1
   obtain rfl := Option.some.inj H
   try go_wp2
   have n0_ := ze.mk (Kd.R_drew HO_4.out)
   have n1_ := ze.mk (Kd.R_drew HO_7.out)
   have n2_ := ze.mk (Kd.R_drew HO_465002.out)
   have n3_ := ze.mk (zd BK448.out)
   have n4_ := ze.mk (zd BK464.out)
   have n5_ := ze.mk (zf HB.out)
   clear HO_4
   clear HO_7
   clear HO_465002
   clear BK448
   clear BK464
   clear HB
   have HO_4 := n0_
   have HO_7 := n1_
   have HO_465002 := n2_
   have BK448 := n3_
   have BK464 := n4_
   have HB := n5_
   clear n0_ n1_ n2_ n3_ n4_ n5_
   refine zfb (n := 5) (S := fun w' => w'.cell? ⟨gb464, 0, none⟩ = some (.int .i8 t459) ∧ w'.cell? ⟨gb464, 1, none⟩ = some (.int .i8 t460) ∧ w'.cell? ⟨gb464, 2, none⟩ = some (.slice Ao24 t461.length co24) ∧ w'.cell? ⟨gb448, 0, none⟩ = some (.int .i8 a0_0) ∧ w'.cell? ⟨gb448, 1, none⟩ = some (.int .i8 a0_1) ∧ w'.cell? ⟨gb448, 2, none⟩ = some (.slice A0_2 l0_2.length c0_2)) (ds := []) (fm 5 0) (by kernel_rfl) rfl rfl ⟨(zo BK464.out 0).trans rfl, (zo BK464.out 1).trans rfl, (zo BK464.out 2).trans rfl, (zo BK448.out 0).trans rfl, (zo BK448.out 1).trans rfl, (zo BK448.out 2).trans rfl⟩ (fun hHeld => ?_)
   generalize wc.drew = w87 at HO_4 HO_7 HO_465002 BK448 BK464 HB hHeld ⊢
   refine take_ (i := 0) (N := some 41) (v := ?_) (a' := ?_) (fm 5 1) rfl rfl (by kernel_rfl) (fun _ _ _ h => h) (Or.inl ⟨by rfl, ?_⟩) hHeld ?_ ?_
   rotate_left
   ·rintro w' ⟨s0, s1, s2, s3, s4, s5⟩
    go_simp
    with_reducible rfl
   rotate_left
   ·simp only [Act.put, List.setIfInBounds_toArray, List.set_cons_zero, List.set_cons_succ, zy, zz]
    rfl
   refine take_ (i := 1) (N := some 42) (v := ?_) (a' := ?_) (fm 5 2) rfl rfl (by kernel_rfl) (fun _ _ _ h => h) (Or.inl ⟨by rfl, ?_⟩) hHeld ?_ ?_
   rotate_left
   ·rintro w' ⟨s0, s1, s2, s3, s4, s5⟩
    go_simp
    with_reducible rfl
   rotate_left
   ·simp only [Act.put, List.setIfInBounds_toArray, List.set_cons_zero, List.set_cons_succ, zy, zz]
    rfl
   refine one_ (i := 2) (N := some 43) (fm 5 3) rfl rfl (by kernel_rfl) (by decide) (fun K hK => ?_)
   refine zdb Try.func33 (by kernel_rfl) rfl #[.agg #[.int .i8 a0_0, .int .i8 a0_1, .slice A0_2 l0_2.length c0_2]] (by rfl) rfl rfl (by (try simp only [List.map_toArray, List.map_cons, List.map_nil]); first | done | rfl | (simp only [List.length_drop, List.length_take]; rfl)) ?_
   with_reducible refine (laws_toFixed.calls kj10 a0_0 a0_1 _ _ l0_2 t470 t471 t472 _ ?side1 ?side2 A35.out).mono ?_
   (case side1 => repeat (first | exact (Kd.C_below HR0_2.out HB.out) | (with_reducible refine Kd.C_alloc ?_ _) | (with_reducible refine Kd.C_drewN ?_ _) | (with_reducible refine Kd.C_drew ?_)))
   (case side2 => exact HC0_2.out)
   rintro e w88 ⟨v473, rfl, ho0, hb⟩
   refine ⟨_, rfl, ?_⟩
   have n0_ := ze.mk (Kd.R_below (by (with_reducible repeat (first | apply Kd.R_alloc | apply Kd.R_drewN | apply Kd.R_drew)); exact HO_4.out) hb)
   have n1_ := ze.mk (Kd.R_below (by (with_reducible repeat (first | apply Kd.R_alloc | apply Kd.R_drewN | apply Kd.R_drew)); exact HO_7.out) hb)
   have n2_ := ze.mk (Kd.R_elder' (by (with_reducible repeat (first | apply Kd.R_alloc | apply Kd.R_drewN | apply Kd.R_drew)); exact HO_465002.out) (Kd.R_base ho0) hb)
   have n3_ := ze.mk (Kd.R_lower (Kd.R_new' ho0 (Kd.R_lt (by (with_reducible repeat (first | apply Kd.R_alloc | apply Kd.R_drewN | apply Kd.R_drew)); exact HO_465002.out))) (zaa (by repeat (first | (with_reducible first | exact HB.out | apply zg | apply zc | apply zf | refine zi ?_ GE448.out | refine zi ?_ GE464.out) | exact HB.out))))
   have n4_ := ze.mk (zk (by (with_reducible repeat (first | refine zb ?_ _ | refine zd ?_ | refine za ?_ _)); exact BK448.out) hb)
   have n5_ := ze.mk (zk (by (with_reducible repeat (first | refine zb ?_ _ | refine zd ?_ | refine za ?_ _)); exact BK464.out) hb)
   have n6_ := ze.mk (zt (by repeat (first | (with_reducible first | exact HB.out | apply zg | apply zc | apply zf | refine zi ?_ GE448.out | refine zi ?_ GE464.out) | exact HB.out)) hb)
   clear HO_4
   clear HO_7
   clear HO_465002
   clear BK448
   clear BK464
   clear HB
   have HO_4 := n0_
   have HO_7 := n1_
   have HO_465002 := n2_
   have HO474 := n3_
   have BK448 := n4_
   have BK464 := n5_
   have HB := n6_
   clear n0_ n1_ n2_ n3_ n4_ n5_ n6_
   (try clear hb)
   (try clear hb2)
   (try clear hk)
   (try clear hi)
   (try clear ho0)
   obtain ⟨Ao89, co89, eo89⟩ := Kd.R_slice HO474.out
   (first | subst eo89 | (injection eo89 with f1_ f2_ f3_; have f4_ := f1_.symm; have f5_ := f3_.symm; clear f1_ f2_ f3_; subst f4_; subst f5_))
   refine hK.out _ _ ⟨(zo BK464.out 0).trans rfl, (zo BK464.out 1).trans rfl, (zo BK464.out 2).trans rfl, (zo BK448.out 0).trans rfl, (zo BK448.out 1).trans rfl, (zo BK448.out 2).trans rfl⟩ (fun hHeld => ?_)
   clear hK K
   refine zpa (a' := ?_) ?_ ?_
   rotate_left
   ·show Act.put _ (some 43) _ = _
    simp only [Act.put, List.setIfInBounds_toArray, List.set_cons_zero, List.set_cons_succ, zy, zz]
    rfl
   refine one_ (i := 3) (N := some 44) (fm 5 4) rfl rfl (by kernel_rfl) (by decide) (fun K hK => ?_)
   refine zdb Try.func35 (by kernel_rfl) rfl #[.agg #[.int .i8 t459, .int .i8 t460, .slice Ao24 t461.length co24], .agg #[.int .i8 t470, .int .i8 t471, .slice Ao89 t472.length co89]] (by rfl) rfl rfl (by (try simp only [List.map_toArray, List.map_cons, List.map_nil]); first | done | rfl | (simp only [List.length_drop, List.length_take]; rfl)) ?_
   with_reducible refine (laws_eqFixed.calls kj10 t459 t460 _ _ t461 t470 t471 _ _ t472 false _ ?side1 ?side2 ?side3 ?side4 A36.out).mono ?_
   (case side1 => repeat (first | exact (Kd.R_reads' HO_465002.out).2.2 | (with_reducible refine Kd.C_alloc ?_ _) | (with_reducible refine Kd.C_drewN ?_ _) | (with_reducible refine Kd.C_drew ?_)))
   (case side2 => exact (Kd.R_reads' HO_465002.out).2.1)
   (case side3 => repeat (first | exact (Kd.R_reads' HO474.out).2.2 | (with_reducible refine Kd.C_alloc ?_ _) | (with_reducible refine Kd.C_drewN ?_ _) | (with_reducible refine Kd.C_drew ?_)))
   (case side4 => exact (Kd.R_reads' HO474.out).2.1)
   rintro e w90 ⟨rfl, hb⟩
   refine ⟨_, rfl, ?_⟩
   have n0_ := ze.mk (Kd.R_below (by (with_reducible repeat (first | apply Kd.R_alloc | apply Kd.R_drewN | apply Kd.R_drew)); exact HO_4.out) hb)
   have n1_ := ze.mk (Kd.R_below (by (with_reducible repeat (first | apply Kd.R_alloc | apply Kd.R_drewN | apply Kd.R_drew)); exact HO_7.out) hb)
   have n2_ := ze.mk (Kd.R_below (by (with_reducible repeat (first | apply Kd.R_alloc | apply Kd.R_drewN | apply Kd.R_drew)); exact HO_465002.out) hb)
   have n3_ := ze.mk (Kd.R_below (by (with_reducible repeat (first | apply Kd.R_alloc | apply Kd.R_drewN | apply Kd.R_drew)); exact HO474.out) hb)
   have n4_ := ze.mk (zk (by (with_reducible repeat (first | refine zb ?_ _ | refine zd ?_ | refine za ?_ _)); exact BK448.out) hb)
   have n5_ := ze.mk (zk (by (with_reducible repeat (first | refine zb ?_ _ | refine zd ?_ | refine za ?_ _)); exact BK464.out) hb)
   have n6_ := ze.mk (zt (by repeat (first | (with_reducible first | exact HB.out | apply zg | apply zc | apply zf | refine zi ?_ GE448.out | refine zi ?_ GE464.out) | exact HB.out)) hb)
   clear HO_4
   clear HO_7
   clear HO_465002
   clear HO474
   clear BK448
   clear BK464
   clear HB
   have HO_4 := n0_
   have HO_7 := n1_
   have HO_465002 := n2_
   have HO474 := n3_
   have BK448 := n4_
   have BK464 := n5_
   have HB := n6_
   clear n0_ n1_ n2_ n3_ n4_ n5_ n6_
   (try clear hb)
   (try clear hb2)
   (try clear hk)
   (try clear hi)
   refine hK.out _ _ ⟨(zo BK464.out 0).trans rfl, (zo BK464.out 1).trans rfl, (zo BK464.out 2).trans rfl, (zo BK448.out 0).trans rfl, (zo BK448.out 1).trans rfl, (zo BK448.out 2).trans rfl⟩ (fun hHeld => ?_)
   clear hK K
   refine zpa (a' := ?_) ?_ ?_
   rotate_left
   ·show Act.put _ (some 44) _ = _
    simp only [Act.put, List.setIfInBounds_toArray, List.set_cons_zero, List.set_cons_succ, zy, zz]
    rfl
   refine znd (i := 4) (N := some 45) (v := ?_) (a' := ?_) (fm 5 5) rfl rfl (by kernel_rfl) (fun _ _ _ h => h) (Or.inl ⟨by rfl, ?_⟩) ?_ ?_
   rotate_left
   ·intro w'
    go_simp
    with_reducible rfl
   rotate_left
   ·simp only [Act.put, List.setIfInBounds_toArray, List.set_cons_zero, List.set_cons_succ, zy, zz]
    rfl
   refine zxb (by kernel_rfl) ?_
   try go_wp2
   go_ret
   exact ⟨by first | rfl | (simp [zn, zm] <;> rfl) | (simp [*, zn, zm] <;> rfl), by repeat (first | (with_reducible first | exact HB.out | apply zg | apply zc | apply zf | refine zi ?_ GE448.out | refine zi ?_ GE464.out) | exact HB.out)⟩
end Go.Proofs.Ytmfbcklaomigaaa.M
