-- Written by wip/tools/myprint.py.
import Derived.Test.YtmmonhpjjjdnjaaVx0
import Derived.Test.YtmmonhpjjjdnjaaLLoadV
namespace Go.Proofs.Ytmmonhpjjjdnjaa.V
open Go.RowKit Go.Proofs.YtmmonhpjjjdnjaaW.PrintWords Go.Proofs.YtmmonhpjjjdnjaaW.PrintLast Go.Proofs.YtmmonhpjjjdnjaaW.PrintMore
attribute [local go_sem] zoa zqa zwa zva zia zga zra zpa
set_option linter.unusedVariables false
set_option linter.unusedSimpArgs false
mutual
def laws_markNodeS.l0 : Nat → List (S54) → Int → Int → Option (Int × (List (S54)))
 | 0, _, _, _ => none
 | k + 1, x0, x1, x5 => if x5 < (x0.length : Int) then (laws_markNodeS.l1 k x0 x1 x5 0) else (some (x1, x0))
def laws_markNodeS.l1 : Nat → List (S54) → Int → Int → Int → Option (Int × (List (S54)))
 | 0, _, _, _, _ => none
 | k + 1, x0, x1, x5, x6 => if x6 < 14 then (if 0 ≤ x5 then (if x5 < (x0.length : Int) then (if 0 ≤ x6 then (laws_markNodeS.l1 k (x0.set (x5 : Int).toNat (⟨(⟨(zy x6 0 (IntKind.i8.wrap (x1)) ((za x0 x5).f0.f0)), (zy x6 1 (IntKind.i8.wrap (x1)) ((za x0 x5).f0.f1)), (zy x6 2 (IntKind.i8.wrap (x1)) ((za x0 x5).f0.f2)), (zy x6 3 (IntKind.i8.wrap (x1)) ((za x0 x5).f0.f3)), (zy x6 4 (IntKind.i8.wrap (x1)) ((za x0 x5).f0.f4)), (zy x6 5 (IntKind.i8.wrap (x1)) ((za x0 x5).f0.f5)), (zy x6 6 (IntKind.i8.wrap (x1)) ((za x0 x5).f0.f6)), (zy x6 7 (IntKind.i8.wrap (x1)) ((za x0 x5).f0.f7)), (zy x6 8 (IntKind.i8.wrap (x1)) ((za x0 x5).f0.f8)), (zy x6 9 (IntKind.i8.wrap (x1)) ((za x0 x5).f0.f9)), (zy x6 10 (IntKind.i8.wrap (x1)) ((za x0 x5).f0.f10)), (zy x6 11 (IntKind.i8.wrap (x1)) ((za x0 x5).f0.f11)), (zy x6 12 (IntKind.i8.wrap (x1)) ((za x0 x5).f0.f12)), (zy x6 13 (IntKind.i8.wrap (x1)) ((za x0 x5).f0.f13))⟩ : S50), (⟨(za x0 x5).f1.f0, (za x0 x5).f1.f1, (za x0 x5).f1.f2⟩ : S52), (⟨(za x0 x5).f2.f0, (za x0 x5).f2.f1⟩ : S46), (za x0 x5).f3⟩ : S54)) (wrap64 (x1 + 1)) x5 (wrap64 (x6 + 1))) else (none)) else (none)) else (none)) else (laws_markNodeS.l2 k x0 x1 x5 0)
def laws_markNodeS.l2 : Nat → List (S54) → Int → Int → Int → Option (Int × (List (S54)))
 | 0, _, _, _, _ => none
 | k + 1, x0, x1, x5, x7 => if x7 < 3 then (if 0 ≤ x5 then (if x5 < (x0.length : Int) then (if 0 ≤ x7 then (laws_markNodeS.l2 k (x0.set (x5 : Int).toNat (⟨(⟨(za x0 x5).f0.f0, (za x0 x5).f0.f1, (za x0 x5).f0.f2, (za x0 x5).f0.f3, (za x0 x5).f0.f4, (za x0 x5).f0.f5, (za x0 x5).f0.f6, (za x0 x5).f0.f7, (za x0 x5).f0.f8, (za x0 x5).f0.f9, (za x0 x5).f0.f10, (za x0 x5).f0.f11, (za x0 x5).f0.f12, (za x0 x5).f0.f13⟩ : S50), (⟨(zy x7 0 (IntKind.i16.wrap (x1)) ((za x0 x5).f1.f0)), (zy x7 1 (IntKind.i16.wrap (x1)) ((za x0 x5).f1.f1)), (zy x7 2 (IntKind.i16.wrap (x1)) ((za x0 x5).f1.f2))⟩ : S52), (⟨(za x0 x5).f2.f0, (za x0 x5).f2.f1⟩ : S46), (za x0 x5).f3⟩ : S54)) (wrap64 (x1 + 1)) x5 (wrap64 (x7 + 1))) else (none)) else (none)) else (none)) else (if 0 ≤ x5 then (if x5 < (x0.length : Int) then ((some (x0.set (x5 : Int).toNat (⟨(⟨(za x0 x5).f0.f0, (za x0 x5).f0.f1, (za x0 x5).f0.f2, (za x0 x5).f0.f3, (za x0 x5).f0.f4, (za x0 x5).f0.f5, (za x0 x5).f0.f6, (za x0 x5).f0.f7, (za x0 x5).f0.f8, (za x0 x5).f0.f9, (za x0 x5).f0.f10, (za x0 x5).f0.f11, (za x0 x5).f0.f12, (za x0 x5).f0.f13⟩ : S50), (⟨(za x0 x5).f1.f0, (za x0 x5).f1.f1, (za x0 x5).f1.f2⟩ : S52), (⟨IntKind.i8.wrap (x1), (za x0 x5).f2.f1⟩ : S46), (za x0 x5).f3⟩ : S54) : List (S54))).bind fun y336 => ((some (y336.set (x5 : Int).toNat (⟨(⟨(za y336 x5).f0.f0, (za y336 x5).f0.f1, (za y336 x5).f0.f2, (za y336 x5).f0.f3, (za y336 x5).f0.f4, (za y336 x5).f0.f5, (za y336 x5).f0.f6, (za y336 x5).f0.f7, (za y336 x5).f0.f8, (za y336 x5).f0.f9, (za y336 x5).f0.f10, (za y336 x5).f0.f11, (za y336 x5).f0.f12, (za y336 x5).f0.f13⟩ : S50), (⟨(za y336 x5).f1.f0, (za y336 x5).f1.f1, (za y336 x5).f1.f2⟩ : S52), (⟨(za y336 x5).f2.f0, ((Int.tmod (wrap64 (x1 + 1)) 3) == 0)⟩ : S46), (za y336 x5).f3⟩ : S54) : List (S54))).bind fun y337 => (laws_markNodeS.l0 k (y337.set (x5 : Int).toNat (⟨(⟨(za y337 x5).f0.f0, (za y337 x5).f0.f1, (za y337 x5).f0.f2, (za y337 x5).f0.f3, (za y337 x5).f0.f4, (za y337 x5).f0.f5, (za y337 x5).f0.f6, (za y337 x5).f0.f7, (za y337 x5).f0.f8, (za y337 x5).f0.f9, (za y337 x5).f0.f10, (za y337 x5).f0.f11, (za y337 x5).f0.f12, (za y337 x5).f0.f13⟩ : S50), (⟨(za y337 x5).f1.f0, (za y337 x5).f1.f1, (za y337 x5).f1.f2⟩ : S52), (⟨(za y337 x5).f2.f0, (za y337 x5).f2.f1⟩ : S46), ((Int.tmod (wrap64 ((wrap64 (x1 + 1)) + 1)) 3) == 0)⟩ : S54)) (wrap64 ((wrap64 ((wrap64 (x1 + 1)) + 1)) + 1)) (wrap64 (x5 + 1))))) else (none)) else (none))
end
def laws_markNodeS.f (k : Nat) (l0 : List (S54)) (a1 : Int) : Option (Int × (List (S54))) := laws_markNodeS.l0 k l0 a1 0
set_option maxHeartbeats 8000000 in
set_option maxRecDepth 100000 in
theorem laws_markNodeS.calls (k : Nat) (P0_ : Nat → Prop) (u9000_ : Value) (l0 : List (S54)) (a1 : Int) (r1 : Int) (r2 : List (S54)) (w0 w : World) (hB : Below w0.heap.size w0 w) (ho0 : Kd.R k54 54 w w0.heap.size P0_ u9000_ l0) (h : laws_markNodeS.f k l0 a1 = some (r1, r2)) :
  Calls Try.prog 20 #[u9000_, .int .i64 a1] w fun e w' => e = .returned (.int .i64 r1) ∧ Kd.R k54 54 w' w0.heap.size (fun k_ => (P0_ k_ ∨ w.heap.size ≤ k_)) u9000_ r2 ∧ Below w0.heap.size w0 w' ∧ Kept w w' (fun k_ => P0_ k_) := by
 have HO0 := zc.mk (show Kd.R k54 54 w w0.heap.size (fun k_ => (P0_ k_ ∨ w.heap.size ≤ k_)) u9000_ l0 from Kd.R_mono ho0 (fun k_ hk => (.inl hk)))
 have HK := zc.mk (Kept.refl w (fun k_ => P0_ k_))
 have HW0 := zc.mk hB.size
 have HB := zc.mk hB
 clear hB
 have H : (laws_markNodeS.l0 k l0 a1 0) = some (r1, r2) := h
 clear h
 have H' := zc.mk H
 clear H
 go_enter Try.func20, Try.ntmps20
 go_wp2
 go_loopg [1, 5] k (fun kq v1 v5 w' => ∃ (x0_1 : List (S54)) (x1_1 : Int) (x5_1 : Int), v1 = .int .i64 x1_1 ∧ v5 = .int .i64 x5_1 ∧ zc (laws_markNodeS.l0 kq x0_1 x1_1 x5_1 = some (r1, r2)) ∧ zc (kq ≤ k) ∧ zc (Kd.R k54 54 w' w0.heap.size (fun k_ => (P0_ k_ ∨ w.heap.size ≤ k_)) u9000_ x0_1) ∧ zc (Kept w w' (fun k_ => P0_ k_)) ∧ zc (Below w0.heap.size w0 w'))
 case atStart => exact ⟨(l0), (a1), (0), (by first | rfl | (simp; done) | (simp [*]; done)), (by first | rfl | (simp; done) | (simp [*]; done)), H', ⟨Nat.le_refl _⟩, ⟨by (with_reducible repeat (first | apply Kd.R_alloc | apply Kd.R_drewN | apply Kd.R_drew)); exact HO0.out⟩, ⟨by repeat (first | (with_reducible first | exact HK.out | apply Kept.alloc | apply Kept.drewN | apply Kept.drew) | exact HK.out)⟩, ⟨by repeat (first | (with_reducible first | exact HB.out | apply ze | apply zb | apply zd) | exact HB.out)⟩⟩
 case round =>
  clear H'
  try clear c2
  try clear p2
  obtain ⟨x0_1, x1_1, x5_1, rfl, rfl, HA, HK1, HO_0, HK, HB⟩ := hrel
  cases gk with
  | zero => exact absurd HA.out (by simp [laws_markNodeS.l0])
  | succ k1 =>
   have H := HA.out
   clear HA
   simp only [laws_markNodeS.l0] at H
   by_cases c3 : x5_1 < (x0_1.length : Int)
   ·rw [if_pos c3] at H
    have c3b0 : decide (x5_1 < (x0_1.length : Int)) = true := decide_eq_true c3
    clear c3
    have H' := zc.mk H
    clear H
    obtain ⟨Ao4, co4, eo4⟩ := Kd.R_slice HO_0.out
    subst eo4
    go_wp2
    go_loopg [1, 6] k1 (fun kq v1 v6 w' => ∃ (x0_2 : List (S54)) (x1_2 : Int) (x6_2 : Int), v1 = .int .i64 x1_2 ∧ v6 = .int .i64 x6_2 ∧ zc (laws_markNodeS.l1 kq x0_2 x1_2 x5_1 x6_2 = some (r1, r2)) ∧ zc (kq ≤ k1) ∧ zc (Kd.R k54 54 w' w0.heap.size (fun k_ => (P0_ k_ ∨ w.heap.size ≤ k_)) (.slice Ao4 x0_1.length co4) x0_2) ∧ zc (Kept w w' (fun k_ => P0_ k_)) ∧ zc (Below w0.heap.size w0 w'))
    case atStart => exact ⟨(x0_1), (x1_1), (0), (by first | rfl | (simp; done) | (simp [*]; done)), (by first | rfl | (simp; done) | (simp [*]; done)), H', ⟨Nat.le_refl _⟩, ⟨by (with_reducible repeat (first | apply Kd.R_alloc | apply Kd.R_drewN | apply Kd.R_drew)); exact HO_0.out⟩, ⟨by repeat (first | (with_reducible first | exact HK.out | apply Kept.alloc | apply Kept.drewN | apply Kept.drew) | exact HK.out)⟩, ⟨by repeat (first | (with_reducible first | exact HB.out | apply ze | apply zb | apply zd) | exact HB.out)⟩⟩
    case round =>
     clear H'
     try clear c2
     try clear p2
     try clear c3
     try clear c3b0
     try clear p2
     obtain ⟨x0_2, x1_2, x6_2, rfl, rfl, HA, HK2, HO_0, HK, HB⟩ := hrel
     have hl0_2 := (Kd.R_reads' HO_0.out).1
     rw [hl0_2] at HO_0
     (try simp only [hl0_2])
     cases gk with
     | zero => exact absurd HA.out (by simp [laws_markNodeS.l1])
     | succ k2 =>
      have H := HA.out
      clear HA
      simp only [laws_markNodeS.l1] at H
      by_cases c5 : x6_2 < 14
      ·rw [if_pos c5] at H
       have c5b0 : decide (x6_2 < 14) = true := decide_eq_true c5
       clear c5
       by_cases c6 : 0 ≤ x5_1
       ·rw [if_pos c6] at H
        have c6b0 : decide (0 ≤ x5_1) = true := decide_eq_true c6
        clear c6
        by_cases c7 : x5_1 < (x0_2.length : Int)
        ·rw [if_pos c7] at H
         have c7b0 : decide (x5_1 < (x0_2.length : Int)) = true := decide_eq_true c7
         clear c7
         by_cases c9 : 0 ≤ x6_2
         ·rw [if_pos c9] at H
          have c9b0 : decide (0 ≤ x6_2) = true := decide_eq_true c9
          clear c9
          obtain ⟨y333, hy333⟩ : ∃ y_ : List (S54), y_ = (x0_2.set (x5_1 : Int).toNat (⟨(⟨(zy x6_2 0 (IntKind.i8.wrap (x1_2)) ((za x0_2 x5_1).f0.f0)), (zy x6_2 1 (IntKind.i8.wrap (x1_2)) ((za x0_2 x5_1).f0.f1)), (zy x6_2 2 (IntKind.i8.wrap (x1_2)) ((za x0_2 x5_1).f0.f2)), (zy x6_2 3 (IntKind.i8.wrap (x1_2)) ((za x0_2 x5_1).f0.f3)), (zy x6_2 4 (IntKind.i8.wrap (x1_2)) ((za x0_2 x5_1).f0.f4)), (zy x6_2 5 (IntKind.i8.wrap (x1_2)) ((za x0_2 x5_1).f0.f5)), (zy x6_2 6 (IntKind.i8.wrap (x1_2)) ((za x0_2 x5_1).f0.f6)), (zy x6_2 7 (IntKind.i8.wrap (x1_2)) ((za x0_2 x5_1).f0.f7)), (zy x6_2 8 (IntKind.i8.wrap (x1_2)) ((za x0_2 x5_1).f0.f8)), (zy x6_2 9 (IntKind.i8.wrap (x1_2)) ((za x0_2 x5_1).f0.f9)), (zy x6_2 10 (IntKind.i8.wrap (x1_2)) ((za x0_2 x5_1).f0.f10)), (zy x6_2 11 (IntKind.i8.wrap (x1_2)) ((za x0_2 x5_1).f0.f11)), (zy x6_2 12 (IntKind.i8.wrap (x1_2)) ((za x0_2 x5_1).f0.f12)), (zy x6_2 13 (IntKind.i8.wrap (x1_2)) ((za x0_2 x5_1).f0.f13))⟩ : S50), (⟨(za x0_2 x5_1).f1.f0, (za x0_2 x5_1).f1.f1, (za x0_2 x5_1).f1.f2⟩ : S52), (⟨(za x0_2 x5_1).f2.f0, (za x0_2 x5_1).f2.f1⟩ : S46), (za x0_2 x5_1).f3⟩ : S54)) := ⟨_, rfl⟩
          replace H : (laws_markNodeS.l1 k2 y333 (wrap64 (x1_2 + 1)) x5_1 (wrap64 (x6_2 + 1))) = some (r1, r2) := by first | (rw [hy333]; with_reducible exact H) | (have H2_ := (Option.bind_some _ _).symm.trans H; rw [hy333]; with_reducible exact H2_) | (have H2_ := (Option.bind_some _ _).symm.trans H; with_reducible exact H2_) | with_reducible exact H | (rw [hy333]; exact H) | exact H
          have Ny333 := zc.mk hy333
          clear hy333
          have H' := zc.mk H
          clear H
          have p8 : 0 ≤ (x5_1 : Int) := od (by first | (with_reducible assumption) | assumption)
          have q8 : (x5_1 : Int) < ((x0_2.length : Int) : Int) := od (by first | (with_reducible assumption) | assumption)
          obtain ⟨go8, co8, eo8, gb8, gl8, cl8, HG8⟩ := Kd.R_form HO_0.out (by omega)
          (first | cases eo8 | (injection eo8 with ea_ en_ ec_; (first | subst ea_ | (injection ea_ with ea_; subst ea_)); subst ec_; clear en_))
          have GB8 := zc.mk gb8
          have GG8 := zc.mk HG8
          clear gb8 gl8 HG8
          have HMgo8 := zc.mk (show (P0_ go8 ∨ w.heap.size ≤ go8) from (HO_0.out.1 _ rfl))
          obtain ⟨ce8, hcl8, hM8, hcc8, hfr8⟩ := Kd.R_elem HO_0.out z54 (x5_1 : Int) p8 q8
          obtain rfl := zw hM8
          have u1_0 : wr.cell? ⟨go8, (x5_1 : Int).toNat * 20, none⟩ = some (.int .i8 ((za x0_2 x5_1).f0.f0)) := hcc8 0 _ rfl
          have u1_1 : wr.cell? ⟨go8, (x5_1 : Int).toNat * 20 + 1, none⟩ = some (.int .i8 ((za x0_2 x5_1).f0.f1)) := hcc8 1 _ rfl
          have u1_2 : wr.cell? ⟨go8, (x5_1 : Int).toNat * 20 + 2, none⟩ = some (.int .i8 ((za x0_2 x5_1).f0.f2)) := hcc8 2 _ rfl
          have u1_3 : wr.cell? ⟨go8, (x5_1 : Int).toNat * 20 + 3, none⟩ = some (.int .i8 ((za x0_2 x5_1).f0.f3)) := hcc8 3 _ rfl
          have u1_4 : wr.cell? ⟨go8, (x5_1 : Int).toNat * 20 + 4, none⟩ = some (.int .i8 ((za x0_2 x5_1).f0.f4)) := hcc8 4 _ rfl
          have u1_5 : wr.cell? ⟨go8, (x5_1 : Int).toNat * 20 + 5, none⟩ = some (.int .i8 ((za x0_2 x5_1).f0.f5)) := hcc8 5 _ rfl
          have u1_6 : wr.cell? ⟨go8, (x5_1 : Int).toNat * 20 + 6, none⟩ = some (.int .i8 ((za x0_2 x5_1).f0.f6)) := hcc8 6 _ rfl
          have u1_7 : wr.cell? ⟨go8, (x5_1 : Int).toNat * 20 + 7, none⟩ = some (.int .i8 ((za x0_2 x5_1).f0.f7)) := hcc8 7 _ rfl
          have u1_8 : wr.cell? ⟨go8, (x5_1 : Int).toNat * 20 + 8, none⟩ = some (.int .i8 ((za x0_2 x5_1).f0.f8)) := hcc8 8 _ rfl
          have u1_9 : wr.cell? ⟨go8, (x5_1 : Int).toNat * 20 + 9, none⟩ = some (.int .i8 ((za x0_2 x5_1).f0.f9)) := hcc8 9 _ rfl
          have u1_10 : wr.cell? ⟨go8, (x5_1 : Int).toNat * 20 + 10, none⟩ = some (.int .i8 ((za x0_2 x5_1).f0.f10)) := hcc8 10 _ rfl
          have u1_11 : wr.cell? ⟨go8, (x5_1 : Int).toNat * 20 + 11, none⟩ = some (.int .i8 ((za x0_2 x5_1).f0.f11)) := hcc8 11 _ rfl
          have u1_12 : wr.cell? ⟨go8, (x5_1 : Int).toNat * 20 + 12, none⟩ = some (.int .i8 ((za x0_2 x5_1).f0.f12)) := hcc8 12 _ rfl
          have u1_13 : wr.cell? ⟨go8, (x5_1 : Int).toNat * 20 + 13, none⟩ = some (.int .i8 ((za x0_2 x5_1).f0.f13)) := hcc8 13 _ rfl
          have u1_14 : wr.cell? ⟨go8, (x5_1 : Int).toNat * 20 + 14, none⟩ = some (.int .i16 ((za x0_2 x5_1).f1.f0)) := hcc8 14 _ rfl
          have u1_15 : wr.cell? ⟨go8, (x5_1 : Int).toNat * 20 + 15, none⟩ = some (.int .i16 ((za x0_2 x5_1).f1.f1)) := hcc8 15 _ rfl
          have u1_16 : wr.cell? ⟨go8, (x5_1 : Int).toNat * 20 + 16, none⟩ = some (.int .i16 ((za x0_2 x5_1).f1.f2)) := hcc8 16 _ rfl
          have u1_17 : wr.cell? ⟨go8, (x5_1 : Int).toNat * 20 + 17, none⟩ = some (.int .i8 ((za x0_2 x5_1).f2.f0)) := hcc8 17 _ rfl
          have u1_18 : wr.cell? ⟨go8, (x5_1 : Int).toNat * 20 + 18, none⟩ = some (.bool ((za x0_2 x5_1).f2.f1)) := hcc8 18 _ rfl
          have u1_19 : wr.cell? ⟨go8, (x5_1 : Int).toNat * 20 + 19, none⟩ = some (.bool ((za x0_2 x5_1).f3)) := hcc8 19 _ rfl
          have t1_0 : wr.frozen? ⟨go8, (x5_1 : Int).toNat * 20, none⟩ = false := hfr8 0
          have t1_1 : wr.frozen? ⟨go8, (x5_1 : Int).toNat * 20 + 1, none⟩ = false := hfr8 1
          have t1_2 : wr.frozen? ⟨go8, (x5_1 : Int).toNat * 20 + 2, none⟩ = false := hfr8 2
          have t1_3 : wr.frozen? ⟨go8, (x5_1 : Int).toNat * 20 + 3, none⟩ = false := hfr8 3
          have t1_4 : wr.frozen? ⟨go8, (x5_1 : Int).toNat * 20 + 4, none⟩ = false := hfr8 4
          have t1_5 : wr.frozen? ⟨go8, (x5_1 : Int).toNat * 20 + 5, none⟩ = false := hfr8 5
          have t1_6 : wr.frozen? ⟨go8, (x5_1 : Int).toNat * 20 + 6, none⟩ = false := hfr8 6
          have t1_7 : wr.frozen? ⟨go8, (x5_1 : Int).toNat * 20 + 7, none⟩ = false := hfr8 7
          have t1_8 : wr.frozen? ⟨go8, (x5_1 : Int).toNat * 20 + 8, none⟩ = false := hfr8 8
          have t1_9 : wr.frozen? ⟨go8, (x5_1 : Int).toNat * 20 + 9, none⟩ = false := hfr8 9
          have t1_10 : wr.frozen? ⟨go8, (x5_1 : Int).toNat * 20 + 10, none⟩ = false := hfr8 10
          have t1_11 : wr.frozen? ⟨go8, (x5_1 : Int).toNat * 20 + 11, none⟩ = false := hfr8 11
          have t1_12 : wr.frozen? ⟨go8, (x5_1 : Int).toNat * 20 + 12, none⟩ = false := hfr8 12
          have t1_13 : wr.frozen? ⟨go8, (x5_1 : Int).toNat * 20 + 13, none⟩ = false := hfr8 13
          have t1_14 : wr.frozen? ⟨go8, (x5_1 : Int).toNat * 20 + 14, none⟩ = false := hfr8 14
          have t1_15 : wr.frozen? ⟨go8, (x5_1 : Int).toNat * 20 + 15, none⟩ = false := hfr8 15
          have t1_16 : wr.frozen? ⟨go8, (x5_1 : Int).toNat * 20 + 16, none⟩ = false := hfr8 16
          have t1_17 : wr.frozen? ⟨go8, (x5_1 : Int).toNat * 20 + 17, none⟩ = false := hfr8 17
          have t1_18 : wr.frozen? ⟨go8, (x5_1 : Int).toNat * 20 + 18, none⟩ = false := hfr8 18
          have t1_19 : wr.frozen? ⟨go8, (x5_1 : Int).toNat * 20 + 19, none⟩ = false := hfr8 19
          clear hcl8 hcc8 hfr8 hM8
          replace p8 := eq_true p8
          replace q8 := eq_true q8
          have u2_0 : wr.cell? ⟨go8, (x5_1 : Int).toNat * 20 + (x6_2).toNat, none⟩ = some (.int .i8 (rd [(za x0_2 x5_1).f0.f0, (za x0_2 x5_1).f0.f1, (za x0_2 x5_1).f0.f2, (za x0_2 x5_1).f0.f3, (za x0_2 x5_1).f0.f4, (za x0_2 x5_1).f0.f5, (za x0_2 x5_1).f0.f6, (za x0_2 x5_1).f0.f7, (za x0_2 x5_1).f0.f8, (za x0_2 x5_1).f0.f9, (za x0_2 x5_1).f0.f10, (za x0_2 x5_1).f0.f11, (za x0_2 x5_1).f0.f12, (za x0_2 x5_1).f0.f13] x6_2)) := by rcases (show (x6_2 : Int) = 0 ∨ (x6_2 : Int) = 1 ∨ (x6_2 : Int) = 2 ∨ (x6_2 : Int) = 3 ∨ (x6_2 : Int) = 4 ∨ (x6_2 : Int) = 5 ∨ (x6_2 : Int) = 6 ∨ (x6_2 : Int) = 7 ∨ (x6_2 : Int) = 8 ∨ (x6_2 : Int) = 9 ∨ (x6_2 : Int) = 10 ∨ (x6_2 : Int) = 11 ∨ (x6_2 : Int) = 12 ∨ (x6_2 : Int) = 13 by have hp_ : 0 ≤ (x6_2 : Int) := od (by first | (with_reducible assumption) | assumption); have hq_ : x6_2 < (14 : Int) := od (by first | (with_reducible assumption) | assumption); omega) with h_ | h_ | h_ | h_ | h_ | h_ | h_ | h_ | h_ | h_ | h_ | h_ | h_ | h_ <;> rw [h_] <;> first | exact u1_0 | exact u1_1 | exact u1_2 | exact u1_3 | exact u1_4 | exact u1_5 | exact u1_6 | exact u1_7 | exact u1_8 | exact u1_9 | exact u1_10 | exact u1_11 | exact u1_12 | exact u1_13
          have t2_0 : wr.frozen? ⟨go8, (x5_1 : Int).toNat * 20 + (x6_2).toNat, none⟩ = false := by rcases (show (x6_2 : Int) = 0 ∨ (x6_2 : Int) = 1 ∨ (x6_2 : Int) = 2 ∨ (x6_2 : Int) = 3 ∨ (x6_2 : Int) = 4 ∨ (x6_2 : Int) = 5 ∨ (x6_2 : Int) = 6 ∨ (x6_2 : Int) = 7 ∨ (x6_2 : Int) = 8 ∨ (x6_2 : Int) = 9 ∨ (x6_2 : Int) = 10 ∨ (x6_2 : Int) = 11 ∨ (x6_2 : Int) = 12 ∨ (x6_2 : Int) = 13 by have hp_ : 0 ≤ (x6_2 : Int) := od (by first | (with_reducible assumption) | assumption); have hq_ : x6_2 < (14 : Int) := od (by first | (with_reducible assumption) | assumption); omega) with h_ | h_ | h_ | h_ | h_ | h_ | h_ | h_ | h_ | h_ | h_ | h_ | h_ | h_ <;> rw [h_] <;> first | exact t1_0 | exact t1_1 | exact t1_2 | exact t1_3 | exact t1_4 | exact t1_5 | exact t1_6 | exact t1_7 | exact t1_8 | exact t1_9 | exact t1_10 | exact t1_11 | exact t1_12 | exact t1_13
          have p10 : 0 ≤ (x6_2 : Int) := od (by first | (with_reducible assumption) | assumption)
          have q10 : x6_2 < (14 : Int) := od (by first | (with_reducible assumption) | assumption)
          replace p10 := eq_true p10
          replace q10 := eq_true q10
          have HX11 := zc.mk (show Kd.R k54 54 wr w0.heap.size (fun k_ => (P0_ k_ ∨ w.heap.size ≤ k_)) (.slice (some ⟨go8, 0, none⟩) x0_2.length co4) x0_2 from (by (with_reducible repeat (first | apply Kd.R_alloc | apply Kd.R_drewN | apply Kd.R_drew)); exact HO_0.out))
          obtain ⟨ce11, hcl11, hM11, hcc11, hfr11⟩ := Kd.R_elem HX11.out z54 (x5_1 : Int) (od (by first | (with_reducible assumption) | assumption)) (by have h_ : (x5_1 : Int) < ((x0_2.length : Int) : Int) := od (by first | (with_reducible assumption) | assumption); first | exact h_ | (have e_ := (Kd.R_reads' HO_0.out).1; omega) | simpa using h_)
          obtain rfl := zw hM11
          have HP11 := Kd.R_seg HX11.out (x5_1 : Int) (od (by first | (with_reducible assumption) | assumption)) (by have h_ : (x5_1 : Int) < ((x0_2.length : Int) : Int) := od (by first | (with_reducible assumption) | assumption); first | exact h_ | (have e_ := (Kd.R_reads' HO_0.out).1; omega) | simpa using h_) (seg := [.int .i8 (IntKind.i8.wrap (x1_2))]) (j := (x6_2).toNat) hcl11 hcc11 (show (x6_2).toNat + 1 ≤ 20 from by have hp_ : 0 ≤ (x6_2 : Int) := od (by first | (with_reducible assumption) | assumption); have hq_ : x6_2 < (14 : Int) := od (by first | (with_reducible assumption) | assumption); omega) (x' := (⟨(⟨(zy x6_2 0 (IntKind.i8.wrap (x1_2)) ((za x0_2 x5_1).f0.f0)), (zy x6_2 1 (IntKind.i8.wrap (x1_2)) ((za x0_2 x5_1).f0.f1)), (zy x6_2 2 (IntKind.i8.wrap (x1_2)) ((za x0_2 x5_1).f0.f2)), (zy x6_2 3 (IntKind.i8.wrap (x1_2)) ((za x0_2 x5_1).f0.f3)), (zy x6_2 4 (IntKind.i8.wrap (x1_2)) ((za x0_2 x5_1).f0.f4)), (zy x6_2 5 (IntKind.i8.wrap (x1_2)) ((za x0_2 x5_1).f0.f5)), (zy x6_2 6 (IntKind.i8.wrap (x1_2)) ((za x0_2 x5_1).f0.f6)), (zy x6_2 7 (IntKind.i8.wrap (x1_2)) ((za x0_2 x5_1).f0.f7)), (zy x6_2 8 (IntKind.i8.wrap (x1_2)) ((za x0_2 x5_1).f0.f8)), (zy x6_2 9 (IntKind.i8.wrap (x1_2)) ((za x0_2 x5_1).f0.f9)), (zy x6_2 10 (IntKind.i8.wrap (x1_2)) ((za x0_2 x5_1).f0.f10)), (zy x6_2 11 (IntKind.i8.wrap (x1_2)) ((za x0_2 x5_1).f0.f11)), (zy x6_2 12 (IntKind.i8.wrap (x1_2)) ((za x0_2 x5_1).f0.f12)), (zy x6_2 13 (IntKind.i8.wrap (x1_2)) ((za x0_2 x5_1).f0.f13))⟩ : S50), (⟨(za x0_2 x5_1).f1.f0, (za x0_2 x5_1).f1.f1, (za x0_2 x5_1).f1.f2⟩ : S52), (⟨(za x0_2 x5_1).f2.f0, (za x0_2 x5_1).f2.f1⟩ : S46), (za x0_2 x5_1).f3⟩ : S54)) (by rcases (show (x6_2 : Int) = 0 ∨ (x6_2 : Int) = 1 ∨ (x6_2 : Int) = 2 ∨ (x6_2 : Int) = 3 ∨ (x6_2 : Int) = 4 ∨ (x6_2 : Int) = 5 ∨ (x6_2 : Int) = 6 ∨ (x6_2 : Int) = 7 ∨ (x6_2 : Int) = 8 ∨ (x6_2 : Int) = 9 ∨ (x6_2 : Int) = 10 ∨ (x6_2 : Int) = 11 ∨ (x6_2 : Int) = 12 ∨ (x6_2 : Int) = 13 by have hp_ : 0 ≤ (x6_2 : Int) := od (by first | (with_reducible assumption) | assumption); have hq_ : x6_2 < (14 : Int) := od (by first | (with_reducible assumption) | assumption); omega) with h_ | h_ | h_ | h_ | h_ | h_ | h_ | h_ | h_ | h_ | h_ | h_ | h_ | h_ <;> rw [h_] <;> exact zea _ _ _ _) (fun _ hk => hk)
          skip
          (try simp only [show (k54).sz = 20 from rfl, Nat.mul_one, Nat.add_zero] at u3_0)
          skip
          (try simp only [show (k54).sz = 20 from rfl, Nat.mul_one, Nat.add_zero] at t3_0)
          clear hcl11 hcc11 hfr11 hM11
          go_wp2_with (first | ((with_reducible refine zda (t := 22) (p := 25) rfl ?_); refine zxa (t := 22) (p := 25) (v := ?vo_w12) (w1 := (wr.setCell ⟨go8, (x5_1 : Int).toNat * 20 + (x6_2).toNat, none⟩ (.int .i8 (IntKind.i8.wrap (x1_2))))) ?hg ?ho ?hn ?hr ?_; (case ho => rfl); (case hg => rfl); (case hn => rfl); (case hr => first | (go_simp; done) | (go_simp; rfl)); intro w12 hw; have hg : wr.grownBy w12 (some go8) := (by rw [hw]; exact HP11.2); have hp_ : Kd.R k54 54 w12 w0.heap.size (fun k_ => (P0_ k_ ∨ w.heap.size ≤ k_)) (.slice (some ⟨go8, 0, none⟩) x0_2.length co4) y333 := (by rw [hw, Ny333.out]; exact HP11.1); clear HP11; have n0_ := zc.mk (hp_); have n1_ := zc.mk ((by rw [hw]; exact zf (HB.out) GB8.out : Below w0.heap.size w0 w12)); have n2_ := zc.mk (Kept.of_grown (S := (fun k_ => P0_ k_)) hg (by repeat (first | (with_reducible first | exact HK.out | apply Kept.alloc | apply Kept.drewN | apply Kept.drew) | exact HK.out)) (fun k_ e_ => (HO_0.out.1 k_ e_))); clear HO_0; clear HB; clear HK; have HO_0 := n0_; have HB := n1_; have HK := n2_; clear n0_ n1_ n2_; clear hg hw hp_))
          (try simp only [← hl0_2])
          go_roundg k2
          case measure => have := HK1.out; have := HK2.out; omega
          case rel => exact ⟨(y333), (wrap64 (x1_2 + 1)), (wrap64 (x6_2 + 1)), (by first | rfl | (simp; done) | (simp [*]; done)), (by first | rfl | (simp; done) | (simp [*]; done)), H', ⟨by have := HK1.out; have := HK2.out; omega⟩, ⟨by (try simp only [hl0_2]); (with_reducible repeat (first | apply Kd.R_alloc | apply Kd.R_drewN | apply Kd.R_drew)); exact HO_0.out⟩, ⟨by repeat (first | (with_reducible first | exact HK.out | apply Kept.alloc | apply Kept.drewN | apply Kept.drew) | exact HK.out)⟩, ⟨by repeat (first | (with_reducible first | exact HB.out | apply ze | apply zb | apply zd) | exact HB.out)⟩⟩
         rw [if_neg c9] at H
         exact absurd H (by simp)
        rw [if_neg c7] at H
        exact absurd H (by simp)
       rw [if_neg c6] at H
       exact absurd H (by simp)
      rw [if_neg c5] at H
      have c5b0 : decide (x6_2 < 14) = false := decide_eq_false c5
      clear c5
      have H' := zc.mk H
      clear H
      go_wp2
      go_loopg [1, 7] k2 (fun kq v1 v7 w' => ∃ (x0_3 : List (S54)) (x1_3 : Int) (x7_3 : Int), v1 = .int .i64 x1_3 ∧ v7 = .int .i64 x7_3 ∧ zc (laws_markNodeS.l2 kq x0_3 x1_3 x5_1 x7_3 = some (r1, r2)) ∧ zc (kq ≤ k2) ∧ zc (Kd.R k54 54 w' w0.heap.size (fun k_ => (P0_ k_ ∨ w.heap.size ≤ k_)) (.slice Ao4 x0_2.length co4) x0_3) ∧ zc (Kept w w' (fun k_ => P0_ k_)) ∧ zc (Below w0.heap.size w0 w'))
      case atStart => exact ⟨(x0_2), (x1_2), (0), (by first | rfl | (simp; done) | (simp [*]; done)), (by first | rfl | (simp; done) | (simp [*]; done)), H', ⟨Nat.le_refl _⟩, ⟨by (try simp only [hl0_2]); (with_reducible repeat (first | apply Kd.R_alloc | apply Kd.R_drewN | apply Kd.R_drew)); exact HO_0.out⟩, ⟨by repeat (first | (with_reducible first | exact HK.out | apply Kept.alloc | apply Kept.drewN | apply Kept.drew) | exact HK.out)⟩, ⟨by repeat (first | (with_reducible first | exact HB.out | apply ze | apply zb | apply zd) | exact HB.out)⟩⟩
      case round =>
       clear H'
       try clear c1
       try clear p1
       try clear q1
       try clear hx1
       try clear c2
       try clear p2
       try clear c3
       try clear c3b0
       try clear c5
       try clear c5b0
       try clear c6
       try clear c6b0
       try clear p6
       try clear c7
       try clear c7b0
       try clear c8
       try clear p8
       try clear q8
       try clear hx8
       try clear hf8
       try clear c9
       try clear c9b0
       try clear p10
       try clear q10
       try clear hx10
       try clear hf10
       try clear c11
       try clear hx11
       try clear hf11
       try clear u2_0
       try clear u3_0
       try clear u1_0
       try clear u1_1
       try clear u1_10
       try clear u1_11
       try clear u1_12
       try clear u1_13
       try clear u1_14
       try clear u1_15
       try clear u1_16
       try clear u1_17
       try clear u1_18
       try clear u1_19
       try clear u1_2
       try clear u1_3
       try clear u1_4
       try clear u1_5
       try clear u1_6
       try clear u1_7
       try clear u1_8
       try clear u1_9
       try clear p10
       try clear p2
       try clear p8
       try clear q10
       try clear q8
       obtain ⟨x0_3, x1_3, x7_3, rfl, rfl, HA, HK3, HO_0, HK, HB⟩ := hrel
       have hl0_3 := (Kd.R_reads' HO_0.out).1
       rw [hl0_3] at HO_0
       (try simp only [hl0_3])
       cases gk with
       | zero => exact absurd HA.out (by simp [laws_markNodeS.l2])
       | succ k3 =>
        have H := HA.out
        clear HA
        simp only [laws_markNodeS.l2] at H
        by_cases c13 : x7_3 < 3
        ·rw [if_pos c13] at H
         have c13b0 : decide (x7_3 < 3) = true := decide_eq_true c13
         clear c13
         by_cases c14 : 0 ≤ x5_1
         ·rw [if_pos c14] at H
          have c14b0 : decide (0 ≤ x5_1) = true := decide_eq_true c14
          clear c14
          by_cases c15 : x5_1 < (x0_3.length : Int)
          ·rw [if_pos c15] at H
           have c15b0 : decide (x5_1 < (x0_3.length : Int)) = true := decide_eq_true c15
           clear c15
           by_cases c17 : 0 ≤ x7_3
           ·rw [if_pos c17] at H
            have c17b0 : decide (0 ≤ x7_3) = true := decide_eq_true c17
            clear c17
            obtain ⟨y335, hy335⟩ : ∃ y_ : List (S54), y_ = (x0_3.set (x5_1 : Int).toNat (⟨(⟨(za x0_3 x5_1).f0.f0, (za x0_3 x5_1).f0.f1, (za x0_3 x5_1).f0.f2, (za x0_3 x5_1).f0.f3, (za x0_3 x5_1).f0.f4, (za x0_3 x5_1).f0.f5, (za x0_3 x5_1).f0.f6, (za x0_3 x5_1).f0.f7, (za x0_3 x5_1).f0.f8, (za x0_3 x5_1).f0.f9, (za x0_3 x5_1).f0.f10, (za x0_3 x5_1).f0.f11, (za x0_3 x5_1).f0.f12, (za x0_3 x5_1).f0.f13⟩ : S50), (⟨(zy x7_3 0 (IntKind.i16.wrap (x1_3)) ((za x0_3 x5_1).f1.f0)), (zy x7_3 1 (IntKind.i16.wrap (x1_3)) ((za x0_3 x5_1).f1.f1)), (zy x7_3 2 (IntKind.i16.wrap (x1_3)) ((za x0_3 x5_1).f1.f2))⟩ : S52), (⟨(za x0_3 x5_1).f2.f0, (za x0_3 x5_1).f2.f1⟩ : S46), (za x0_3 x5_1).f3⟩ : S54)) := ⟨_, rfl⟩
            replace H : (laws_markNodeS.l2 k3 y335 (wrap64 (x1_3 + 1)) x5_1 (wrap64 (x7_3 + 1))) = some (r1, r2) := by first | (rw [hy335]; with_reducible exact H) | (have H2_ := (Option.bind_some _ _).symm.trans H; rw [hy335]; with_reducible exact H2_) | (have H2_ := (Option.bind_some _ _).symm.trans H; with_reducible exact H2_) | with_reducible exact H | (rw [hy335]; exact H) | exact H
            have Ny335 := zc.mk hy335
            clear hy335
            have H' := zc.mk H
            clear H
            have p16 : 0 ≤ (x5_1 : Int) := od (by first | (with_reducible assumption) | assumption)
            have q16 : (x5_1 : Int) < ((x0_3.length : Int) : Int) := od (by first | (with_reducible assumption) | assumption)
            obtain ⟨go16, co16, eo16, gb16, gl16, cl16, HG16⟩ := Kd.R_form HO_0.out (by omega)
            (first | cases eo16 | (injection eo16 with ea_ en_ ec_; (first | subst ea_ | (injection ea_ with ea_; subst ea_)); subst ec_; clear en_))
            have GB16 := zc.mk gb16
            have GG16 := zc.mk HG16
            clear gb16 gl16 HG16
            have HMgo16 := zc.mk (show (P0_ go16 ∨ w.heap.size ≤ go16) from (HO_0.out.1 _ rfl))
            obtain ⟨ce16, hcl16, hM16, hcc16, hfr16⟩ := Kd.R_elem HO_0.out z54 (x5_1 : Int) p16 q16
            obtain rfl := zw hM16
            have u4_0 : wr.cell? ⟨go16, (x5_1 : Int).toNat * 20, none⟩ = some (.int .i8 ((za x0_3 x5_1).f0.f0)) := hcc16 0 _ rfl
            have u4_1 : wr.cell? ⟨go16, (x5_1 : Int).toNat * 20 + 1, none⟩ = some (.int .i8 ((za x0_3 x5_1).f0.f1)) := hcc16 1 _ rfl
            have u4_2 : wr.cell? ⟨go16, (x5_1 : Int).toNat * 20 + 2, none⟩ = some (.int .i8 ((za x0_3 x5_1).f0.f2)) := hcc16 2 _ rfl
            have u4_3 : wr.cell? ⟨go16, (x5_1 : Int).toNat * 20 + 3, none⟩ = some (.int .i8 ((za x0_3 x5_1).f0.f3)) := hcc16 3 _ rfl
            have u4_4 : wr.cell? ⟨go16, (x5_1 : Int).toNat * 20 + 4, none⟩ = some (.int .i8 ((za x0_3 x5_1).f0.f4)) := hcc16 4 _ rfl
            have u4_5 : wr.cell? ⟨go16, (x5_1 : Int).toNat * 20 + 5, none⟩ = some (.int .i8 ((za x0_3 x5_1).f0.f5)) := hcc16 5 _ rfl
            have u4_6 : wr.cell? ⟨go16, (x5_1 : Int).toNat * 20 + 6, none⟩ = some (.int .i8 ((za x0_3 x5_1).f0.f6)) := hcc16 6 _ rfl
            have u4_7 : wr.cell? ⟨go16, (x5_1 : Int).toNat * 20 + 7, none⟩ = some (.int .i8 ((za x0_3 x5_1).f0.f7)) := hcc16 7 _ rfl
            have u4_8 : wr.cell? ⟨go16, (x5_1 : Int).toNat * 20 + 8, none⟩ = some (.int .i8 ((za x0_3 x5_1).f0.f8)) := hcc16 8 _ rfl
            have u4_9 : wr.cell? ⟨go16, (x5_1 : Int).toNat * 20 + 9, none⟩ = some (.int .i8 ((za x0_3 x5_1).f0.f9)) := hcc16 9 _ rfl
            have u4_10 : wr.cell? ⟨go16, (x5_1 : Int).toNat * 20 + 10, none⟩ = some (.int .i8 ((za x0_3 x5_1).f0.f10)) := hcc16 10 _ rfl
            have u4_11 : wr.cell? ⟨go16, (x5_1 : Int).toNat * 20 + 11, none⟩ = some (.int .i8 ((za x0_3 x5_1).f0.f11)) := hcc16 11 _ rfl
            have u4_12 : wr.cell? ⟨go16, (x5_1 : Int).toNat * 20 + 12, none⟩ = some (.int .i8 ((za x0_3 x5_1).f0.f12)) := hcc16 12 _ rfl
            have u4_13 : wr.cell? ⟨go16, (x5_1 : Int).toNat * 20 + 13, none⟩ = some (.int .i8 ((za x0_3 x5_1).f0.f13)) := hcc16 13 _ rfl
            have u4_14 : wr.cell? ⟨go16, (x5_1 : Int).toNat * 20 + 14, none⟩ = some (.int .i16 ((za x0_3 x5_1).f1.f0)) := hcc16 14 _ rfl
            have u4_15 : wr.cell? ⟨go16, (x5_1 : Int).toNat * 20 + 15, none⟩ = some (.int .i16 ((za x0_3 x5_1).f1.f1)) := hcc16 15 _ rfl
            have u4_16 : wr.cell? ⟨go16, (x5_1 : Int).toNat * 20 + 16, none⟩ = some (.int .i16 ((za x0_3 x5_1).f1.f2)) := hcc16 16 _ rfl
            have u4_17 : wr.cell? ⟨go16, (x5_1 : Int).toNat * 20 + 17, none⟩ = some (.int .i8 ((za x0_3 x5_1).f2.f0)) := hcc16 17 _ rfl
            have u4_18 : wr.cell? ⟨go16, (x5_1 : Int).toNat * 20 + 18, none⟩ = some (.bool ((za x0_3 x5_1).f2.f1)) := hcc16 18 _ rfl
            have u4_19 : wr.cell? ⟨go16, (x5_1 : Int).toNat * 20 + 19, none⟩ = some (.bool ((za x0_3 x5_1).f3)) := hcc16 19 _ rfl
            have t4_0 : wr.frozen? ⟨go16, (x5_1 : Int).toNat * 20, none⟩ = false := hfr16 0
            have t4_1 : wr.frozen? ⟨go16, (x5_1 : Int).toNat * 20 + 1, none⟩ = false := hfr16 1
            have t4_2 : wr.frozen? ⟨go16, (x5_1 : Int).toNat * 20 + 2, none⟩ = false := hfr16 2
            have t4_3 : wr.frozen? ⟨go16, (x5_1 : Int).toNat * 20 + 3, none⟩ = false := hfr16 3
            have t4_4 : wr.frozen? ⟨go16, (x5_1 : Int).toNat * 20 + 4, none⟩ = false := hfr16 4
            have t4_5 : wr.frozen? ⟨go16, (x5_1 : Int).toNat * 20 + 5, none⟩ = false := hfr16 5
            have t4_6 : wr.frozen? ⟨go16, (x5_1 : Int).toNat * 20 + 6, none⟩ = false := hfr16 6
            have t4_7 : wr.frozen? ⟨go16, (x5_1 : Int).toNat * 20 + 7, none⟩ = false := hfr16 7
            have t4_8 : wr.frozen? ⟨go16, (x5_1 : Int).toNat * 20 + 8, none⟩ = false := hfr16 8
            have t4_9 : wr.frozen? ⟨go16, (x5_1 : Int).toNat * 20 + 9, none⟩ = false := hfr16 9
            have t4_10 : wr.frozen? ⟨go16, (x5_1 : Int).toNat * 20 + 10, none⟩ = false := hfr16 10
            have t4_11 : wr.frozen? ⟨go16, (x5_1 : Int).toNat * 20 + 11, none⟩ = false := hfr16 11
            have t4_12 : wr.frozen? ⟨go16, (x5_1 : Int).toNat * 20 + 12, none⟩ = false := hfr16 12
            have t4_13 : wr.frozen? ⟨go16, (x5_1 : Int).toNat * 20 + 13, none⟩ = false := hfr16 13
            have t4_14 : wr.frozen? ⟨go16, (x5_1 : Int).toNat * 20 + 14, none⟩ = false := hfr16 14
            have t4_15 : wr.frozen? ⟨go16, (x5_1 : Int).toNat * 20 + 15, none⟩ = false := hfr16 15
            have t4_16 : wr.frozen? ⟨go16, (x5_1 : Int).toNat * 20 + 16, none⟩ = false := hfr16 16
            have t4_17 : wr.frozen? ⟨go16, (x5_1 : Int).toNat * 20 + 17, none⟩ = false := hfr16 17
            have t4_18 : wr.frozen? ⟨go16, (x5_1 : Int).toNat * 20 + 18, none⟩ = false := hfr16 18
            have t4_19 : wr.frozen? ⟨go16, (x5_1 : Int).toNat * 20 + 19, none⟩ = false := hfr16 19
            clear hcl16 hcc16 hfr16 hM16
            replace p16 := eq_true p16
            replace q16 := eq_true q16
            have u5_0 : wr.cell? ⟨go16, (x5_1 : Int).toNat * 20 + 14 + (x7_3).toNat, none⟩ = some (.int .i16 (rd [(za x0_3 x5_1).f1.f0, (za x0_3 x5_1).f1.f1, (za x0_3 x5_1).f1.f2] x7_3)) := by rcases (show (x7_3 : Int) = 0 ∨ (x7_3 : Int) = 1 ∨ (x7_3 : Int) = 2 by have hp_ : 0 ≤ (x7_3 : Int) := od (by first | (with_reducible assumption) | assumption); have hq_ : x7_3 < (3 : Int) := od (by first | (with_reducible assumption) | assumption); omega) with h_ | h_ | h_ <;> rw [h_] <;> first | exact u4_14 | exact u4_15 | exact u4_16
            have t5_0 : wr.frozen? ⟨go16, (x5_1 : Int).toNat * 20 + 14 + (x7_3).toNat, none⟩ = false := by rcases (show (x7_3 : Int) = 0 ∨ (x7_3 : Int) = 1 ∨ (x7_3 : Int) = 2 by have hp_ : 0 ≤ (x7_3 : Int) := od (by first | (with_reducible assumption) | assumption); have hq_ : x7_3 < (3 : Int) := od (by first | (with_reducible assumption) | assumption); omega) with h_ | h_ | h_ <;> rw [h_] <;> first | exact t4_14 | exact t4_15 | exact t4_16
            have p18 : 0 ≤ (x7_3 : Int) := od (by first | (with_reducible assumption) | assumption)
            have q18 : x7_3 < (3 : Int) := od (by first | (with_reducible assumption) | assumption)
            replace p18 := eq_true p18
            replace q18 := eq_true q18
            have HX19 := zc.mk (show Kd.R k54 54 wr w0.heap.size (fun k_ => (P0_ k_ ∨ w.heap.size ≤ k_)) (.slice (some ⟨go16, 0, none⟩) x0_3.length co4) x0_3 from (by (with_reducible repeat (first | apply Kd.R_alloc | apply Kd.R_drewN | apply Kd.R_drew)); exact HO_0.out))
            obtain ⟨ce19, hcl19, hM19, hcc19, hfr19⟩ := Kd.R_elem HX19.out z54 (x5_1 : Int) (od (by first | (with_reducible assumption) | assumption)) (by have h_ : (x5_1 : Int) < ((x0_3.length : Int) : Int) := od (by first | (with_reducible assumption) | assumption); first | exact h_ | (have e_ := (Kd.R_reads' HO_0.out).1; omega) | simpa using h_)
            obtain rfl := zw hM19
            have HP19 := Kd.R_seg HX19.out (x5_1 : Int) (od (by first | (with_reducible assumption) | assumption)) (by have h_ : (x5_1 : Int) < ((x0_3.length : Int) : Int) := od (by first | (with_reducible assumption) | assumption); first | exact h_ | (have e_ := (Kd.R_reads' HO_0.out).1; omega) | simpa using h_) (seg := [.int .i16 (IntKind.i16.wrap (x1_3))]) (j := 14 + (x7_3).toNat) hcl19 hcc19 (show 14 + (x7_3).toNat + 1 ≤ 20 from by have hp_ : 0 ≤ (x7_3 : Int) := od (by first | (with_reducible assumption) | assumption); have hq_ : x7_3 < (3 : Int) := od (by first | (with_reducible assumption) | assumption); omega) (x' := (⟨(⟨(za x0_3 x5_1).f0.f0, (za x0_3 x5_1).f0.f1, (za x0_3 x5_1).f0.f2, (za x0_3 x5_1).f0.f3, (za x0_3 x5_1).f0.f4, (za x0_3 x5_1).f0.f5, (za x0_3 x5_1).f0.f6, (za x0_3 x5_1).f0.f7, (za x0_3 x5_1).f0.f8, (za x0_3 x5_1).f0.f9, (za x0_3 x5_1).f0.f10, (za x0_3 x5_1).f0.f11, (za x0_3 x5_1).f0.f12, (za x0_3 x5_1).f0.f13⟩ : S50), (⟨(zy x7_3 0 (IntKind.i16.wrap (x1_3)) ((za x0_3 x5_1).f1.f0)), (zy x7_3 1 (IntKind.i16.wrap (x1_3)) ((za x0_3 x5_1).f1.f1)), (zy x7_3 2 (IntKind.i16.wrap (x1_3)) ((za x0_3 x5_1).f1.f2))⟩ : S52), (⟨(za x0_3 x5_1).f2.f0, (za x0_3 x5_1).f2.f1⟩ : S46), (za x0_3 x5_1).f3⟩ : S54)) (by rcases (show (x7_3 : Int) = 0 ∨ (x7_3 : Int) = 1 ∨ (x7_3 : Int) = 2 by have hp_ : 0 ≤ (x7_3 : Int) := od (by first | (with_reducible assumption) | assumption); have hq_ : x7_3 < (3 : Int) := od (by first | (with_reducible assumption) | assumption); omega) with h_ | h_ | h_ <;> rw [h_] <;> exact zea _ _ _ _) (fun _ hk => hk); (try simp only [← Nat.add_assoc] at HP19)
            skip
            (try simp only [show (k54).sz = 20 from rfl, Nat.mul_one, Nat.add_zero] at u6_14)
            skip
            (try simp only [show (k54).sz = 20 from rfl, Nat.mul_one, Nat.add_zero] at t6_14)
            clear hcl19 hcc19 hfr19 hM19
            go_wp2_with (first | ((with_reducible refine zda (t := 51) (p := 39) rfl ?_); refine zxa (t := 51) (p := 39) (v := ?vo_w20) (w1 := (wr.setCell ⟨go16, (x5_1 : Int).toNat * 20 + 14 + (x7_3).toNat, none⟩ (.int .i16 (IntKind.i16.wrap (x1_3))))) ?hg ?ho ?hn ?hr ?_; (case ho => rfl); (case hg => rfl); (case hn => rfl); (case hr => first | (go_simp; done) | (go_simp; rfl)); intro w20 hw; have hg : wr.grownBy w20 (some go16) := (by rw [hw]; exact HP19.2); have hp_ : Kd.R k54 54 w20 w0.heap.size (fun k_ => (P0_ k_ ∨ w.heap.size ≤ k_)) (.slice (some ⟨go16, 0, none⟩) x0_3.length co4) y335 := (by rw [hw, Ny335.out]; exact HP19.1); clear HP19; have n0_ := zc.mk (hp_); have n1_ := zc.mk ((by rw [hw]; exact zf (HB.out) GB16.out : Below w0.heap.size w0 w20)); have n2_ := zc.mk (Kept.of_grown (S := (fun k_ => P0_ k_)) hg (by repeat (first | (with_reducible first | exact HK.out | apply Kept.alloc | apply Kept.drewN | apply Kept.drew) | exact HK.out)) (fun k_ e_ => (HO_0.out.1 k_ e_))); clear HO_0; clear HB; clear HK; have HO_0 := n0_; have HB := n1_; have HK := n2_; clear n0_ n1_ n2_; clear hg hw hp_))
            (try simp only [← hl0_3])
            go_roundg k3
            case measure => have := HK1.out; have := HK2.out; have := HK3.out; omega
            case rel => exact ⟨(y335), (wrap64 (x1_3 + 1)), (wrap64 (x7_3 + 1)), (by first | rfl | (simp; done) | (simp [*]; done)), (by first | rfl | (simp; done) | (simp [*]; done)), H', ⟨by have := HK1.out; have := HK2.out; have := HK3.out; omega⟩, ⟨by (try simp only [hl0_2]); (try simp only [hl0_3]); (with_reducible repeat (first | apply Kd.R_alloc | apply Kd.R_drewN | apply Kd.R_drew)); exact HO_0.out⟩, ⟨by repeat (first | (with_reducible first | exact HK.out | apply Kept.alloc | apply Kept.drewN | apply Kept.drew) | exact HK.out)⟩, ⟨by repeat (first | (with_reducible first | exact HB.out | apply ze | apply zb | apply zd) | exact HB.out)⟩⟩
           rw [if_neg c17] at H
           exact absurd H (by simp)
          rw [if_neg c15] at H
          exact absurd H (by simp)
         rw [if_neg c14] at H
         exact absurd H (by simp)
        rw [if_neg c13] at H
        have c13b0 : decide (x7_3 < 3) = false := decide_eq_false c13
        clear c13
        by_cases c21 : 0 ≤ x5_1
        ·rw [if_pos c21] at H
         have c21b0 : decide (0 ≤ x5_1) = true := decide_eq_true c21
         clear c21
         by_cases c22 : x5_1 < (x0_3.length : Int)
         ·rw [if_pos c22] at H
          have c22b0 : decide (x5_1 < (x0_3.length : Int)) = true := decide_eq_true c22
          clear c22
          obtain ⟨y336, hy336⟩ : ∃ y_ : List (S54), y_ = (x0_3.set (x5_1 : Int).toNat (⟨(⟨(za x0_3 x5_1).f0.f0, (za x0_3 x5_1).f0.f1, (za x0_3 x5_1).f0.f2, (za x0_3 x5_1).f0.f3, (za x0_3 x5_1).f0.f4, (za x0_3 x5_1).f0.f5, (za x0_3 x5_1).f0.f6, (za x0_3 x5_1).f0.f7, (za x0_3 x5_1).f0.f8, (za x0_3 x5_1).f0.f9, (za x0_3 x5_1).f0.f10, (za x0_3 x5_1).f0.f11, (za x0_3 x5_1).f0.f12, (za x0_3 x5_1).f0.f13⟩ : S50), (⟨(za x0_3 x5_1).f1.f0, (za x0_3 x5_1).f1.f1, (za x0_3 x5_1).f1.f2⟩ : S52), (⟨IntKind.i8.wrap (x1_3), (za x0_3 x5_1).f2.f1⟩ : S46), (za x0_3 x5_1).f3⟩ : S54)) := ⟨_, rfl⟩
          replace H : ((some (y336.set (x5_1 : Int).toNat (⟨(⟨(za y336 x5_1).f0.f0, (za y336 x5_1).f0.f1, (za y336 x5_1).f0.f2, (za y336 x5_1).f0.f3, (za y336 x5_1).f0.f4, (za y336 x5_1).f0.f5, (za y336 x5_1).f0.f6, (za y336 x5_1).f0.f7, (za y336 x5_1).f0.f8, (za y336 x5_1).f0.f9, (za y336 x5_1).f0.f10, (za y336 x5_1).f0.f11, (za y336 x5_1).f0.f12, (za y336 x5_1).f0.f13⟩ : S50), (⟨(za y336 x5_1).f1.f0, (za y336 x5_1).f1.f1, (za y336 x5_1).f1.f2⟩ : S52), (⟨(za y336 x5_1).f2.f0, ((Int.tmod (wrap64 (x1_3 + 1)) 3) == 0)⟩ : S46), (za y336 x5_1).f3⟩ : S54) : List (S54))).bind fun y337 => (laws_markNodeS.l0 k3 (y337.set (x5_1 : Int).toNat (⟨(⟨(za y337 x5_1).f0.f0, (za y337 x5_1).f0.f1, (za y337 x5_1).f0.f2, (za y337 x5_1).f0.f3, (za y337 x5_1).f0.f4, (za y337 x5_1).f0.f5, (za y337 x5_1).f0.f6, (za y337 x5_1).f0.f7, (za y337 x5_1).f0.f8, (za y337 x5_1).f0.f9, (za y337 x5_1).f0.f10, (za y337 x5_1).f0.f11, (za y337 x5_1).f0.f12, (za y337 x5_1).f0.f13⟩ : S50), (⟨(za y337 x5_1).f1.f0, (za y337 x5_1).f1.f1, (za y337 x5_1).f1.f2⟩ : S52), (⟨(za y337 x5_1).f2.f0, (za y337 x5_1).f2.f1⟩ : S46), ((Int.tmod (wrap64 ((wrap64 (x1_3 + 1)) + 1)) 3) == 0)⟩ : S54)) (wrap64 ((wrap64 ((wrap64 (x1_3 + 1)) + 1)) + 1)) (wrap64 (x5_1 + 1)))) = some (r1, r2) := by first | (rw [hy336]; with_reducible exact H) | (have H2_ := (Option.bind_some _ _).symm.trans H; rw [hy336]; with_reducible exact H2_) | (have H2_ := (Option.bind_some _ _).symm.trans H; with_reducible exact H2_) | with_reducible exact H | (rw [hy336]; exact H) | exact H
          have Ny336 := zc.mk hy336
          clear hy336
          obtain ⟨y337, hy337⟩ : ∃ y_ : List (S54), y_ = (y336.set (x5_1 : Int).toNat (⟨(⟨(za y336 x5_1).f0.f0, (za y336 x5_1).f0.f1, (za y336 x5_1).f0.f2, (za y336 x5_1).f0.f3, (za y336 x5_1).f0.f4, (za y336 x5_1).f0.f5, (za y336 x5_1).f0.f6, (za y336 x5_1).f0.f7, (za y336 x5_1).f0.f8, (za y336 x5_1).f0.f9, (za y336 x5_1).f0.f10, (za y336 x5_1).f0.f11, (za y336 x5_1).f0.f12, (za y336 x5_1).f0.f13⟩ : S50), (⟨(za y336 x5_1).f1.f0, (za y336 x5_1).f1.f1, (za y336 x5_1).f1.f2⟩ : S52), (⟨(za y336 x5_1).f2.f0, ((Int.tmod (wrap64 (x1_3 + 1)) 3) == 0)⟩ : S46), (za y336 x5_1).f3⟩ : S54)) := ⟨_, rfl⟩
          replace H : (laws_markNodeS.l0 k3 (y337.set (x5_1 : Int).toNat (⟨(⟨(za y337 x5_1).f0.f0, (za y337 x5_1).f0.f1, (za y337 x5_1).f0.f2, (za y337 x5_1).f0.f3, (za y337 x5_1).f0.f4, (za y337 x5_1).f0.f5, (za y337 x5_1).f0.f6, (za y337 x5_1).f0.f7, (za y337 x5_1).f0.f8, (za y337 x5_1).f0.f9, (za y337 x5_1).f0.f10, (za y337 x5_1).f0.f11, (za y337 x5_1).f0.f12, (za y337 x5_1).f0.f13⟩ : S50), (⟨(za y337 x5_1).f1.f0, (za y337 x5_1).f1.f1, (za y337 x5_1).f1.f2⟩ : S52), (⟨(za y337 x5_1).f2.f0, (za y337 x5_1).f2.f1⟩ : S46), ((Int.tmod (wrap64 ((wrap64 (x1_3 + 1)) + 1)) 3) == 0)⟩ : S54)) (wrap64 ((wrap64 ((wrap64 (x1_3 + 1)) + 1)) + 1)) (wrap64 (x5_1 + 1))) = some (r1, r2) := by first | (rw [hy337]; with_reducible exact H) | (have H2_ := (Option.bind_some _ _).symm.trans H; rw [hy337]; with_reducible exact H2_) | (have H2_ := (Option.bind_some _ _).symm.trans H; with_reducible exact H2_) | with_reducible exact H | (rw [hy337]; exact H) | exact H
          have Ny337 := zc.mk hy337
          clear hy337
          obtain ⟨y338, hy338⟩ : ∃ y_ : List (S54), y_ = (y337.set (x5_1 : Int).toNat (⟨(⟨(za y337 x5_1).f0.f0, (za y337 x5_1).f0.f1, (za y337 x5_1).f0.f2, (za y337 x5_1).f0.f3, (za y337 x5_1).f0.f4, (za y337 x5_1).f0.f5, (za y337 x5_1).f0.f6, (za y337 x5_1).f0.f7, (za y337 x5_1).f0.f8, (za y337 x5_1).f0.f9, (za y337 x5_1).f0.f10, (za y337 x5_1).f0.f11, (za y337 x5_1).f0.f12, (za y337 x5_1).f0.f13⟩ : S50), (⟨(za y337 x5_1).f1.f0, (za y337 x5_1).f1.f1, (za y337 x5_1).f1.f2⟩ : S52), (⟨(za y337 x5_1).f2.f0, (za y337 x5_1).f2.f1⟩ : S46), ((Int.tmod (wrap64 ((wrap64 (x1_3 + 1)) + 1)) 3) == 0)⟩ : S54)) := ⟨_, rfl⟩
          replace H : (laws_markNodeS.l0 k3 y338 (wrap64 ((wrap64 ((wrap64 (x1_3 + 1)) + 1)) + 1)) (wrap64 (x5_1 + 1))) = some (r1, r2) := by first | (rw [hy338]; with_reducible exact H) | (have H2_ := (Option.bind_some _ _).symm.trans H; rw [hy338]; with_reducible exact H2_) | (have H2_ := (Option.bind_some _ _).symm.trans H; with_reducible exact H2_) | with_reducible exact H | (rw [hy338]; exact H) | exact H
          have Ny338 := zc.mk hy338
          clear hy338
          have H' := zc.mk H
          clear H
          have p23 : 0 ≤ (x5_1 : Int) := od (by first | (with_reducible assumption) | assumption)
          have q23 : (x5_1 : Int) < ((x0_3.length : Int) : Int) := od (by first | (with_reducible assumption) | assumption)
          obtain ⟨go23, co23, eo23, gb23, gl23, cl23, HG23⟩ := Kd.R_form HO_0.out (by omega)
          (first | cases eo23 | (injection eo23 with ea_ en_ ec_; (first | subst ea_ | (injection ea_ with ea_; subst ea_)); subst ec_; clear en_))
          have GB23 := zc.mk gb23
          have GG23 := zc.mk HG23
          clear gb23 gl23 HG23
          have HMgo23 := zc.mk (show (P0_ go23 ∨ w.heap.size ≤ go23) from (HO_0.out.1 _ rfl))
          obtain ⟨ce23, hcl23, hM23, hcc23, hfr23⟩ := Kd.R_elem HO_0.out z54 (x5_1 : Int) p23 q23
          obtain rfl := zw hM23
          have u7_0 : wr.cell? ⟨go23, (x5_1 : Int).toNat * 20, none⟩ = some (.int .i8 ((za x0_3 x5_1).f0.f0)) := hcc23 0 _ rfl
          have u7_1 : wr.cell? ⟨go23, (x5_1 : Int).toNat * 20 + 1, none⟩ = some (.int .i8 ((za x0_3 x5_1).f0.f1)) := hcc23 1 _ rfl
          have u7_2 : wr.cell? ⟨go23, (x5_1 : Int).toNat * 20 + 2, none⟩ = some (.int .i8 ((za x0_3 x5_1).f0.f2)) := hcc23 2 _ rfl
          have u7_3 : wr.cell? ⟨go23, (x5_1 : Int).toNat * 20 + 3, none⟩ = some (.int .i8 ((za x0_3 x5_1).f0.f3)) := hcc23 3 _ rfl
          have u7_4 : wr.cell? ⟨go23, (x5_1 : Int).toNat * 20 + 4, none⟩ = some (.int .i8 ((za x0_3 x5_1).f0.f4)) := hcc23 4 _ rfl
          have u7_5 : wr.cell? ⟨go23, (x5_1 : Int).toNat * 20 + 5, none⟩ = some (.int .i8 ((za x0_3 x5_1).f0.f5)) := hcc23 5 _ rfl
          have u7_6 : wr.cell? ⟨go23, (x5_1 : Int).toNat * 20 + 6, none⟩ = some (.int .i8 ((za x0_3 x5_1).f0.f6)) := hcc23 6 _ rfl
          have u7_7 : wr.cell? ⟨go23, (x5_1 : Int).toNat * 20 + 7, none⟩ = some (.int .i8 ((za x0_3 x5_1).f0.f7)) := hcc23 7 _ rfl
          have u7_8 : wr.cell? ⟨go23, (x5_1 : Int).toNat * 20 + 8, none⟩ = some (.int .i8 ((za x0_3 x5_1).f0.f8)) := hcc23 8 _ rfl
          have u7_9 : wr.cell? ⟨go23, (x5_1 : Int).toNat * 20 + 9, none⟩ = some (.int .i8 ((za x0_3 x5_1).f0.f9)) := hcc23 9 _ rfl
          have u7_10 : wr.cell? ⟨go23, (x5_1 : Int).toNat * 20 + 10, none⟩ = some (.int .i8 ((za x0_3 x5_1).f0.f10)) := hcc23 10 _ rfl
          have u7_11 : wr.cell? ⟨go23, (x5_1 : Int).toNat * 20 + 11, none⟩ = some (.int .i8 ((za x0_3 x5_1).f0.f11)) := hcc23 11 _ rfl
          have u7_12 : wr.cell? ⟨go23, (x5_1 : Int).toNat * 20 + 12, none⟩ = some (.int .i8 ((za x0_3 x5_1).f0.f12)) := hcc23 12 _ rfl
          have u7_13 : wr.cell? ⟨go23, (x5_1 : Int).toNat * 20 + 13, none⟩ = some (.int .i8 ((za x0_3 x5_1).f0.f13)) := hcc23 13 _ rfl
          have u7_14 : wr.cell? ⟨go23, (x5_1 : Int).toNat * 20 + 14, none⟩ = some (.int .i16 ((za x0_3 x5_1).f1.f0)) := hcc23 14 _ rfl
          have u7_15 : wr.cell? ⟨go23, (x5_1 : Int).toNat * 20 + 15, none⟩ = some (.int .i16 ((za x0_3 x5_1).f1.f1)) := hcc23 15 _ rfl
          have u7_16 : wr.cell? ⟨go23, (x5_1 : Int).toNat * 20 + 16, none⟩ = some (.int .i16 ((za x0_3 x5_1).f1.f2)) := hcc23 16 _ rfl
          have u7_17 : wr.cell? ⟨go23, (x5_1 : Int).toNat * 20 + 17, none⟩ = some (.int .i8 ((za x0_3 x5_1).f2.f0)) := hcc23 17 _ rfl
          have u7_18 : wr.cell? ⟨go23, (x5_1 : Int).toNat * 20 + 18, none⟩ = some (.bool ((za x0_3 x5_1).f2.f1)) := hcc23 18 _ rfl
          have u7_19 : wr.cell? ⟨go23, (x5_1 : Int).toNat * 20 + 19, none⟩ = some (.bool ((za x0_3 x5_1).f3)) := hcc23 19 _ rfl
          have t7_0 : wr.frozen? ⟨go23, (x5_1 : Int).toNat * 20, none⟩ = false := hfr23 0
          have t7_1 : wr.frozen? ⟨go23, (x5_1 : Int).toNat * 20 + 1, none⟩ = false := hfr23 1
          have t7_2 : wr.frozen? ⟨go23, (x5_1 : Int).toNat * 20 + 2, none⟩ = false := hfr23 2
          have t7_3 : wr.frozen? ⟨go23, (x5_1 : Int).toNat * 20 + 3, none⟩ = false := hfr23 3
          have t7_4 : wr.frozen? ⟨go23, (x5_1 : Int).toNat * 20 + 4, none⟩ = false := hfr23 4
          have t7_5 : wr.frozen? ⟨go23, (x5_1 : Int).toNat * 20 + 5, none⟩ = false := hfr23 5
          have t7_6 : wr.frozen? ⟨go23, (x5_1 : Int).toNat * 20 + 6, none⟩ = false := hfr23 6
          have t7_7 : wr.frozen? ⟨go23, (x5_1 : Int).toNat * 20 + 7, none⟩ = false := hfr23 7
          have t7_8 : wr.frozen? ⟨go23, (x5_1 : Int).toNat * 20 + 8, none⟩ = false := hfr23 8
          have t7_9 : wr.frozen? ⟨go23, (x5_1 : Int).toNat * 20 + 9, none⟩ = false := hfr23 9
          have t7_10 : wr.frozen? ⟨go23, (x5_1 : Int).toNat * 20 + 10, none⟩ = false := hfr23 10
          have t7_11 : wr.frozen? ⟨go23, (x5_1 : Int).toNat * 20 + 11, none⟩ = false := hfr23 11
          have t7_12 : wr.frozen? ⟨go23, (x5_1 : Int).toNat * 20 + 12, none⟩ = false := hfr23 12
          have t7_13 : wr.frozen? ⟨go23, (x5_1 : Int).toNat * 20 + 13, none⟩ = false := hfr23 13
          have t7_14 : wr.frozen? ⟨go23, (x5_1 : Int).toNat * 20 + 14, none⟩ = false := hfr23 14
          have t7_15 : wr.frozen? ⟨go23, (x5_1 : Int).toNat * 20 + 15, none⟩ = false := hfr23 15
          have t7_16 : wr.frozen? ⟨go23, (x5_1 : Int).toNat * 20 + 16, none⟩ = false := hfr23 16
          have t7_17 : wr.frozen? ⟨go23, (x5_1 : Int).toNat * 20 + 17, none⟩ = false := hfr23 17
          have t7_18 : wr.frozen? ⟨go23, (x5_1 : Int).toNat * 20 + 18, none⟩ = false := hfr23 18
          have t7_19 : wr.frozen? ⟨go23, (x5_1 : Int).toNat * 20 + 19, none⟩ = false := hfr23 19
          clear hcl23 hcc23 hfr23 hM23
          replace p23 := eq_true p23
          replace q23 := eq_true q23
          have HX26 := zc.mk (show Kd.R k54 54 wr w0.heap.size (fun k_ => (P0_ k_ ∨ w.heap.size ≤ k_)) (.slice (some ⟨go23, 0, none⟩) x0_3.length co4) x0_3 from (by (with_reducible repeat (first | apply Kd.R_alloc | apply Kd.R_drewN | apply Kd.R_drew)); exact HO_0.out))
          obtain ⟨ce26, hcl26, hM26, hcc26, hfr26⟩ := Kd.R_elem HX26.out z54 (x5_1 : Int) (od (by first | (with_reducible assumption) | assumption)) (by have h_ : (x5_1 : Int) < ((x0_3.length : Int) : Int) := od (by first | (with_reducible assumption) | assumption); first | exact h_ | (have e_ := (Kd.R_reads' HO_0.out).1; omega) | simpa using h_)
          obtain rfl := zw hM26
          have HP26 := Kd.R_seg HX26.out (x5_1 : Int) (od (by first | (with_reducible assumption) | assumption)) (by have h_ : (x5_1 : Int) < ((x0_3.length : Int) : Int) := od (by first | (with_reducible assumption) | assumption); first | exact h_ | (have e_ := (Kd.R_reads' HO_0.out).1; omega) | simpa using h_) (seg := [.int .i8 (IntKind.i8.wrap (x1_3))]) (j := 17) hcl26 hcc26 (show 18 ≤ 20 from by decide) (x' := (⟨(⟨(za x0_3 x5_1).f0.f0, (za x0_3 x5_1).f0.f1, (za x0_3 x5_1).f0.f2, (za x0_3 x5_1).f0.f3, (za x0_3 x5_1).f0.f4, (za x0_3 x5_1).f0.f5, (za x0_3 x5_1).f0.f6, (za x0_3 x5_1).f0.f7, (za x0_3 x5_1).f0.f8, (za x0_3 x5_1).f0.f9, (za x0_3 x5_1).f0.f10, (za x0_3 x5_1).f0.f11, (za x0_3 x5_1).f0.f12, (za x0_3 x5_1).f0.f13⟩ : S50), (⟨(za x0_3 x5_1).f1.f0, (za x0_3 x5_1).f1.f1, (za x0_3 x5_1).f1.f2⟩ : S52), (⟨IntKind.i8.wrap (x1_3), (za x0_3 x5_1).f2.f1⟩ : S46), (za x0_3 x5_1).f3⟩ : S54)) (zea _ _ _ (⟨(⟨(za x0_3 x5_1).f0.f0, (za x0_3 x5_1).f0.f1, (za x0_3 x5_1).f0.f2, (za x0_3 x5_1).f0.f3, (za x0_3 x5_1).f0.f4, (za x0_3 x5_1).f0.f5, (za x0_3 x5_1).f0.f6, (za x0_3 x5_1).f0.f7, (za x0_3 x5_1).f0.f8, (za x0_3 x5_1).f0.f9, (za x0_3 x5_1).f0.f10, (za x0_3 x5_1).f0.f11, (za x0_3 x5_1).f0.f12, (za x0_3 x5_1).f0.f13⟩ : S50), (⟨(za x0_3 x5_1).f1.f0, (za x0_3 x5_1).f1.f1, (za x0_3 x5_1).f1.f2⟩ : S52), (⟨IntKind.i8.wrap (x1_3), (za x0_3 x5_1).f2.f1⟩ : S46), (za x0_3 x5_1).f3⟩ : S54) ) (fun _ hk => hk)
          have u8_17 := hcc26 17 _ rfl
          (try simp only [show (k54).sz = 20 from rfl, Nat.mul_one, Nat.add_zero] at u8_17)
          have t8_17 := hfr26 17
          (try simp only [show (k54).sz = 20 from rfl, Nat.mul_one, Nat.add_zero] at t8_17)
          clear hcl26 hcc26 hfr26 hM26
          go_wp2_with (first | ((with_reducible refine zda (t := 22) (p := 48) rfl ?_); refine zxa (t := 22) (p := 48) (v := ?vo_w27) (w1 := (wr.setCell ⟨go23, (x5_1 : Int).toNat * 20 + 17, none⟩ (.int .i8 (IntKind.i8.wrap (x1_3))))) ?hg ?ho ?hn ?hr ?_; (case ho => rfl); (case hg => rfl); (case hn => rfl); (case hr => first | (go_simp; done) | (go_simp; rfl)); intro w27 hw; have hg : wr.grownBy w27 (some go23) := (by rw [hw]; exact HP26.2); have hp_ : Kd.R k54 54 w27 w0.heap.size (fun k_ => (P0_ k_ ∨ w.heap.size ≤ k_)) (.slice (some ⟨go23, 0, none⟩) x0_3.length co4) y336 := (by rw [hw, Ny336.out]; exact HP26.1); clear HP26; have n0_ := zc.mk (hp_); have n1_ := zc.mk ((by rw [hw]; exact zf (HB.out) GB23.out : Below w0.heap.size w0 w27)); have n2_ := zc.mk (Kept.of_grown (S := (fun k_ => P0_ k_)) hg (by repeat (first | (with_reducible first | exact HK.out | apply Kept.alloc | apply Kept.drewN | apply Kept.drew) | exact HK.out)) (fun k_ e_ => (HO_0.out.1 k_ e_))); clear HO_0; clear HB; clear HK; have HO_0 := n0_; have HB := n1_; have HK := n2_; clear n0_ n1_ n2_; clear hg hw hp_; have p24 : 0 ≤ (x5_1 : Int) := od (by first | (with_reducible assumption) | assumption); have q24 : (x5_1 : Int) < ((x0_3.length : Int) : Int) := od (by first | (with_reducible assumption) | assumption); obtain ⟨ce24, hcl24, hM24, hcc24, hfr24⟩ := Kd.R_elem HO_0.out z54 (x5_1 : Int) p24 q24; obtain rfl := zw hM24; have u9_0 : w27.cell? ⟨go23, (x5_1 : Int).toNat * 20, none⟩ = some (.int .i8 ((za y336 x5_1).f0.f0)) := hcc24 0 _ rfl; have u9_1 : w27.cell? ⟨go23, (x5_1 : Int).toNat * 20 + 1, none⟩ = some (.int .i8 ((za y336 x5_1).f0.f1)) := hcc24 1 _ rfl; have u9_2 : w27.cell? ⟨go23, (x5_1 : Int).toNat * 20 + 2, none⟩ = some (.int .i8 ((za y336 x5_1).f0.f2)) := hcc24 2 _ rfl; have u9_3 : w27.cell? ⟨go23, (x5_1 : Int).toNat * 20 + 3, none⟩ = some (.int .i8 ((za y336 x5_1).f0.f3)) := hcc24 3 _ rfl; have u9_4 : w27.cell? ⟨go23, (x5_1 : Int).toNat * 20 + 4, none⟩ = some (.int .i8 ((za y336 x5_1).f0.f4)) := hcc24 4 _ rfl; have u9_5 : w27.cell? ⟨go23, (x5_1 : Int).toNat * 20 + 5, none⟩ = some (.int .i8 ((za y336 x5_1).f0.f5)) := hcc24 5 _ rfl; have u9_6 : w27.cell? ⟨go23, (x5_1 : Int).toNat * 20 + 6, none⟩ = some (.int .i8 ((za y336 x5_1).f0.f6)) := hcc24 6 _ rfl; have u9_7 : w27.cell? ⟨go23, (x5_1 : Int).toNat * 20 + 7, none⟩ = some (.int .i8 ((za y336 x5_1).f0.f7)) := hcc24 7 _ rfl; have u9_8 : w27.cell? ⟨go23, (x5_1 : Int).toNat * 20 + 8, none⟩ = some (.int .i8 ((za y336 x5_1).f0.f8)) := hcc24 8 _ rfl; have u9_9 : w27.cell? ⟨go23, (x5_1 : Int).toNat * 20 + 9, none⟩ = some (.int .i8 ((za y336 x5_1).f0.f9)) := hcc24 9 _ rfl; have u9_10 : w27.cell? ⟨go23, (x5_1 : Int).toNat * 20 + 10, none⟩ = some (.int .i8 ((za y336 x5_1).f0.f10)) := hcc24 10 _ rfl; have u9_11 : w27.cell? ⟨go23, (x5_1 : Int).toNat * 20 + 11, none⟩ = some (.int .i8 ((za y336 x5_1).f0.f11)) := hcc24 11 _ rfl; have u9_12 : w27.cell? ⟨go23, (x5_1 : Int).toNat * 20 + 12, none⟩ = some (.int .i8 ((za y336 x5_1).f0.f12)) := hcc24 12 _ rfl; have u9_13 : w27.cell? ⟨go23, (x5_1 : Int).toNat * 20 + 13, none⟩ = some (.int .i8 ((za y336 x5_1).f0.f13)) := hcc24 13 _ rfl; have u9_14 : w27.cell? ⟨go23, (x5_1 : Int).toNat * 20 + 14, none⟩ = some (.int .i16 ((za y336 x5_1).f1.f0)) := hcc24 14 _ rfl; have u9_15 : w27.cell? ⟨go23, (x5_1 : Int).toNat * 20 + 15, none⟩ = some (.int .i16 ((za y336 x5_1).f1.f1)) := hcc24 15 _ rfl; have u9_16 : w27.cell? ⟨go23, (x5_1 : Int).toNat * 20 + 16, none⟩ = some (.int .i16 ((za y336 x5_1).f1.f2)) := hcc24 16 _ rfl; have u9_17 : w27.cell? ⟨go23, (x5_1 : Int).toNat * 20 + 17, none⟩ = some (.int .i8 ((za y336 x5_1).f2.f0)) := hcc24 17 _ rfl; have u9_18 : w27.cell? ⟨go23, (x5_1 : Int).toNat * 20 + 18, none⟩ = some (.bool ((za y336 x5_1).f2.f1)) := hcc24 18 _ rfl; have u9_19 : w27.cell? ⟨go23, (x5_1 : Int).toNat * 20 + 19, none⟩ = some (.bool ((za y336 x5_1).f3)) := hcc24 19 _ rfl; have t9_0 : w27.frozen? ⟨go23, (x5_1 : Int).toNat * 20, none⟩ = false := hfr24 0; have t9_1 : w27.frozen? ⟨go23, (x5_1 : Int).toNat * 20 + 1, none⟩ = false := hfr24 1; have t9_2 : w27.frozen? ⟨go23, (x5_1 : Int).toNat * 20 + 2, none⟩ = false := hfr24 2; have t9_3 : w27.frozen? ⟨go23, (x5_1 : Int).toNat * 20 + 3, none⟩ = false := hfr24 3; have t9_4 : w27.frozen? ⟨go23, (x5_1 : Int).toNat * 20 + 4, none⟩ = false := hfr24 4; have t9_5 : w27.frozen? ⟨go23, (x5_1 : Int).toNat * 20 + 5, none⟩ = false := hfr24 5; have t9_6 : w27.frozen? ⟨go23, (x5_1 : Int).toNat * 20 + 6, none⟩ = false := hfr24 6; have t9_7 : w27.frozen? ⟨go23, (x5_1 : Int).toNat * 20 + 7, none⟩ = false := hfr24 7; have t9_8 : w27.frozen? ⟨go23, (x5_1 : Int).toNat * 20 + 8, none⟩ = false := hfr24 8; have t9_9 : w27.frozen? ⟨go23, (x5_1 : Int).toNat * 20 + 9, none⟩ = false := hfr24 9; have t9_10 : w27.frozen? ⟨go23, (x5_1 : Int).toNat * 20 + 10, none⟩ = false := hfr24 10; have t9_11 : w27.frozen? ⟨go23, (x5_1 : Int).toNat * 20 + 11, none⟩ = false := hfr24 11; have t9_12 : w27.frozen? ⟨go23, (x5_1 : Int).toNat * 20 + 12, none⟩ = false := hfr24 12; have t9_13 : w27.frozen? ⟨go23, (x5_1 : Int).toNat * 20 + 13, none⟩ = false := hfr24 13; have t9_14 : w27.frozen? ⟨go23, (x5_1 : Int).toNat * 20 + 14, none⟩ = false := hfr24 14; have t9_15 : w27.frozen? ⟨go23, (x5_1 : Int).toNat * 20 + 15, none⟩ = false := hfr24 15; have t9_16 : w27.frozen? ⟨go23, (x5_1 : Int).toNat * 20 + 16, none⟩ = false := hfr24 16; have t9_17 : w27.frozen? ⟨go23, (x5_1 : Int).toNat * 20 + 17, none⟩ = false := hfr24 17; have t9_18 : w27.frozen? ⟨go23, (x5_1 : Int).toNat * 20 + 18, none⟩ = false := hfr24 18; have t9_19 : w27.frozen? ⟨go23, (x5_1 : Int).toNat * 20 + 19, none⟩ = false := hfr24 19; clear hcl24 hcc24 hfr24 hM24; replace p24 := eq_true p24; replace q24 := eq_true q24; have HX28 := zc.mk (show Kd.R k54 54 w27 w0.heap.size (fun k_ => (P0_ k_ ∨ w.heap.size ≤ k_)) (.slice (some ⟨go23, 0, none⟩) x0_3.length co4) y336 from (by (with_reducible repeat (first | apply Kd.R_alloc | apply Kd.R_drewN | apply Kd.R_drew)); exact HO_0.out)); obtain ⟨ce28, hcl28, hM28, hcc28, hfr28⟩ := Kd.R_elem HX28.out z54 (x5_1 : Int) (od (by first | (with_reducible assumption) | assumption)) (by have h_ : (x5_1 : Int) < ((x0_3.length : Int) : Int) := od (by first | (with_reducible assumption) | assumption); first | exact h_ | (have e_ := (Kd.R_reads' HO_0.out).1; omega) | simpa using h_); obtain rfl := zw hM28; have HP28 := Kd.R_seg HX28.out (x5_1 : Int) (od (by first | (with_reducible assumption) | assumption)) (by have h_ : (x5_1 : Int) < ((x0_3.length : Int) : Int) := od (by first | (with_reducible assumption) | assumption); first | exact h_ | (have e_ := (Kd.R_reads' HO_0.out).1; omega) | simpa using h_) (seg := [.bool ((Int.tmod (wrap64 (x1_3 + 1)) 3) == 0)]) (j := 18) hcl28 hcc28 (show 19 ≤ 20 from by decide) (x' := (⟨(⟨(za y336 x5_1).f0.f0, (za y336 x5_1).f0.f1, (za y336 x5_1).f0.f2, (za y336 x5_1).f0.f3, (za y336 x5_1).f0.f4, (za y336 x5_1).f0.f5, (za y336 x5_1).f0.f6, (za y336 x5_1).f0.f7, (za y336 x5_1).f0.f8, (za y336 x5_1).f0.f9, (za y336 x5_1).f0.f10, (za y336 x5_1).f0.f11, (za y336 x5_1).f0.f12, (za y336 x5_1).f0.f13⟩ : S50), (⟨(za y336 x5_1).f1.f0, (za y336 x5_1).f1.f1, (za y336 x5_1).f1.f2⟩ : S52), (⟨(za y336 x5_1).f2.f0, ((Int.tmod (wrap64 (x1_3 + 1)) 3) == 0)⟩ : S46), (za y336 x5_1).f3⟩ : S54)) (zea _ _ _ (⟨(⟨(za y336 x5_1).f0.f0, (za y336 x5_1).f0.f1, (za y336 x5_1).f0.f2, (za y336 x5_1).f0.f3, (za y336 x5_1).f0.f4, (za y336 x5_1).f0.f5, (za y336 x5_1).f0.f6, (za y336 x5_1).f0.f7, (za y336 x5_1).f0.f8, (za y336 x5_1).f0.f9, (za y336 x5_1).f0.f10, (za y336 x5_1).f0.f11, (za y336 x5_1).f0.f12, (za y336 x5_1).f0.f13⟩ : S50), (⟨(za y336 x5_1).f1.f0, (za y336 x5_1).f1.f1, (za y336 x5_1).f1.f2⟩ : S52), (⟨(za y336 x5_1).f2.f0, ((Int.tmod (wrap64 (x1_3 + 1)) 3) == 0)⟩ : S46), (za y336 x5_1).f3⟩ : S54) ) (fun _ hk => hk); have u10_18 := hcc28 18 _ rfl; (try simp only [show (k54).sz = 20 from rfl, Nat.mul_one, Nat.add_zero] at u10_18); have t10_18 := hfr28 18; (try simp only [show (k54).sz = 20 from rfl, Nat.mul_one, Nat.add_zero] at t10_18); clear hcl28 hcc28 hfr28 hM28) | ((with_reducible refine zda (t := 4) (p := 58) rfl ?_); refine zxa (t := 4) (p := 58) (v := ?vo_w29) (w1 := (w27.setCell ⟨go23, (x5_1 : Int).toNat * 20 + 18, none⟩ (.bool ((Int.tmod (wrap64 (x1_3 + 1)) 3) == 0)))) ?hg ?ho ?hn ?hr ?_; (case ho => rfl); (case hg => rfl); (case hn => rfl); (case hr => first | (go_simp; done) | (go_simp; rfl)); intro w29 hw; have hg : w27.grownBy w29 (some go23) := (by rw [hw]; exact HP28.2); have hp_ : Kd.R k54 54 w29 w0.heap.size (fun k_ => (P0_ k_ ∨ w.heap.size ≤ k_)) (.slice (some ⟨go23, 0, none⟩) x0_3.length co4) y337 := (by rw [hw, Ny337.out]; exact HP28.1); clear HP28; have n0_ := zc.mk (hp_); have n1_ := zc.mk ((by rw [hw]; exact zf (HB.out) GB23.out : Below w0.heap.size w0 w29)); have n2_ := zc.mk (Kept.of_grown (S := (fun k_ => P0_ k_)) hg (by repeat (first | (with_reducible first | exact HK.out | apply Kept.alloc | apply Kept.drewN | apply Kept.drew) | exact HK.out)) (fun k_ e_ => (HO_0.out.1 k_ e_))); clear HO_0; clear HB; clear HK; have HO_0 := n0_; have HB := n1_; have HK := n2_; clear n0_ n1_ n2_; clear hg hw hp_; have p25 : 0 ≤ (x5_1 : Int) := od (by first | (with_reducible assumption) | assumption); have q25 : (x5_1 : Int) < ((x0_3.length : Int) : Int) := od (by first | (with_reducible assumption) | assumption); obtain ⟨ce25, hcl25, hM25, hcc25, hfr25⟩ := Kd.R_elem HO_0.out z54 (x5_1 : Int) p25 q25; obtain rfl := zw hM25; have u11_0 : w29.cell? ⟨go23, (x5_1 : Int).toNat * 20, none⟩ = some (.int .i8 ((za y337 x5_1).f0.f0)) := hcc25 0 _ rfl; have u11_1 : w29.cell? ⟨go23, (x5_1 : Int).toNat * 20 + 1, none⟩ = some (.int .i8 ((za y337 x5_1).f0.f1)) := hcc25 1 _ rfl; have u11_2 : w29.cell? ⟨go23, (x5_1 : Int).toNat * 20 + 2, none⟩ = some (.int .i8 ((za y337 x5_1).f0.f2)) := hcc25 2 _ rfl; have u11_3 : w29.cell? ⟨go23, (x5_1 : Int).toNat * 20 + 3, none⟩ = some (.int .i8 ((za y337 x5_1).f0.f3)) := hcc25 3 _ rfl; have u11_4 : w29.cell? ⟨go23, (x5_1 : Int).toNat * 20 + 4, none⟩ = some (.int .i8 ((za y337 x5_1).f0.f4)) := hcc25 4 _ rfl; have u11_5 : w29.cell? ⟨go23, (x5_1 : Int).toNat * 20 + 5, none⟩ = some (.int .i8 ((za y337 x5_1).f0.f5)) := hcc25 5 _ rfl; have u11_6 : w29.cell? ⟨go23, (x5_1 : Int).toNat * 20 + 6, none⟩ = some (.int .i8 ((za y337 x5_1).f0.f6)) := hcc25 6 _ rfl; have u11_7 : w29.cell? ⟨go23, (x5_1 : Int).toNat * 20 + 7, none⟩ = some (.int .i8 ((za y337 x5_1).f0.f7)) := hcc25 7 _ rfl; have u11_8 : w29.cell? ⟨go23, (x5_1 : Int).toNat * 20 + 8, none⟩ = some (.int .i8 ((za y337 x5_1).f0.f8)) := hcc25 8 _ rfl; have u11_9 : w29.cell? ⟨go23, (x5_1 : Int).toNat * 20 + 9, none⟩ = some (.int .i8 ((za y337 x5_1).f0.f9)) := hcc25 9 _ rfl; have u11_10 : w29.cell? ⟨go23, (x5_1 : Int).toNat * 20 + 10, none⟩ = some (.int .i8 ((za y337 x5_1).f0.f10)) := hcc25 10 _ rfl; have u11_11 : w29.cell? ⟨go23, (x5_1 : Int).toNat * 20 + 11, none⟩ = some (.int .i8 ((za y337 x5_1).f0.f11)) := hcc25 11 _ rfl; have u11_12 : w29.cell? ⟨go23, (x5_1 : Int).toNat * 20 + 12, none⟩ = some (.int .i8 ((za y337 x5_1).f0.f12)) := hcc25 12 _ rfl; have u11_13 : w29.cell? ⟨go23, (x5_1 : Int).toNat * 20 + 13, none⟩ = some (.int .i8 ((za y337 x5_1).f0.f13)) := hcc25 13 _ rfl; have u11_14 : w29.cell? ⟨go23, (x5_1 : Int).toNat * 20 + 14, none⟩ = some (.int .i16 ((za y337 x5_1).f1.f0)) := hcc25 14 _ rfl; have u11_15 : w29.cell? ⟨go23, (x5_1 : Int).toNat * 20 + 15, none⟩ = some (.int .i16 ((za y337 x5_1).f1.f1)) := hcc25 15 _ rfl; have u11_16 : w29.cell? ⟨go23, (x5_1 : Int).toNat * 20 + 16, none⟩ = some (.int .i16 ((za y337 x5_1).f1.f2)) := hcc25 16 _ rfl; have u11_17 : w29.cell? ⟨go23, (x5_1 : Int).toNat * 20 + 17, none⟩ = some (.int .i8 ((za y337 x5_1).f2.f0)) := hcc25 17 _ rfl; have u11_18 : w29.cell? ⟨go23, (x5_1 : Int).toNat * 20 + 18, none⟩ = some (.bool ((za y337 x5_1).f2.f1)) := hcc25 18 _ rfl; have u11_19 : w29.cell? ⟨go23, (x5_1 : Int).toNat * 20 + 19, none⟩ = some (.bool ((za y337 x5_1).f3)) := hcc25 19 _ rfl; have t11_0 : w29.frozen? ⟨go23, (x5_1 : Int).toNat * 20, none⟩ = false := hfr25 0; have t11_1 : w29.frozen? ⟨go23, (x5_1 : Int).toNat * 20 + 1, none⟩ = false := hfr25 1; have t11_2 : w29.frozen? ⟨go23, (x5_1 : Int).toNat * 20 + 2, none⟩ = false := hfr25 2; have t11_3 : w29.frozen? ⟨go23, (x5_1 : Int).toNat * 20 + 3, none⟩ = false := hfr25 3; have t11_4 : w29.frozen? ⟨go23, (x5_1 : Int).toNat * 20 + 4, none⟩ = false := hfr25 4; have t11_5 : w29.frozen? ⟨go23, (x5_1 : Int).toNat * 20 + 5, none⟩ = false := hfr25 5; have t11_6 : w29.frozen? ⟨go23, (x5_1 : Int).toNat * 20 + 6, none⟩ = false := hfr25 6; have t11_7 : w29.frozen? ⟨go23, (x5_1 : Int).toNat * 20 + 7, none⟩ = false := hfr25 7; have t11_8 : w29.frozen? ⟨go23, (x5_1 : Int).toNat * 20 + 8, none⟩ = false := hfr25 8; have t11_9 : w29.frozen? ⟨go23, (x5_1 : Int).toNat * 20 + 9, none⟩ = false := hfr25 9; have t11_10 : w29.frozen? ⟨go23, (x5_1 : Int).toNat * 20 + 10, none⟩ = false := hfr25 10; have t11_11 : w29.frozen? ⟨go23, (x5_1 : Int).toNat * 20 + 11, none⟩ = false := hfr25 11; have t11_12 : w29.frozen? ⟨go23, (x5_1 : Int).toNat * 20 + 12, none⟩ = false := hfr25 12; have t11_13 : w29.frozen? ⟨go23, (x5_1 : Int).toNat * 20 + 13, none⟩ = false := hfr25 13; have t11_14 : w29.frozen? ⟨go23, (x5_1 : Int).toNat * 20 + 14, none⟩ = false := hfr25 14; have t11_15 : w29.frozen? ⟨go23, (x5_1 : Int).toNat * 20 + 15, none⟩ = false := hfr25 15; have t11_16 : w29.frozen? ⟨go23, (x5_1 : Int).toNat * 20 + 16, none⟩ = false := hfr25 16; have t11_17 : w29.frozen? ⟨go23, (x5_1 : Int).toNat * 20 + 17, none⟩ = false := hfr25 17; have t11_18 : w29.frozen? ⟨go23, (x5_1 : Int).toNat * 20 + 18, none⟩ = false := hfr25 18; have t11_19 : w29.frozen? ⟨go23, (x5_1 : Int).toNat * 20 + 19, none⟩ = false := hfr25 19; clear hcl25 hcc25 hfr25 hM25; replace p25 := eq_true p25; replace q25 := eq_true q25; have HX30 := zc.mk (show Kd.R k54 54 w29 w0.heap.size (fun k_ => (P0_ k_ ∨ w.heap.size ≤ k_)) (.slice (some ⟨go23, 0, none⟩) x0_3.length co4) y337 from (by (with_reducible repeat (first | apply Kd.R_alloc | apply Kd.R_drewN | apply Kd.R_drew)); exact HO_0.out)); obtain ⟨ce30, hcl30, hM30, hcc30, hfr30⟩ := Kd.R_elem HX30.out z54 (x5_1 : Int) (od (by first | (with_reducible assumption) | assumption)) (by have h_ : (x5_1 : Int) < ((x0_3.length : Int) : Int) := od (by first | (with_reducible assumption) | assumption); first | exact h_ | (have e_ := (Kd.R_reads' HO_0.out).1; omega) | simpa using h_); obtain rfl := zw hM30; have HP30 := Kd.R_seg HX30.out (x5_1 : Int) (od (by first | (with_reducible assumption) | assumption)) (by have h_ : (x5_1 : Int) < ((x0_3.length : Int) : Int) := od (by first | (with_reducible assumption) | assumption); first | exact h_ | (have e_ := (Kd.R_reads' HO_0.out).1; omega) | simpa using h_) (seg := [.bool ((Int.tmod (wrap64 ((wrap64 (x1_3 + 1)) + 1)) 3) == 0)]) (j := 19) hcl30 hcc30 (show 20 ≤ 20 from by decide) (x' := (⟨(⟨(za y337 x5_1).f0.f0, (za y337 x5_1).f0.f1, (za y337 x5_1).f0.f2, (za y337 x5_1).f0.f3, (za y337 x5_1).f0.f4, (za y337 x5_1).f0.f5, (za y337 x5_1).f0.f6, (za y337 x5_1).f0.f7, (za y337 x5_1).f0.f8, (za y337 x5_1).f0.f9, (za y337 x5_1).f0.f10, (za y337 x5_1).f0.f11, (za y337 x5_1).f0.f12, (za y337 x5_1).f0.f13⟩ : S50), (⟨(za y337 x5_1).f1.f0, (za y337 x5_1).f1.f1, (za y337 x5_1).f1.f2⟩ : S52), (⟨(za y337 x5_1).f2.f0, (za y337 x5_1).f2.f1⟩ : S46), ((Int.tmod (wrap64 ((wrap64 (x1_3 + 1)) + 1)) 3) == 0)⟩ : S54)) (zea _ _ _ (⟨(⟨(za y337 x5_1).f0.f0, (za y337 x5_1).f0.f1, (za y337 x5_1).f0.f2, (za y337 x5_1).f0.f3, (za y337 x5_1).f0.f4, (za y337 x5_1).f0.f5, (za y337 x5_1).f0.f6, (za y337 x5_1).f0.f7, (za y337 x5_1).f0.f8, (za y337 x5_1).f0.f9, (za y337 x5_1).f0.f10, (za y337 x5_1).f0.f11, (za y337 x5_1).f0.f12, (za y337 x5_1).f0.f13⟩ : S50), (⟨(za y337 x5_1).f1.f0, (za y337 x5_1).f1.f1, (za y337 x5_1).f1.f2⟩ : S52), (⟨(za y337 x5_1).f2.f0, (za y337 x5_1).f2.f1⟩ : S46), ((Int.tmod (wrap64 ((wrap64 (x1_3 + 1)) + 1)) 3) == 0)⟩ : S54) ) (fun _ hk => hk); have u12_19 := hcc30 19 _ rfl; (try simp only [show (k54).sz = 20 from rfl, Nat.mul_one, Nat.add_zero] at u12_19); have t12_19 := hfr30 19; (try simp only [show (k54).sz = 20 from rfl, Nat.mul_one, Nat.add_zero] at t12_19); clear hcl30 hcc30 hfr30 hM30) | ((with_reducible refine zda (t := 4) (p := 67) rfl ?_); refine zxa (t := 4) (p := 67) (v := ?vo_w31) (w1 := (w29.setCell ⟨go23, (x5_1 : Int).toNat * 20 + 19, none⟩ (.bool ((Int.tmod (wrap64 ((wrap64 (x1_3 + 1)) + 1)) 3) == 0)))) ?hg ?ho ?hn ?hr ?_; (case ho => rfl); (case hg => rfl); (case hn => rfl); (case hr => first | (go_simp; done) | (go_simp; rfl)); intro w31 hw; have hg : w29.grownBy w31 (some go23) := (by rw [hw]; exact HP30.2); have hp_ : Kd.R k54 54 w31 w0.heap.size (fun k_ => (P0_ k_ ∨ w.heap.size ≤ k_)) (.slice (some ⟨go23, 0, none⟩) x0_3.length co4) y338 := (by rw [hw, Ny338.out]; exact HP30.1); clear HP30; have n0_ := zc.mk (hp_); have n1_ := zc.mk ((by rw [hw]; exact zf (HB.out) GB23.out : Below w0.heap.size w0 w31)); have n2_ := zc.mk (Kept.of_grown (S := (fun k_ => P0_ k_)) hg (by repeat (first | (with_reducible first | exact HK.out | apply Kept.alloc | apply Kept.drewN | apply Kept.drew) | exact HK.out)) (fun k_ e_ => (HO_0.out.1 k_ e_))); clear HO_0; clear HB; clear HK; have HO_0 := n0_; have HB := n1_; have HK := n2_; clear n0_ n1_ n2_; clear hg hw hp_))
          (try simp only [← hl0_2, ← hl0_3])
          go_roundg k3
          case measure => have := HK1.out; have := HK2.out; have := HK3.out; omega
          case rel => exact ⟨(y338), (wrap64 ((wrap64 ((wrap64 (x1_3 + 1)) + 1)) + 1)), (wrap64 (x5_1 + 1)), (by first | rfl | (simp; done) | (simp [*]; done)), (by first | rfl | (simp; done) | (simp [*]; done)), H', ⟨by have := HK1.out; have := HK2.out; have := HK3.out; omega⟩, ⟨by (try simp only [hl0_2]); (try simp only [hl0_3]); (with_reducible repeat (first | apply Kd.R_alloc | apply Kd.R_drewN | apply Kd.R_drew)); exact HO_0.out⟩, ⟨by repeat (first | (with_reducible first | exact HK.out | apply Kept.alloc | apply Kept.drewN | apply Kept.drew) | exact HK.out)⟩, ⟨by repeat (first | (with_reducible first | exact HB.out | apply ze | apply zb | apply zd) | exact HB.out)⟩⟩
         rw [if_neg c22] at H
         exact absurd H (by simp)
        rw [if_neg c21] at H
        exact absurd H (by simp)
   rw [if_neg c3] at H
   have c3b0 : decide (x5_1 < (x0_1.length : Int)) = false := decide_eq_false c3
   clear c3
   simp only [Option.some.injEq, Prod.mk.injEq] at H
   obtain ⟨rfl, rfl⟩ := H
   obtain ⟨Ao32, co32, eo32⟩ := Kd.R_slice HO_0.out
   subst eo32
   go_wp2
   go_ret
   exact ⟨by first | rfl | (simp [zj, zk] <;> rfl) | (simp [*, zj, zk] <;> rfl), by (with_reducible repeat (first | apply Kd.R_alloc | apply Kd.R_drewN | apply Kd.R_drew)); exact HO_0.out, by repeat (first | (with_reducible first | exact HB.out | apply ze | apply zb | apply zd) | exact HB.out), by repeat (first | (with_reducible first | exact HK.out | apply Kept.alloc | apply Kept.drewN | apply Kept.drew) | exact HK.out)⟩
end Go.Proofs.Ytmmonhpjjjdnjaa.V
