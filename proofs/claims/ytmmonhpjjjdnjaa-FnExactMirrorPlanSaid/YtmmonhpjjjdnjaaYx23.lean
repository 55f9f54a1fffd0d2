-- Written by wip/tools/myprint.py, a program of this session, by way of the kit's print.
import Derived.Test.YtmmonhpjjjdnjaaYx0
namespace Go.Proofs.Ytmmonhpjjjdnjaa.Y
open Go.RowKit Go.Proofs.YtmmonhpjjjdnjaaW.PrintWords Go.Proofs.YtmmonhpjjjdnjaaW.PrintLast Go.Proofs.YtmmonhpjjjdnjaaW.PrintMore
attribute [local go_sem] zha zga zka zja zba zaa zea zfa   -- for this text's walks alone
set_option linter.unusedVariables false
set_option linter.unusedSimpArgs false

/-! ### laws_markNodeS: function 20 -/
mutual
def laws_markNodeS.l0 : Nat → List (S54) → Int → Int → Option (Int × (List (S54)))
 | 0, _, _, _ => none
 | k + 1, x0, x1, x5 => if x5 < (x0.length : Int) then (laws_markNodeS.l1 k x0 x1 x5 0) else (some (x1, x0))
def laws_markNodeS.l1 : Nat → List (S54) → Int → Int → Int → Option (Int × (List (S54)))
 | 0, _, _, _, _ => none
 | k + 1, x0, x1, x5, x6 => if x6 < 14 then (if 0 ≤ x5 then (if x5 < (x0.length : Int) then (if 0 ≤ x6 then (laws_markNodeS.l1 k (x0.set (x5 : Int).toNat (⟨(⟨(pickA x6 0 (IntKind.i8.wrap (x1)) ((rd_T54 x0 x5).f0.f0)), (pickA x6 1 (IntKind.i8.wrap (x1)) ((rd_T54 x0 x5).f0.f1)), (pickA x6 2 (IntKind.i8.wrap (x1)) ((rd_T54 x0 x5).f0.f2)), (pickA x6 3 (IntKind.i8.wrap (x1)) ((rd_T54 x0 x5).f0.f3)), (pickA x6 4 (IntKind.i8.wrap (x1)) ((rd_T54 x0 x5).f0.f4)), (pickA x6 5 (IntKind.i8.wrap (x1)) ((rd_T54 x0 x5).f0.f5)), (pickA x6 6 (IntKind.i8.wrap (x1)) ((rd_T54 x0 x5).f0.f6)), (pickA x6 7 (IntKind.i8.wrap (x1)) ((rd_T54 x0 x5).f0.f7)), (pickA x6 8 (IntKind.i8.wrap (x1)) ((rd_T54 x0 x5).f0.f8)), (pickA x6 9 (IntKind.i8.wrap (x1)) ((rd_T54 x0 x5).f0.f9)), (pickA x6 10 (IntKind.i8.wrap (x1)) ((rd_T54 x0 x5).f0.f10)), (pickA x6 11 (IntKind.i8.wrap (x1)) ((rd_T54 x0 x5).f0.f11)), (pickA x6 12 (IntKind.i8.wrap (x1)) ((rd_T54 x0 x5).f0.f12)), (pickA x6 13 (IntKind.i8.wrap (x1)) ((rd_T54 x0 x5).f0.f13))⟩ : S50), (⟨(rd_T54 x0 x5).f1.f0, (rd_T54 x0 x5).f1.f1, (rd_T54 x0 x5).f1.f2⟩ : S52), (⟨(rd_T54 x0 x5).f2.f0, (rd_T54 x0 x5).f2.f1⟩ : S46), (rd_T54 x0 x5).f3⟩ : S54)) (wrap64 (x1 + 1)) x5 (wrap64 (x6 + 1))) else (none)) else (none)) else (none)) else (laws_markNodeS.l2 k x0 x1 x5 0)
def laws_markNodeS.l2 : Nat → List (S54) → Int → Int → Int → Option (Int × (List (S54)))
 | 0, _, _, _, _ => none
 | k + 1, x0, x1, x5, x7 => if x7 < 3 then (if 0 ≤ x5 then (if x5 < (x0.length : Int) then (if 0 ≤ x7 then (laws_markNodeS.l2 k (x0.set (x5 : Int).toNat (⟨(⟨(rd_T54 x0 x5).f0.f0, (rd_T54 x0 x5).f0.f1, (rd_T54 x0 x5).f0.f2, (rd_T54 x0 x5).f0.f3, (rd_T54 x0 x5).f0.f4, (rd_T54 x0 x5).f0.f5, (rd_T54 x0 x5).f0.f6, (rd_T54 x0 x5).f0.f7, (rd_T54 x0 x5).f0.f8, (rd_T54 x0 x5).f0.f9, (rd_T54 x0 x5).f0.f10, (rd_T54 x0 x5).f0.f11, (rd_T54 x0 x5).f0.f12, (rd_T54 x0 x5).f0.f13⟩ : S50), (⟨(pickA x7 0 (IntKind.i16.wrap (x1)) ((rd_T54 x0 x5).f1.f0)), (pickA x7 1 (IntKind.i16.wrap (x1)) ((rd_T54 x0 x5).f1.f1)), (pickA x7 2 (IntKind.i16.wrap (x1)) ((rd_T54 x0 x5).f1.f2))⟩ : S52), (⟨(rd_T54 x0 x5).f2.f0, (rd_T54 x0 x5).f2.f1⟩ : S46), (rd_T54 x0 x5).f3⟩ : S54)) (wrap64 (x1 + 1)) x5 (wrap64 (x7 + 1))) else (none)) else (none)) else (none)) else (if 0 ≤ x5 then (if x5 < (x0.length : Int) then ((some (x0.set (x5 : Int).toNat (⟨(⟨(rd_T54 x0 x5).f0.f0, (rd_T54 x0 x5).f0.f1, (rd_T54 x0 x5).f0.f2, (rd_T54 x0 x5).f0.f3, (rd_T54 x0 x5).f0.f4, (rd_T54 x0 x5).f0.f5, (rd_T54 x0 x5).f0.f6, (rd_T54 x0 x5).f0.f7, (rd_T54 x0 x5).f0.f8, (rd_T54 x0 x5).f0.f9, (rd_T54 x0 x5).f0.f10, (rd_T54 x0 x5).f0.f11, (rd_T54 x0 x5).f0.f12, (rd_T54 x0 x5).f0.f13⟩ : S50), (⟨(rd_T54 x0 x5).f1.f0, (rd_T54 x0 x5).f1.f1, (rd_T54 x0 x5).f1.f2⟩ : S52), (⟨IntKind.i8.wrap (x1), (rd_T54 x0 x5).f2.f1⟩ : S46), (rd_T54 x0 x5).f3⟩ : S54) : List (S54))).bind fun y336 => ((some (y336.set (x5 : Int).toNat (⟨(⟨(rd_T54 y336 x5).f0.f0, (rd_T54 y336 x5).f0.f1, (rd_T54 y336 x5).f0.f2, (rd_T54 y336 x5).f0.f3, (rd_T54 y336 x5).f0.f4, (rd_T54 y336 x5).f0.f5, (rd_T54 y336 x5).f0.f6, (rd_T54 y336 x5).f0.f7, (rd_T54 y336 x5).f0.f8, (rd_T54 y336 x5).f0.f9, (rd_T54 y336 x5).f0.f10, (rd_T54 y336 x5).f0.f11, (rd_T54 y336 x5).f0.f12, (rd_T54 y336 x5).f0.f13⟩ : S50), (⟨(rd_T54 y336 x5).f1.f0, (rd_T54 y336 x5).f1.f1, (rd_T54 y336 x5).f1.f2⟩ : S52), (⟨(rd_T54 y336 x5).f2.f0, ((Int.tmod (wrap64 (x1 + 1)) 3) == 0)⟩ : S46), (rd_T54 y336 x5).f3⟩ : S54) : List (S54))).bind fun y337 => (laws_markNodeS.l0 k (y337.set (x5 : Int).toNat (⟨(⟨(rd_T54 y337 x5).f0.f0, (rd_T54 y337 x5).f0.f1, (rd_T54 y337 x5).f0.f2, (rd_T54 y337 x5).f0.f3, (rd_T54 y337 x5).f0.f4, (rd_T54 y337 x5).f0.f5, (rd_T54 y337 x5).f0.f6, (rd_T54 y337 x5).f0.f7, (rd_T54 y337 x5).f0.f8, (rd_T54 y337 x5).f0.f9, (rd_T54 y337 x5).f0.f10, (rd_T54 y337 x5).f0.f11, (rd_T54 y337 x5).f0.f12, (rd_T54 y337 x5).f0.f13⟩ : S50), (⟨(rd_T54 y337 x5).f1.f0, (rd_T54 y337 x5).f1.f1, (rd_T54 y337 x5).f1.f2⟩ : S52), (⟨(rd_T54 y337 x5).f2.f0, (rd_T54 y337 x5).f2.f1⟩ : S46), ((Int.tmod (wrap64 ((wrap64 (x1 + 1)) + 1)) 3) == 0)⟩ : S54)) (wrap64 ((wrap64 ((wrap64 (x1 + 1)) + 1)) + 1)) (wrap64 (x5 + 1))))) else (none)) else (none))
end
def laws_markNodeS.f (k : Nat) (l0 : List (S54)) (a1 : Int) : Option (Int × (List (S54))) := laws_markNodeS.l0 k l0 a1 0
set_option maxHeartbeats 8000000 in
set_option maxRecDepth 100000 in
theorem laws_markNodeS.calls (k : Nat) (P0_ : Nat → Prop) (u9000_ : Value) (l0 : List (S54)) (a1 : Int) (r1 : Int) (r2 : List (S54)) (w0 w : World) (hB : Below w0.heap.size w0 w) (ho0 : Kd.R k54 54 w w0.heap.size P0_ u9000_ l0) (h : laws_markNodeS.f k l0 a1 = some (r1, r2)) :
  Calls Try.prog 20 #[u9000_, .int .i64 a1] w fun e w' => e = .returned (.int .i64 r1) ∧ Kd.R k54 54 w' w0.heap.size (fun k_ => (P0_ k_ ∨ w.heap.size ≤ k_)) u9000_ r2 ∧ Below w0.heap.size w0 w' ∧ Kept w w' (fun k_ => P0_ k_) := by
 have HO0 := zc.mk (show Kd.R k54 54 w w0.heap.size (fun k_ => (P0_ k_ ∨ w.heap.size ≤ k_)) u9000_ l0 from Kd.R_mono ho0 (fun k_ hk => (.inl hk)))
 have HK := zc.mk (Kept.refl w (fun k_ => P0_ k_))
 have HW0 := zc.mk hB.size
 have HB := zc.mk hB
 clear hB
 have H : (laws_markNodeS.l0 k l0 a1 0) = some (r1, r2) := h
 clear h
 have H' := zc.mk H
 clear H
 go_enter Try.func20, Try.ntmps20
 go_wp2
 go_loopg [1, 5] k (fun kq v1 v5 w' => ∃ (x0_1 : List (S54)) (x1_1 : Int) (x5_1 : Int), v1 = .int .i64 x1_1 ∧ v5 = .int .i64 x5_1 ∧ zc (laws_markNodeS.l0 kq x0_1 x1_1 x5_1 = some (r1, r2)) ∧ zc (kq ≤ k) ∧ zc (Kd.R k54 54 w' w0.heap.size (fun k_ => (P0_ k_ ∨ w.heap.size ≤ k_)) u9000_ x0_1) ∧ zc (Kept w w' (fun k_ => P0_ k_)) ∧ zc (Below w0.heap.size w0 w'))
 case atStart => exact ⟨(l0), (a1), (0), (by first | rfl | (simp; done) | (simp [*]; done)), (by first | rfl | (simp; done) | (simp [*]; done)), H', ⟨Nat.le_refl _⟩, ⟨by (with_reducible repeat (first | apply Kd.R_alloc | apply Kd.R_drewN | apply Kd.R_drew)); exact HO0.out⟩, ⟨by repeat (first | (with_reducible first | exact HK.out | apply Kept.alloc | apply Kept.drewN | apply Kept.drew) | exact HK.out)⟩, ⟨by repeat (first | (with_reducible first | exact HB.out | apply zd | apply za | apply zb) | exact HB.out)⟩⟩
 case round =>
  clear H'
  try clear c2
  try clear p2
  obtain ⟨x0_1, x1_1, x5_1, rfl, rfl, HA, HK1, HO_0, HK, HB⟩ := hrel
  cases gk with
  | zero => exact absurd HA.out (by simp [laws_markNodeS.l0])
  | succ k1 =>
   have H := HA.out
   clear HA
   simp only [laws_markNodeS.l0] at H
   by_cases c3 : x5_1 < (x0_1.length : Int)
   ·rw [if_pos c3] at H
    have c3b0 : decide (x5_1 < (x0_1.length : Int)) = true := decide_eq_true c3
    clear c3
    have H' := zc.mk H
    clear H
    obtain ⟨Ao4, co4, eo4⟩ := Kd.R_slice HO_0.out
    subst eo4
    go_wp2
    go_loopg [1, 6] k1 (fun kq v1 v6 w' => ∃ (x0_2 : List (S54)) (x1_2 : Int) (x6_2 : Int), v1 = .int .i64 x1_2 ∧ v6 = .int .i64 x6_2 ∧ zc (laws_markNodeS.l1 kq x0_2 x1_2 x5_1 x6_2 = some (r1, r2)) ∧ zc (kq ≤ k1) ∧ zc (Kd.R k54 54 w' w0.heap.size (fun k_ => (P0_ k_ ∨ w.heap.size ≤ k_)) (.slice Ao4 x0_1.length co4) x0_2) ∧ zc (Kept w w' (fun k_ => P0_ k_)) ∧ zc (Below w0.heap.size w0 w'))
    case atStart => exact ⟨(x0_1), (x1_1), (0), (by first | rfl | (simp; done) | (simp [*]; done)), (by first | rfl | (simp; done) | (simp [*]; done)), H', ⟨Nat.le_refl _⟩, ⟨by (with_reducible repeat (first | apply Kd.R_alloc | apply Kd.R_drewN | apply Kd.R_drew)); exact HO_0.out⟩, ⟨by repeat (first | (with_reducible first | exact HK.out | apply Kept.alloc | apply Kept.drewN | apply Kept.drew) | exact HK.out)⟩, ⟨by repeat (first | (with_reducible first | exact HB.out | apply zd | apply za | apply zb) | exact HB.out)⟩⟩
    case round =>
     clear H'
     try clear c2
     try clear p2
     try clear c3
     try clear c3b0
     try clear p2
     obtain ⟨x0_2, x1_2, x6_2, rfl, rfl, HA, HK2, HO_0, HK, HB⟩ := hrel
     have hl0_2 := (Kd.R_reads' HO_0.out).1
     rw [hl0_2] at HO_0
     (try simp only [hl0_2])
     cases gk with
     | zero => exact absurd HA.out (by simp [laws_markNodeS.l1])
     | succ k2 =>
      have H := HA.out
      clear HA
      simp only [laws_markNodeS.l1] at H
      by_cases c5 : x6_2 < 14
      ·rw [if_pos c5] at H
       have c5b0 : decide (x6_2 < 14) = true := decide_eq_true c5
       clear c5
       by_cases c6 : 0 ≤ x5_1
       ·rw [if_pos c6] at H
        have c6b0 : decide (0 ≤ x5_1) = true := decide_eq_true c6
        clear c6
        by_cases c7 : x5_1 < (x0_2.length : Int)
        ·rw [if_pos c7] at H
         have c7b0 : decide (x5_1 < (x0_2.length : Int)) = true := decide_eq_true c7
         clear c7
         by_cases c9 : 0 ≤ x6_2
         ·rw [if_pos c9] at H
          have c9b0 : decide (0 ≤ x6_2) = true := decide_eq_true c9
          clear c9
          obtain ⟨y333, hy333⟩ : ∃ y_ : List (S54), y_ = (x0_2.set (x5_1 : Int).toNat (⟨(⟨(pickA x6_2 0 (IntKind.i8.wrap (x1_2)) ((rd_T54 x0_2 x5_1).f0.f0)), (pickA x6_2 1 (IntKind.i8.wrap (x1_2)) ((rd_T54 x0_2 x5_1).f0.f1)), (pickA x6_2 2 (IntKind.i8.wrap (x1_2)) ((rd_T54 x0_2 x5_1).f0.f2)), (pickA x6_2 3 (IntKind.i8.wrap (x1_2)) ((rd_T54 x0_2 x5_1).f0.f3)), (pickA x6_2 4 (IntKind.i8.wrap (x1_2)) ((rd_T54 x0_2 x5_1).f0.f4)), (pickA x6_2 5 (IntKind.i8.wrap (x1_2)) ((rd_T54 x0_2 x5_1).f0.f5)), (pickA x6_2 6 (IntKind.i8.wrap (x1_2)) ((rd_T54 x0_2 x5_1).f0.f6)), (pickA x6_2 7 (IntKind.i8.wrap (x1_2)) ((rd_T54 x0_2 x5_1).f0.f7)), (pickA x6_2 8 (IntKind.i8.wrap (x1_2)) ((rd_T54 x0_2 x5_1).f0.f8)), (pickA x6_2 9 (IntKind.i8.wrap (x1_2)) ((rd_T54 x0_2 x5_1).f0.f9)), (pickA x6_2 10 (IntKind.i8.wrap (x1_2)) ((rd_T54 x0_2 x5_1).f0.f10)), (pickA x6_2 11 (IntKind.i8.wrap (x1_2)) ((rd_T54 x0_2 x5_1).f0.f11)), (pickA x6_2 12 (IntKind.i8.wrap (x1_2)) ((rd_T54 x0_2 x5_1).f0.f12)), (pickA x6_2 13 (IntKind.i8.wrap (x1_2)) ((rd_T54 x0_2 x5_1).f0.f13))⟩ : S50), (⟨(rd_T54 x0_2 x5_1).f1.f0, (rd_T54 x0_2 x5_1).f1.f1, (rd_T54 x0_2 x5_1).f1.f2⟩ : S52), (⟨(rd_T54 x0_2 x5_1).f2.f0, (rd_T54 x0_2 x5_1).f2.f1⟩ : S46), (rd_T54 x0_2 x5_1).f3⟩ : S54)) := ⟨_, rfl⟩
          replace H : (laws_markNodeS.l1 k2 y333 (wrap64 (x1_2 + 1)) x5_1 (wrap64 (x6_2 + 1))) = some (r1, r2) := by first | (rw [hy333]; with_reducible exact H) | (have H2_ := (Option.bind_some _ _).symm.trans H; rw [hy333]; with_reducible exact H2_) | (have H2_ := (Option.bind_some _ _).symm.trans H; with_reducible exact H2_) | with_reducible exact H | (rw [hy333]; exact H) | exact H
          have Ny333 := zc.mk hy333
          clear hy333
          have H' := zc.mk H
          clear H
          have p8 : 0 ≤ (x5_1 : Int) := of_decide_eq_true (by first | (with_reducible assumption) | assumption)
          have q8 : (x5_1 : Int) < ((x0_2.length : Int) : Int) := of_decide_eq_true (by first | (with_reducible assumption) | assumption)
          obtain ⟨go8, co8, eo8, gb8, gl8, cl8, HG8⟩ := Kd.R_form HO_0.out (by omega)
          (first | cases eo8 | (injection eo8 with ea_ en_ ec_; (first | subst ea_ | (injection ea_ with ea_; subst ea_)); subst ec_; clear en_))
          have GB8 := zc.mk gb8
          have GG8 := zc.mk HG8
          clear gb8 gl8 HG8
          have HMgo8 := zc.mk (show (P0_ go8 ∨ w.heap.size ≤ go8) from (HO_0.out.1 _ rfl))
          obtain ⟨ce8, hcl8, hM8, hcc8, hfr8⟩ := Kd.R_elem HO_0.out z54 (x5_1 : Int) p8 q8
          obtain rfl := k54_openM hM8
          have hx8_0 : wr.cell? ⟨go8, (x5_1 : Int).toNat * 20, none⟩ = some (.int .i8 ((rd_T54 x0_2 x5_1).f0.f0)) := hcc8 0 _ rfl
          have hx8_1 : wr.cell? ⟨go8, (x5_1 : Int).toNat * 20 + 1, none⟩ = some (.int .i8 ((rd_T54 x0_2 x5_1).f0.f1)) := hcc8 1 _ rfl
          have hx8_2 : wr.cell? ⟨go8, (x5_1 : Int).toNat * 20 + 2, none⟩ = some (.int .i8 ((rd_T54 x0_2 x5_1).f0.f2)) := hcc8 2 _ rfl
          have hx8_3 : wr.cell? ⟨go8, (x5_1 : Int).toNat * 20 + 3, none⟩ = some (.int .i8 ((rd_T54 x0_2 x5_1).f0.f3)) := hcc8 3 _ rfl
          have hx8_4 : wr.cell? ⟨go8, (x5_1 : Int).toNat * 20 + 4, none⟩ = some (.int .i8 ((rd_T54 x0_2 x5_1).f0.f4)) := hcc8 4 _ rfl
          have hx8_5 : wr.cell? ⟨go8, (x5_1 : Int).toNat * 20 + 5, none⟩ = some (.int .i8 ((rd_T54 x0_2 x5_1).f0.f5)) := hcc8 5 _ rfl
          have hx8_6 : wr.cell? ⟨go8, (x5_1 : Int).toNat * 20 + 6, none⟩ = some (.int .i8 ((rd_T54 x0_2 x5_1).f0.f6)) := hcc8 6 _ rfl
          have hx8_7 : wr.cell? ⟨go8, (x5_1 : Int).toNat * 20 + 7, none⟩ = some (.int .i8 ((rd_T54 x0_2 x5_1).f0.f7)) := hcc8 7 _ rfl
          have hx8_8 : wr.cell? ⟨go8, (x5_1 : Int).toNat * 20 + 8, none⟩ = some (.int .i8 ((rd_T54 x0_2 x5_1).f0.f8)) := hcc8 8 _ rfl
          have hx8_9 : wr.cell? ⟨go8, (x5_1 : Int).toNat * 20 + 9, none⟩ = some (.int .i8 ((rd_T54 x0_2 x5_1).f0.f9)) := hcc8 9 _ rfl
          have hx8_10 : wr.cell? ⟨go8, (x5_1 : Int).toNat * 20 + 10, none⟩ = some (.int .i8 ((rd_T54 x0_2 x5_1).f0.f10)) := hcc8 10 _ rfl
          have hx8_11 : wr.cell? ⟨go8, (x5_1 : Int).toNat * 20 + 11, none⟩ = some (.int .i8 ((rd_T54 x0_2 x5_1).f0.f11)) := hcc8 11 _ rfl
          have hx8_12 : wr.cell? ⟨go8, (x5_1 : Int).toNat * 20 + 12, none⟩ = some (.int .i8 ((rd_T54 x0_2 x5_1).f0.f12)) := hcc8 12 _ rfl
          have hx8_13 : wr.cell? ⟨go8, (x5_1 : Int).toNat * 20 + 13, none⟩ = some (.int .i8 ((rd_T54 x0_2 x5_1).f0.f13)) := hcc8 13 _ rfl
          have hx8_14 : wr.cell? ⟨go8, (x5_1 : Int).toNat * 20 + 14, none⟩ = some (.int .i16 ((rd_T54 x0_2 x5_1).f1.f0)) := hcc8 14 _ rfl
          have hx8_15 : wr.cell? ⟨go8, (x5_1 : Int).toNat * 20 + 15, none⟩ = some (.int .i16 ((rd_T54 x0_2 x5_1).f1.f1)) := hcc8 15 _ rfl
          have hx8_16 : wr.cell? ⟨go8, (x5_1 : Int).toNat * 20 + 16, none⟩ = some (.int .i16 ((rd_T54 x0_2 x5_1).f1.f2)) := hcc8 16 _ rfl
          have hx8_17 : wr.cell? ⟨go8, (x5_1 : Int).toNat * 20 + 17, none⟩ = some (.int .i8 ((rd_T54 x0_2 x5_1).f2.f0)) := hcc8 17 _ rfl
          have hx8_18 : wr.cell? ⟨go8, (x5_1 : Int).toNat * 20 + 18, none⟩ = some (.bool ((rd_T54 x0_2 x5_1).f2.f1)) := hcc8 18 _ rfl
          have hx8_19 : wr.cell? ⟨go8, (x5_1 : Int).toNat * 20 + 19, none⟩ = some (.bool ((rd_T54 x0_2 x5_1).f3)) := hcc8 19 _ rfl
          have hf8_0 : wr.frozen? ⟨go8, (x5_1 : Int).toNat * 20, none⟩ = false := hfr8 0
          have hf8_1 : wr.frozen? ⟨go8, (x5_1 : Int).toNat * 20 + 1, none⟩ = false := hfr8 1
          have hf8_2 : wr.frozen? ⟨go8, (x5_1 : Int).toNat * 20 + 2, none⟩ = false := hfr8 2
          have hf8_3 : wr.frozen? ⟨go8, (x5_1 : Int).toNat * 20 + 3, none⟩ = false := hfr8 3
          have hf8_4 : wr.frozen? ⟨go8, (x5_1 : Int).toNat * 20 + 4, none⟩ = false := hfr8 4
          have hf8_5 : wr.frozen? ⟨go8, (x5_1 : Int).toNat * 20 + 5, none⟩ = false := hfr8 5
          have hf8_6 : wr.frozen? ⟨go8, (x5_1 : Int).toNat * 20 + 6, none⟩ = false := hfr8 6
          have hf8_7 : wr.frozen? ⟨go8, (x5_1 : Int).toNat * 20 + 7, none⟩ = false := hfr8 7
          have hf8_8 : wr.frozen? ⟨go8, (x5_1 : Int).toNat * 20 + 8, none⟩ = false := hfr8 8
          have hf8_9 : wr.frozen? ⟨go8, (x5_1 : Int).toNat * 20 + 9, none⟩ = false := hfr8 9
          have hf8_10 : wr.frozen? ⟨go8, (x5_1 : Int).toNat * 20 + 10, none⟩ = false := hfr8 10
          have hf8_11 : wr.frozen? ⟨go8, (x5_1 : Int).toNat * 20 + 11, none⟩ = false := hfr8 11
          have hf8_12 : wr.frozen? ⟨go8, (x5_1 : Int).toNat * 20 + 12, none⟩ = false := hfr8 12
          have hf8_13 : wr.frozen? ⟨go8, (x5_1 : Int).toNat * 20 + 13, none⟩ = false := hfr8 13
          have hf8_14 : wr.frozen? ⟨go8, (x5_1 : Int).toNat * 20 + 14, none⟩ = false := hfr8 14
          have hf8_15 : wr.frozen? ⟨go8, (x5_1 : Int).toNat * 20 + 15, none⟩ = false := hfr8 15
          have hf8_16 : wr.frozen? ⟨go8, (x5_1 : Int).toNat * 20 + 16, none⟩ = false := hfr8 16
          have hf8_17 : wr.frozen? ⟨go8, (x5_1 : Int).toNat * 20 + 17, none⟩ = false := hfr8 17
          have hf8_18 : wr.frozen? ⟨go8, (x5_1 : Int).toNat * 20 + 18, none⟩ = false := hfr8 18
          have hf8_19 : wr.frozen? ⟨go8, (x5_1 : Int).toNat * 20 + 19, none⟩ = false := hfr8 19
          clear hcl8 hcc8 hfr8 hM8
          replace p8 := eq_true p8
          replace q8 := eq_true q8
          have hx10_0 : wr.cell? ⟨go8, (x5_1 : Int).toNat * 20 + (x6_2).toNat, none⟩ = some (.int .i8 (rd [(rd_T54 x0_2 x5_1).f0.f0, (rd_T54 x0_2 x5_1).f0.f1, (rd_T54 x0_2 x5_1).f0.f2, (rd_T54 x0_2 x5_1).f0.f3, (rd_T54 x0_2 x5_1).f0.f4, (rd_T54 x0_2 x5_1).f0.f5, (rd_T54 x0_2 x5_1).f0.f6, (rd_T54 x0_2 x5_1).f0.f7, (rd_T54 x0_2 x5_1).f0.f8, (rd_T54 x0_2 x5_1).f0.f9, (rd_T54 x0_2 x5_1).f0.f10, (rd_T54 x0_2 x5_1).f0.f11, (rd_T54 x0_2 x5_1).f0.f12, (rd_T54 x0_2 x5_1).f0.f13] x6_2)) := by rcases (show (x6_2 : Int) = 0 ∨ (x6_2 : Int) = 1 ∨ (x6_2 : Int) = 2 ∨ (x6_2 : Int) = 3 ∨ (x6_2 : Int) = 4 ∨ (x6_2 : Int) = 5 ∨ (x6_2 : Int) = 6 ∨ (x6_2 : Int) = 7 ∨ (x6_2 : Int) = 8 ∨ (x6_2 : Int) = 9 ∨ (x6_2 : Int) = 10 ∨ (x6_2 : Int) = 11 ∨ (x6_2 : Int) = 12 ∨ (x6_2 : Int) = 13 by have hp_ : 0 ≤ (x6_2 : Int) := of_decide_eq_true (by first | (with_reducible assumption) | assumption); have hq_ : x6_2 < (14 : Int) := of_decide_eq_true (by first | (with_reducible assumption) | assumption); omega) with h_ | h_ | h_ | h_ | h_ | h_ | h_ | h_ | h_ | h_ | h_ | h_ | h_ | h_ <;> rw [h_] <;> first | exact hx8_0 | exact hx8_1 | exact hx8_2 | exact hx8_3 | exact hx8_4 | exact hx8_5 | exact hx8_6 | exact hx8_7 | exact hx8_8 | exact hx8_9 | exact hx8_10 | exact hx8_11 | exact hx8_12 | exact hx8_13
          have hf10_0 : wr.frozen? ⟨go8, (x5_1 : Int).toNat * 20 + (x6_2).toNat, none⟩ = false := by rcases (show (x6_2 : Int) = 0 ∨ (x6_2 : Int) = 1 ∨ (x6_2 : Int) = 2 ∨ (x6_2 : Int) = 3 ∨ (x6_2 : Int) = 4 ∨ (x6_2 : Int) = 5 ∨ (x6_2 : Int) = 6 ∨ (x6_2 : Int) = 7 ∨ (x6_2 : Int) = 8 ∨ (x6_2 : Int) = 9 ∨ (x6_2 : Int) = 10 ∨ (x6_2 : Int) = 11 ∨ (x6_2 : Int) = 12 ∨ (x6_2 : Int) = 13 by have hp_ : 0 ≤ (x6_2 : Int) := of_decide_eq_true (by first | (with_reducible assumption) | assumption); have hq_ : x6_2 < (14 : Int) := of_decide_eq_true (by first | (with_reducible assumption) | assumption); omega) with h_ | h_ | h_ | h_ | h_ | h_ | h_ | h_ | h_ | h_ | h_ | h_ | h_ | h_ <;> rw [h_] <;> first | exact hf8_0 | exact hf8_1 | exact hf8_2 | exact hf8_3 | exact hf8_4 | exact hf8_5 | exact hf8_6 | exact hf8_7 | exact hf8_8 | exact hf8_9 | exact hf8_10 | exact hf8_11 | exact hf8_12 | exact hf8_13
          have p10 : 0 ≤ (x6_2 : Int) := of_decide_eq_true (by first | (with_reducible assumption) | assumption)
          have q10 : x6_2 < (14 : Int) := of_decide_eq_true (by first | (with_reducible assumption) | assumption)
          replace p10 := eq_true p10
          replace q10 := eq_true q10
          have HX11 := zc.mk (show Kd.R k54 54 wr w0.heap.size (fun k_ => (P0_ k_ ∨ w.heap.size ≤ k_)) (.slice (some ⟨go8, 0, none⟩) x0_2.length co4) x0_2 from (by (with_reducible repeat (first | apply Kd.R_alloc | apply Kd.R_drewN | apply Kd.R_drew)); exact HO_0.out))
          obtain ⟨ce11, hcl11, hM11, hcc11, hfr11⟩ := Kd.R_elem HX11.out z54 (x5_1 : Int) (of_decide_eq_true (by first | (with_reducible assumption) | assumption)) (by have h_ : (x5_1 : Int) < ((x0_2.length : Int) : Int) := of_decide_eq_true (by first | (with_reducible assumption) | assumption); first | exact h_ | (have e_ := (Kd.R_reads' HO_0.out).1; omega) | simpa using h_)
          obtain rfl := k54_openM hM11
          have HP11 := Kd.R_seg HX11.out (x5_1 : Int) (of_decide_eq_true (by first | (with_reducible assumption) | assumption)) (by have h_ : (x5_1 : Int) < ((x0_2.length : Int) : Int) := of_decide_eq_true (by first | (with_reducible assumption) | assumption); first | exact h_ | (have e_ := (Kd.R_reads' HO_0.out).1; omega) | simpa using h_) (seg := [.int .i8 (IntKind.i8.wrap (x1_2))]) (j := (x6_2).toNat) hcl11 hcc11 (show (x6_2).toNat + 1 ≤ 20 from by have hp_ : 0 ≤ (x6_2 : Int) := of_decide_eq_true (by first | (with_reducible assumption) | assumption); have hq_ : x6_2 < (14 : Int) := of_decide_eq_true (by first | (with_reducible assumption) | assumption); omega) (x' := (⟨(⟨(pickA x6_2 0 (IntKind.i8.wrap (x1_2)) ((rd_T54 x0_2 x5_1).f0.f0)), (pickA x6_2 1 (IntKind.i8.wrap (x1_2)) ((rd_T54 x0_2 x5_1).f0.f1)), (pickA x6_2 2 (IntKind.i8.wrap (x1_2)) ((rd_T54 x0_2 x5_1).f0.f2)), (pickA x6_2 3 (IntKind.i8.wrap (x1_2)) ((rd_T54 x0_2 x5_1).f0.f3)), (pickA x6_2 4 (IntKind.i8.wrap (x1_2)) ((rd_T54 x0_2 x5_1).f0.f4)), (pickA x6_2 5 (IntKind.i8.wrap (x1_2)) ((rd_T54 x0_2 x5_1).f0.f5)), (pickA x6_2 6 (IntKind.i8.wrap (x1_2)) ((rd_T54 x0_2 x5_1).f0.f6)), (pickA x6_2 7 (IntKind.i8.wrap (x1_2)) ((rd_T54 x0_2 x5_1).f0.f7)), (pickA x6_2 8 (IntKind.i8.wrap (x1_2)) ((rd_T54 x0_2 x5_1).f0.f8)), (pickA x6_2 9 (IntKind.i8.wrap (x1_2)) ((rd_T54 x0_2 x5_1).f0.f9)), (pickA x6_2 10 (IntKind.i8.wrap (x1_2)) ((rd_T54 x0_2 x5_1).f0.f10)), (pickA x6_2 11 (IntKind.i8.wrap (x1_2)) ((rd_T54 x0_2 x5_1).f0.f11)), (pickA x6_2 12 (IntKind.i8.wrap (x1_2)) ((rd_T54 x0_2 x5_1).f0.f12)), (pickA x6_2 13 (IntKind.i8.wrap (x1_2)) ((rd_T54 x0_2 x5_1).f0.f13))⟩ : S50), (⟨(rd_T54 x0_2 x5_1).f1.f0, (rd_T54 x0_2 x5_1).f1.f1, (rd_T54 x0_2 x5_1).f1.f2⟩ : S52), (⟨(rd_T54 x0_2 x5_1).f2.f0, (rd_T54 x0_2 x5_1).f2.f1⟩ : S46), (rd_T54 x0_2 x5_1).f3⟩ : S54)) (by rcases (show (x6_2 : Int) = 0 ∨ (x6_2 : Int) = 1 ∨ (x6_2 : Int) = 2 ∨ (x6_2 : Int) = 3 ∨ (x6_2 : Int) = 4 ∨ (x6_2 : Int) = 5 ∨ (x6_2 : Int) = 6 ∨ (x6_2 : Int) = 7 ∨ (x6_2 : Int) = 8 ∨ (x6_2 : Int) = 9 ∨ (x6_2 : Int) = 10 ∨ (x6_2 : Int) = 11 ∨ (x6_2 : Int) = 12 ∨ (x6_2 : Int) = 13 by have hp_ : 0 ≤ (x6_2 : Int) := of_decide_eq_true (by first | (with_reducible assumption) | assumption); have hq_ : x6_2 < (14 : Int) := of_decide_eq_true (by first | (with_reducible assumption) | assumption); omega) with h_ | h_ | h_ | h_ | h_ | h_ | h_ | h_ | h_ | h_ | h_ | h_ | h_ | h_ <;> rw [h_] <;> exact k54_mkM _ _ _ _) (fun _ hk => hk)
          skip
          (try simp only [show (k54).sz = 20 from rfl, Nat.mul_one, Nat.add_zero] at hx11_0)
          skip
          (try simp only [show (k54).sz = 20 from rfl, Nat.mul_one, Nat.add_zero] at hf11_0)
          clear hcl11 hcc11 hfr11 hM11
          go_wp2_with (first | ((with_reducible refine zz (t := 22) (p := 25) rfl ?_); refine store_event (t := 22) (p := 25) (v := ?vo_w12) (w1 := (wr.setCell ⟨go8, (x5_1 : Int).toNat * 20 + (x6_2).toNat, none⟩ (.int .i8 (IntKind.i8.wrap (x1_2))))) ?hg ?ho ?hn ?hr ?_; (case ho => rfl); (case hg => rfl); (case hn => rfl); (case hr => first | (go_simp; done) | (go_simp; rfl)); intro w12 hw; have hg : wr.grownBy w12 (some go8) := (by rw [hw]; exact HP11.2); have hp_ : Kd.R k54 54 w12 w0.heap.size (fun k_ => (P0_ k_ ∨ w.heap.size ≤ k_)) (.slice (some ⟨go8, 0, none⟩) x0_2.length co4) y333 := (by rw [hw, Ny333.out]; exact HP11.1); clear HP11; have n0_ := zc.mk (hp_); have n1_ := zc.mk ((by rw [hw]; exact ze (HB.out) GB8.out : Below w0.heap.size w0 w12)); have n2_ := zc.mk (Kept.of_grown (S := (fun k_ => P0_ k_)) hg (by repeat (first | (with_reducible first | exact HK.out | apply Kept.alloc | apply Kept.drewN | apply Kept.drew) | exact HK.out)) (fun k_ e_ => (HO_0.out.1 k_ e_))); clear HO_0; clear HB; clear HK; have HO_0 := n0_; have HB := n1_; have HK := n2_; clear n0_ n1_ n2_; clear hg hw hp_))
          (try simp only [← hl0_2])
          go_roundg k2
          case measure => have := HK1.out; have := HK2.out; omega
          case rel => exact ⟨(y333), (wrap64 (x1_2 + 1)), (wrap64 (x6_2 + 1)), (by first | rfl | (simp; done) | (simp [*]; done)), (by first | rfl | (simp; done) | (simp [*]; done)), H', ⟨by have := HK1.out; have := HK2.out; omega⟩, ⟨by (try simp only [hl0_2]); (with_reducible repeat (first | apply Kd.R_alloc | apply Kd.R_drewN | apply Kd.R_drew)); exact HO_0.out⟩, ⟨by repeat (first | (with_reducible first | exact HK.out | apply Kept.alloc | apply Kept.drewN | apply Kept.drew) | exact HK.out)⟩, ⟨by repeat (first | (with_reducible first | exact HB.out | apply zd | apply za | apply zb) | exact HB.out)⟩⟩
         rw [if_neg c9] at H
         exact absurd H (by simp)
        rw [if_neg c7] at H
        exact absurd H (by simp)
       rw [if_neg c6] at H
       exact absurd H (by simp)
      rw [if_neg c5] at H
      have c5b0 : decide (x6_2 < 14) = false := decide_eq_false c5
      clear c5
      have H' := zc.mk H
      clear H
      go_wp2
      go_loopg [1, 7] k2 (fun kq v1 v7 w' => ∃ (x0_3 : List (S54)) (x1_3 : Int) (x7_3 : Int), v1 = .int .i64 x1_3 ∧ v7 = .int .i64 x7_3 ∧ zc (laws_markNodeS.l2 kq x0_3 x1_3 x5_1 x7_3 = some (r1, r2)) ∧ zc (kq ≤ k2) ∧ zc (Kd.R k54 54 w' w0.heap.size (fun k_ => (P0_ k_ ∨ w.heap.size ≤ k_)) (.slice Ao4 x0_2.length co4) x0_3) ∧ zc (Kept w w' (fun k_ => P0_ k_)) ∧ zc (Below w0.heap.size w0 w'))
      case atStart => exact ⟨(x0_2), (x1_2), (0), (by first | rfl | (simp; done) | (simp [*]; done)), (by first | rfl | (simp; done) | (simp [*]; done)), H', ⟨Nat.le_refl _⟩, ⟨by (try simp only [hl0_2]); (with_reducible repeat (first | apply Kd.R_alloc | apply Kd.R_drewN | apply Kd.R_drew)); exact HO_0.out⟩, ⟨by repeat (first | (with_reducible first | exact HK.out | apply Kept.alloc | apply Kept.drewN | apply Kept.drew) | exact HK.out)⟩, ⟨by repeat (first | (with_reducible first | exact HB.out | apply zd | apply za | apply zb) | exact HB.out)⟩⟩
      case round =>
       clear H'
       try clear c1
       try clear p1
       try clear q1
       try clear hx1
       try clear c2
       try clear p2
       try clear c3
       try clear c3b0
       try clear c5
       try clear c5b0
       try clear c6
       try clear c6b0
       try clear p6
       try clear c7
       try clear c7b0
       try clear c8
       try clear p8
       try clear q8
       try clear hx8
       try clear hf8
       try clear c9
       try clear c9b0
       try clear p10
       try clear q10
       try clear hx10
       try clear hf10
       try clear c11
       try clear hx11
       try clear hf11
       try clear hx10_0
       try clear hx11_0
       try clear hx8_0
       try clear hx8_1
       try clear hx8_10
       try clear hx8_11
       try clear hx8_12
       try clear hx8_13
       try clear hx8_14
       try clear hx8_15
       try clear hx8_16
       try clear hx8_17
       try clear hx8_18
       try clear hx8_19
       try clear hx8_2
       try clear hx8_3
       try clear hx8_4
       try clear hx8_5
       try clear hx8_6
       try clear hx8_7
       try clear hx8_8
       try clear hx8_9
       try clear p10
       try clear p2
       try clear p8
       try clear q10
       try clear q8
       obtain ⟨x0_3, x1_3, x7_3, rfl, rfl, HA, HK3, HO_0, HK, HB⟩ := hrel
       have hl0_3 := (Kd.R_reads' HO_0.out).1
       rw [hl0_3] at HO_0
       (try simp only [hl0_3])
       cases gk with
       | zero => exact absurd HA.out (by simp [laws_markNodeS.l2])
       | succ k3 =>
        have H := HA.out
        clear HA
        simp only [laws_markNodeS.l2] at H
        by_cases c13 : x7_3 < 3
        ·rw [if_pos c13] at H
         have c13b0 : decide (x7_3 < 3) = true := decide_eq_true c13
         clear c13
         by_cases c14 : 0 ≤ x5_1
         ·rw [if_pos c14] at H
          have c14b0 : decide (0 ≤ x5_1) = true := decide_eq_true c14
          clear c14
          by_cases c15 : x5_1 < (x0_3.length : Int)
          ·rw [if_pos c15] at H
           have c15b0 : decide (x5_1 < (x0_3.length : Int)) = true := decide_eq_true c15
           clear c15
           by_cases c17 : 0 ≤ x7_3
           ·rw [if_pos c17] at H
            have c17b0 : decide (0 ≤ x7_3) = true := decide_eq_true c17
            clear c17
            obtain ⟨y335, hy335⟩ : ∃ y_ : List (S54), y_ = (x0_3.set (x5_1 : Int).toNat (⟨(⟨(rd_T54 x0_3 x5_1).f0.f0, (rd_T54 x0_3 x5_1).f0.f1, (rd_T54 x0_3 x5_1).f0.f2, (rd_T54 x0_3 x5_1).f0.f3, (rd_T54 x0_3 x5_1).f0.f4, (rd_T54 x0_3 x5_1).f0.f5, (rd_T54 x0_3 x5_1).f0.f6, (rd_T54 x0_3 x5_1).f0.f7, (rd_T54 x0_3 x5_1).f0.f8, (rd_T54 x0_3 x5_1).f0.f9, (rd_T54 x0_3 x5_1).f0.f10, (rd_T54 x0_3 x5_1).f0.f11, (rd_T54 x0_3 x5_1).f0.f12, (rd_T54 x0_3 x5_1).f0.f13⟩ : S50), (⟨(pickA x7_3 0 (IntKind.i16.wrap (x1_3)) ((rd_T54 x0_3 x5_1).f1.f0)), (pickA x7_3 1 (IntKind.i16.wrap (x1_3)) ((rd_T54 x0_3 x5_1).f1.f1)), (pickA x7_3 2 (IntKind.i16.wrap (x1_3)) ((rd_T54 x0_3 x5_1).f1.f2))⟩ : S52), (⟨(rd_T54 x0_3 x5_1).f2.f0, (rd_T54 x0_3 x5_1).f2.f1⟩ : S46), (rd_T54 x0_3 x5_1).f3⟩ : S54)) := ⟨_, rfl⟩
            replace H : (laws_markNodeS.l2 k3 y335 (wrap64 (x1_3 + 1)) x5_1 (wrap64 (x7_3 + 1))) = some (r1, r2) := by first | (rw [hy335]; with_reducible exact H) | (have H2_ := (Option.bind_some _ _).symm.trans H; rw [hy335]; with_reducible exact H2_) | (have H2_ := (Option.bind_some _ _).symm.trans H; with_reducible exact H2_) | with_reducible exact H | (rw [hy335]; exact H) | exact H
            have Ny335 := zc.mk hy335
            clear hy335
            have H' := zc.mk H
            clear H
            have p16 : 0 ≤ (x5_1 : Int) := of_decide_eq_true (by first | (with_reducible assumption) | assumption)
            have q16 : (x5_1 : Int) < ((x0_3.length : Int) : Int) := of_decide_eq_true (by first | (with_reducible assumption) | assumption)
            obtain ⟨go16, co16, eo16, gb16, gl16, cl16, HG16⟩ := Kd.R_form HO_0.out (by omega)
            (first | cases eo16 | (injection eo16 with ea_ en_ ec_; (first | subst ea_ | (injection ea_ with ea_; subst ea_)); subst ec_; clear en_))
            have GB16 := zc.mk gb16
            have GG16 := zc.mk HG16
            clear gb16 gl16 HG16
            have HMgo16 := zc.mk (show (P0_ go16 ∨ w.heap.size ≤ go16) from (HO_0.out.1 _ rfl))
            obtain ⟨ce16, hcl16, hM16, hcc16, hfr16⟩ := Kd.R_elem HO_0.out z54 (x5_1 : Int) p16 q16
            obtain rfl := k54_openM hM16
            have hx16_0 : wr.cell? ⟨go16, (x5_1 : Int).toNat * 20, none⟩ = some (.int .i8 ((rd_T54 x0_3 x5_1).f0.f0)) := hcc16 0 _ rfl
            have hx16_1 : wr.cell? ⟨go16, (x5_1 : Int).toNat * 20 + 1, none⟩ = some (.int .i8 ((rd_T54 x0_3 x5_1).f0.f1)) := hcc16 1 _ rfl
            have hx16_2 : wr.cell? ⟨go16, (x5_1 : Int).toNat * 20 + 2, none⟩ = some (.int .i8 ((rd_T54 x0_3 x5_1).f0.f2)) := hcc16 2 _ rfl
            have hx16_3 : wr.cell? ⟨go16, (x5_1 : Int).toNat * 20 + 3, none⟩ = some (.int .i8 ((rd_T54 x0_3 x5_1).f0.f3)) := hcc16 3 _ rfl
            have hx16_4 : wr.cell? ⟨go16, (x5_1 : Int).toNat * 20 + 4, none⟩ = some (.int .i8 ((rd_T54 x0_3 x5_1).f0.f4)) := hcc16 4 _ rfl
            have hx16_5 : wr.cell? ⟨go16, (x5_1 : Int).toNat * 20 + 5, none⟩ = some (.int .i8 ((rd_T54 x0_3 x5_1).f0.f5)) := hcc16 5 _ rfl
            have hx16_6 : wr.cell? ⟨go16, (x5_1 : Int).toNat * 20 + 6, none⟩ = some (.int .i8 ((rd_T54 x0_3 x5_1).f0.f6)) := hcc16 6 _ rfl
            have hx16_7 : wr.cell? ⟨go16, (x5_1 : Int).toNat * 20 + 7, none⟩ = some (.int .i8 ((rd_T54 x0_3 x5_1).f0.f7)) := hcc16 7 _ rfl
            have hx16_8 : wr.cell? ⟨go16, (x5_1 : Int).toNat * 20 + 8, none⟩ = some (.int .i8 ((rd_T54 x0_3 x5_1).f0.f8)) := hcc16 8 _ rfl
            have hx16_9 : wr.cell? ⟨go16, (x5_1 : Int).toNat * 20 + 9, none⟩ = some (.int .i8 ((rd_T54 x0_3 x5_1).f0.f9)) := hcc16 9 _ rfl
            have hx16_10 : wr.cell? ⟨go16, (x5_1 : Int).toNat * 20 + 10, none⟩ = some (.int .i8 ((rd_T54 x0_3 x5_1).f0.f10)) := hcc16 10 _ rfl
            have hx16_11 : wr.cell? ⟨go16, (x5_1 : Int).toNat * 20 + 11, none⟩ = some (.int .i8 ((rd_T54 x0_3 x5_1).f0.f11)) := hcc16 11 _ rfl
            have hx16_12 : wr.cell? ⟨go16, (x5_1 : Int).toNat * 20 + 12, none⟩ = some (.int .i8 ((rd_T54 x0_3 x5_1).f0.f12)) := hcc16 12 _ rfl
            have hx16_13 : wr.cell? ⟨go16, (x5_1 : Int).toNat * 20 + 13, none⟩ = some (.int .i8 ((rd_T54 x0_3 x5_1).f0.f13)) := hcc16 13 _ rfl
            have hx16_14 : wr.cell? ⟨go16, (x5_1 : Int).toNat * 20 + 14, none⟩ = some (.int .i16 ((rd_T54 x0_3 x5_1).f1.f0)) := hcc16 14 _ rfl
            have hx16_15 : wr.cell? ⟨go16, (x5_1 : Int).toNat * 20 + 15, none⟩ = some (.int .i16 ((rd_T54 x0_3 x5_1).f1.f1)) := hcc16 15 _ rfl
            have hx16_16 : wr.cell? ⟨go16, (x5_1 : Int).toNat * 20 + 16, none⟩ = some (.int .i16 ((rd_T54 x0_3 x5_1).f1.f2)) := hcc16 16 _ rfl
            have hx16_17 : wr.cell? ⟨go16, (x5_1 : Int).toNat * 20 + 17, none⟩ = some (.int .i8 ((rd_T54 x0_3 x5_1).f2.f0)) := hcc16 17 _ rfl
            have hx16_18 : wr.cell? ⟨go16, (x5_1 : Int).toNat * 20 + 18, none⟩ = some (.bool ((rd_T54 x0_3 x5_1).f2.f1)) := hcc16 18 _ rfl
            have hx16_19 : wr.cell? ⟨go16, (x5_1 : Int).toNat * 20 + 19, none⟩ = some (.bool ((rd_T54 x0_3 x5_1).f3)) := hcc16 19 _ rfl
            have hf16_0 : wr.frozen? ⟨go16, (x5_1 : Int).toNat * 20, none⟩ = false := hfr16 0
            have hf16_1 : wr.frozen? ⟨go16, (x5_1 : Int).toNat * 20 + 1, none⟩ = false := hfr16 1
            have hf16_2 : wr.frozen? ⟨go16, (x5_1 : Int).toNat * 20 + 2, none⟩ = false := hfr16 2
            have hf16_3 : wr.frozen? ⟨go16, (x5_1 : Int).toNat * 20 + 3, none⟩ = false := hfr16 3
            have hf16_4 : wr.frozen? ⟨go16, (x5_1 : Int).toNat * 20 + 4, none⟩ = false := hfr16 4
            have hf16_5 : wr.frozen? ⟨go16, (x5_1 : Int).toNat * 20 + 5, none⟩ = false := hfr16 5
            have hf16_6 : wr.frozen? ⟨go16, (x5_1 : Int).toNat * 20 + 6, none⟩ = false := hfr16 6
            have hf16_7 : wr.frozen? ⟨go16, (x5_1 : Int).toNat * 20 + 7, none⟩ = false := hfr16 7
            have hf16_8 : wr.frozen? ⟨go16, (x5_1 : Int).toNat * 20 + 8, none⟩ = false := hfr16 8
            have hf16_9 : wr.frozen? ⟨go16, (x5_1 : Int).toNat * 20 + 9, none⟩ = false := hfr16 9
            have hf16_10 : wr.frozen? ⟨go16, (x5_1 : Int).toNat * 20 + 10, none⟩ = false := hfr16 10
            have hf16_11 : wr.frozen? ⟨go16, (x5_1 : Int).toNat * 20 + 11, none⟩ = false := hfr16 11
            have hf16_12 : wr.frozen? ⟨go16, (x5_1 : Int).toNat * 20 + 12, none⟩ = false := hfr16 12
            have hf16_13 : wr.frozen? ⟨go16, (x5_1 : Int).toNat * 20 + 13, none⟩ = false := hfr16 13
            have hf16_14 : wr.frozen? ⟨go16, (x5_1 : Int).toNat * 20 + 14, none⟩ = false := hfr16 14
            have hf16_15 : wr.frozen? ⟨go16, (x5_1 : Int).toNat * 20 + 15, none⟩ = false := hfr16 15
            have hf16_16 : wr.frozen? ⟨go16, (x5_1 : Int).toNat * 20 + 16, none⟩ = false := hfr16 16
            have hf16_17 : wr.frozen? ⟨go16, (x5_1 : Int).toNat * 20 + 17, none⟩ = false := hfr16 17
            have hf16_18 : wr.frozen? ⟨go16, (x5_1 : Int).toNat * 20 + 18, none⟩ = false := hfr16 18
            have hf16_19 : wr.frozen? ⟨go16, (x5_1 : Int).toNat * 20 + 19, none⟩ = false := hfr16 19
            clear hcl16 hcc16 hfr16 hM16
            replace p16 := eq_true p16
            replace q16 := eq_true q16
            have hx18_0 : wr.cell? ⟨go16, (x5_1 : Int).toNat * 20 + 14 + (x7_3).toNat, none⟩ = some (.int .i16 (rd [(rd_T54 x0_3 x5_1).f1.f0, (rd_T54 x0_3 x5_1).f1.f1, (rd_T54 x0_3 x5_1).f1.f2] x7_3)) := by rcases (show (x7_3 : Int) = 0 ∨ (x7_3 : Int) = 1 ∨ (x7_3 : Int) = 2 by have hp_ : 0 ≤ (x7_3 : Int) := of_decide_eq_true (by first | (with_reducible assumption) | assumption); have hq_ : x7_3 < (3 : Int) := of_decide_eq_true (by first | (with_reducible assumption) | assumption); omega) with h_ | h_ | h_ <;> rw [h_] <;> first | exact hx16_14 | exact hx16_15 | exact hx16_16
            have hf18_0 : wr.frozen? ⟨go16, (x5_1 : Int).toNat * 20 + 14 + (x7_3).toNat, none⟩ = false := by rcases (show (x7_3 : Int) = 0 ∨ (x7_3 : Int) = 1 ∨ (x7_3 : Int) = 2 by have hp_ : 0 ≤ (x7_3 : Int) := of_decide_eq_true (by first | (with_reducible assumption) | assumption); have hq_ : x7_3 < (3 : Int) := of_decide_eq_true (by first | (with_reducible assumption) | assumption); omega) with h_ | h_ | h_ <;> rw [h_] <;> first | exact hf16_14 | exact hf16_15 | exact hf16_16
            have p18 : 0 ≤ (x7_3 : Int) := of_decide_eq_true (by first | (with_reducible assumption) | assumption)
            have q18 : x7_3 < (3 : Int) := of_decide_eq_true (by first | (with_reducible assumption) | assumption)
            replace p18 := eq_true p18
            replace q18 := eq_true q18
            have HX19 := zc.mk (show Kd.R k54 54 wr w0.heap.size (fun k_ => (P0_ k_ ∨ w.heap.size ≤ k_)) (.slice (some ⟨go16, 0, none⟩) x0_3.length co4) x0_3 from (by (with_reducible repeat (first | apply Kd.R_alloc | apply Kd.R_drewN | apply Kd.R_drew)); exact HO_0.out))
            obtain ⟨ce19, hcl19, hM19, hcc19, hfr19⟩ := Kd.R_elem HX19.out z54 (x5_1 : Int) (of_decide_eq_true (by first | (with_reducible assumption) | assumption)) (by have h_ : (x5_1 : Int) < ((x0_3.length : Int) : Int) := of_decide_eq_true (by first | (with_reducible assumption) | assumption); first | exact h_ | (have e_ := (Kd.R_reads' HO_0.out).1; omega) | simpa using h_)
            obtain rfl := k54_openM hM19
            have HP19 := Kd.R_seg HX19.out (x5_1 : Int) (of_decide_eq_true (by first | (with_reducible assumption) | assumption)) (by have h_ : (x5_1 : Int) < ((x0_3.length : Int) : Int) := of_decide_eq_true (by first | (with_reducible assumption) | assumption); first | exact h_ | (have e_ := (Kd.R_reads' HO_0.out).1; omega) | simpa using h_) (seg := [.int .i16 (IntKind.i16.wrap (x1_3))]) (j := 14 + (x7_3).toNat) hcl19 hcc19 (show 14 + (x7_3).toNat + 1 ≤ 20 from by have hp_ : 0 ≤ (x7_3 : Int) := of_decide_eq_true (by first | (with_reducible assumption) | assumption); have hq_ : x7_3 < (3 : Int) := of_decide_eq_true (by first | (with_reducible assumption) | assumption); omega) (x' := (⟨(⟨(rd_T54 x0_3 x5_1).f0.f0, (rd_T54 x0_3 x5_1).f0.f1, (rd_T54 x0_3 x5_1).f0.f2, (rd_T54 x0_3 x5_1).f0.f3, (rd_T54 x0_3 x5_1).f0.f4, (rd_T54 x0_3 x5_1).f0.f5, (rd_T54 x0_3 x5_1).f0.f6, (rd_T54 x0_3 x5_1).f0.f7, (rd_T54 x0_3 x5_1).f0.f8, (rd_T54 x0_3 x5_1).f0.f9, (rd_T54 x0_3 x5_1).f0.f10, (rd_T54 x0_3 x5_1).f0.f11, (rd_T54 x0_3 x5_1).f0.f12, (rd_T54 x0_3 x5_1).f0.f13⟩ : S50), (⟨(pickA x7_3 0 (IntKind.i16.wrap (x1_3)) ((rd_T54 x0_3 x5_1).f1.f0)), (pickA x7_3 1 (IntKind.i16.wrap (x1_3)) ((rd_T54 x0_3 x5_1).f1.f1)), (pickA x7_3 2 (IntKind.i16.wrap (x1_3)) ((rd_T54 x0_3 x5_1).f1.f2))⟩ : S52), (⟨(rd_T54 x0_3 x5_1).f2.f0, (rd_T54 x0_3 x5_1).f2.f1⟩ : S46), (rd_T54 x0_3 x5_1).f3⟩ : S54)) (by rcases (show (x7_3 : Int) = 0 ∨ (x7_3 : Int) = 1 ∨ (x7_3 : Int) = 2 by have hp_ : 0 ≤ (x7_3 : Int) := of_decide_eq_true (by first | (with_reducible assumption) | assumption); have hq_ : x7_3 < (3 : Int) := of_decide_eq_true (by first | (with_reducible assumption) | assumption); omega) with h_ | h_ | h_ <;> rw [h_] <;> exact k54_mkM _ _ _ _) (fun _ hk => hk); (try simp only [← Nat.add_assoc] at HP19)
            skip
            (try simp only [show (k54).sz = 20 from rfl, Nat.mul_one, Nat.add_zero] at hx19_14)
            skip
            (try simp only [show (k54).sz = 20 from rfl, Nat.mul_one, Nat.add_zero] at hf19_14)
            clear hcl19 hcc19 hfr19 hM19
            go_wp2_with (first | ((with_reducible refine zz (t := 51) (p := 39) rfl ?_); refine store_event (t := 51) (p := 39) (v := ?vo_w20) (w1 := (wr.setCell ⟨go16, (x5_1 : Int).toNat * 20 + 14 + (x7_3).toNat, none⟩ (.int .i16 (IntKind.i16.wrap (x1_3))))) ?hg ?ho ?hn ?hr ?_; (case ho => rfl); (case hg => rfl); (case hn => rfl); (case hr => first | (go_simp; done) | (go_simp; rfl)); intro w20 hw; have hg : wr.grownBy w20 (some go16) := (by rw [hw]; exact HP19.2); have hp_ : Kd.R k54 54 w20 w0.heap.size (fun k_ => (P0_ k_ ∨ w.heap.size ≤ k_)) (.slice (some ⟨go16, 0, none⟩) x0_3.length co4) y335 := (by rw [hw, Ny335.out]; exact HP19.1); clear HP19; have n0_ := zc.mk (hp_); have n1_ := zc.mk ((by rw [hw]; exact ze (HB.out) GB16.out : Below w0.heap.size w0 w20)); have n2_ := zc.mk (Kept.of_grown (S := (fun k_ => P0_ k_)) hg (by repeat (first | (with_reducible first | exact HK.out | apply Kept.alloc | apply Kept.drewN | apply Kept.drew) | exact HK.out)) (fun k_ e_ => (HO_0.out.1 k_ e_))); clear HO_0; clear HB; clear HK; have HO_0 := n0_; have HB := n1_; have HK := n2_; clear n0_ n1_ n2_; clear hg hw hp_))
            (try simp only [← hl0_3])
            go_roundg k3
            case measure => have := HK1.out; have := HK2.out; have := HK3.out; omega
            case rel => exact ⟨(y335), (wrap64 (x1_3 + 1)), (wrap64 (x7_3 + 1)), (by first | rfl | (simp; done) | (simp [*]; done)), (by first | rfl | (simp; done) | (simp [*]; done)), H', ⟨by have := HK1.out; have := HK2.out; have := HK3.out; omega⟩, ⟨by (try simp only [hl0_2]); (try simp only [hl0_3]); (with_reducible repeat (first | apply Kd.R_alloc | apply Kd.R_drewN | apply Kd.R_drew)); exact HO_0.out⟩, ⟨by repeat (first | (with_reducible first | exact HK.out | apply Kept.alloc | apply Kept.drewN | apply Kept.drew) | exact HK.out)⟩, ⟨by repeat (first | (with_reducible first | exact HB.out | apply zd | apply za | apply zb) | exact HB.out)⟩⟩
           rw [if_neg c17] at H
           exact absurd H (by simp)
          rw [if_neg c15] at H
          exact absurd H (by simp)
         rw [if_neg c14] at H
         exact absurd H (by simp)
        rw [if_neg c13] at H
        have c13b0 : decide (x7_3 < 3) = false := decide_eq_false c13
        clear c13
        by_cases c21 : 0 ≤ x5_1
        ·rw [if_pos c21] at H
         have c21b0 : decide (0 ≤ x5_1) = true := decide_eq_true c21
         clear c21
         by_cases c22 : x5_1 < (x0_3.length : Int)
         ·rw [if_pos c22] at H
          have c22b0 : decide (x5_1 < (x0_3.length : Int)) = true := decide_eq_true c22
          clear c22
          obtain ⟨y336, hy336⟩ : ∃ y_ : List (S54), y_ = (x0_3.set (x5_1 : Int).toNat (⟨(⟨(rd_T54 x0_3 x5_1).f0.f0, (rd_T54 x0_3 x5_1).f0.f1, (rd_T54 x0_3 x5_1).f0.f2, (rd_T54 x0_3 x5_1).f0.f3, (rd_T54 x0_3 x5_1).f0.f4, (rd_T54 x0_3 x5_1).f0.f5, (rd_T54 x0_3 x5_1).f0.f6, (rd_T54 x0_3 x5_1).f0.f7, (rd_T54 x0_3 x5_1).f0.f8, (rd_T54 x0_3 x5_1).f0.f9, (rd_T54 x0_3 x5_1).f0.f10, (rd_T54 x0_3 x5_1).f0.f11, (rd_T54 x0_3 x5_1).f0.f12, (rd_T54 x0_3 x5_1).f0.f13⟩ : S50), (⟨(rd_T54 x0_3 x5_1).f1.f0, (rd_T54 x0_3 x5_1).f1.f1, (rd_T54 x0_3 x5_1).f1.f2⟩ : S52), (⟨IntKind.i8.wrap (x1_3), (rd_T54 x0_3 x5_1).f2.f1⟩ : S46), (rd_T54 x0_3 x5_1).f3⟩ : S54)) := ⟨_, rfl⟩
          replace H : ((some (y336.set (x5_1 : Int).toNat (⟨(⟨(rd_T54 y336 x5_1).f0.f0, (rd_T54 y336 x5_1).f0.f1, (rd_T54 y336 x5_1).f0.f2, (rd_T54 y336 x5_1).f0.f3, (rd_T54 y336 x5_1).f0.f4, (rd_T54 y336 x5_1).f0.f5, (rd_T54 y336 x5_1).f0.f6, (rd_T54 y336 x5_1).f0.f7, (rd_T54 y336 x5_1).f0.f8, (rd_T54 y336 x5_1).f0.f9, (rd_T54 y336 x5_1).f0.f10, (rd_T54 y336 x5_1).f0.f11, (rd_T54 y336 x5_1).f0.f12, (rd_T54 y336 x5_1).f0.f13⟩ : S50), (⟨(rd_T54 y336 x5_1).f1.f0, (rd_T54 y336 x5_1).f1.f1, (rd_T54 y336 x5_1).f1.f2⟩ : S52), (⟨(rd_T54 y336 x5_1).f2.f0, ((Int.tmod (wrap64 (x1_3 + 1)) 3) == 0)⟩ : S46), (rd_T54 y336 x5_1).f3⟩ : S54) : List (S54))).bind fun y337 => (laws_markNodeS.l0 k3 (y337.set (x5_1 : Int).toNat (⟨(⟨(rd_T54 y337 x5_1).f0.f0, (rd_T54 y337 x5_1).f0.f1, (rd_T54 y337 x5_1).f0.f2, (rd_T54 y337 x5_1).f0.f3, (rd_T54 y337 x5_1).f0.f4, (rd_T54 y337 x5_1).f0.f5, (rd_T54 y337 x5_1).f0.f6, (rd_T54 y337 x5_1).f0.f7, (rd_T54 y337 x5_1).f0.f8, (rd_T54 y337 x5_1).f0.f9, (rd_T54 y337 x5_1).f0.f10, (rd_T54 y337 x5_1).f0.f11, (rd_T54 y337 x5_1).f0.f12, (rd_T54 y337 x5_1).f0.f13⟩ : S50), (⟨(rd_T54 y337 x5_1).f1.f0, (rd_T54 y337 x5_1).f1.f1, (rd_T54 y337 x5_1).f1.f2⟩ : S52), (⟨(rd_T54 y337 x5_1).f2.f0, (rd_T54 y337 x5_1).f2.f1⟩ : S46), ((Int.tmod (wrap64 ((wrap64 (x1_3 + 1)) + 1)) 3) == 0)⟩ : S54)) (wrap64 ((wrap64 ((wrap64 (x1_3 + 1)) + 1)) + 1)) (wrap64 (x5_1 + 1)))) = some (r1, r2) := by first | (rw [hy336]; with_reducible exact H) | (have H2_ := (Option.bind_some _ _).symm.trans H; rw [hy336]; with_reducible exact H2_) | (have H2_ := (Option.bind_some _ _).symm.trans H; with_reducible exact H2_) | with_reducible exact H | (rw [hy336]; exact H) | exact H
          have Ny336 := zc.mk hy336
          clear hy336
          obtain ⟨y337, hy337⟩ : ∃ y_ : List (S54), y_ = (y336.set (x5_1 : Int).toNat (⟨(⟨(rd_T54 y336 x5_1).f0.f0, (rd_T54 y336 x5_1).f0.f1, (rd_T54 y336 x5_1).f0.f2, (rd_T54 y336 x5_1).f0.f3, (rd_T54 y336 x5_1).f0.f4, (rd_T54 y336 x5_1).f0.f5, (rd_T54 y336 x5_1).f0.f6, (rd_T54 y336 x5_1).f0.f7, (rd_T54 y336 x5_1).f0.f8, (rd_T54 y336 x5_1).f0.f9, (rd_T54 y336 x5_1).f0.f10, (rd_T54 y336 x5_1).f0.f11, (rd_T54 y336 x5_1).f0.f12, (rd_T54 y336 x5_1).f0.f13⟩ : S50), (⟨(rd_T54 y336 x5_1).f1.f0, (rd_T54 y336 x5_1).f1.f1, (rd_T54 y336 x5_1).f1.f2⟩ : S52), (⟨(rd_T54 y336 x5_1).f2.f0, ((Int.tmod (wrap64 (x1_3 + 1)) 3) == 0)⟩ : S46), (rd_T54 y336 x5_1).f3⟩ : S54)) := ⟨_, rfl⟩
          replace H : (laws_markNodeS.l0 k3 (y337.set (x5_1 : Int).toNat (⟨(⟨(rd_T54 y337 x5_1).f0.f0, (rd_T54 y337 x5_1).f0.f1, (rd_T54 y337 x5_1).f0.f2, (rd_T54 y337 x5_1).f0.f3, (rd_T54 y337 x5_1).f0.f4, (rd_T54 y337 x5_1).f0.f5, (rd_T54 y337 x5_1).f0.f6, (rd_T54 y337 x5_1).f0.f7, (rd_T54 y337 x5_1).f0.f8, (rd_T54 y337 x5_1).f0.f9, (rd_T54 y337 x5_1).f0.f10, (rd_T54 y337 x5_1).f0.f11, (rd_T54 y337 x5_1).f0.f12, (rd_T54 y337 x5_1).f0.f13⟩ : S50), (⟨(rd_T54 y337 x5_1).f1.f0, (rd_T54 y337 x5_1).f1.f1, (rd_T54 y337 x5_1).f1.f2⟩ : S52), (⟨(rd_T54 y337 x5_1).f2.f0, (rd_T54 y337 x5_1).f2.f1⟩ : S46), ((Int.tmod (wrap64 ((wrap64 (x1_3 + 1)) + 1)) 3) == 0)⟩ : S54)) (wrap64 ((wrap64 ((wrap64 (x1_3 + 1)) + 1)) + 1)) (wrap64 (x5_1 + 1))) = some (r1, r2) := by first | (rw [hy337]; with_reducible exact H) | (have H2_ := (Option.bind_some _ _).symm.trans H; rw [hy337]; with_reducible exact H2_) | (have H2_ := (Option.bind_some _ _).symm.trans H; with_reducible exact H2_) | with_reducible exact H | (rw [hy337]; exact H) | exact H
          have Ny337 := zc.mk hy337
          clear hy337
          obtain ⟨y338, hy338⟩ : ∃ y_ : List (S54), y_ = (y337.set (x5_1 : Int).toNat (⟨(⟨(rd_T54 y337 x5_1).f0.f0, (rd_T54 y337 x5_1).f0.f1, (rd_T54 y337 x5_1).f0.f2, (rd_T54 y337 x5_1).f0.f3, (rd_T54 y337 x5_1).f0.f4, (rd_T54 y337 x5_1).f0.f5, (rd_T54 y337 x5_1).f0.f6, (rd_T54 y337 x5_1).f0.f7, (rd_T54 y337 x5_1).f0.f8, (rd_T54 y337 x5_1).f0.f9, (rd_T54 y337 x5_1).f0.f10, (rd_T54 y337 x5_1).f0.f11, (rd_T54 y337 x5_1).f0.f12, (rd_T54 y337 x5_1).f0.f13⟩ : S50), (⟨(rd_T54 y337 x5_1).f1.f0, (rd_T54 y337 x5_1).f1.f1, (rd_T54 y337 x5_1).f1.f2⟩ : S52), (⟨(rd_T54 y337 x5_1).f2.f0, (rd_T54 y337 x5_1).f2.f1⟩ : S46), ((Int.tmod (wrap64 ((wrap64 (x1_3 + 1)) + 1)) 3) == 0)⟩ : S54)) := ⟨_, rfl⟩
          replace H : (laws_markNodeS.l0 k3 y338 (wrap64 ((wrap64 ((wrap64 (x1_3 + 1)) + 1)) + 1)) (wrap64 (x5_1 + 1))) = some (r1, r2) := by first | (rw [hy338]; with_reducible exact H) | (have H2_ := (Option.bind_some _ _).symm.trans H; rw [hy338]; with_reducible exact H2_) | (have H2_ := (Option.bind_some _ _).symm.trans H; with_reducible exact H2_) | with_reducible exact H | (rw [hy338]; exact H) | exact H
          have Ny338 := zc.mk hy338
          clear hy338
          have H' := zc.mk H
          clear H
          have p23 : 0 ≤ (x5_1 : Int) := of_decide_eq_true (by first | (with_reducible assumption) | assumption)
          have q23 : (x5_1 : Int) < ((x0_3.length : Int) : Int) := of_decide_eq_true (by first | (with_reducible assumption) | assumption)
          obtain ⟨go23, co23, eo23, gb23, gl23, cl23, HG23⟩ := Kd.R_form HO_0.out (by omega)
          (first | cases eo23 | (injection eo23 with ea_ en_ ec_; (first | subst ea_ | (injection ea_ with ea_; subst ea_)); subst ec_; clear en_))
          have GB23 := zc.mk gb23
          have GG23 := zc.mk HG23
          clear gb23 gl23 HG23
          have HMgo23 := zc.mk (show (P0_ go23 ∨ w.heap.size ≤ go23) from (HO_0.out.1 _ rfl))
          obtain ⟨ce23, hcl23, hM23, hcc23, hfr23⟩ := Kd.R_elem HO_0.out z54 (x5_1 : Int) p23 q23
          obtain rfl := k54_openM hM23
          have hx23_0 : wr.cell? ⟨go23, (x5_1 : Int).toNat * 20, none⟩ = some (.int .i8 ((rd_T54 x0_3 x5_1).f0.f0)) := hcc23 0 _ rfl
          have hx23_1 : wr.cell? ⟨go23, (x5_1 : Int).toNat * 20 + 1, none⟩ = some (.int .i8 ((rd_T54 x0_3 x5_1).f0.f1)) := hcc23 1 _ rfl
          have hx23_2 : wr.cell? ⟨go23, (x5_1 : Int).toNat * 20 + 2, none⟩ = some (.int .i8 ((rd_T54 x0_3 x5_1).f0.f2)) := hcc23 2 _ rfl
          have hx23_3 : wr.cell? ⟨go23, (x5_1 : Int).toNat * 20 + 3, none⟩ = some (.int .i8 ((rd_T54 x0_3 x5_1).f0.f3)) := hcc23 3 _ rfl
          have hx23_4 : wr.cell? ⟨go23, (x5_1 : Int).toNat * 20 + 4, none⟩ = some (.int .i8 ((rd_T54 x0_3 x5_1).f0.f4)) := hcc23 4 _ rfl
          have hx23_5 : wr.cell? ⟨go23, (x5_1 : Int).toNat * 20 + 5, none⟩ = some (.int .i8 ((rd_T54 x0_3 x5_1).f0.f5)) := hcc23 5 _ rfl
          have hx23_6 : wr.cell? ⟨go23, (x5_1 : Int).toNat * 20 + 6, none⟩ = some (.int .i8 ((rd_T54 x0_3 x5_1).f0.f6)) := hcc23 6 _ rfl
          have hx23_7 : wr.cell? ⟨go23, (x5_1 : Int).toNat * 20 + 7, none⟩ = some (.int .i8 ((rd_T54 x0_3 x5_1).f0.f7)) := hcc23 7 _ rfl
          have hx23_8 : wr.cell? ⟨go23, (x5_1 : Int).toNat * 20 + 8, none⟩ = some (.int .i8 ((rd_T54 x0_3 x5_1).f0.f8)) := hcc23 8 _ rfl
          have hx23_9 : wr.cell? ⟨go23, (x5_1 : Int).toNat * 20 + 9, none⟩ = some (.int .i8 ((rd_T54 x0_3 x5_1).f0.f9)) := hcc23 9 _ rfl
          have hx23_10 : wr.cell? ⟨go23, (x5_1 : Int).toNat * 20 + 10, none⟩ = some (.int .i8 ((rd_T54 x0_3 x5_1).f0.f10)) := hcc23 10 _ rfl
          have hx23_11 : wr.cell? ⟨go23, (x5_1 : Int).toNat * 20 + 11, none⟩ = some (.int .i8 ((rd_T54 x0_3 x5_1).f0.f11)) := hcc23 11 _ rfl
          have hx23_12 : wr.cell? ⟨go23, (x5_1 : Int).toNat * 20 + 12, none⟩ = some (.int .i8 ((rd_T54 x0_3 x5_1).f0.f12)) := hcc23 12 _ rfl
          have hx23_13 : wr.cell? ⟨go23, (x5_1 : Int).toNat * 20 + 13, none⟩ = some (.int .i8 ((rd_T54 x0_3 x5_1).f0.f13)) := hcc23 13 _ rfl
          have hx23_14 : wr.cell? ⟨go23, (x5_1 : Int).toNat * 20 + 14, none⟩ = some (.int .i16 ((rd_T54 x0_3 x5_1).f1.f0)) := hcc23 14 _ rfl
          have hx23_15 : wr.cell? ⟨go23, (x5_1 : Int).toNat * 20 + 15, none⟩ = some (.int .i16 ((rd_T54 x0_3 x5_1).f1.f1)) := hcc23 15 _ rfl
          have hx23_16 : wr.cell? ⟨go23, (x5_1 : Int).toNat * 20 + 16, none⟩ = some (.int .i16 ((rd_T54 x0_3 x5_1).f1.f2)) := hcc23 16 _ rfl
          have hx23_17 : wr.cell? ⟨go23, (x5_1 : Int).toNat * 20 + 17, none⟩ = some (.int .i8 ((rd_T54 x0_3 x5_1).f2.f0)) := hcc23 17 _ rfl
          have hx23_18 : wr.cell? ⟨go23, (x5_1 : Int).toNat * 20 + 18, none⟩ = some (.bool ((rd_T54 x0_3 x5_1).f2.f1)) := hcc23 18 _ rfl
          have hx23_19 : wr.cell? ⟨go23, (x5_1 : Int).toNat * 20 + 19, none⟩ = some (.bool ((rd_T54 x0_3 x5_1).f3)) := hcc23 19 _ rfl
          have hf23_0 : wr.frozen? ⟨go23, (x5_1 : Int).toNat * 20, none⟩ = false := hfr23 0
          have hf23_1 : wr.frozen? ⟨go23, (x5_1 : Int).toNat * 20 + 1, none⟩ = false := hfr23 1
          have hf23_2 : wr.frozen? ⟨go23, (x5_1 : Int).toNat * 20 + 2, none⟩ = false := hfr23 2
          have hf23_3 : wr.frozen? ⟨go23, (x5_1 : Int).toNat * 20 + 3, none⟩ = false := hfr23 3
          have hf23_4 : wr.frozen? ⟨go23, (x5_1 : Int).toNat * 20 + 4, none⟩ = false := hfr23 4
          have hf23_5 : wr.frozen? ⟨go23, (x5_1 : Int).toNat * 20 + 5, none⟩ = false := hfr23 5
          have hf23_6 : wr.frozen? ⟨go23, (x5_1 : Int).toNat * 20 + 6, none⟩ = false := hfr23 6
          have hf23_7 : wr.frozen? ⟨go23, (x5_1 : Int).toNat * 20 + 7, none⟩ = false := hfr23 7
          have hf23_8 : wr.frozen? ⟨go23, (x5_1 : Int).toNat * 20 + 8, none⟩ = false := hfr23 8
          have hf23_9 : wr.frozen? ⟨go23, (x5_1 : Int).toNat * 20 + 9, none⟩ = false := hfr23 9
          have hf23_10 : wr.frozen? ⟨go23, (x5_1 : Int).toNat * 20 + 10, none⟩ = false := hfr23 10
          have hf23_11 : wr.frozen? ⟨go23, (x5_1 : Int).toNat * 20 + 11, none⟩ = false := hfr23 11
          have hf23_12 : wr.frozen? ⟨go23, (x5_1 : Int).toNat * 20 + 12, none⟩ = false := hfr23 12
          have hf23_13 : wr.frozen? ⟨go23, (x5_1 : Int).toNat * 20 + 13, none⟩ = false := hfr23 13
          have hf23_14 : wr.frozen? ⟨go23, (x5_1 : Int).toNat * 20 + 14, none⟩ = false := hfr23 14
          have hf23_15 : wr.frozen? ⟨go23, (x5_1 : Int).toNat * 20 + 15, none⟩ = false := hfr23 15
          have hf23_16 : wr.frozen? ⟨go23, (x5_1 : Int).toNat * 20 + 16, none⟩ = false := hfr23 16
          have hf23_17 : wr.frozen? ⟨go23, (x5_1 : Int).toNat * 20 + 17, none⟩ = false := hfr23 17
          have hf23_18 : wr.frozen? ⟨go23, (x5_1 : Int).toNat * 20 + 18, none⟩ = false := hfr23 18
          have hf23_19 : wr.frozen? ⟨go23, (x5_1 : Int).toNat * 20 + 19, none⟩ = false := hfr23 19
          clear hcl23 hcc23 hfr23 hM23
          replace p23 := eq_true p23
          replace q23 := eq_true q23
          have HX26 := zc.mk (show Kd.R k54 54 wr w0.heap.size (fun k_ => (P0_ k_ ∨ w.heap.size ≤ k_)) (.slice (some ⟨go23, 0, none⟩) x0_3.length co4) x0_3 from (by (with_reducible repeat (first | apply Kd.R_alloc | apply Kd.R_drewN | apply Kd.R_drew)); exact HO_0.out))
          obtain ⟨ce26, hcl26, hM26, hcc26, hfr26⟩ := Kd.R_elem HX26.out z54 (x5_1 : Int) (of_decide_eq_true (by first | (with_reducible assumption) | assumption)) (by have h_ : (x5_1 : Int) < ((x0_3.length : Int) : Int) := of_decide_eq_true (by first | (with_reducible assumption) | assumption); first | exact h_ | (have e_ := (Kd.R_reads' HO_0.out).1; omega) | simpa using h_)
          obtain rfl := k54_openM hM26
          have HP26 := Kd.R_seg HX26.out (x5_1 : Int) (of_decide_eq_true (by first | (with_reducible assumption) | assumption)) (by have h_ : (x5_1 : Int) < ((x0_3.length : Int) : Int) := of_decide_eq_true (by first | (with_reducible assumption) | assumption); first | exact h_ | (have e_ := (Kd.R_reads' HO_0.out).1; omega) | simpa using h_) (seg := [.int .i8 (IntKind.i8.wrap (x1_3))]) (j := 17) hcl26 hcc26 (show 18 ≤ 20 from by decide) (x' := (⟨(⟨(rd_T54 x0_3 x5_1).f0.f0, (rd_T54 x0_3 x5_1).f0.f1, (rd_T54 x0_3 x5_1).f0.f2, (rd_T54 x0_3 x5_1).f0.f3, (rd_T54 x0_3 x5_1).f0.f4, (rd_T54 x0_3 x5_1).f0.f5, (rd_T54 x0_3 x5_1).f0.f6, (rd_T54 x0_3 x5_1).f0.f7, (rd_T54 x0_3 x5_1).f0.f8, (rd_T54 x0_3 x5_1).f0.f9, (rd_T54 x0_3 x5_1).f0.f10, (rd_T54 x0_3 x5_1).f0.f11, (rd_T54 x0_3 x5_1).f0.f12, (rd_T54 x0_3 x5_1).f0.f13⟩ : S50), (⟨(rd_T54 x0_3 x5_1).f1.f0, (rd_T54 x0_3 x5_1).f1.f1, (rd_T54 x0_3 x5_1).f1.f2⟩ : S52), (⟨IntKind.i8.wrap (x1_3), (rd_T54 x0_3 x5_1).f2.f1⟩ : S46), (rd_T54 x0_3 x5_1).f3⟩ : S54)) (k54_mkM _ _ _ (⟨(⟨(rd_T54 x0_3 x5_1).f0.f0, (rd_T54 x0_3 x5_1).f0.f1, (rd_T54 x0_3 x5_1).f0.f2, (rd_T54 x0_3 x5_1).f0.f3, (rd_T54 x0_3 x5_1).f0.f4, (rd_T54 x0_3 x5_1).f0.f5, (rd_T54 x0_3 x5_1).f0.f6, (rd_T54 x0_3 x5_1).f0.f7, (rd_T54 x0_3 x5_1).f0.f8, (rd_T54 x0_3 x5_1).f0.f9, (rd_T54 x0_3 x5_1).f0.f10, (rd_T54 x0_3 x5_1).f0.f11, (rd_T54 x0_3 x5_1).f0.f12, (rd_T54 x0_3 x5_1).f0.f13⟩ : S50), (⟨(rd_T54 x0_3 x5_1).f1.f0, (rd_T54 x0_3 x5_1).f1.f1, (rd_T54 x0_3 x5_1).f1.f2⟩ : S52), (⟨IntKind.i8.wrap (x1_3), (rd_T54 x0_3 x5_1).f2.f1⟩ : S46), (rd_T54 x0_3 x5_1).f3⟩ : S54) ) (fun _ hk => hk)
          have hx26_17 := hcc26 17 _ rfl
          (try simp only [show (k54).sz = 20 from rfl, Nat.mul_one, Nat.add_zero] at hx26_17)
          have hf26_17 := hfr26 17
          (try simp only [show (k54).sz = 20 from rfl, Nat.mul_one, Nat.add_zero] at hf26_17)
          clear hcl26 hcc26 hfr26 hM26
          go_wp2_with (first | ((with_reducible refine zz (t := 22) (p := 48) rfl ?_); refine store_event (t := 22) (p := 48) (v := ?vo_w27) (w1 := (wr.setCell ⟨go23, (x5_1 : Int).toNat * 20 + 17, none⟩ (.int .i8 (IntKind.i8.wrap (x1_3))))) ?hg ?ho ?hn ?hr ?_; (case ho => rfl); (case hg => rfl); (case hn => rfl); (case hr => first | (go_simp; done) | (go_simp; rfl)); intro w27 hw; have hg : wr.grownBy w27 (some go23) := (by rw [hw]; exact HP26.2); have hp_ : Kd.R k54 54 w27 w0.heap.size (fun k_ => (P0_ k_ ∨ w.heap.size ≤ k_)) (.slice (some ⟨go23, 0, none⟩) x0_3.length co4) y336 := (by rw [hw, Ny336.out]; exact HP26.1); clear HP26; have n0_ := zc.mk (hp_); have n1_ := zc.mk ((by rw [hw]; exact ze (HB.out) GB23.out : Below w0.heap.size w0 w27)); have n2_ := zc.mk (Kept.of_grown (S := (fun k_ => P0_ k_)) hg (by repeat (first | (with_reducible first | exact HK.out | apply Kept.alloc | apply Kept.drewN | apply Kept.drew) | exact HK.out)) (fun k_ e_ => (HO_0.out.1 k_ e_))); clear HO_0; clear HB; clear HK; have HO_0 := n0_; have HB := n1_; have HK := n2_; clear n0_ n1_ n2_; clear hg hw hp_; have p24 : 0 ≤ (x5_1 : Int) := of_decide_eq_true (by first | (with_reducible assumption) | assumption); have q24 : (x5_1 : Int) < ((x0_3.length : Int) : Int) := of_decide_eq_true (by first | (with_reducible assumption) | assumption); obtain ⟨ce24, hcl24, hM24, hcc24, hfr24⟩ := Kd.R_elem HO_0.out z54 (x5_1 : Int) p24 q24; obtain rfl := k54_openM hM24; have hx24_0 : w27.cell? ⟨go23, (x5_1 : Int).toNat * 20, none⟩ = some (.int .i8 ((rd_T54 y336 x5_1).f0.f0)) := hcc24 0 _ rfl; have hx24_1 : w27.cell? ⟨go23, (x5_1 : Int).toNat * 20 + 1, none⟩ = some (.int .i8 ((rd_T54 y336 x5_1).f0.f1)) := hcc24 1 _ rfl; have hx24_2 : w27.cell? ⟨go23, (x5_1 : Int).toNat * 20 + 2, none⟩ = some (.int .i8 ((rd_T54 y336 x5_1).f0.f2)) := hcc24 2 _ rfl; have hx24_3 : w27.cell? ⟨go23, (x5_1 : Int).toNat * 20 + 3, none⟩ = some (.int .i8 ((rd_T54 y336 x5_1).f0.f3)) := hcc24 3 _ rfl; have hx24_4 : w27.cell? ⟨go23, (x5_1 : Int).toNat * 20 + 4, none⟩ = some (.int .i8 ((rd_T54 y336 x5_1).f0.f4)) := hcc24 4 _ rfl; have hx24_5 : w27.cell? ⟨go23, (x5_1 : Int).toNat * 20 + 5, none⟩ = some (.int .i8 ((rd_T54 y336 x5_1).f0.f5)) := hcc24 5 _ rfl; have hx24_6 : w27.cell? ⟨go23, (x5_1 : Int).toNat * 20 + 6, none⟩ = some (.int .i8 ((rd_T54 y336 x5_1).f0.f6)) := hcc24 6 _ rfl; have hx24_7 : w27.cell? ⟨go23, (x5_1 : Int).toNat * 20 + 7, none⟩ = some (.int .i8 ((rd_T54 y336 x5_1).f0.f7)) := hcc24 7 _ rfl; have hx24_8 : w27.cell? ⟨go23, (x5_1 : Int).toNat * 20 + 8, none⟩ = some (.int .i8 ((rd_T54 y336 x5_1).f0.f8)) := hcc24 8 _ rfl; have hx24_9 : w27.cell? ⟨go23, (x5_1 : Int).toNat * 20 + 9, none⟩ = some (.int .i8 ((rd_T54 y336 x5_1).f0.f9)) := hcc24 9 _ rfl; have hx24_10 : w27.cell? ⟨go23, (x5_1 : Int).toNat * 20 + 10, none⟩ = some (.int .i8 ((rd_T54 y336 x5_1).f0.f10)) := hcc24 10 _ rfl; have hx24_11 : w27.cell? ⟨go23, (x5_1 : Int).toNat * 20 + 11, none⟩ = some (.int .i8 ((rd_T54 y336 x5_1).f0.f11)) := hcc24 11 _ rfl; have hx24_12 : w27.cell? ⟨go23, (x5_1 : Int).toNat * 20 + 12, none⟩ = some (.int .i8 ((rd_T54 y336 x5_1).f0.f12)) := hcc24 12 _ rfl; have hx24_13 : w27.cell? ⟨go23, (x5_1 : Int).toNat * 20 + 13, none⟩ = some (.int .i8 ((rd_T54 y336 x5_1).f0.f13)) := hcc24 13 _ rfl; have hx24_14 : w27.cell? ⟨go23, (x5_1 : Int).toNat * 20 + 14, none⟩ = some (.int .i16 ((rd_T54 y336 x5_1).f1.f0)) := hcc24 14 _ rfl; have hx24_15 : w27.cell? ⟨go23, (x5_1 : Int).toNat * 20 + 15, none⟩ = some (.int .i16 ((rd_T54 y336 x5_1).f1.f1)) := hcc24 15 _ rfl; have hx24_16 : w27.cell? ⟨go23, (x5_1 : Int).toNat * 20 + 16, none⟩ = some (.int .i16 ((rd_T54 y336 x5_1).f1.f2)) := hcc24 16 _ rfl; have hx24_17 : w27.cell? ⟨go23, (x5_1 : Int).toNat * 20 + 17, none⟩ = some (.int .i8 ((rd_T54 y336 x5_1).f2.f0)) := hcc24 17 _ rfl; have hx24_18 : w27.cell? ⟨go23, (x5_1 : Int).toNat * 20 + 18, none⟩ = some (.bool ((rd_T54 y336 x5_1).f2.f1)) := hcc24 18 _ rfl; have hx24_19 : w27.cell? ⟨go23, (x5_1 : Int).toNat * 20 + 19, none⟩ = some (.bool ((rd_T54 y336 x5_1).f3)) := hcc24 19 _ rfl; have hf24_0 : w27.frozen? ⟨go23, (x5_1 : Int).toNat * 20, none⟩ = false := hfr24 0; have hf24_1 : w27.frozen? ⟨go23, (x5_1 : Int).toNat * 20 + 1, none⟩ = false := hfr24 1; have hf24_2 : w27.frozen? ⟨go23, (x5_1 : Int).toNat * 20 + 2, none⟩ = false := hfr24 2; have hf24_3 : w27.frozen? ⟨go23, (x5_1 : Int).toNat * 20 + 3, none⟩ = false := hfr24 3; have hf24_4 : w27.frozen? ⟨go23, (x5_1 : Int).toNat * 20 + 4, none⟩ = false := hfr24 4; have hf24_5 : w27.frozen? ⟨go23, (x5_1 : Int).toNat * 20 + 5, none⟩ = false := hfr24 5; have hf24_6 : w27.frozen? ⟨go23, (x5_1 : Int).toNat * 20 + 6, none⟩ = false := hfr24 6; have hf24_7 : w27.frozen? ⟨go23, (x5_1 : Int).toNat * 20 + 7, none⟩ = false := hfr24 7; have hf24_8 : w27.frozen? ⟨go23, (x5_1 : Int).toNat * 20 + 8, none⟩ = false := hfr24 8; have hf24_9 : w27.frozen? ⟨go23, (x5_1 : Int).toNat * 20 + 9, none⟩ = false := hfr24 9; have hf24_10 : w27.frozen? ⟨go23, (x5_1 : Int).toNat * 20 + 10, none⟩ = false := hfr24 10; have hf24_11 : w27.frozen? ⟨go23, (x5_1 : Int).toNat * 20 + 11, none⟩ = false := hfr24 11; have hf24_12 : w27.frozen? ⟨go23, (x5_1 : Int).toNat * 20 + 12, none⟩ = false := hfr24 12; have hf24_13 : w27.frozen? ⟨go23, (x5_1 : Int).toNat * 20 + 13, none⟩ = false := hfr24 13; have hf24_14 : w27.frozen? ⟨go23, (x5_1 : Int).toNat * 20 + 14, none⟩ = false := hfr24 14; have hf24_15 : w27.frozen? ⟨go23, (x5_1 : Int).toNat * 20 + 15, none⟩ = false := hfr24 15; have hf24_16 : w27.frozen? ⟨go23, (x5_1 : Int).toNat * 20 + 16, none⟩ = false := hfr24 16; have hf24_17 : w27.frozen? ⟨go23, (x5_1 : Int).toNat * 20 + 17, none⟩ = false := hfr24 17; have hf24_18 : w27.frozen? ⟨go23, (x5_1 : Int).toNat * 20 + 18, none⟩ = false := hfr24 18; have hf24_19 : w27.frozen? ⟨go23, (x5_1 : Int).toNat * 20 + 19, none⟩ = false := hfr24 19; clear hcl24 hcc24 hfr24 hM24; replace p24 := eq_true p24; replace q24 := eq_true q24; have HX28 := zc.mk (show Kd.R k54 54 w27 w0.heap.size (fun k_ => (P0_ k_ ∨ w.heap.size ≤ k_)) (.slice (some ⟨go23, 0, none⟩) x0_3.length co4) y336 from (by (with_reducible repeat (first | apply Kd.R_alloc | apply Kd.R_drewN | apply Kd.R_drew)); exact HO_0.out)); obtain ⟨ce28, hcl28, hM28, hcc28, hfr28⟩ := Kd.R_elem HX28.out z54 (x5_1 : Int) (of_decide_eq_true (by first | (with_reducible assumption) | assumption)) (by have h_ : (x5_1 : Int) < ((x0_3.length : Int) : Int) := of_decide_eq_true (by first | (with_reducible assumption) | assumption); first | exact h_ | (have e_ := (Kd.R_reads' HO_0.out).1; omega) | simpa using h_); obtain rfl := k54_openM hM28; have HP28 := Kd.R_seg HX28.out (x5_1 : Int) (of_decide_eq_true (by first | (with_reducible assumption) | assumption)) (by have h_ : (x5_1 : Int) < ((x0_3.length : Int) : Int) := of_decide_eq_true (by first | (with_reducible assumption) | assumption); first | exact h_ | (have e_ := (Kd.R_reads' HO_0.out).1; omega) | simpa using h_) (seg := [.bool ((Int.tmod (wrap64 (x1_3 + 1)) 3) == 0)]) (j := 18) hcl28 hcc28 (show 19 ≤ 20 from by decide) (x' := (⟨(⟨(rd_T54 y336 x5_1).f0.f0, (rd_T54 y336 x5_1).f0.f1, (rd_T54 y336 x5_1).f0.f2, (rd_T54 y336 x5_1).f0.f3, (rd_T54 y336 x5_1).f0.f4, (rd_T54 y336 x5_1).f0.f5, (rd_T54 y336 x5_1).f0.f6, (rd_T54 y336 x5_1).f0.f7, (rd_T54 y336 x5_1).f0.f8, (rd_T54 y336 x5_1).f0.f9, (rd_T54 y336 x5_1).f0.f10, (rd_T54 y336 x5_1).f0.f11, (rd_T54 y336 x5_1).f0.f12, (rd_T54 y336 x5_1).f0.f13⟩ : S50), (⟨(rd_T54 y336 x5_1).f1.f0, (rd_T54 y336 x5_1).f1.f1, (rd_T54 y336 x5_1).f1.f2⟩ : S52), (⟨(rd_T54 y336 x5_1).f2.f0, ((Int.tmod (wrap64 (x1_3 + 1)) 3) == 0)⟩ : S46), (rd_T54 y336 x5_1).f3⟩ : S54)) (k54_mkM _ _ _ (⟨(⟨(rd_T54 y336 x5_1).f0.f0, (rd_T54 y336 x5_1).f0.f1, (rd_T54 y336 x5_1).f0.f2, (rd_T54 y336 x5_1).f0.f3, (rd_T54 y336 x5_1).f0.f4, (rd_T54 y336 x5_1).f0.f5, (rd_T54 y336 x5_1).f0.f6, (rd_T54 y336 x5_1).f0.f7, (rd_T54 y336 x5_1).f0.f8, (rd_T54 y336 x5_1).f0.f9, (rd_T54 y336 x5_1).f0.f10, (rd_T54 y336 x5_1).f0.f11, (rd_T54 y336 x5_1).f0.f12, (rd_T54 y336 x5_1).f0.f13⟩ : S50), (⟨(rd_T54 y336 x5_1).f1.f0, (rd_T54 y336 x5_1).f1.f1, (rd_T54 y336 x5_1).f1.f2⟩ : S52), (⟨(rd_T54 y336 x5_1).f2.f0, ((Int.tmod (wrap64 (x1_3 + 1)) 3) == 0)⟩ : S46), (rd_T54 y336 x5_1).f3⟩ : S54) ) (fun _ hk => hk); have hx28_18 := hcc28 18 _ rfl; (try simp only [show (k54).sz = 20 from rfl, Nat.mul_one, Nat.add_zero] at hx28_18); have hf28_18 := hfr28 18; (try simp only [show (k54).sz = 20 from rfl, Nat.mul_one, Nat.add_zero] at hf28_18); clear hcl28 hcc28 hfr28 hM28) | ((with_reducible refine zz (t := 4) (p := 58) rfl ?_); refine store_event (t := 4) (p := 58) (v := ?vo_w29) (w1 := (w27.setCell ⟨go23, (x5_1 : Int).toNat * 20 + 18, none⟩ (.bool ((Int.tmod (wrap64 (x1_3 + 1)) 3) == 0)))) ?hg ?ho ?hn ?hr ?_; (case ho => rfl); (case hg => rfl); (case hn => rfl); (case hr => first | (go_simp; done) | (go_simp; rfl)); intro w29 hw; have hg : w27.grownBy w29 (some go23) := (by rw [hw]; exact HP28.2); have hp_ : Kd.R k54 54 w29 w0.heap.size (fun k_ => (P0_ k_ ∨ w.heap.size ≤ k_)) (.slice (some ⟨go23, 0, none⟩) x0_3.length co4) y337 := (by rw [hw, Ny337.out]; exact HP28.1); clear HP28; have n0_ := zc.mk (hp_); have n1_ := zc.mk ((by rw [hw]; exact ze (HB.out) GB23.out : Below w0.heap.size w0 w29)); have n2_ := zc.mk (Kept.of_grown (S := (fun k_ => P0_ k_)) hg (by repeat (first | (with_reducible first | exact HK.out | apply Kept.alloc | apply Kept.drewN | apply Kept.drew) | exact HK.out)) (fun k_ e_ => (HO_0.out.1 k_ e_))); clear HO_0; clear HB; clear HK; have HO_0 := n0_; have HB := n1_; have HK := n2_; clear n0_ n1_ n2_; clear hg hw hp_; have p25 : 0 ≤ (x5_1 : Int) := of_decide_eq_true (by first | (with_reducible assumption) | assumption); have q25 : (x5_1 : Int) < ((x0_3.length : Int) : Int) := of_decide_eq_true (by first | (with_reducible assumption) | assumption); obtain ⟨ce25, hcl25, hM25, hcc25, hfr25⟩ := Kd.R_elem HO_0.out z54 (x5_1 : Int) p25 q25; obtain rfl := k54_openM hM25; have hx25_0 : w29.cell? ⟨go23, (x5_1 : Int).toNat * 20, none⟩ = some (.int .i8 ((rd_T54 y337 x5_1).f0.f0)) := hcc25 0 _ rfl; have hx25_1 : w29.cell? ⟨go23, (x5_1 : Int).toNat * 20 + 1, none⟩ = some (.int .i8 ((rd_T54 y337 x5_1).f0.f1)) := hcc25 1 _ rfl; have hx25_2 : w29.cell? ⟨go23, (x5_1 : Int).toNat * 20 + 2, none⟩ = some (.int .i8 ((rd_T54 y337 x5_1).f0.f2)) := hcc25 2 _ rfl; have hx25_3 : w29.cell? ⟨go23, (x5_1 : Int).toNat * 20 + 3, none⟩ = some (.int .i8 ((rd_T54 y337 x5_1).f0.f3)) := hcc25 3 _ rfl; have hx25_4 : w29.cell? ⟨go23, (x5_1 : Int).toNat * 20 + 4, none⟩ = some (.int .i8 ((rd_T54 y337 x5_1).f0.f4)) := hcc25 4 _ rfl; have hx25_5 : w29.cell? ⟨go23, (x5_1 : Int).toNat * 20 + 5, none⟩ = some (.int .i8 ((rd_T54 y337 x5_1).f0.f5)) := hcc25 5 _ rfl; have hx25_6 : w29.cell? ⟨go23, (x5_1 : Int).toNat * 20 + 6, none⟩ = some (.int .i8 ((rd_T54 y337 x5_1).f0.f6)) := hcc25 6 _ rfl; have hx25_7 : w29.cell? ⟨go23, (x5_1 : Int).toNat * 20 + 7, none⟩ = some (.int .i8 ((rd_T54 y337 x5_1).f0.f7)) := hcc25 7 _ rfl; have hx25_8 : w29.cell? ⟨go23, (x5_1 : Int).toNat * 20 + 8, none⟩ = some (.int .i8 ((rd_T54 y337 x5_1).f0.f8)) := hcc25 8 _ rfl; have hx25_9 : w29.cell? ⟨go23, (x5_1 : Int).toNat * 20 + 9, none⟩ = some (.int .i8 ((rd_T54 y337 x5_1).f0.f9)) := hcc25 9 _ rfl; have hx25_10 : w29.cell? ⟨go23, (x5_1 : Int).toNat * 20 + 10, none⟩ = some (.int .i8 ((rd_T54 y337 x5_1).f0.f10)) := hcc25 10 _ rfl; have hx25_11 : w29.cell? ⟨go23, (x5_1 : Int).toNat * 20 + 11, none⟩ = some (.int .i8 ((rd_T54 y337 x5_1).f0.f11)) := hcc25 11 _ rfl; have hx25_12 : w29.cell? ⟨go23, (x5_1 : Int).toNat * 20 + 12, none⟩ = some (.int .i8 ((rd_T54 y337 x5_1).f0.f12)) := hcc25 12 _ rfl; have hx25_13 : w29.cell? ⟨go23, (x5_1 : Int).toNat * 20 + 13, none⟩ = some (.int .i8 ((rd_T54 y337 x5_1).f0.f13)) := hcc25 13 _ rfl; have hx25_14 : w29.cell? ⟨go23, (x5_1 : Int).toNat * 20 + 14, none⟩ = some (.int .i16 ((rd_T54 y337 x5_1).f1.f0)) := hcc25 14 _ rfl; have hx25_15 : w29.cell? ⟨go23, (x5_1 : Int).toNat * 20 + 15, none⟩ = some (.int .i16 ((rd_T54 y337 x5_1).f1.f1)) := hcc25 15 _ rfl; have hx25_16 : w29.cell? ⟨go23, (x5_1 : Int).toNat * 20 + 16, none⟩ = some (.int .i16 ((rd_T54 y337 x5_1).f1.f2)) := hcc25 16 _ rfl; have hx25_17 : w29.cell? ⟨go23, (x5_1 : Int).toNat * 20 + 17, none⟩ = some (.int .i8 ((rd_T54 y337 x5_1).f2.f0)) := hcc25 17 _ rfl; have hx25_18 : w29.cell? ⟨go23, (x5_1 : Int).toNat * 20 + 18, none⟩ = some (.bool ((rd_T54 y337 x5_1).f2.f1)) := hcc25 18 _ rfl; have hx25_19 : w29.cell? ⟨go23, (x5_1 : Int).toNat * 20 + 19, none⟩ = some (.bool ((rd_T54 y337 x5_1).f3)) := hcc25 19 _ rfl; have hf25_0 : w29.frozen? ⟨go23, (x5_1 : Int).toNat * 20, none⟩ = false := hfr25 0; have hf25_1 : w29.frozen? ⟨go23, (x5_1 : Int).toNat * 20 + 1, none⟩ = false := hfr25 1; have hf25_2 : w29.frozen? ⟨go23, (x5_1 : Int).toNat * 20 + 2, none⟩ = false := hfr25 2; have hf25_3 : w29.frozen? ⟨go23, (x5_1 : Int).toNat * 20 + 3, none⟩ = false := hfr25 3; have hf25_4 : w29.frozen? ⟨go23, (x5_1 : Int).toNat * 20 + 4, none⟩ = false := hfr25 4; have hf25_5 : w29.frozen? ⟨go23, (x5_1 : Int).toNat * 20 + 5, none⟩ = false := hfr25 5; have hf25_6 : w29.frozen? ⟨go23, (x5_1 : Int).toNat * 20 + 6, none⟩ = false := hfr25 6; have hf25_7 : w29.frozen? ⟨go23, (x5_1 : Int).toNat * 20 + 7, none⟩ = false := hfr25 7; have hf25_8 : w29.frozen? ⟨go23, (x5_1 : Int).toNat * 20 + 8, none⟩ = false := hfr25 8; have hf25_9 : w29.frozen? ⟨go23, (x5_1 : Int).toNat * 20 + 9, none⟩ = false := hfr25 9; have hf25_10 : w29.frozen? ⟨go23, (x5_1 : Int).toNat * 20 + 10, none⟩ = false := hfr25 10; have hf25_11 : w29.frozen? ⟨go23, (x5_1 : Int).toNat * 20 + 11, none⟩ = false := hfr25 11; have hf25_12 : w29.frozen? ⟨go23, (x5_1 : Int).toNat * 20 + 12, none⟩ = false := hfr25 12; have hf25_13 : w29.frozen? ⟨go23, (x5_1 : Int).toNat * 20 + 13, none⟩ = false := hfr25 13; have hf25_14 : w29.frozen? ⟨go23, (x5_1 : Int).toNat * 20 + 14, none⟩ = false := hfr25 14; have hf25_15 : w29.frozen? ⟨go23, (x5_1 : Int).toNat * 20 + 15, none⟩ = false := hfr25 15; have hf25_16 : w29.frozen? ⟨go23, (x5_1 : Int).toNat * 20 + 16, none⟩ = false := hfr25 16; have hf25_17 : w29.frozen? ⟨go23, (x5_1 : Int).toNat * 20 + 17, none⟩ = false := hfr25 17; have hf25_18 : w29.frozen? ⟨go23, (x5_1 : Int).toNat * 20 + 18, none⟩ = false := hfr25 18; have hf25_19 : w29.frozen? ⟨go23, (x5_1 : Int).toNat * 20 + 19, none⟩ = false := hfr25 19; clear hcl25 hcc25 hfr25 hM25; replace p25 := eq_true p25; replace q25 := eq_true q25; have HX30 := zc.mk (show Kd.R k54 54 w29 w0.heap.size (fun k_ => (P0_ k_ ∨ w.heap.size ≤ k_)) (.slice (some ⟨go23, 0, none⟩) x0_3.length co4) y337 from (by (with_reducible repeat (first | apply Kd.R_alloc | apply Kd.R_drewN | apply Kd.R_drew)); exact HO_0.out)); obtain ⟨ce30, hcl30, hM30, hcc30, hfr30⟩ := Kd.R_elem HX30.out z54 (x5_1 : Int) (of_decide_eq_true (by first | (with_reducible assumption) | assumption)) (by have h_ : (x5_1 : Int) < ((x0_3.length : Int) : Int) := of_decide_eq_true (by first | (with_reducible assumption) | assumption); first | exact h_ | (have e_ := (Kd.R_reads' HO_0.out).1; omega) | simpa using h_); obtain rfl := k54_openM hM30; have HP30 := Kd.R_seg HX30.out (x5_1 : Int) (of_decide_eq_true (by first | (with_reducible assumption) | assumption)) (by have h_ : (x5_1 : Int) < ((x0_3.length : Int) : Int) := of_decide_eq_true (by first | (with_reducible assumption) | assumption); first | exact h_ | (have e_ := (Kd.R_reads' HO_0.out).1; omega) | simpa using h_) (seg := [.bool ((Int.tmod (wrap64 ((wrap64 (x1_3 + 1)) + 1)) 3) == 0)]) (j := 19) hcl30 hcc30 (show 20 ≤ 20 from by decide) (x' := (⟨(⟨(rd_T54 y337 x5_1).f0.f0, (rd_T54 y337 x5_1).f0.f1, (rd_T54 y337 x5_1).f0.f2, (rd_T54 y337 x5_1).f0.f3, (rd_T54 y337 x5_1).f0.f4, (rd_T54 y337 x5_1).f0.f5, (rd_T54 y337 x5_1).f0.f6, (rd_T54 y337 x5_1).f0.f7, (rd_T54 y337 x5_1).f0.f8, (rd_T54 y337 x5_1).f0.f9, (rd_T54 y337 x5_1).f0.f10, (rd_T54 y337 x5_1).f0.f11, (rd_T54 y337 x5_1).f0.f12, (rd_T54 y337 x5_1).f0.f13⟩ : S50), (⟨(rd_T54 y337 x5_1).f1.f0, (rd_T54 y337 x5_1).f1.f1, (rd_T54 y337 x5_1).f1.f2⟩ : S52), (⟨(rd_T54 y337 x5_1).f2.f0, (rd_T54 y337 x5_1).f2.f1⟩ : S46), ((Int.tmod (wrap64 ((wrap64 (x1_3 + 1)) + 1)) 3) == 0)⟩ : S54)) (k54_mkM _ _ _ (⟨(⟨(rd_T54 y337 x5_1).f0.f0, (rd_T54 y337 x5_1).f0.f1, (rd_T54 y337 x5_1).f0.f2, (rd_T54 y337 x5_1).f0.f3, (rd_T54 y337 x5_1).f0.f4, (rd_T54 y337 x5_1).f0.f5, (rd_T54 y337 x5_1).f0.f6, (rd_T54 y337 x5_1).f0.f7, (rd_T54 y337 x5_1).f0.f8, (rd_T54 y337 x5_1).f0.f9, (rd_T54 y337 x5_1).f0.f10, (rd_T54 y337 x5_1).f0.f11, (rd_T54 y337 x5_1).f0.f12, (rd_T54 y337 x5_1).f0.f13⟩ : S50), (⟨(rd_T54 y337 x5_1).f1.f0, (rd_T54 y337 x5_1).f1.f1, (rd_T54 y337 x5_1).f1.f2⟩ : S52), (⟨(rd_T54 y337 x5_1).f2.f0, (rd_T54 y337 x5_1).f2.f1⟩ : S46), ((Int.tmod (wrap64 ((wrap64 (x1_3 + 1)) + 1)) 3) == 0)⟩ : S54) ) (fun _ hk => hk); have hx30_19 := hcc30 19 _ rfl; (try simp only [show (k54).sz = 20 from rfl, Nat.mul_one, Nat.add_zero] at hx30_19); have hf30_19 := hfr30 19; (try simp only [show (k54).sz = 20 from rfl, Nat.mul_one, Nat.add_zero] at hf30_19); clear hcl30 hcc30 hfr30 hM30) | ((with_reducible refine zz (t := 4) (p := 67) rfl ?_); refine store_event (t := 4) (p := 67) (v := ?vo_w31) (w1 := (w29.setCell ⟨go23, (x5_1 : Int).toNat * 20 + 19, none⟩ (.bool ((Int.tmod (wrap64 ((wrap64 (x1_3 + 1)) + 1)) 3) == 0)))) ?hg ?ho ?hn ?hr ?_; (case ho => rfl); (case hg => rfl); (case hn => rfl); (case hr => first | (go_simp; done) | (go_simp; rfl)); intro w31 hw; have hg : w29.grownBy w31 (some go23) := (by rw [hw]; exact HP30.2); have hp_ : Kd.R k54 54 w31 w0.heap.size (fun k_ => (P0_ k_ ∨ w.heap.size ≤ k_)) (.slice (some ⟨go23, 0, none⟩) x0_3.length co4) y338 := (by rw [hw, Ny338.out]; exact HP30.1); clear HP30; have n0_ := zc.mk (hp_); have n1_ := zc.mk ((by rw [hw]; exact ze (HB.out) GB23.out : Below w0.heap.size w0 w31)); have n2_ := zc.mk (Kept.of_grown (S := (fun k_ => P0_ k_)) hg (by repeat (first | (with_reducible first | exact HK.out | apply Kept.alloc | apply Kept.drewN | apply Kept.drew) | exact HK.out)) (fun k_ e_ => (HO_0.out.1 k_ e_))); clear HO_0; clear HB; clear HK; have HO_0 := n0_; have HB := n1_; have HK := n2_; clear n0_ n1_ n2_; clear hg hw hp_))
          (try simp only [← hl0_2, ← hl0_3])
          go_roundg k3
          case measure => have := HK1.out; have := HK2.out; have := HK3.out; omega
          case rel => exact ⟨(y338), (wrap64 ((wrap64 ((wrap64 (x1_3 + 1)) + 1)) + 1)), (wrap64 (x5_1 + 1)), (by first | rfl | (simp; done) | (simp [*]; done)), (by first | rfl | (simp; done) | (simp [*]; done)), H', ⟨by have := HK1.out; have := HK2.out; have := HK3.out; omega⟩, ⟨by (try simp only [hl0_2]); (try simp only [hl0_3]); (with_reducible repeat (first | apply Kd.R_alloc | apply Kd.R_drewN | apply Kd.R_drew)); exact HO_0.out⟩, ⟨by repeat (first | (with_reducible first | exact HK.out | apply Kept.alloc | apply Kept.drewN | apply Kept.drew) | exact HK.out)⟩, ⟨by repeat (first | (with_reducible first | exact HB.out | apply zd | apply za | apply zb) | exact HB.out)⟩⟩
         rw [if_neg c22] at H
         exact absurd H (by simp)
        rw [if_neg c21] at H
        exact absurd H (by simp)
   rw [if_neg c3] at H
   have c3b0 : decide (x5_1 < (x0_1.length : Int)) = false := decide_eq_false c3
   clear c3
   simp only [Option.some.injEq, Prod.mk.injEq] at H
   obtain ⟨rfl, rfl⟩ := H
   obtain ⟨Ao32, co32, eo32⟩ := Kd.R_slice HO_0.out
   subst eo32
   go_wp2
   go_ret
   exact ⟨by first | rfl | (simp [errW_none, errW_some] <;> rfl) | (simp [*, errW_none, errW_some] <;> rfl), by (with_reducible repeat (first | apply Kd.R_alloc | apply Kd.R_drewN | apply Kd.R_drew)); exact HO_0.out, by repeat (first | (with_reducible first | exact HB.out | apply zd | apply za | apply zb) | exact HB.out), by repeat (first | (with_reducible first | exact HK.out | apply Kept.alloc | apply Kept.drewN | apply Kept.drew) | exact HK.out)⟩

end Go.Proofs.Ytmmonhpjjjdnjaa.Y
