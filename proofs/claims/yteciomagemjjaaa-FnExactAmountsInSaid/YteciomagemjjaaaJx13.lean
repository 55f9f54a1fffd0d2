-- Written by wip/tools/myprint.py, a program of this session, by way of the kit's print.
import Derived.Test.YteciomagemjjaaaJx0
import Derived.Test.YteciomagemjjaaaJx9
import Derived.Test.YteciomagemjjaaaLPrJ
namespace Go.Proofs.Yteciomagemjjaaa.J
open Go.RowKit Go.Proofs.YteciomagemjjaaaW.PrintWords Go.Proofs.YteciomagemjjaaaW.PrintLast Go.Proofs.YteciomagemjjaaaW.PrintMore
attribute [local go_sem] zna zpa zua zva zia zja zqa zoa   -- for this text's walks alone
set_option linter.unusedVariables false
set_option linter.unusedSimpArgs false

/-! ### laws_toWater: function 41 -/
def laws_toWater.l0 : Nat → Int → Int → Int → Int → Int → Int → Int → Int → Int → Option (Int × Int × Int × Int)
 | 0, _, _, _, _, _, _, _, _, _ => none
 | k + 1, x4, x220000, x220001, x220002, x220003, x222000, x222001, x222002, x222003 => if x4 < 4 then (if 0 ≤ x4 then (laws_toWater.l0 k (wrap64 (x4 + 1)) x220000 x220001 x220002 x220003 (zlb x4 0 (rd [x220000, x220001, x220002, x220003] x4) x222000) (zlb x4 1 (rd [x220000, x220001, x220002, x220003] x4) x222001) (zlb x4 2 (rd [x220000, x220001, x220002, x220003] x4) x222002) (zlb x4 3 (rd [x220000, x220001, x220002, x220003] x4) x222003)) else (none)) else (some (x222000, x222001, x222002, x222003))
def laws_toWater.f (k : Nat) (a0_0 : Int) (a0_1 : Int) (a0_2 : Int) (a0_3 : Int) : Option (Int × Int × Int × Int) := laws_toWater.l0 k 0 a0_0 a0_1 a0_2 a0_3 0 0 0 0
set_option maxHeartbeats 8000000 in
set_option maxRecDepth 100000 in
theorem laws_toWater.calls (k : Nat) (a0_0 : Int) (a0_1 : Int) (a0_2 : Int) (a0_3 : Int) (r1 : Int) (r2 : Int) (r3 : Int) (r4 : Int) (w : World) (h : laws_toWater.f k a0_0 a0_1 a0_2 a0_3 = some (r1, r2, r3, r4)) :
  Calls Try.prog 41 #[.agg #[.int .i16 a0_0, .int .i16 a0_1, .int .i16 a0_2, .int .i16 a0_3]] w fun e w' => e = .returned (.agg #[.int .i16 r1, .int .i16 r2, .int .i16 r3, .int .i16 r4]) ∧ Below w.heap.size w w' := by
 have hu26 := Try.underlying26
 have hu27 := Try.underlying27
 have HB := za.mk (Below.refl w.heap.size w)
 have H : (laws_toWater.l0 k 0 a0_0 a0_1 a0_2 a0_3 0 0 0 0) = some (r1, r2, r3, r4) := h
 clear h
 have H' := za.mk H
 clear H
 go_enter Try.func41, Try.ntmps41
 go_wp2_with (first | ((with_reducible refine zu (N := 1) rfl ?_); refine bx (N := 1) #[.int .i16 a0_0, .int .i16 a0_1, .int .i16 a0_2, .int .i16 a0_3] 26 rfl ?_; intro gb219 hg w2 hbox hb; have BK219 := za.mk hbox; have GW219 := gB hg; have GE219 := GW219; replace HB := za.mk (zh sB hb); clear hb hbox hg) | ((with_reducible refine zu (N := 2) rfl ?_); refine bx (N := 2) #[.int .i16 0, .int .i16 0, .int .i16 0, .int .i16 0] 27 rfl ?_; intro gb220 hg w3 hbox hb; have BK220 := za.mk hbox; have GW220 := gB hg; have GE220 := GW220; have NB219_220 := nK hg BK219; have NB220_219 := za.mk NB219_220.out.symm; replace BK219 := dK BK219 hb; replace HB := za.mk (zh sB hb); clear hb hbox hg) | ((with_reducible refine zu (N := 3) rfl ?_); refine bx (N := 3) #[.int .i16 0, .int .i16 0, .int .i16 0, .int .i16 0] 27 rfl ?_; intro gb221 hg w4 hbox hb; have BK221 := za.mk hbox; have GW221 := gB hg; have GE221 := GW221; have NB219_221 := nK hg BK219; have NB221_219 := za.mk NB219_221.out.symm; have NB220_221 := nK hg BK220; have NB221_220 := za.mk NB220_221.out.symm; replace BK219 := dK BK219 hb; replace BK220 := dK BK220 hb; replace HB := za.mk (zh sB hb); clear hb hbox hg))
 go_loopg [4] k (fun kq v4 w' => ∃ (x4_1 : Int) (x222000_1 : Int) (x222001_1 : Int) (x222002_1 : Int) (x222003_1 : Int), v4 = .int .i64 x4_1 ∧ za (laws_toWater.l0 kq x4_1 a0_0 a0_1 a0_2 a0_3 x222000_1 x222001_1 x222002_1 x222003_1 = some (r1, r2, r3, r4)) ∧ za (kq ≤ k) ∧ za (w'.heap[gb219]? = some (.cells #[.int .i16 a0_0, .int .i16 a0_1, .int .i16 a0_2, .int .i16 a0_3] 26 (0, 0))) ∧ za (w'.heap[gb220]? = some (.cells #[.int .i16 0, .int .i16 0, .int .i16 0, .int .i16 0] 27 (0, 0))) ∧ za (w'.heap[gb221]? = some (.cells #[.int .i16 x222000_1, .int .i16 x222001_1, .int .i16 x222002_1, .int .i16 x222003_1] 27 (0, 0))) ∧ za (Below w.heap.size w w'))
 case atStart => exact ⟨(0), (0), (0), (0), (0), (by first | rfl | (simp; done) | (simp [*]; done)), H', ⟨Nat.le_refl _⟩, ⟨uK BK219⟩, ⟨uK BK220⟩, ⟨uK BK221⟩, ⟨sB⟩⟩
 case round =>
  clear H'
  try clear p2
  try clear c4
  obtain ⟨x4_1, x222000_1, x222001_1, x222002_1, x222003_1, rfl, HA, HK1, BK219, BK220, BK221, HB⟩ := hrel
  cases gk with
  | zero => exact absurd HA.out (by simp [laws_toWater.l0])
  | succ k1 =>
   have H := HA.out
   clear HA
   simp only [laws_toWater.l0] at H
   by_cases c5 : x4_1 < 4
   ·rw [if_pos c5] at H
    have c5b0 : decide (x4_1 < 4) = true := decide_eq_true c5
    clear c5
    by_cases c6 : 0 ≤ x4_1
    ·rw [if_pos c6] at H
     have c6b0 : decide (0 ≤ x4_1) = true := decide_eq_true c6
     clear c6
     have H' := za.mk H
     clear H
     have p7 : 0 ≤ (x4_1 : Int) := of_decide_eq_true (by first | (with_reducible assumption) | assumption)
     have q7 : x4_1 < (4 : Int) := of_decide_eq_true (by first | (with_reducible assumption) | assumption)
     replace p7 := eq_true p7
     replace q7 := eq_true q7
     have hnb8 := NB219_220.out
     have hnc8 := NB220_219.out
     have hnb9 := NB219_221.out
     have hnc9 := NB221_219.out
     obtain ⟨hcz10_0, hcz10_1, hcz10_2, hcz10_3⟩ := xc4 BK219
     obtain ⟨hfz10_0, hfz10_1, hfz10_2, hfz10_3⟩ := xf4 BK219
     have hx11_0 : wr.cell? ⟨gb219, (x4_1).toNat, none⟩ = some (.int .i16 (rd [a0_0, a0_1, a0_2, a0_3] x4_1)) := (zb BK219.out _).trans (by rcases (show (x4_1 : Int) = 0 ∨ (x4_1 : Int) = 1 ∨ (x4_1 : Int) = 2 ∨ (x4_1 : Int) = 3 by have hp_ : 0 ≤ (x4_1 : Int) := of_decide_eq_true (by first | (with_reducible assumption) | assumption); have hq_ : x4_1 < (4 : Int) := of_decide_eq_true (by first | (with_reducible assumption) | assumption); omega) with h_ | h_ | h_ | h_ <;> rw [h_] <;> rfl)
     have p12 : 0 ≤ (x4_1 : Int) := of_decide_eq_true (by first | (with_reducible assumption) | assumption)
     have q12 : x4_1 < (4 : Int) := of_decide_eq_true (by first | (with_reducible assumption) | assumption)
     replace p12 := eq_true p12
     replace q12 := eq_true q12
     have hnb13 := NB221_220.out
     have hnc13 := NB220_221.out
     obtain ⟨hcz14_0, hcz14_1, hcz14_2, hcz14_3⟩ := xc4 BK221
     obtain ⟨hfz14_0, hfz14_1, hfz14_2, hfz14_3⟩ := xf4 BK221
     go_wp2_with (first | ((with_reducible refine zza (t := 25) (p := 13) rfl ?_); have hx15_0 : wr.cell? ⟨gb221, (x4_1).toNat, none⟩ = some (.int .i16 (rd [x222000_1, x222001_1, x222002_1, x222003_1] x4_1)) := (zb BK221.out _).trans (by rcases (show (x4_1 : Int) = 0 ∨ (x4_1 : Int) = 1 ∨ (x4_1 : Int) = 2 ∨ (x4_1 : Int) = 3 by have hp_ : 0 ≤ (x4_1 : Int) := of_decide_eq_true (by first | (with_reducible assumption) | assumption); have hq_ : x4_1 < (4 : Int) := of_decide_eq_true (by first | (with_reducible assumption) | assumption); omega) with h_ | h_ | h_ | h_ <;> rw [h_] <;> rfl); have hfz15_0 := zg BK221.out ((x4_1).toNat); refine zya (t := 25) (p := 13) (v := ?vo_w16) (w1 := (wr.setCell ⟨gb221, (x4_1).toNat, none⟩ (.int .i16 (rd [a0_0, a0_1, a0_2, a0_3] x4_1)))) ?hg ?ho ?hn ?hr ?_; (case ho => rfl); (case hg => rfl); (case hn => rfl); (case hr => first | (go_simp; done) | (go_simp; rfl)); intro w16 hw; have n0_ : za (w16.heap[gb219]? = some (.cells #[.int .i16 a0_0, .int .i16 a0_1, .int .i16 a0_2, .int .i16 a0_3] 26 (0, 0))) := ⟨(by rw [hw]; exact (by (with_reducible repeat (first | refine ze ?_ _ | refine zf ?_ | refine zc ?_ _)); refine zm ?_ NB219_221.out _; (with_reducible repeat (first | refine ze ?_ _ | refine zf ?_ | refine zc ?_ _)); exact BK219.out))⟩; have n1_ : za (w16.heap[gb220]? = some (.cells #[.int .i16 0, .int .i16 0, .int .i16 0, .int .i16 0] 27 (0, 0))) := ⟨(by rw [hw]; exact (by (with_reducible repeat (first | refine ze ?_ _ | refine zf ?_ | refine zc ?_ _)); refine zm ?_ NB220_221.out _; (with_reducible repeat (first | refine ze ?_ _ | refine zf ?_ | refine zc ?_ _)); exact BK220.out))⟩; have n2_ : za (w16.heap[gb221]? = some (.cells #[.int .i16 (zlb x4_1 0 (rd [a0_0, a0_1, a0_2, a0_3] x4_1) x222000_1), .int .i16 (zlb x4_1 1 (rd [a0_0, a0_1, a0_2, a0_3] x4_1) x222001_1), .int .i16 (zlb x4_1 2 (rd [a0_0, a0_1, a0_2, a0_3] x4_1) x222002_1), .int .i16 (zlb x4_1 3 (rd [a0_0, a0_1, a0_2, a0_3] x4_1) x222003_1)] 27 (0, 0))) := ⟨(by rw [hw]; exact (by (with_reducible repeat (first | refine ze ?_ _ | refine zf ?_ | refine zc ?_ _)); refine zx (cs := #[.int .i16 x222000_1, .int .i16 x222001_1, .int .i16 x222002_1, .int .i16 x222003_1]) ?_ ((x4_1).toNat) _ (by rcases (show (x4_1 : Int) = 0 ∨ (x4_1 : Int) = 1 ∨ (x4_1 : Int) = 2 ∨ (x4_1 : Int) = 3 by have hp_ : 0 ≤ (x4_1 : Int) := of_decide_eq_true (by first | (with_reducible assumption) | assumption); have hq_ : x4_1 < (4 : Int) := of_decide_eq_true (by first | (with_reducible assumption) | assumption); omega) with h_ | h_ | h_ | h_ <;> rw [h_] <;> rfl); (with_reducible repeat (first | refine ze ?_ _ | refine zf ?_ | refine zc ?_ _)); exact BK221.out))⟩; have n3_ : za (Below w.heap.size w w16) := ⟨(by rw [hw]; exact sB)⟩; clear hw; clear BK219; clear BK220; clear BK221; clear HB; have BK219 := n0_; have BK220 := n1_; have BK221 := n2_; have HB := n3_; clear n0_ n1_ n2_ n3_))
     go_roundg k1
     case measure => have := HK1.out; omega
     case rel => exact ⟨(wrap64 (x4_1 + 1)), ((zlb x4_1 0 (rd [a0_0, a0_1, a0_2, a0_3] x4_1) x222000_1)), ((zlb x4_1 1 (rd [a0_0, a0_1, a0_2, a0_3] x4_1) x222001_1)), ((zlb x4_1 2 (rd [a0_0, a0_1, a0_2, a0_3] x4_1) x222002_1)), ((zlb x4_1 3 (rd [a0_0, a0_1, a0_2, a0_3] x4_1) x222003_1)), (by first | rfl | (simp; done) | (simp [*]; done)), H', ⟨by have := HK1.out; omega⟩, ⟨uK BK219⟩, ⟨uK BK220⟩, ⟨uK BK221⟩, ⟨sB⟩⟩
    rw [if_neg c6] at H
    exact absurd H (by simp)
   rw [if_neg c5] at H
   have c5b0 : decide (x4_1 < 4) = false := decide_eq_false c5
   clear c5
   simp only [Option.some.injEq, Prod.mk.injEq] at H
   obtain ⟨rfl, rfl, rfl, rfl⟩ := H
   have hnb17 := NB221_219.out
   have hnc17 := NB219_221.out
   have hnb18 := NB221_220.out
   have hnc18 := NB220_221.out
   obtain ⟨hcz19_0, hcz19_1, hcz19_2, hcz19_3⟩ := xc4 BK221
   obtain ⟨hfz19_0, hfz19_1, hfz19_2, hfz19_3⟩ := xf4 BK221
   have hnb20 := NB220_219.out
   have hnc20 := NB219_220.out
   obtain ⟨hcz21_0, hcz21_1, hcz21_2, hcz21_3⟩ := xc4 BK220
   obtain ⟨hfz21_0, hfz21_1, hfz21_2, hfz21_3⟩ := xf4 BK220
   go_wp2
   refine bodyPost_ret (results_cell_row rfl _ _ gb220 27 #[.int .i16 x222000_1, .int .i16 x222001_1, .int .i16 x222002_1, .int .i16 x222003_1] (0, 0) _ rfl (by (with_reducible repeat (first | refine ze ?_ _ | refine zf ?_ | refine zc ?_ _)); refine zx (cs := #[.int .i16 x222000_1, .int .i16 x222001_1, .int .i16 x222002_1, .int .i16 0]) ?_ 3 _ rfl; (with_reducible repeat (first | refine ze ?_ _ | refine zf ?_ | refine zc ?_ _)); refine zx (cs := #[.int .i16 x222000_1, .int .i16 x222001_1, .int .i16 0, .int .i16 0]) ?_ 2 _ rfl; (with_reducible repeat (first | refine ze ?_ _ | refine zf ?_ | refine zc ?_ _)); refine zx (cs := #[.int .i16 x222000_1, .int .i16 0, .int .i16 0, .int .i16 0]) ?_ 1 _ rfl; (with_reducible repeat (first | refine ze ?_ _ | refine zf ?_ | refine zc ?_ _)); refine zx (cs := #[.int .i16 0, .int .i16 0, .int .i16 0, .int .i16 0]) ?_ 0 _ rfl; (with_reducible repeat (first | refine ze ?_ _ | refine zf ?_ | refine zc ?_ _)); exact BK220.out) Try.underlying27 rfl (by kernel_rfl)) rfl ?_
   exact ⟨by first | rfl | (simp [zj, zk] <;> rfl) | (simp [*, zj, zk] <;> rfl), sB⟩

/-! ### laws_toInt16S: function 81 -/
def laws_toInt16S.l0 : Nat → List Int → List Int → Int → Option (List Int)
 | 0, _, _, _ => none
 | k + 1, x0, x3, x4 => if x4 < (x0.length : Int) then (if 0 ≤ x4 then (if x4 < (x3.length : Int) then (laws_toInt16S.l0 k x0 (x3.set (x4 : Int).toNat (rd x0 x4)) (wrap64 (x4 + 1))) else (none)) else (none)) else (some x3)
def laws_toInt16S.f (k : Nat) (l0 : List Int) : Option (List Int) := if 0 ≤ (l0.length : Int) then (if ((l0.length : Int) : Int).toNat ≤ 140737488355328 then (laws_toInt16S.l0 k l0 (List.replicate ((l0.length : Int) : Int).toNat 0) 0) else (none)) else (none)
set_option maxHeartbeats 8000000 in
set_option maxRecDepth 100000 in
theorem laws_toInt16S.calls (k : Nat) (A0 : Option Addr) (c0 : Nat) (l0 : List Int) (r : List Int) (w : World) (hr0 : Kd.C (Kd.int .i16) w A0 l0.length l0) (hc0 : l0.length ≤ c0) (h : laws_toInt16S.f k l0 = some r) :
  Calls Try.prog 81 #[.slice A0 l0.length c0] w fun e w' => ∃ v0_ : Value, e = .returned (v0_) ∧ Kd.R (Kd.int .i16) 25 w' w.heap.size (fun _ => True) v0_ r ∧ Below w.heap.size w w' := by
 have HR0 := za.mk hr0
 have HC0 := za.mk hc0
 clear hr0 hc0
 have HB := za.mk (Below.refl w.heap.size w)
 have H : (if 0 ≤ (l0.length : Int) then (if ((l0.length : Int) : Int).toNat ≤ 140737488355328 then (laws_toInt16S.l0 k l0 (List.replicate ((l0.length : Int) : Int).toNat 0) 0) else (none)) else (none)) = some r := h
 clear h
 by_cases c2 : 0 ≤ (l0.length : Int)
 ·rw [if_pos c2] at H
  have c2b0 := eq_true c2
  have c2b1 : decide (0 ≤ (l0.length : Int)) = true := decide_eq_true c2
  clear c2
  by_cases c3 : ((l0.length : Int) : Int).toNat ≤ 140737488355328
  ·rw [if_pos c3] at H
   have c3b0 := eq_true c3
   have c3b1 : decide (((l0.length : Int) : Int).toNat ≤ 140737488355328) = true := decide_eq_true c3
   clear c3
   obtain ⟨y226, hy226⟩ : ∃ y_ : List Int, y_ = (List.replicate ((l0.length : Int) : Int).toNat 0) := ⟨_, rfl⟩
   replace H : (laws_toInt16S.l0 k l0 y226 0) = some r := by first | (rw [hy226]; with_reducible exact H) | (have H2_ := (Option.bind_some _ _).symm.trans H; rw [hy226]; with_reducible exact H2_) | (have H2_ := (Option.bind_some _ _).symm.trans H; with_reducible exact H2_) | with_reducible exact H | (rw [hy226]; exact H) | exact H
   have Ny226 := za.mk hy226
   clear hy226
   have H' := za.mk H
   clear H
   go_enter Try.func81, Try.ntmps81
   go_wp2_with (first | ((with_reducible refine zu (N := 7) rfl ?_); refine Kd.R_make (Kd.int .i16) _ 25 rfl (N := 7) rfl 24 _ _ rfl (l0.length : Int) rfl rfl Try.underlying24 (.int .i16 0) 2 info25 rfl (by decide) (by omega) 0 (ok := fun _ => True) (okp := fun _ => True) rfl (fun _ hk => hk) trivial (of_decide_eq_true (by first | (with_reducible assumption) | assumption)) (Nat.le_trans (Nat.mul_le_mul_right _ (of_decide_eq_true (by first | (with_reducible assumption) | assumption) : (l0.length : Int).toNat ≤ 140737488355328)) (by omega)) (Below.refl _ _) (Nat.le_refl _) ?_; intro v227 w4 ho5 hb hg_ hnew_; clear hg_ hnew_; (first | rw [← Ny226.out] at ho5 | (simp only [Int.reduceToNat] at ho5; rw [← Ny226.out] at ho5)); have HO228 := za.mk (Kd.R_lower ho5 (zaa sB)); replace HB := za.mk (zh sB hb); clear hb ho5))
   go_loopg [4] k (fun kq v4 w' => ∃ (x3_1 : List Int) (x4_1 : Int), v4 = .int .i64 x4_1 ∧ za (laws_toInt16S.l0 kq l0 x3_1 x4_1 = some r) ∧ za (kq ≤ k) ∧ za (Kd.R (Kd.int .i16) 25 w' w.heap.size (fun _ => True) v227 x3_1) ∧ za (Below w.heap.size w w'))
   case atStart => exact ⟨(y226), (0), (by first | rfl | (simp; done) | (simp [*]; done)), H', ⟨Nat.le_refl _⟩, ⟨uR HO228⟩, ⟨sB⟩⟩
   case round =>
    clear H'
    try clear c2
    try clear c2b0
    try clear c2b1
    try clear p2
    try clear c3
    try clear c3b0
    try clear c3b1
    obtain ⟨x3_1, x4_1, rfl, HA, HK1, HO_3, HB⟩ := hrel
    cases gk with
    | zero => exact absurd HA.out (by simp [laws_toInt16S.l0])
    | succ k1 =>
     have H := HA.out
     clear HA
     simp only [laws_toInt16S.l0] at H
     by_cases c6 : x4_1 < (l0.length : Int)
     ·rw [if_pos c6] at H
      have c6b0 : decide (x4_1 < (l0.length : Int)) = true := decide_eq_true c6
      clear c6
      by_cases c7 : 0 ≤ x4_1
      ·rw [if_pos c7] at H
       have c7b0 : decide (0 ≤ x4_1) = true := decide_eq_true c7
       clear c7
       by_cases c8 : x4_1 < (x3_1.length : Int)
       ·rw [if_pos c8] at H
        have c8b0 : decide (x4_1 < (x3_1.length : Int)) = true := decide_eq_true c8
        clear c8
        obtain ⟨y230, hy230⟩ : ∃ y_ : List Int, y_ = (x3_1.set (x4_1 : Int).toNat (rd l0 x4_1)) := ⟨_, rfl⟩
        replace H : (laws_toInt16S.l0 k1 l0 y230 (wrap64 (x4_1 + 1))) = some r := by first | (rw [hy230]; with_reducible exact H) | (have H2_ := (Option.bind_some _ _).symm.trans H; rw [hy230]; with_reducible exact H2_) | (have H2_ := (Option.bind_some _ _).symm.trans H; with_reducible exact H2_) | with_reducible exact H | (rw [hy230]; exact H) | exact H
        have Ny230 := za.mk hy230
        clear hy230
        have H' := za.mk H
        clear H
        have p229 : 0 ≤ (x4_1 : Int) := of_decide_eq_true (by first | (with_reducible assumption) | assumption)
        have q229 : x4_1 < (l0.length : Int) := of_decide_eq_true (by first | (with_reducible assumption) | assumption)
        obtain ⟨ad229, e229, hx229_0⟩ := Kd.at_int HR0.out x4_1 p229 q229
        cases e229
        replace hx229_0 := (HB.out.cell (World.block_lt_of_cell? w _ hx229_0)).trans hx229_0
        replace p229 := eq_true p229
        replace q229 := eq_true q229
        have p9 : 0 ≤ (x4_1 : Int) := of_decide_eq_true (by first | (with_reducible assumption) | assumption)
        have q9 : (x4_1 : Int) < ((x3_1.length : Int) : Int) := of_decide_eq_true (by first | (with_reducible assumption) | assumption)
        obtain ⟨go9, co9, eo9, gb9, gl9, cl9, HG9⟩ := Kd.R_form HO_3.out (by omega)
        (first | cases eo9 | (injection eo9 with ea_ en_ ec_; (first | subst ea_ | (injection ea_ with ea_; subst ea_)); subst ec_; clear en_))
        have GB9 := za.mk gb9
        have GG9 := za.mk HG9
        clear gb9 gl9 HG9
        obtain ⟨hx9_0, hf9_0⟩ := Kd.R_celln 0 HO_3.out (x4_1 : Int) p9 q9
        replace p9 := eq_true p9
        replace q9 := eq_true q9
        have HP10 := Kd.R_putg HO_3.out (x4_1 : Int) (rd l0 x4_1)
        go_wp2_with (first | ((with_reducible refine zza (t := 25) (p := 20) rfl ?_); refine zya (t := 25) (p := 20) (v := ?vo_w11) (w1 := (wr.setCell ⟨go9, (x4_1 : Int).toNat, none⟩ (.int .i16 (rd l0 x4_1)))) ?hg ?ho ?hn ?hr ?_; (case ho => rfl); (case hg => rfl); (case hn => rfl); (case hr => first | (go_simp; done) | (go_simp; rfl)); intro w11 hw; have hg : wr.grownBy w11 (some go9) := (by rw [hw]; exact HP10.2); have hp_ : Kd.R (Kd.int .i16) 25 w11 w.heap.size (fun _ => True) (.slice (some ⟨go9, 0, none⟩) x3_1.length co9) y230 := (by rw [hw, Ny230.out]; exact HP10.1); clear HP10; replace HO_3 := za.mk hp_; replace HB := za.mk ((by rw [hw]; exact zt (HB.out) GB9.out : Below w.heap.size w w11)); clear hg hw hp_))
        go_roundg k1
        case measure => have := HK1.out; omega
        case rel => exact ⟨(y230), (wrap64 (x4_1 + 1)), (by first | rfl | (simp; done) | (simp [*]; done)), H', ⟨by have := HK1.out; omega⟩, ⟨uR HO_3⟩, ⟨sB⟩⟩
       rw [if_neg c8] at H
       exact absurd H (by simp)
      rw [if_neg c7] at H
      exact absurd H (by simp)
     rw [if_neg c6] at H
     have c6b0 : decide (x4_1 < (l0.length : Int)) = false := decide_eq_false c6
     clear c6
     obtain rfl := Option.some.inj H
     go_wp2
     go_ret
     exact ⟨_, by first | rfl | (simp [zj, zk] <;> rfl) | (simp [*, zj, zk] <;> rfl), by (with_reducible repeat (first | apply Kd.R_alloc | apply Kd.R_drewN | apply Kd.R_drew)); exact HO_3.out, sB⟩
  rw [if_neg c3] at H
  exact absurd H (by simp)
 rw [if_neg c2] at H
 exact absurd H (by simp)

end Go.Proofs.Yteciomagemjjaaa.J
