/- A list of moves turned round. -/
import Derived.Test.YteciomagemjjaaaJx0
import Derived.Test.YteciomagemjjaaaLPrJ
namespace Go.Proofs.Yteciomagemjjaaa.J
open Go.RowKit Go.Proofs.YteciomagemjjaaaW.PrintWords Go.Proofs.YteciomagemjjaaaW.PrintLast Go.Proofs.YteciomagemjjaaaW.PrintMore
attribute [local go_sem] zna zka zra zsa zga zha zla zma   -- for this text's walks alone
set_option linter.unusedVariables false
set_option linter.unusedSimpArgs false
theorem far3 {w : World} {g a b : Nat} {u v x : Value} (h : a + 2 < b) : (((w.setCell ⟨g, a, none⟩ u).setCell ⟨g, a + 1, none⟩ v).setCell ⟨g, a + 2, none⟩ x).cell? ⟨g, b, none⟩ = w.cell? ⟨g, b, none⟩ ∧ (((w.setCell ⟨g, a, none⟩ u).setCell ⟨g, a + 1, none⟩ v).setCell ⟨g, a + 2, none⟩ x).cell? ⟨g, b + 1, none⟩ = w.cell? ⟨g, b + 1, none⟩ ∧ (((w.setCell ⟨g, a, none⟩ u).setCell ⟨g, a + 1, none⟩ v).setCell ⟨g, a + 2, none⟩ x).cell? ⟨g, b + 2, none⟩ = w.cell? ⟨g, b + 2, none⟩ := by
  have n : ∀ i j : Nat, i ≤ 2 → (⟨g, b + j, none⟩ : Addr) ≠ ⟨g, a + i, none⟩ := fun i j hi e => by have : b + j = a + i := congrArg Addr.off e; omega
  have k : ∀ j : Nat, (((w.setCell ⟨g, a, none⟩ u).setCell ⟨g, a + 1, none⟩ v).setCell ⟨g, a + 2, none⟩ x).cell? ⟨g, b + j, none⟩ = w.cell? ⟨g, b + j, none⟩ := fun j => by
    rw [World.cell?_setCell_other (h := Ne.symm (n 2 j (by omega))), World.cell?_setCell_other (h := Ne.symm (n 1 j (by omega))), World.cell?_setCell_other (h := Ne.symm (show (⟨g, b + j, none⟩ : Addr) ≠ ⟨g, a, none⟩ from n 0 j (by omega)))]
  exact ⟨k 0, k 1, k 2⟩
/-! ### slices_ReverseM: function 100 -/
def slices_ReverseM.l0 : Nat → List (S80) → Int → Int → Option ((List (S80)))
 | 0, _, _, _ => none
 | k + 1, x0, x2, x3 => if x2 < x3 then (if 0 ≤ x3 then (if x3 < (x0.length : Int) then (if 0 ≤ x2 then (if x2 < (x0.length : Int) then (slices_ReverseM.l0 k ((x0.set (x2 : Int).toNat (⟨(zh x0 x3).f0, (zh x0 x3).f1, (zh x0 x3).f2⟩ : S80)).set (x3 : Int).toNat (⟨(zh x0 x2).f0, (zh x0 x2).f1, (zh x0 x2).f2⟩ : S80)) (wrap64 (x2 + 1)) (wrap64 (x3 - 1))) else (none)) else (none)) else (none)) else (none)) else (some x0)
def slices_ReverseM.f (k : Nat) (l0 : List (S80)) : Option ((List (S80))) := slices_ReverseM.l0 k l0 0 (wrap64 ((l0.length : Int) - 1))
def slices_ReverseM.T3 : Bool × List (List Nat × List Nat) := (true, [([], []), ([], []), ([], []), ([], []), ([], []), ([], []), ([4, 5], [4, 5]), ([6], [6]), ([], []), ([], []), ([8, 9], [8, 9]), ([10], [10]), ([0, 1, 0, 1, 4, 5, 6, 7, 11], [0, 1]), ([12, 7, 0, 1, 4, 5, 6, 7, 11], [7, 12]), ([2, 3, 0, 1, 2, 3, 4, 5, 6, 7, 8, 9, 10, 11, 12, 13], [2, 3]), ([14, 11, 13, 0, 1, 2, 3, 4, 5, 6, 7, 8, 9, 10, 11, 12, 13], [11, 14])])
def slices_ReverseM.B3 : List Nat := [0, 0, 0, 0, 0, 0, 48, 112, 0, 0, 768, 1792, 4083, 8179, 16383, 32767]
theorem slices_ReverseM.tab3 : rtab .any (zme Try.f100 3) = slices_ReverseM.T3 := by kernel_rfl
theorem slices_ReverseM.bits3 : zvb slices_ReverseM.T3.2 slices_ReverseM.B3 = true := by kernel_rfl
set_option maxHeartbeats 8000000 in
set_option maxRecDepth 100000 in
theorem slices_ReverseM.calls (k : Nat) (P0_ : Nat → Prop) (u9000_ : Value) (l0 : List (S80)) (r : List (S80)) (w0 w : World) (hB : Below w0.heap.size w0 w) (ho0 : Kd.R k80 80 w w0.heap.size P0_ u9000_ l0) (h : slices_ReverseM.f k l0 = some r) :
  Calls Try.prog 100 #[u9000_] w fun e w' => e = .returned (.tuple #[]) ∧ Kd.R k80 80 w' w0.heap.size (fun k_ => (P0_ k_ ∨ w.heap.size ≤ k_)) u9000_ r ∧ Below w0.heap.size w0 w' ∧ Kept w w' (fun k_ => P0_ k_) := by
 have hu80 := Try.underlying80
 have HO0 := za.mk (show Kd.R k80 80 w w0.heap.size (fun k_ => (P0_ k_ ∨ w.heap.size ≤ k_)) u9000_ l0 from Kd.R_mono ho0 (fun k_ hk => (.inl hk)))
 have HK := za.mk (Kept.refl w (fun k_ => P0_ k_))
 have HW0 := za.mk hB.size
 have HB := za.mk hB
 clear hB
 have H : (slices_ReverseM.l0 k l0 0 (wrap64 ((l0.length : Int) - 1))) = some r := h
 clear h
 have H' := za.mk H
 clear H
 obtain ⟨Ao2, co2, eo2⟩ := Kd.R_slice HO0.out
 subst eo2
 go_enter Try.func100, Try.ntmps100
 go_wp2
 go_loopg [2, 3] k (fun kq v2 v3 w' => ∃ (x0_1 : List (S80)) (x2_1 : Int) (x3_1 : Int), v2 = .int .i64 x2_1 ∧ v3 = .int .i64 x3_1 ∧ za (slices_ReverseM.l0 kq x0_1 x2_1 x3_1 = some r) ∧ za (kq ≤ k) ∧ za (Kd.R k80 80 w' w0.heap.size (fun k_ => (P0_ k_ ∨ w.heap.size ≤ k_)) (.slice Ao2 l0.length co2) x0_1) ∧ za (Kept w w' (fun k_ => P0_ k_)) ∧ za (Below w0.heap.size w0 w'))
 case atStart => exact ⟨(l0), (0), (wrap64 ((l0.length : Int) - 1)), (by first | rfl | (simp; done) | (simp [*]; done)), (by first | rfl | (simp; done) | (simp [*]; done)), H', ⟨Nat.le_refl _⟩, ⟨uR HO0⟩, ⟨by repeat (first | (with_reducible first | exact HK.out | apply Kept.alloc | apply Kept.drewN | apply Kept.drew) | exact HK.out)⟩, ⟨sB⟩⟩
 case round =>
  clear H'
  try clear c1
  try clear p2
  obtain ⟨x0_1, x2_1, x3_1, rfl, rfl, HA, HK1, HO_0, HK, HB⟩ := hrel
  have hl0_1 := (Kd.R_reads' HO_0.out).1
  rw [hl0_1] at HO_0
  (try simp only [hl0_1])
  cases gk with
  | zero => exact absurd HA.out (by simp [slices_ReverseM.l0])
  | succ k1 =>
   have H := HA.out
   clear HA
   simp only [slices_ReverseM.l0] at H
   by_cases c3 : x2_1 < x3_1
   ·rw [if_pos c3] at H
    have c3b0 : decide (x2_1 < x3_1) = true := decide_eq_true c3
    clear c3
    by_cases c4 : 0 ≤ x3_1
    ·rw [if_pos c4] at H
     have c4b0 : decide (0 ≤ x3_1) = true := decide_eq_true c4
     clear c4
     by_cases c5 : x3_1 < (x0_1.length : Int)
     ·rw [if_pos c5] at H
      have c5b0 : decide (x3_1 < (x0_1.length : Int)) = true := decide_eq_true c5
      clear c5
      by_cases c6 : 0 ≤ x2_1
      ·rw [if_pos c6] at H
       have c6b0 : decide (0 ≤ x2_1) = true := decide_eq_true c6
       clear c6
       by_cases c7 : x2_1 < (x0_1.length : Int)
       ·rw [if_pos c7] at H
        have c7b0 : decide (x2_1 < (x0_1.length : Int)) = true := decide_eq_true c7
        clear c7
        obtain ⟨y156, hy156⟩ : ∃ y_ : List (S80), y_ = (x0_1.set (x2_1 : Int).toNat (⟨(zh x0_1 x3_1).f0, (zh x0_1 x3_1).f1, (zh x0_1 x3_1).f2⟩ : S80)) := ⟨_, rfl⟩
        replace H : (slices_ReverseM.l0 k1 (y156.set (x3_1 : Int).toNat (⟨(zh x0_1 x2_1).f0, (zh x0_1 x2_1).f1, (zh x0_1 x2_1).f2⟩ : S80)) (wrap64 (x2_1 + 1)) (wrap64 (x3_1 - 1))) = some r := by first | (rw [hy156]; with_reducible exact H) | (have H2_ := (Option.bind_some _ _).symm.trans H; rw [hy156]; with_reducible exact H2_) | (have H2_ := (Option.bind_some _ _).symm.trans H; with_reducible exact H2_) | with_reducible exact H | (rw [hy156]; exact H) | exact H
        have Ny156 := za.mk hy156
        clear hy156
        obtain ⟨y157, hy157⟩ : ∃ y_ : List (S80), y_ = (y156.set (x3_1 : Int).toNat (⟨(zh x0_1 x2_1).f0, (zh x0_1 x2_1).f1, (zh x0_1 x2_1).f2⟩ : S80)) := ⟨_, rfl⟩
        replace H : (slices_ReverseM.l0 k1 y157 (wrap64 (x2_1 + 1)) (wrap64 (x3_1 - 1))) = some r := by first | (rw [hy157]; with_reducible exact H) | (have H2_ := (Option.bind_some _ _).symm.trans H; rw [hy157]; with_reducible exact H2_) | (have H2_ := (Option.bind_some _ _).symm.trans H; with_reducible exact H2_) | with_reducible exact H | (rw [hy157]; exact H) | exact H
        have Ny157 := za.mk hy157
        clear hy157
        have H' := za.mk H
        clear H
        try go_wp2
        have n0_ := za.mk (Kd.R_drew HO_0.out)
        have n1_ := za.mk (Kept.drew HK.out)
        have n2_ := za.mk (zv HB.out)
        clear HO_0
        clear HK
        clear HB
        have HO_0 := n0_
        have HK := n1_
        have HB := n2_
        clear n0_ n1_ n2_
        have p154 : 0 ≤ (x3_1 : Int) := of_decide_eq_true (by first | (with_reducible assumption) | assumption)
        have q154 : x3_1 < (x0_1.length : Int) := of_decide_eq_true (by first | (with_reducible assumption) | assumption)
        obtain ⟨ad154, e154, hx154_0, hx154_1, hx154_2⟩ := zsb (Kd.R_reads' HO_0.out).2.2 x3_1 p154 q154
        cases e154
        replace p154 := eq_true p154
        replace q154 := eq_true q154
        have p155 : 0 ≤ (x2_1 : Int) := of_decide_eq_true (by first | (with_reducible assumption) | assumption)
        have q155 : x2_1 < (x0_1.length : Int) := of_decide_eq_true (by first | (with_reducible assumption) | assumption)
        obtain ⟨ad155, e155, hx155_0, hx155_1, hx155_2⟩ := zsb (Kd.R_reads' HO_0.out).2.2 x2_1 p155 q155
        obtain rfl : ad154 = ad155 := (by injection e155)
        replace p155 := eq_true p155
        replace q155 := eq_true q155
        have p8 : 0 ≤ (x2_1 : Int) := of_decide_eq_true (by first | (with_reducible assumption) | assumption)
        have q8 : (x2_1 : Int) < ((x0_1.length : Int) : Int) := of_decide_eq_true (by first | (with_reducible assumption) | assumption)
        obtain ⟨go8, co8, eo8, gb8, gl8, cl8, HG8⟩ := Kd.R_form HO_0.out (by omega)
        (first | cases eo8 | (injection eo8 with ea_ en_ ec_; (first | subst ea_ | (injection ea_ with ea_; subst ea_)); subst ec_; clear en_))
        have GB8 := za.mk gb8
        have GG8 := za.mk HG8
        clear gb8 gl8 HG8
        have HMgo8 := za.mk (show (P0_ go8 ∨ w.heap.size ≤ go8) from (HO_0.out.1 _ rfl))
        (first | simp only [zeb] at hx154_0 | skip)
        (first | simp only [zeb] at hx154_1 | skip)
        (first | simp only [zeb] at hx154_2 | skip)
        (first | simp only [zeb] at hx155_0 | skip)
        (first | simp only [zeb] at hx155_1 | skip)
        (first | simp only [zeb] at hx155_2 | skip)
        obtain ⟨ce8, hcl8, hM8, hcc8, hfr8⟩ := Kd.R_elem HO_0.out z80 (x2_1 : Int) p8 q8
        obtain rfl := zya hM8
        have hx8_0 : World.cell? _ ⟨go8, (x2_1 : Int).toNat * 3, none⟩ = some (.int .i8 ((zh x0_1 x2_1).f0)) := hcc8 0 _ rfl
        have hx8_1 : World.cell? _ ⟨go8, (x2_1 : Int).toNat * 3 + 1, none⟩ = some (.int .i8 ((zh x0_1 x2_1).f1)) := hcc8 1 _ rfl
        have hx8_2 : World.cell? _ ⟨go8, (x2_1 : Int).toNat * 3 + 2, none⟩ = some (.int .i8 ((zh x0_1 x2_1).f2)) := hcc8 2 _ rfl
        have hf8_0 : World.frozen? _ ⟨go8, (x2_1 : Int).toNat * 3, none⟩ = false := hfr8 0
        have hf8_1 : World.frozen? _ ⟨go8, (x2_1 : Int).toNat * 3 + 1, none⟩ = false := hfr8 1
        have hf8_2 : World.frozen? _ ⟨go8, (x2_1 : Int).toNat * 3 + 2, none⟩ = false := hfr8 2
        clear hcl8 hcc8 hfr8 hM8
        replace p8 := eq_true p8
        replace q8 := eq_true q8
        obtain ⟨ce11, hcl11, hM11, hcc11, hfr11⟩ := Kd.R_elem HO_0.out z80 (x2_1 : Int) (of_decide_eq_true (by first | (with_reducible assumption) | assumption)) (by have h_ : (x2_1 : Int) < ((x0_1.length : Int) : Int) := of_decide_eq_true (by first | (with_reducible assumption) | assumption); first | exact h_ | (have e_ := (Kd.R_reads' HO_0.out).1; omega) | simpa using h_)
        obtain rfl := zya hM11
        have HP11 := (Kd.R_seg HO_0.out (x2_1 : Int) (of_decide_eq_true (by first | (with_reducible assumption) | assumption)) (by have h_ : (x2_1 : Int) < ((x0_1.length : Int) : Int) := of_decide_eq_true (by first | (with_reducible assumption) | assumption); first | exact h_ | (have e_ := (Kd.R_reads' HO_0.out).1; omega) | simpa using h_) (seg := [.int .i8 ((zh x0_1 x3_1).f0), .int .i8 ((zh x0_1 x3_1).f1), .int .i8 ((zh x0_1 x3_1).f2)]) (j := 0) hcl11 hcc11 (show 3 ≤ 3 from by decide) (x' := (⟨(zh x0_1 x3_1).f0, (zh x0_1 x3_1).f1, (zh x0_1 x3_1).f2⟩ : S80)) (zmb _ _ _ (⟨(zh x0_1 x3_1).f0, (zh x0_1 x3_1).f1, (zh x0_1 x3_1).f2⟩ : S80) ) (fun _ hk => hk)).1
        rw [← Ny156.out] at HP11
        have HQ11 := za.mk HP11
        clear hcl11 hcc11 hfr11 hM11 HP11
        have p9 : 0 ≤ (x3_1 : Int) := of_decide_eq_true (by first | (with_reducible assumption) | assumption)
        have q9 : (x3_1 : Int) < ((x0_1.length : Int) : Int) := of_decide_eq_true (by first | (with_reducible assumption) | assumption)
        obtain ⟨ce9, hcl9, hM9, hcc9, hfr9⟩ := Kd.R_elem HQ11.out z80 (x3_1 : Int) p9 q9
        obtain rfl := zya hM9
        have hx9_0 : World.cell? _ ⟨go8, (x3_1 : Int).toNat * 3, none⟩ = some (.int .i8 ((zh y156 x3_1).f0)) := hcc9 0 _ rfl
        have hx9_1 : World.cell? _ ⟨go8, (x3_1 : Int).toNat * 3 + 1, none⟩ = some (.int .i8 ((zh y156 x3_1).f1)) := hcc9 1 _ rfl
        have hx9_2 : World.cell? _ ⟨go8, (x3_1 : Int).toNat * 3 + 2, none⟩ = some (.int .i8 ((zh y156 x3_1).f2)) := hcc9 2 _ rfl
        have hf9_0 : World.frozen? _ ⟨go8, (x3_1 : Int).toNat * 3, none⟩ = false := hfr9 0
        have hf9_1 : World.frozen? _ ⟨go8, (x3_1 : Int).toNat * 3 + 1, none⟩ = false := hfr9 1
        have hf9_2 : World.frozen? _ ⟨go8, (x3_1 : Int).toNat * 3 + 2, none⟩ = false := hfr9 2
        clear hcl9 hcc9 hfr9 hM9
        replace p9 := eq_true p9
        replace q9 := eq_true q9
        obtain ⟨ce12, hcl12, hM12, hcc12, hfr12⟩ := Kd.R_elem HQ11.out z80 (x3_1 : Int) (of_decide_eq_true (by first | (with_reducible assumption) | assumption)) (by have h_ : (x3_1 : Int) < ((x0_1.length : Int) : Int) := of_decide_eq_true (by first | (with_reducible assumption) | assumption); first | exact h_ | (have e_ := (Kd.R_reads' HO_0.out).1; omega) | simpa using h_)
        obtain rfl := zya hM12
        have HP12 := (Kd.R_seg HQ11.out (x3_1 : Int) (of_decide_eq_true (by first | (with_reducible assumption) | assumption)) (by have h_ : (x3_1 : Int) < ((x0_1.length : Int) : Int) := of_decide_eq_true (by first | (with_reducible assumption) | assumption); first | exact h_ | (have e_ := (Kd.R_reads' HO_0.out).1; omega) | simpa using h_) (seg := [.int .i8 ((zh x0_1 x2_1).f0), .int .i8 ((zh x0_1 x2_1).f1), .int .i8 ((zh x0_1 x2_1).f2)]) (j := 0) hcl12 hcc12 (show 3 ≤ 3 from by decide) (x' := (⟨(zh x0_1 x2_1).f0, (zh x0_1 x2_1).f1, (zh x0_1 x2_1).f2⟩ : S80)) (zmb _ _ _ (⟨(zh x0_1 x2_1).f0, (zh x0_1 x2_1).f1, (zh x0_1 x2_1).f2⟩ : S80) ) (fun _ hk => hk)).1
        rw [← Ny157.out] at HP12
        have HQ12 := za.mk HP12
        clear hcl12 hcc12 hfr12 hM12 HP12
        refine zic (n := 16) (S := fun w' => w'.cell? ⟨go8, ((x3_1).toNat * 3), none⟩ = some (.int .i8 ((zh x0_1 x3_1).f0)) ∧ w'.cell? ⟨go8, ((x3_1).toNat * 3) + 1, none⟩ = some (.int .i8 ((zh x0_1 x3_1).f1)) ∧ w'.cell? ⟨go8, ((x3_1).toNat * 3) + 2, none⟩ = some (.int .i8 ((zh x0_1 x3_1).f2)) ∧ w'.cell? ⟨go8, ((x2_1).toNat * 3), none⟩ = some (.int .i8 ((zh x0_1 x2_1).f0)) ∧ w'.cell? ⟨go8, ((x2_1).toNat * 3) + 1, none⟩ = some (.int .i8 ((zh x0_1 x2_1).f1)) ∧ w'.cell? ⟨go8, ((x2_1).toNat * 3) + 2, none⟩ = some (.int .i8 ((zh x0_1 x2_1).f2))) (ds := [13, 15]) #[false, false, false, false, false, false, false, false, false, false, false, false, false, false, false, false] (by kernel_rfl) rfl rfl ⟨hx154_0, hx154_1, hx154_2, hx155_0, hx155_1, hx155_2⟩ (fun hHeld => ?_); refine zab slices_ReverseM.tab3 slices_ReverseM.bits3 (fun HT_ HW_ => ?_)
        generalize wr.drew = w10 at HO_0 HK HB GG8 HQ11 HQ12 hf8_0 hf8_1 hf8_2 hf9_0 hf9_1 hf9_2 hx154_0 hx154_1 hx154_2 hx155_0 hx155_1 hx155_2 hx8_0 hx8_1 hx8_2 hx9_0 hx9_1 hx9_2 hHeld ⊢
        refine zea (i := 0) (N := some 14) (v := ?_) (a' := ?_) #[true, false, false, false, false, false, false, false, false, false, false, false, false, false, false, false] rfl rfl (zca HT_.out (by kernel_rfl)) (fun _ _ _ h => h) (Or.inl ⟨by rfl, ?_⟩) ?_ ?_
        rotate_left
        ·intro w'
         go_simp
         with_reducible rfl
        rotate_left
        ·simp only [Act.put, List.setIfInBounds_toArray, List.set_cons_zero, List.set_cons_succ, zw, zx]
         rfl
        refine zea (i := 1) (N := some 15) (v := ?_) (a' := ?_) #[true, true, false, false, false, false, false, false, false, false, false, false, false, false, false, false] rfl rfl (zca HT_.out (by kernel_rfl)) (fun _ _ _ h => h) (Or.inl ⟨by rfl, ?_⟩) ?_ ?_
        rotate_left
        ·intro w'
         go_simp
         with_reducible rfl
        rotate_left
        ·simp only [Act.put, List.setIfInBounds_toArray, List.set_cons_zero, List.set_cons_succ, zw, zx]
         rfl
        refine zea (i := 2) (N := some 16) (v := ?_) (a' := ?_) #[true, true, true, false, false, false, false, false, false, false, false, false, false, false, false, false] rfl rfl (zca HT_.out (by kernel_rfl)) (fun _ _ _ h => h) (Or.inl ⟨by rfl, ?_⟩) ?_ ?_
        rotate_left
        ·intro w'
         go_simp
         with_reducible rfl
        rotate_left
        ·simp only [Act.put, List.setIfInBounds_toArray, List.set_cons_zero, List.set_cons_succ, zw, zx]
         rfl
        refine zea (i := 3) (N := some 17) (v := ?_) (a' := ?_) #[true, true, true, true, false, false, false, false, false, false, false, false, false, false, false, false] rfl rfl (zca HT_.out (by kernel_rfl)) (fun _ _ _ h => h) (Or.inl ⟨by rfl, ?_⟩) ?_ ?_
        rotate_left
        ·intro w'
         go_simp
         with_reducible rfl
        rotate_left
        ·simp only [Act.put, List.setIfInBounds_toArray, List.set_cons_zero, List.set_cons_succ, zw, zx]
         rfl
        refine zea (i := 4) (N := some 18) (v := ?_) (a' := ?_) #[true, true, true, true, true, false, false, false, false, false, false, false, false, false, false, false] rfl rfl (zca HT_.out (by kernel_rfl)) (fun _ _ _ h => h) (Or.inl ⟨by rfl, ?_⟩) ?_ ?_
        rotate_left
        ·intro w'
         go_simp
         with_reducible rfl
        rotate_left
        ·simp only [Act.put, List.setIfInBounds_toArray, List.set_cons_zero, List.set_cons_succ, zw, zx]
         rfl
        refine zea (i := 5) (N := some 19) (v := ?_) (a' := ?_) #[true, true, true, true, true, true, false, false, false, false, false, false, false, false, false, false] rfl rfl (zca HT_.out (by kernel_rfl)) (fun _ _ _ h => h) (Or.inl ⟨by rfl, ?_⟩) ?_ ?_
        rotate_left
        ·intro w'
         go_simp
         with_reducible rfl
        rotate_left
        ·simp only [Act.put, List.setIfInBounds_toArray, List.set_cons_zero, List.set_cons_succ, zw, zx]
         rfl
        refine zea (i := 6) (N := some 20) (v := ?_) (a' := ?_) #[true, true, true, true, true, true, true, false, false, false, false, false, false, false, false, false] rfl rfl (zca HT_.out (by kernel_rfl)) (fun _ _ _ h => h) (Or.inl ⟨by rfl, ?_⟩) ?_ ?_
        rotate_left
        ·intro w'
         go_simp
         with_reducible rfl
        rotate_left
        ·simp only [Act.put, List.setIfInBounds_toArray, List.set_cons_zero, List.set_cons_succ, zw, zx]
         rfl
        refine zea (i := 8) (N := some 22) (v := ?_) (a' := ?_) #[true, true, true, true, true, true, true, false, true, false, false, false, false, false, false, false] rfl rfl (zca HT_.out (by kernel_rfl)) (fun _ _ _ h => h) (Or.inl ⟨by rfl, ?_⟩) ?_ ?_
        rotate_left
        ·intro w'
         go_simp
         with_reducible rfl
        rotate_left
        ·simp only [Act.put, List.setIfInBounds_toArray, List.set_cons_zero, List.set_cons_succ, zw, zx]
         rfl
        refine zea (i := 9) (N := some 23) (v := ?_) (a' := ?_) #[true, true, true, true, true, true, true, false, true, true, false, false, false, false, false, false] rfl rfl (zca HT_.out (by kernel_rfl)) (fun _ _ _ h => h) (Or.inl ⟨by rfl, ?_⟩) ?_ ?_
        rotate_left
        ·intro w'
         go_simp
         with_reducible rfl
        rotate_left
        ·simp only [Act.put, List.setIfInBounds_toArray, List.set_cons_zero, List.set_cons_succ, zw, zx]
         rfl
        refine zea (i := 10) (N := some 24) (v := ?_) (a' := ?_) #[true, true, true, true, true, true, true, false, true, true, true, false, false, false, false, false] rfl rfl (zca HT_.out (by kernel_rfl)) (fun _ _ _ h => h) (Or.inl ⟨by rfl, ?_⟩) ?_ ?_
        rotate_left
        ·intro w'
         go_simp
         with_reducible rfl
        rotate_left
        ·simp only [Act.put, List.setIfInBounds_toArray, List.set_cons_zero, List.set_cons_succ, zw, zx]
         rfl
        refine take_ (i := 7) (N := some 21) (v := ?_) (a' := ?_) #[true, true, true, true, true, true, true, true, true, true, true, false, false, false, false, false] rfl rfl (zua HT_.out HW_.out (by kernel_rfl)) (fun _ _ _ h => h) (Or.inl ⟨by rfl, ?_⟩) hHeld ?_ ?_
        rotate_left
        ·rintro w' ⟨s0, s1, s2, s3, s4, s5⟩
         go_simp
         with_reducible rfl
        rotate_left
        ·simp only [Act.put, List.setIfInBounds_toArray, List.set_cons_zero, List.set_cons_succ, zw, zx]
         rfl
        refine take_ (i := 11) (N := some 25) (v := ?_) (a' := ?_) #[true, true, true, true, true, true, true, true, true, true, true, true, false, false, false, false] rfl rfl (zua HT_.out HW_.out (by kernel_rfl)) (fun _ _ _ h => h) (Or.inl ⟨by rfl, ?_⟩) hHeld ?_ ?_
        rotate_left
        ·rintro w' ⟨s0, s1, s2, s3, s4, s5⟩
         go_simp
         with_reducible rfl
        rotate_left
        ·simp only [Act.put, List.setIfInBounds_toArray, List.set_cons_zero, List.set_cons_succ, zw, zx]
         rfl
        refine zea (i := 12) (N := some 26) (v := ?_) (a' := ?_) #[true, true, true, true, true, true, true, true, true, true, true, true, true, false, false, false] rfl rfl (zca HT_.out (by kernel_rfl)) (fun _ _ _ h => h) (Or.inl ⟨by rfl, ?_⟩) ?_ ?_
        rotate_left
        ·intro w'
         go_simp
         with_reducible rfl
        rotate_left
        ·simp only [Act.put, List.setIfInBounds_toArray, List.set_cons_zero, List.set_cons_succ, zw, zx]
         rfl
        refine last_ (i := 13) (N := none) #[true, true, true, true, true, true, true, true, true, true, true, true, true, true, false, false] rfl rfl (zjb HT_.out (by kernel_rfl)) (by decide) (fun K hK => ?_)
        refine skip_ (w1 := ?_) (by rfl) rfl ?_ ?_
        rotate_left
        ·go_simp
         rfl
        refine hK.out _ _ ?_
        clear hK K
        refine zea (i := 14) (N := some 27) (v := ?_) (a' := ?_) #[true, true, true, true, true, true, true, true, true, true, true, true, true, true, true, false] rfl rfl (zca HT_.out (by kernel_rfl)) (fun _ _ _ h => h) (Or.inl ⟨by rfl, ?_⟩) ?_ ?_
        rotate_left
        ·intro w'
         go_simp
         with_reducible rfl
        rotate_left
        ·simp only [Act.put, List.setIfInBounds_toArray, List.set_cons_zero, List.set_cons_succ, zw, zx]
         rfl
        refine last_ (i := 15) (N := none) #[true, true, true, true, true, true, true, true, true, true, true, true, true, true, true, true] rfl rfl (zjb HT_.out (by kernel_rfl)) (by decide) (fun K hK => ?_)
        refine skip_ (w1 := ?_) (by rfl) rfl ?_ ?_
        rotate_left
        ·obtain ⟨f0_, f1_, f2_⟩ := far3 (w := w10) (g := go8) (a := x2_1.toNat * 3) (b := x3_1.toNat * 3) (u := .int .i8 (zh x0_1 x3_1).f0) (v := .int .i8 (zh x0_1 x3_1).f1) (x := .int .i8 (zh x0_1 x3_1).f2) (by have h1 : x2_1 < x3_1 := of_decide_eq_true (by assumption); have h2 : 0 ≤ x2_1 := of_decide_eq_true (by assumption); omega)
         rw [World.frozen?_setCells] at hf9_0 hf9_1 hf9_2
         go_simp
         rfl
        refine hK.out _ _ ?_
        clear hK K
        refine zxc (zbc HT_.out (by kernel_rfl)) ?_
        try go_wp2
        (try simp only [← hl0_1])
        go_roundg k1
        case measure => have := HK1.out; omega
        case rel => exact ⟨(y157), (wrap64 (x2_1 + 1)), (wrap64 (x3_1 - 1)), (by first | rfl | (simp; done) | (simp [*]; done)), (by first | rfl | (simp; done) | (simp [*]; done)), H', ⟨by have := HK1.out; omega⟩, ⟨by (try simp only [hl0_1]); (with_reducible repeat (first | apply Kd.R_alloc | apply Kd.R_drewN | apply Kd.R_drew)); exact HQ12.out⟩, ⟨by repeat (first | (with_reducible first | exact HK.out | apply Kept.alloc | apply Kept.drewN | apply Kept.drew | refine Kept.setCell ?_ HMgo8.out _ | refine Kept.setCell ?_ HMgo8.out _ | refine Kept.setCell ?_ HMgo8.out _ | refine Kept.setCell ?_ HMgo8.out _ | refine Kept.setCell ?_ HMgo8.out _ | refine Kept.setCell ?_ HMgo8.out _) | exact HK.out)⟩, ⟨by repeat (first | (with_reducible first | exact HB.out | apply zy | apply zm | apply zv | refine zt ?_ GB8.out | refine zt ?_ GB8.out | refine zt ?_ GB8.out | refine zt ?_ GB8.out | refine zt ?_ GB8.out | refine zt ?_ GB8.out) | exact HB.out)⟩⟩
       rw [if_neg c7] at H
       exact absurd H (by simp)
      rw [if_neg c6] at H
      exact absurd H (by simp)
     rw [if_neg c5] at H
     exact absurd H (by simp)
    rw [if_neg c4] at H
    exact absurd H (by simp)
   rw [if_neg c3] at H
   have c3b0 : decide (x2_1 < x3_1) = false := decide_eq_false c3
   clear c3
   obtain rfl := Option.some.inj H
   go_wp2
   first | go_end0 | ((try simp only [Exit.inBlock, Exit.then]); refine bodyPost_ret (results_none rfl _ _ _) rfl ?_)
   exact ⟨by first | rfl | (simp [zj, zk] <;> rfl) | (simp [*, zj, zk] <;> rfl), (by first | exact (uR HO_0) | (simp only [hl0_1]; exact (uR HO_0))), by repeat (first | (with_reducible first | exact HB.out | apply zy | apply zm | apply zv) | exact HB.out), by repeat (first | (with_reducible first | exact HK.out | apply Kept.alloc | apply Kept.drewN | apply Kept.drew) | exact HK.out)⟩
end Go.Proofs.Yteciomagemjjaaa.J
