/- The way back in the reference's tables. -/
import Derived.Test.YteciomagemjjaaaLFindJ
import Derived.Test.YteciomagemjjaaaLPrJ
namespace Go.Proofs.Yteciomagemjjaaa.J
open Go.RowKit Go.Proofs.YteciomagemjjaaaW.PrintWords Go.Proofs.YteciomagemjjaaaW.PrintLast Go.Proofs.YteciomagemjjaaaW.PrintMore
attribute [local go_sem] zna zka zra zsa zga zha zla zma   -- for this text's walks alone
set_option linter.unusedVariables false
set_option linter.unusedSimpArgs false
/-! ### spec_l02Way: function 67 -/
def spec_l02Way.l0 : Nat → List Int → Int → List (S80) → List Int → List (S80) → Option ((List (S80)))
 | 0, _, _, _, _, _ => none
 | k + 1, x0, x1, x2, x3, x5 => if 0 ≤ x1 then (if x1 < (x0.length : Int) then (if (rd x0 x1) > 0 then (if x1 < (x2.length : Int) then ((some (([(⟨(zh x2 x1).f0, (zh x2 x1).f1, (zh x2 x1).f2⟩ : S80)] : List (S80)) : List (S80))).bind fun y227 => (if y227.length + x5.length < 46912496118442 then (if x1 < (x3.length : Int) then (spec_l02Way.l0 k x0 (rd x3 x1) x2 x3 (y227 ++ x5)) else (none)) else (none))) else (none)) else (some x5)) else (none)) else (none)
def spec_l02Way.f (k : Nat) (l0 : List Int) (a1 : Int) (l2 : List (S80)) (l3 : List Int) : Option ((List (S80))) := spec_l02Way.l0 k l0 a1 l2 l3 (([] : List (S80)))
set_option maxHeartbeats 8000000 in
set_option maxRecDepth 100000 in
theorem spec_l02Way.calls (k : Nat) (g : Nat) (vO : Value) (A0 : Option Addr) (c0 : Nat) (l0 : List Int) (a1 : Int) (A2 : Option Addr) (c2 : Nat) (l2 : List (S80)) (A3 : Option Addr) (c3 : Nat) (l3 : List Int) (r : List (S80)) (w : World) (hbk : w.heap[g]? = some (.cells #[.slice A0 l0.length c0, .slice A3 l3.length c3, .slice A2 l2.length c2, vO] 87 (0, 0))) (hr0 : Kd.C (Kd.int .i16) w A0 l0.length l0) (hc0 : l0.length ≤ c0) (hr2 : Kd.C k80 w A2 l2.length l2) (hc2 : l2.length ≤ c2) (hr3 : Kd.C (Kd.int .i64) w A3 l3.length l3) (hc3 : l3.length ≤ c3) (h : spec_l02Way.f k l0 a1 l2 l3 = some r) :
  Calls Try.prog 67 #[.pointer (some ⟨g, 0, none⟩), .int .i64 a1] w fun e w' => ∃ v0_ : Value, e = .returned (v0_) ∧ Kd.R k80 80 w' w.heap.size (fun _ => True) v0_ r ∧ Below w.heap.size w w' := by
 have hu80 := Try.underlying80
 have HR0 := za.mk hr0
 have HC0 := za.mk hc0
 clear hr0 hc0
 have HR2 := za.mk hr2
 have HC2 := za.mk hc2
 clear hr2 hc2
 have HR3 := za.mk hr3
 have HC3 := za.mk hc3
 clear hr3 hc3
 have HZ := za.mk hbk
 clear hbk
 have HB := za.mk (Below.refl w.heap.size w)
 have H : (spec_l02Way.l0 k l0 a1 l2 l3 (([] : List (S80)))) = some r := h
 clear h
 obtain ⟨y222, hy222⟩ : ∃ y_ : List (S80), y_ = (([] : List (S80))) := ⟨_, rfl⟩
 replace H : (spec_l02Way.l0 k l0 a1 l2 l3 y222) = some r := by first | (rw [hy222]; with_reducible exact H) | (have H2_ := (Option.bind_some _ _).symm.trans H; rw [hy222]; with_reducible exact H2_) | (have H2_ := (Option.bind_some _ _).symm.trans H; with_reducible exact H2_) | with_reducible exact H | (rw [hy222]; exact H) | exact H
 have Ny222 := za.mk hy222
 clear hy222
 have H' := za.mk H
 clear H
 go_enter Try.func67, Try.ntmps67
 go_wp2_with (first | ((with_reducible refine zu (N := 6) rfl ?_); refine Kd.R_lit k80 _ 80 ?hg (N := 6) ?hd (xs := ([] : List (S80))) (inner := []) (ok := fun _ => True) (okp := fun _ => True) ?hr ?hp (fun _ hk => hk) trivial (Below.refl _ _) (Nat.le_refl _) (by simp) ?_; (case hd => rfl); (case hg => rfl); (case hr => first | (go_simp; done) | (go_simp; rfl)); (case hp => exact (Reps.none _ _)); intro v223 w5 ho6 hb hg_ hnew_; clear hg_ hnew_; (first | rw [← Ny222.out] at ho6 | (simp only [Int.reduceToNat] at ho6; rw [← Ny222.out] at ho6)); have HO224 := za.mk (Kd.R_lower ho6 (zz sB)); replace HB := za.mk (zi sB hb); clear hb ho6))
 go_loopg [1, 5] k (fun kq v1 v5 w' => ∃ (x1_1 : Int) (x5_1 : List (S80)), v1 = .int .i64 x1_1 ∧ za (spec_l02Way.l0 kq l0 x1_1 l2 l3 x5_1 = some r) ∧ za (kq ≤ k) ∧ za (Kd.R k80 80 w' w.heap.size (fun _ => True) v5 x5_1) ∧ za (Below w.heap.size w w'))
 case atStart => exact ⟨(a1), (y222), (by first | rfl | (simp; done) | (simp [*]; done)), H', ⟨Nat.le_refl _⟩, ⟨uR HO224⟩, ⟨sB⟩⟩
 case round =>
  clear H'
  try clear c2
  try clear p2
  try clear c3
  try clear c6
  obtain ⟨x1_1, x5_1, rfl, HA, HK1, HO_5, HB⟩ := hrel
  cases gk with
  | zero => exact absurd HA.out (by simp [spec_l02Way.l0])
  | succ k1 =>
   have H := HA.out
   clear HA
   simp only [spec_l02Way.l0] at H
   by_cases c7 : 0 ≤ x1_1
   ·rw [if_pos c7] at H
    have c7b0 : decide (0 ≤ x1_1) = true := decide_eq_true c7
    clear c7
    by_cases c8 : x1_1 < (l0.length : Int)
    ·rw [if_pos c8] at H
     have c8b0 : decide (x1_1 < (l0.length : Int)) = true := decide_eq_true c8
     clear c8
     by_cases c9 : (rd l0 x1_1) > 0
     ·rw [if_pos c9] at H
      have c9b0 : decide (0 < (rd l0 x1_1)) = true := decide_eq_true c9
      clear c9
      by_cases c10 : x1_1 < (l2.length : Int)
      ·rw [if_pos c10] at H
       have c10b0 : decide (x1_1 < (l2.length : Int)) = true := decide_eq_true c10
       clear c10
       obtain ⟨y227, hy227⟩ : ∃ y_ : List (S80), y_ = (([(⟨(zh l2 x1_1).f0, (zh l2 x1_1).f1, (zh l2 x1_1).f2⟩ : S80)] : List (S80))) := ⟨_, rfl⟩
       replace H : (if y227.length + x5_1.length < 46912496118442 then (if x1_1 < (l3.length : Int) then (spec_l02Way.l0 k1 l0 (rd l3 x1_1) l2 l3 (y227 ++ x5_1)) else (none)) else (none)) = some r := by first | (rw [hy227]; with_reducible exact H) | (have H2_ := (Option.bind_some _ _).symm.trans H; rw [hy227]; with_reducible exact H2_) | (have H2_ := (Option.bind_some _ _).symm.trans H; with_reducible exact H2_) | with_reducible exact H | (rw [hy227]; exact H) | exact H
       have Ny227 := za.mk hy227
       clear hy227
       by_cases c11 : y227.length + x5_1.length < 46912496118442
       ·rw [if_pos c11] at H
        have LMc11 := za.mk c11
        clear c11
        obtain ⟨y230, hy230⟩ : ∃ y_ : List (S80), y_ = (y227 ++ x5_1) := ⟨_, rfl⟩
        replace H : (if x1_1 < (l3.length : Int) then (spec_l02Way.l0 k1 l0 (rd l3 x1_1) l2 l3 y230) else (none)) = some r := by first | (rw [hy230]; with_reducible exact H) | (have H2_ := (Option.bind_some _ _).symm.trans H; rw [hy230]; with_reducible exact H2_) | (have H2_ := (Option.bind_some _ _).symm.trans H; with_reducible exact H2_) | with_reducible exact H | (rw [hy230]; exact H) | exact H
        have Ny230 := za.mk hy230
        clear hy230
        by_cases c12 : x1_1 < (l3.length : Int)
        ·rw [if_pos c12] at H
         have c12b0 : decide (x1_1 < (l3.length : Int)) = true := decide_eq_true c12
         clear c12
         have H' := za.mk H
         clear H
         have p225 : 0 ≤ (x1_1 : Int) := of_decide_eq_true (by first | (with_reducible assumption) | assumption)
         have q225 : x1_1 < (l0.length : Int) := of_decide_eq_true (by first | (with_reducible assumption) | assumption)
         obtain ⟨ad225, e225, hx225_0⟩ := Kd.at_int HR0.out x1_1 p225 q225
         cases e225
         replace hx225_0 := (HB.out.cell (World.block_lt_of_cell? w _ hx225_0)).trans hx225_0
         replace p225 := eq_true p225
         replace q225 := eq_true q225
         have p226 : 0 ≤ (x1_1 : Int) := of_decide_eq_true (by first | (with_reducible assumption) | assumption)
         have q226 : x1_1 < (l2.length : Int) := of_decide_eq_true (by first | (with_reducible assumption) | assumption)
         obtain ⟨ad226, e226, hx226_0, hx226_1, hx226_2⟩ := zsb HR2.out x1_1 p226 q226
         cases e226
         replace hx226_0 := (HB.out.cell (World.block_lt_of_cell? w _ hx226_0)).trans hx226_0
         replace hx226_1 := (HB.out.cell (World.block_lt_of_cell? w _ hx226_1)).trans hx226_1
         replace hx226_2 := (HB.out.cell (World.block_lt_of_cell? w _ hx226_2)).trans hx226_2
         replace p226 := eq_true p226
         replace q226 := eq_true q226
         have hz0 := zjc (zaa HZ.out HB.out)
         have hz2 := znc (zaa HZ.out HB.out)
         go_wp2_with (first | ((with_reducible refine zu (N := 22) rfl ?_); refine Kd.R_lit k80 _ 80 ?hg (N := 22) ?hd (xs := ([(⟨(zh l2 x1_1).f0, (zh l2 x1_1).f1, (zh l2 x1_1).f2⟩ : S80)] : List (S80))) (inner := [.int .i8 ((zh l2 x1_1).f0), .int .i8 ((zh l2 x1_1).f1), .int .i8 ((zh l2 x1_1).f2)]) (ok := fun _ => True) (okp := fun _ => True) ?hr ?hp (fun _ hk => hk) trivial (Below.refl _ _) (Nat.le_refl _) (by simp) ?_; (case hd => rfl); (case hg => rfl); (case hr => first | (go_simp; done) | (go_simp; rfl)); (case hp => exact (Reps.c3 (show Kd.M k80 _ _ _ (⟨(zh l2 x1_1).f0, (zh l2 x1_1).f1, (zh l2 x1_1).f2⟩ : S80) [.int .i8 ((zh l2 x1_1).f0), .int .i8 ((zh l2 x1_1).f1), .int .i8 ((zh l2 x1_1).f2)] from (zmb _ _ _ (⟨(zh l2 x1_1).f0, (zh l2 x1_1).f1, (zh l2 x1_1).f2⟩ : S80) )) (Reps.none _ _))); intro v228 w13 ho14 hb hg_ hnew_; clear hg_ hnew_; (first | rw [← Ny227.out] at ho14 | (simp only [Int.reduceToNat] at ho14; rw [← Ny227.out] at ho14)); have HO229 := za.mk (Kd.R_lower (Kd.R_new' ho14 (Kd.R_lt (uR HO_5))) (zz sB)); replace HO_5 := za.mk (Kd.R_elder' (uR HO_5) (Kd.R_base ho14) hb); replace HB := za.mk (zi sB hb); clear hb ho14; obtain ⟨Ao16, co16, eo16⟩ := Kd.R_slice HO_5.out; subst eo16) | ((with_reducible refine zdb (b := .append) (xs := #[.tmp 22, .tmp 23]) rfl ?_); at_builtin; refine Kd.R_append_rows k80 (w0 := w) w.heap.size rfl (.tmp 22) (.tmp 23) 40 80 (.agg #[(.int .i8 0), (.int .i8 0), (.int .i8 0)]) 3 rfl Try.underlying40 zjd rfl (by decide) (by omega) v228 y227 x5_1 _ _ _ (fun k_ => some k_ ≠ (.slice Ao16 x5_1.length co16 : Value).ownBlock) (fun _ => False) rfl rfl ?aO ?aR (fun _ _ h => h) (fun _ h => h.elim) ?aF ?aB ?aS ?aL ?_; (case aR => exact uQ HO_5); (case aB => exact sB); (case aF => exact (fun k_ hk => Kd.fresh' (Kd.R_lt (uR HO_5)) k_ hk)); (case aO => exact (by (with_reducible repeat (first | apply Kd.R_alloc | apply Kd.R_drewN | apply Kd.R_drew)); exact Kd.R_mono HO229.out (fun _ hk => hk.2))); (case aS => exact (zz sB)); (case aL => have := LMc11.out; omega); intro v231 w15 ho hb hg hat; rw [← Ny230.out] at ho; have HO232 := za.mk ho; replace HO_5 := za.mk (Kd.R_after (ok := (fun _ => True)) (uR HO_5) hg hat); replace HB := za.mk hb; clear HO229; clear ho hb hg hat; have hz1 := zsc (zaa HZ.out HB.out); have p233 : 0 ≤ (x1_1 : Int) := of_decide_eq_true (by first | (with_reducible assumption) | assumption); have q233 : x1_1 < (l3.length : Int) := of_decide_eq_true (by first | (with_reducible assumption) | assumption); obtain ⟨ad233, e233, hx233_0⟩ := Kd.at_int HR3.out x1_1 p233 q233; cases e233; replace hx233_0 := (HB.out.cell (World.block_lt_of_cell? w _ hx233_0)).trans hx233_0; replace p233 := eq_true p233; replace q233 := eq_true q233))
         go_roundg k1
         case measure => have := HK1.out; omega
         case rel => exact ⟨(rd l3 x1_1), (y230), (by first | rfl | (simp; done) | (simp [*]; done)), H', ⟨by have := HK1.out; omega⟩, ⟨uR' (Kd.R_mono HO232.out (fun _ hk => trivial))⟩, ⟨sB⟩⟩
        rw [if_neg c12] at H
        exact absurd H (by simp)
       rw [if_neg c11] at H
       exact absurd H (by simp)
      rw [if_neg c10] at H
      exact absurd H (by simp)
     rw [if_neg c9] at H
     have c9b0 : decide (0 < (rd l0 x1_1)) = false := decide_eq_false c9
     clear c9
     obtain rfl := Option.some.inj H
     have p225 : 0 ≤ (x1_1 : Int) := of_decide_eq_true (by first | (with_reducible assumption) | assumption)
     have q225 : x1_1 < (l0.length : Int) := of_decide_eq_true (by first | (with_reducible assumption) | assumption)
     obtain ⟨ad225, e225, hx225_0⟩ := Kd.at_int HR0.out x1_1 p225 q225
     cases e225
     replace hx225_0 := (HB.out.cell (World.block_lt_of_cell? w _ hx225_0)).trans hx225_0
     replace p225 := eq_true p225
     replace q225 := eq_true q225
     have hz0 := zjc (zaa HZ.out HB.out)
     go_wp2
     go_ret
     exact ⟨_, by first | rfl | (simp [zj, zk] <;> rfl) | (simp [*, zj, zk] <;> rfl), by (with_reducible repeat (first | apply Kd.R_alloc | apply Kd.R_drewN | apply Kd.R_drew)); exact HO_5.out, sB⟩
    rw [if_neg c8] at H
    exact absurd H (by simp)
   rw [if_neg c7] at H
   exact absurd H (by simp)
end Go.Proofs.Yteciomagemjjaaa.J
