-- Written by wip/tools/myprint.py.
import Derived.Test.YtmmonhpjjjdnjaaVx0
import Derived.Test.YtmmonhpjjjdnjaaLLoadV
namespace Go.Proofs.Ytmmonhpjjjdnjaa.V
open Go.RowKit Go.Proofs.YtmmonhpjjjdnjaaW.PrintWords Go.Proofs.YtmmonhpjjjdnjaaW.PrintLast Go.Proofs.YtmmonhpjjjdnjaaW.PrintMore
attribute [local go_sem] zoa zqa zwa zva zia zga zra zpa
set_option linter.unusedVariables false
set_option linter.unusedSimpArgs false
mutual
def impl_casesOf.j0 : Nat → Int → Int → List (S46) → Option ((List (S46)))
 | 0, _, _, _ => none
 | k + 1, x0, x1, x7 => impl_casesOf.l0 k x1 x7 x0 0
def impl_casesOf.l0 : Nat → Int → List (S46) → Int → Int → Option ((List (S46)))
 | 0, _, _, _, _ => none
 | k + 1, x1, x7, x15, x16 => if x16 < x15 then (if x1 = 1 then (if x1 = 0 then (impl_casesOf.l0 k x1 x7 x15 (wrap64 (x16 + 1))) else (if x7.length < 70368744177664 then (impl_casesOf.l0 k x1 (x7 ++ [(⟨IntKind.i8.wrap (x16), false⟩ : S46)]) x15 (wrap64 (x16 + 1))) else (none))) else (if x7.length < 70368744177664 then ((some (x7 ++ [(⟨IntKind.i8.wrap (x16), true⟩ : S46)] : List (S46))).bind fun y258 => (if x1 = 0 then (impl_casesOf.l0 k x1 y258 x15 (wrap64 (x16 + 1))) else (if y258.length < 70368744177664 then (impl_casesOf.l0 k x1 (y258 ++ [(⟨IntKind.i8.wrap (x16), false⟩ : S46)]) x15 (wrap64 (x16 + 1))) else (none)))) else (none))) else (some x7)
end
def impl_casesOf.f (k : Nat) (a0 : Int) (a1 : Int) (a2 : Bool) : Option ((List (S46))) := (some (([] : List (S46)) : List (S46))).bind fun y249 => (if a2 = true then (if y249.length < 70368744177664 then (impl_casesOf.j0 k a0 a1 (y249 ++ [(⟨(-1), false⟩ : S46)])) else (none)) else (impl_casesOf.j0 k a0 a1 y249))
set_option maxHeartbeats 8000000 in
set_option maxRecDepth 100000 in
theorem impl_casesOf.calls (k : Nat) (a0 : Int) (a1 : Int) (a2 : Bool) (r : List (S46)) (w : World) (h : impl_casesOf.f k a0 a1 a2 = some r) :
  Calls Try.prog 49 #[.int .i64 a0, .int .i8 a1, .bool a2] w fun e w' => ∃ v0_ : Value, e = .returned (v0_) ∧ Kd.R k46 46 w' w.heap.size (fun _ => True) v0_ r ∧ Below w.heap.size w w' := by
 have hu46 := Try.underlying46
 have HB := zc.mk (Below.refl w.heap.size w)
 have H : ((some (([] : List (S46)) : List (S46))).bind fun y249 => (if a2 = true then (if y249.length < 70368744177664 then (impl_casesOf.j0 k a0 a1 (y249 ++ [(⟨(-1), false⟩ : S46)])) else (none)) else (impl_casesOf.j0 k a0 a1 y249))) = some r := h
 clear h
 obtain ⟨y249, hy249⟩ : ∃ y_ : List (S46), y_ = (([] : List (S46))) := ⟨_, rfl⟩
 replace H : (if a2 = true then (if y249.length < 70368744177664 then (impl_casesOf.j0 k a0 a1 (y249 ++ [(⟨(-1), false⟩ : S46)])) else (none)) else (impl_casesOf.j0 k a0 a1 y249)) = some r := by first | (rw [hy249]; with_reducible exact H) | (have H2_ := (Option.bind_some _ _).symm.trans H; rw [hy249]; with_reducible exact H2_) | (have H2_ := (Option.bind_some _ _).symm.trans H; with_reducible exact H2_) | with_reducible exact H | (rw [hy249]; exact H) | exact H
 have Ny249 := zc.mk hy249
 clear hy249
 have HC4 := zc.mk H
 clear H
 go_enter Try.func49, Try.ntmps49
 go_upto_if 10 with (first | ((with_reducible refine zp (N := 9) rfl ?_); refine Kd.R_lit k46 _ 46 ?hg (N := 9) ?hd (xs := ([] : List (S46))) (inner := []) (ok := fun _ => True) (okp := fun _ => True) ?hr ?hp (fun _ hk => hk) trivial (Below.refl _ _) (Nat.le_refl _) (by simp) ?_; (case hd => rfl); (case hg => rfl); (case hr => first | (go_simp; done) | (go_simp; rfl)); (case hp => exact (Reps.none _ _)); intro v250 w5 ho6 hb hg_ hnew_; clear hg_ hnew_; (first | rw [← Ny249.out] at ho6 | (simp only [Int.reduceToNat] at ho6; rw [← Ny249.out] at ho6)); have n0_ := zc.mk (Kd.R_lower ho6 (zz (by repeat (first | (with_reducible first | exact HB.out | apply ze | apply zb | apply zd) | exact HB.out)))); have n1_ := zc.mk (zq (by repeat (first | (with_reducible first | exact HB.out | apply ze | apply zb | apply zd) | exact HB.out)) hb); clear HB; have HO251 := n0_; have HB := n1_; clear n0_ n1_; clear hb ho6))
 (try simp only [Act.put, List.setIfInBounds_toArray, List.set_cons_zero, List.set_cons_succ])
 go_cut [7] (fun v7 wc => ∃ (kq : Nat) (x7_3 : List (S46)), zc (impl_casesOf.j0 kq a0 a1 x7_3 = some r) ∧ zc (kq ≤ k) ∧ zc (Kd.R k46 46 wc w.heap.size (fun _ => True) v7 x7_3) ∧ zc (Below w.heap.size w wc))
 case first =>
  have H := HC4.out
  clear HC4
  by_cases c7 : a2 = true
  ·subst c7
   have H1 : (if y249.length < 70368744177664 then (impl_casesOf.j0 k a0 a1 (y249 ++ [(⟨(-1), false⟩ : S46)])) else (none)) = some r := by rw [if_pos rfl] at H; exact H
   clear H
   have H := H1
   clear H1
   by_cases c8 : y249.length < 70368744177664
   ·rw [if_pos c8] at H
    have LMc8 := zc.mk c8
    clear c8
    obtain ⟨y252, hy252⟩ : ∃ y_ : List (S46), y_ = (y249 ++ [(⟨(-1), false⟩ : S46)]) := ⟨_, rfl⟩
    replace H : (impl_casesOf.j0 k a0 a1 y252) = some r := by first | (rw [hy252]; with_reducible exact H) | (have H2_ := (Option.bind_some _ _).symm.trans H; rw [hy252]; with_reducible exact H2_) | (have H2_ := (Option.bind_some _ _).symm.trans H; with_reducible exact H2_) | with_reducible exact H | (rw [hy252]; exact H) | exact H
    have Ny252 := zc.mk hy252
    clear hy252
    have H' := zc.mk H
    clear H
    go_wp2_with (first | ((with_reducible refine zua (b := .append) (xs := #[.tmp 11, .tmp 13]) rfl ?_); at_builtin; refine Kd.R_append k46 (w0 := w) w.heap.size rfl (.tmp 11) (.tmp 13) 43 46 (.agg #[(.int .i8 0), (.bool false)]) 2 rfl Try.underlying43 zkc rfl (by decide) (by omega) v250 y249 (⟨(-1), false⟩ : S46) [.int .i8 (-1), .bool false] (fun _ => True) (fun _ => False) rfl rfl ?aP (fun _ hk => hk.elim) ?aF ?aO ?aB ?aS ?aL ?_; (case aP => exact zvb _ _ _ (⟨(-1), false⟩ : S46)); (case aB => exact (by repeat (first | (with_reducible first | exact HB.out | apply ze | apply zb | apply zd) | exact HB.out))); (case aF => exact (fun _ _ => trivial)); (case aO => exact (by (with_reducible repeat (first | apply Kd.R_alloc | apply Kd.R_drewN | apply Kd.R_drew)); exact HO251.out)); (case aS => exact (zz (by repeat (first | (with_reducible first | exact HB.out | apply ze | apply zb | apply zd) | exact HB.out)))); (case aL => have := LMc8.out; omega); intro v253 w9 ho hb hg hat; rw [← Ny252.out] at ho; have n0_ := zc.mk (hb); have n1_ := zc.mk (ho); clear HB; clear HO251; have HB := n0_; have HO254 := n1_; clear n0_ n1_; clear ho hb hg hat))
    go_meet
    case rel => exact ⟨_, (y252), H', ⟨by first | omega | exact Nat.le_refl _⟩, ⟨by (with_reducible repeat (first | apply Kd.R_alloc | apply Kd.R_drewN | apply Kd.R_drew)); exact HO254.out⟩, ⟨by repeat (first | (with_reducible first | exact HB.out | apply ze | apply zb | apply zd) | exact HB.out)⟩⟩
   rw [if_neg c8] at H
   exact absurd H (by simp)
  replace c7 := Bool.eq_false_iff.mpr c7
  subst c7
  have H1 : (impl_casesOf.j0 k a0 a1 y249) = some r := by rw [if_neg (show ¬ (false = true) by decide)] at H; exact H
  clear H
  have H := H1
  clear H1
  have H' := zc.mk H
  clear H
  go_wp2
  go_meet
  case rel => exact ⟨_, (y249), H', ⟨by first | omega | exact Nat.le_refl _⟩, ⟨by (with_reducible repeat (first | apply Kd.R_alloc | apply Kd.R_drewN | apply Kd.R_drew)); exact HO251.out⟩, ⟨by repeat (first | (with_reducible first | exact HB.out | apply ze | apply zb | apply zd) | exact HB.out)⟩⟩
 case rest =>
  clear HC4
  try clear p2
  try clear c4
  try clear c7
  try clear c8
  obtain ⟨kq, x7_3, HA, HJ3, HO_7, HB⟩ := hcut
  cases kq with
  | zero => exact absurd HA.out (by simp [impl_casesOf.j0])
  | succ kj3 =>
   have H := HA.out
   clear HA
   simp only [impl_casesOf.j0] at H
   have H' := zc.mk H
   clear H
   go_wp2
   go_loopg [7, 16] kj3 (fun kq v7 v16 w' => ∃ (x7_2 : List (S46)) (x16_2 : Int), v16 = .int .i64 x16_2 ∧ zc (impl_casesOf.l0 kq a1 x7_2 a0 x16_2 = some r) ∧ zc (kq ≤ kj3) ∧ zc (Kd.R k46 46 w' w.heap.size (fun _ => True) v7 x7_2) ∧ zc (Below w.heap.size w w'))
   case atStart => exact ⟨(x7_3), (0), (by first | rfl | (simp; done) | (simp [*]; done)), H', ⟨Nat.le_refl _⟩, ⟨by (with_reducible repeat (first | apply Kd.R_alloc | apply Kd.R_drewN | apply Kd.R_drew)); exact HO_7.out⟩, ⟨by repeat (first | (with_reducible first | exact HB.out | apply ze | apply zb | apply zd) | exact HB.out)⟩⟩
   case round =>
    clear H'
    try clear p2
    try clear c4
    try clear c7
    try clear c8
    try clear p2
    obtain ⟨x7_2, x16_2, rfl, HA, HK2, HO_7, HB⟩ := hrel
    cases gk with
    | zero => exact absurd HA.out (by simp [impl_casesOf.l0])
    | succ k2 =>
     have H := HA.out
     clear HA
     simp only [impl_casesOf.l0] at H
     by_cases c10 : x16_2 < a0
     ·rw [if_pos c10] at H
      have c10b0 : decide (x16_2 < a0) = true := decide_eq_true c10
      clear c10
      by_cases c11 : a1 = 1
      ·rw [if_pos c11] at H
       have c11b0 : (a1 == 1) = true := beq_iff_eq.mpr c11
       have c11b1 : (a1 != 1) = false := bne_eq_false_iff_eq.mpr c11
       clear c11
       by_cases c12 : a1 = 0
       ·rw [if_pos c12] at H
        have c12b0 : (a1 == 0) = true := beq_iff_eq.mpr c12
        have c12b1 : (a1 != 0) = false := bne_eq_false_iff_eq.mpr c12
        clear c12
        have H' := zc.mk H
        clear H
        go_wp2
        go_roundg k2
        case measure => have := HJ3.out; have := HK2.out; omega
        case rel => exact ⟨(x7_2), (wrap64 (x16_2 + 1)), (by first | rfl | (simp; done) | (simp [*]; done)), H', ⟨by have := HJ3.out; have := HK2.out; omega⟩, ⟨by (with_reducible repeat (first | apply Kd.R_alloc | apply Kd.R_drewN | apply Kd.R_drew)); exact HO_7.out⟩, ⟨by repeat (first | (with_reducible first | exact HB.out | apply ze | apply zb | apply zd) | exact HB.out)⟩⟩
       rw [if_neg c12] at H
       have c12b0 : (a1 == 0) = false := beq_eq_false_iff_ne.mpr c12
       have c12b1 : (a1 != 0) = true := bne_iff_ne.mpr c12
       by_cases c13 : x7_2.length < 70368744177664
       ·rw [if_pos c13] at H
        have LMc13 := zc.mk c13
        clear c13
        obtain ⟨y255, hy255⟩ : ∃ y_ : List (S46), y_ = (x7_2 ++ [(⟨IntKind.i8.wrap (x16_2), false⟩ : S46)]) := ⟨_, rfl⟩
        replace H : (impl_casesOf.l0 k2 a1 y255 a0 (wrap64 (x16_2 + 1))) = some r := by first | (rw [hy255]; with_reducible exact H) | (have H2_ := (Option.bind_some _ _).symm.trans H; rw [hy255]; with_reducible exact H2_) | (have H2_ := (Option.bind_some _ _).symm.trans H; with_reducible exact H2_) | with_reducible exact H | (rw [hy255]; exact H) | exact H
        have Ny255 := zc.mk hy255
        clear hy255
        have H' := zc.mk H
        clear H
        go_wp2_with (first | ((with_reducible refine zua (b := .append) (xs := #[.tmp 29, .tmp 33]) rfl ?_); at_builtin; refine Kd.R_append k46 (w0 := w) w.heap.size rfl (.tmp 29) (.tmp 33) 43 46 (.agg #[(.int .i8 0), (.bool false)]) 2 rfl Try.underlying43 zkc rfl (by decide) (by omega) u7 x7_2 (⟨IntKind.i8.wrap (x16_2), false⟩ : S46) [.int .i8 (IntKind.i8.wrap (x16_2)), .bool false] (fun _ => True) (fun _ => False) rfl rfl ?aP (fun _ hk => hk.elim) ?aF ?aO ?aB ?aS ?aL ?_; (case aP => exact zvb _ _ _ (⟨IntKind.i8.wrap (x16_2), false⟩ : S46)); (case aB => exact (by repeat (first | (with_reducible first | exact HB.out | apply ze | apply zb | apply zd) | exact HB.out))); (case aF => exact (fun _ _ => trivial)); (case aO => exact (by (with_reducible repeat (first | apply Kd.R_alloc | apply Kd.R_drewN | apply Kd.R_drew)); exact HO_7.out)); (case aS => exact (zz (by repeat (first | (with_reducible first | exact HB.out | apply ze | apply zb | apply zd) | exact HB.out)))); (case aL => have := LMc13.out; omega); intro v256 w14 ho hb hg hat; rw [← Ny255.out] at ho; have n0_ := zc.mk (hb); have n1_ := zc.mk (ho); clear HB; clear HO_7; have HB := n0_; have HO257 := n1_; clear n0_ n1_; clear ho hb hg hat))
        go_roundg k2
        case measure => have := HJ3.out; have := HK2.out; omega
        case rel => exact ⟨(y255), (wrap64 (x16_2 + 1)), (by first | rfl | (simp; done) | (simp [*]; done)), H', ⟨by have := HJ3.out; have := HK2.out; omega⟩, ⟨by (with_reducible repeat (first | apply Kd.R_alloc | apply Kd.R_drewN | apply Kd.R_drew)); exact HO257.out⟩, ⟨by repeat (first | (with_reducible first | exact HB.out | apply ze | apply zb | apply zd) | exact HB.out)⟩⟩
       rw [if_neg c13] at H
       exact absurd H (by simp)
      rw [if_neg c11] at H
      have c11b0 : (a1 == 1) = false := beq_eq_false_iff_ne.mpr c11
      have c11b1 : (a1 != 1) = true := bne_iff_ne.mpr c11
      by_cases c15 : x7_2.length < 70368744177664
      ·rw [if_pos c15] at H
       have LMc15 := zc.mk c15
       clear c15
       obtain ⟨y258, hy258⟩ : ∃ y_ : List (S46), y_ = (x7_2 ++ [(⟨IntKind.i8.wrap (x16_2), true⟩ : S46)]) := ⟨_, rfl⟩
       replace H : (if a1 = 0 then (impl_casesOf.l0 k2 a1 y258 a0 (wrap64 (x16_2 + 1))) else (if y258.length < 70368744177664 then (impl_casesOf.l0 k2 a1 (y258 ++ [(⟨IntKind.i8.wrap (x16_2), false⟩ : S46)]) a0 (wrap64 (x16_2 + 1))) else (none))) = some r := by first | (rw [hy258]; with_reducible exact H) | (have H2_ := (Option.bind_some _ _).symm.trans H; rw [hy258]; with_reducible exact H2_) | (have H2_ := (Option.bind_some _ _).symm.trans H; with_reducible exact H2_) | with_reducible exact H | (rw [hy258]; exact H) | exact H
       have Ny258 := zc.mk hy258
       clear hy258
       by_cases c16 : a1 = 0
       ·rw [if_pos c16] at H
        have c16b0 : (a1 == 0) = true := beq_iff_eq.mpr c16
        have c16b1 : (a1 != 0) = false := bne_eq_false_iff_eq.mpr c16
        clear c16
        have H' := zc.mk H
        clear H
        go_wp2_with (first | ((with_reducible refine zua (b := .append) (xs := #[.tmp 21, .tmp 25]) rfl ?_); at_builtin; refine Kd.R_append k46 (w0 := w) w.heap.size rfl (.tmp 21) (.tmp 25) 43 46 (.agg #[(.int .i8 0), (.bool false)]) 2 rfl Try.underlying43 zkc rfl (by decide) (by omega) u7 x7_2 (⟨IntKind.i8.wrap (x16_2), true⟩ : S46) [.int .i8 (IntKind.i8.wrap (x16_2)), .bool true] (fun _ => True) (fun _ => False) rfl rfl ?aP (fun _ hk => hk.elim) ?aF ?aO ?aB ?aS ?aL ?_; (case aP => exact zvb _ _ _ (⟨IntKind.i8.wrap (x16_2), true⟩ : S46)); (case aB => exact (by repeat (first | (with_reducible first | exact HB.out | apply ze | apply zb | apply zd) | exact HB.out))); (case aF => exact (fun _ _ => trivial)); (case aO => exact (by (with_reducible repeat (first | apply Kd.R_alloc | apply Kd.R_drewN | apply Kd.R_drew)); exact HO_7.out)); (case aS => exact (zz (by repeat (first | (with_reducible first | exact HB.out | apply ze | apply zb | apply zd) | exact HB.out)))); (case aL => have := LMc15.out; omega); intro v259 w17 ho hb hg hat; rw [← Ny258.out] at ho; have n0_ := zc.mk (hb); have n1_ := zc.mk (ho); clear HB; clear HO_7; have HB := n0_; have HO260 := n1_; clear n0_ n1_; clear ho hb hg hat))
        go_roundg k2
        case measure => have := HJ3.out; have := HK2.out; omega
        case rel => exact ⟨(y258), (wrap64 (x16_2 + 1)), (by first | rfl | (simp; done) | (simp [*]; done)), H', ⟨by have := HJ3.out; have := HK2.out; omega⟩, ⟨by (with_reducible repeat (first | apply Kd.R_alloc | apply Kd.R_drewN | apply Kd.R_drew)); exact HO260.out⟩, ⟨by repeat (first | (with_reducible first | exact HB.out | apply ze | apply zb | apply zd) | exact HB.out)⟩⟩
       rw [if_neg c16] at H
       have c16b0 : (a1 == 0) = false := beq_eq_false_iff_ne.mpr c16
       have c16b1 : (a1 != 0) = true := bne_iff_ne.mpr c16
       by_cases c18 : y258.length < 70368744177664
       ·rw [if_pos c18] at H
        have LMc18 := zc.mk c18
        clear c18
        obtain ⟨y261, hy261⟩ : ∃ y_ : List (S46), y_ = (y258 ++ [(⟨IntKind.i8.wrap (x16_2), false⟩ : S46)]) := ⟨_, rfl⟩
        replace H : (impl_casesOf.l0 k2 a1 y261 a0 (wrap64 (x16_2 + 1))) = some r := by first | (rw [hy261]; with_reducible exact H) | (have H2_ := (Option.bind_some _ _).symm.trans H; rw [hy261]; with_reducible exact H2_) | (have H2_ := (Option.bind_some _ _).symm.trans H; with_reducible exact H2_) | with_reducible exact H | (rw [hy261]; exact H) | exact H
        have Ny261 := zc.mk hy261
        clear hy261
        have H' := zc.mk H
        clear H
        go_wp2_with (first | ((with_reducible refine zua (b := .append) (xs := #[.tmp 21, .tmp 25]) rfl ?_); at_builtin; refine Kd.R_append k46 (w0 := w) w.heap.size rfl (.tmp 21) (.tmp 25) 43 46 (.agg #[(.int .i8 0), (.bool false)]) 2 rfl Try.underlying43 zkc rfl (by decide) (by omega) u7 x7_2 (⟨IntKind.i8.wrap (x16_2), true⟩ : S46) [.int .i8 (IntKind.i8.wrap (x16_2)), .bool true] (fun _ => True) (fun _ => False) rfl rfl ?aP (fun _ hk => hk.elim) ?aF ?aO ?aB ?aS ?aL ?_; (case aP => exact zvb _ _ _ (⟨IntKind.i8.wrap (x16_2), true⟩ : S46)); (case aB => exact (by repeat (first | (with_reducible first | exact HB.out | apply ze | apply zb | apply zd) | exact HB.out))); (case aF => exact (fun _ _ => trivial)); (case aO => exact (by (with_reducible repeat (first | apply Kd.R_alloc | apply Kd.R_drewN | apply Kd.R_drew)); exact HO_7.out)); (case aS => exact (zz (by repeat (first | (with_reducible first | exact HB.out | apply ze | apply zb | apply zd) | exact HB.out)))); (case aL => have := LMc15.out; omega); intro v259 w19 ho hb hg hat; rw [← Ny258.out] at ho; have n0_ := zc.mk (hb); have n1_ := zc.mk (ho); clear HB; clear HO_7; have HB := n0_; have HO260 := n1_; clear n0_ n1_; clear ho hb hg hat) | ((with_reducible refine zua (b := .append) (xs := #[.tmp 29, .tmp 33]) rfl ?_); at_builtin; refine Kd.R_append k46 (w0 := w) w.heap.size rfl (.tmp 29) (.tmp 33) 43 46 (.agg #[(.int .i8 0), (.bool false)]) 2 rfl Try.underlying43 zkc rfl (by decide) (by omega) v259 y258 (⟨IntKind.i8.wrap (x16_2), false⟩ : S46) [.int .i8 (IntKind.i8.wrap (x16_2)), .bool false] (fun _ => True) (fun _ => False) rfl rfl ?aP (fun _ hk => hk.elim) ?aF ?aO ?aB ?aS ?aL ?_; (case aP => exact zvb _ _ _ (⟨IntKind.i8.wrap (x16_2), false⟩ : S46)); (case aB => exact (by repeat (first | (with_reducible first | exact HB.out | apply ze | apply zb | apply zd) | exact HB.out))); (case aF => exact (fun _ _ => trivial)); (case aO => exact (by (with_reducible repeat (first | apply Kd.R_alloc | apply Kd.R_drewN | apply Kd.R_drew)); exact HO260.out)); (case aS => exact (zz (by repeat (first | (with_reducible first | exact HB.out | apply ze | apply zb | apply zd) | exact HB.out)))); (case aL => have := LMc18.out; omega); intro v262 w20 ho hb hg hat; rw [← Ny261.out] at ho; have n0_ := zc.mk (hb); have n1_ := zc.mk (ho); clear HB; clear HO260; have HB := n0_; have HO263 := n1_; clear n0_ n1_; clear ho hb hg hat))
        go_roundg k2
        case measure => have := HJ3.out; have := HK2.out; omega
        case rel => exact ⟨(y261), (wrap64 (x16_2 + 1)), (by first | rfl | (simp; done) | (simp [*]; done)), H', ⟨by have := HJ3.out; have := HK2.out; omega⟩, ⟨by (with_reducible repeat (first | apply Kd.R_alloc | apply Kd.R_drewN | apply Kd.R_drew)); exact HO263.out⟩, ⟨by repeat (first | (with_reducible first | exact HB.out | apply ze | apply zb | apply zd) | exact HB.out)⟩⟩
       rw [if_neg c18] at H
       exact absurd H (by simp)
      rw [if_neg c15] at H
      exact absurd H (by simp)
     rw [if_neg c10] at H
     have c10b0 : decide (x16_2 < a0) = false := decide_eq_false c10
     clear c10
     obtain rfl := Option.some.inj H
     go_wp2
     go_ret
     exact ⟨_, by first | rfl | (simp [zj, zk] <;> rfl) | (simp [*, zj, zk] <;> rfl), by (with_reducible repeat (first | apply Kd.R_alloc | apply Kd.R_drewN | apply Kd.R_drew)); exact HO_7.out, by repeat (first | (with_reducible first | exact HB.out | apply ze | apply zb | apply zd) | exact HB.out)⟩
def impl_Task_cases.f (k : Nat) (a0_0 : Int) (a0_1 : Int) (a0_2 : Bool) (a0_3 : Bool) : Option ((List (S46))) := (impl_casesOf.f k (wrap64 (a0_0)) a0_1 a0_2).bind fun t265 => (some t265)
set_option maxHeartbeats 8000000 in
set_option maxRecDepth 100000 in
theorem impl_Task_cases.calls (k : Nat) (a0_0 : Int) (a0_1 : Int) (a0_2 : Bool) (a0_3 : Bool) (r : List (S46)) (w : World) (h : impl_Task_cases.f k a0_0 a0_1 a0_2 a0_3 = some r) :
  Calls Try.prog 29 #[.agg #[.int .i8 a0_0, .int .i8 a0_1, .bool a0_2, .bool a0_3]] w fun e w' => ∃ v0_ : Value, e = .returned (v0_) ∧ Kd.R k46 46 w' w.heap.size (fun _ => True) v0_ r ∧ Below w.heap.size w w' := by
 have hu29 := Try.underlying29
 have HB := zc.mk (Below.refl w.heap.size w)
 have H : ((impl_casesOf.f k (wrap64 (a0_0)) a0_1 a0_2).bind fun t265 => (some t265)) = some r := h
 clear h
 replace H := Option.bind_eq_some_iff.mp H
 obtain ⟨t265, A20, H⟩ := H
 replace H : (some t265) = some r := H
 have A2 := zc.mk A20
 clear A20
 obtain rfl := Option.some.inj H
 go_enter Try.func29, Try.ntmps29
 go_wp2_with (first | ((with_reducible refine zp (N := 1) rfl ?_); refine zr ?hg (N := 1) ?hd (cs := #[.int .i8 a0_0, .int .i8 a0_1, .bool a0_2, .bool a0_3]) (t := 29) ?hr ?_; (case hd => rfl); (case hg => rfl); (case hr => first | (go_simp; done) | (go_simp; rfl)); intro gb264 hg w3 hbox hb; obtain ⟨n0_, n2_⟩ := bx (by repeat (first | (with_reducible first | exact HB.out | apply ze | apply zb | apply zd) | exact HB.out)) hb hg; have n1_ := zc.mk (hbox); have n3_ := n2_; clear HB; have HB := n0_; have BK264 := n1_; have GW264 := n2_; have GE264 := n3_; clear n0_ n1_ n2_ n3_; clear hb hbox hg; obtain ⟨y1_0, y1_1, y1_2, y1_3, z1_0, z1_1, z1_2, z1_3⟩ := cf4 BK264.out) | ((with_reducible refine zo (f := 49) rfl ?_); refine zaa (some 10) rfl rfl Try.func49 (by kernel_rfl) rfl #[.int .i64 (wrap64 (a0_0)), .int .i8 a0_1, .bool a0_2] rfl (by (try simp only [List.map_toArray, List.map_cons, List.map_nil]); first | done | rfl | (simp only [List.length_drop, List.length_take]; rfl)) ?_; (with_reducible refine (impl_casesOf.calls k (wrap64 (a0_0)) a0_1 a0_2 t265 _ A2.out).mono ?_); rintro e w5 ⟨v266, rfl, ho0, hb⟩; refine ⟨_, rfl, ?_⟩; have n0_ := zc.mk (Kd.R_lower ho0 (zz (by repeat (first | (with_reducible first | exact HB.out | apply ze | apply zb | apply zd | refine zf ?_ GE264.out) | exact HB.out)))); have n1_ := zc.mk (zn (by (with_reducible repeat (first | refine zg ?_ _ | refine zi ?_ | refine zh ?_ _)); exact BK264.out) hb); have n2_ := zc.mk (zq (by repeat (first | (with_reducible first | exact HB.out | apply ze | apply zb | apply zd | refine zf ?_ GE264.out) | exact HB.out)) hb); clear BK264; clear HB; have HO267 := n0_; have BK264 := n1_; have HB := n2_; clear n0_ n1_ n2_; (try clear hb); (try clear hb2); (try clear hk); (try clear hi); (try clear ho0)))
 go_ret
 exact ⟨_, by first | rfl | (simp [zj, zk] <;> rfl) | (simp [*, zj, zk] <;> rfl), by (with_reducible repeat (first | apply Kd.R_alloc | apply Kd.R_drewN | apply Kd.R_drew)); exact HO267.out, by repeat (first | (with_reducible first | exact HB.out | apply ze | apply zb | apply zd | refine zf ?_ GE264.out) | exact HB.out)⟩
def impl_within.f (a0 : Int) (a1 : Int) (a2 : Int) : Option (Bool) := if a1 ≤ a0 then (some (decide (a0 ≤ a2))) else (some false)
set_option maxHeartbeats 8000000 in
set_option maxRecDepth 100000 in
theorem impl_within.calls (a0 : Int) (a1 : Int) (a2 : Int) (r : Bool) (w : World) (h : impl_within.f a0 a1 a2 = some r) :
  Calls Try.prog 38 #[.int .i64 a0, .int .i64 a1, .int .i64 a2] w fun e w' => e = .returned (.bool r) ∧ zfa w w' := by
 have H : (if a1 ≤ a0 then (some (decide (a0 ≤ a2))) else (some false)) = some r := h
 clear h
 by_cases c4 : a1 ≤ a0
 ·rw [if_pos c4] at H
  have c4b0 : decide (a1 ≤ a0) = true := decide_eq_true c4
  clear c4
  obtain rfl := Option.some.inj H
  go_enter Try.func38, Try.ntmps38
  go_wp2
  go_ret
  exact ⟨by first | rfl | (simp; done) | (simp [*]; done), by repeat (first | exact zfa.refl _ | apply zfa.step)⟩
 rw [if_neg c4] at H
 have c4b0 : decide (a1 ≤ a0) = false := decide_eq_false c4
 clear c4
 obtain rfl := Option.some.inj H
 go_enter Try.func38, Try.ntmps38
 go_wp2
 go_ret
 exact ⟨by first | rfl | (simp; done) | (simp [*]; done), by repeat (first | exact zfa.refl _ | apply zfa.step)⟩
def impl_isKind.f (a0 : Int) : Option (Bool) := (impl_within.f a0 0 2).bind fun t268 => (some t268)
set_option maxHeartbeats 8000000 in
set_option maxRecDepth 100000 in
theorem impl_isKind.calls (a0 : Int) (r : Bool) (w : World) (h : impl_isKind.f a0 = some r) :
  Calls Try.prog 56 #[.int .i64 a0] w fun e w' => e = .returned (.bool r) ∧ zfa w w' := by
 have H : ((impl_within.f a0 0 2).bind fun t268 => (some t268)) = some r := h
 clear h
 replace H := Option.bind_eq_some_iff.mp H
 obtain ⟨t268, A20, H⟩ := H
 replace H : (some t268) = some r := H
 have A2 := zc.mk A20
 clear A20
 obtain rfl := Option.some.inj H
 go_enter Try.func56, Try.ntmps56
 go_wp2_with (first | ((with_reducible refine zo (f := 38) rfl ?_); refine zaa (some 4) rfl rfl Try.func38 (by kernel_rfl) rfl #[.int .i64 a0, .int .i64 0, .int .i64 2] rfl (by (try simp only [List.map_toArray, List.map_cons, List.map_nil]); first | done | rfl | (simp only [List.length_drop, List.length_take]; rfl)) ?_; (with_reducible refine (impl_within.calls a0 0 2 t268 _ A2.out).mono ?_); rintro e w' ⟨rfl, ⟨nd, rfl⟩⟩; refine ⟨_, rfl, ?_⟩))
 go_ret
 exact ⟨by first | rfl | (simp; done) | (simp [*]; done), by repeat (first | exact zfa.refl _ | apply zfa.step)⟩
end Go.Proofs.Ytmmonhpjjjdnjaa.V
