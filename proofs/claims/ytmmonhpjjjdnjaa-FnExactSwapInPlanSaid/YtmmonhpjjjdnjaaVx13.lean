-- Written by wip/tools/myprint.py.
import Derived.Test.YtmmonhpjjjdnjaaVx0
import Derived.Test.YtmmonhpjjjdnjaaLLoadV
namespace Go.Proofs.Ytmmonhpjjjdnjaa.V
open Go.RowKit Go.Proofs.YtmmonhpjjjdnjaaW.PrintWords Go.Proofs.YtmmonhpjjjdnjaaW.PrintLast Go.Proofs.YtmmonhpjjjdnjaaW.PrintMore
attribute [local go_sem] zoa zqa zwa zva zia zga zra zpa
set_option linter.unusedVariables false
set_option linter.unusedSimpArgs false
mutual
def spec_l03Cases.j0 : Nat → List (S46) → Int → Int → Bool → Bool → Option ((List (S46)))
 | 0, _, _, _, _, _ => none
 | k + 1, x3, x105000, x105001, x105002, x105003 => spec_l03Cases.l0 k x3 0 x105000 x105001 x105002 x105003
def spec_l03Cases.l0 : Nat → List (S46) → Int → Int → Int → Bool → Bool → Option ((List (S46)))
 | 0, _, _, _, _, _, _ => none
 | k + 1, x3, x4, x105000, x105001, x105002, x105003 => if x4 < x105000 then (if x105001 = 1 then (if x105001 = 0 then (spec_l03Cases.l0 k x3 (IntKind.i8.wrap (x4 + 1)) x105000 x105001 x105002 x105003) else (if x3.length < 70368744177664 then (spec_l03Cases.l0 k (x3 ++ [(⟨x4, false⟩ : S46)]) (IntKind.i8.wrap (x4 + 1)) x105000 x105001 x105002 x105003) else (none))) else (if x3.length < 70368744177664 then ((some (x3 ++ [(⟨x4, true⟩ : S46)] : List (S46))).bind fun y114 => (if x105001 = 0 then (spec_l03Cases.l0 k y114 (IntKind.i8.wrap (x4 + 1)) x105000 x105001 x105002 x105003) else (if y114.length < 70368744177664 then (spec_l03Cases.l0 k (y114 ++ [(⟨x4, false⟩ : S46)]) (IntKind.i8.wrap (x4 + 1)) x105000 x105001 x105002 x105003) else (none)))) else (none))) else (some x3)
end
def spec_l03Cases.f (k : Nat) (a0_0 : Int) (a0_1 : Int) (a0_2 : Bool) (a0_3 : Bool) : Option ((List (S46))) := (some (([] : List (S46)) : List (S46))).bind fun y105 => (if a0_2 = true then (if y105.length < 70368744177664 then (spec_l03Cases.j0 k (y105 ++ [(⟨(-1), false⟩ : S46)]) a0_0 a0_1 a0_2 a0_3) else (none)) else (spec_l03Cases.j0 k y105 a0_0 a0_1 a0_2 a0_3))
set_option maxHeartbeats 8000000 in
set_option maxRecDepth 100000 in
theorem spec_l03Cases.calls (k : Nat) (a0_0 : Int) (a0_1 : Int) (a0_2 : Bool) (a0_3 : Bool) (r : List (S46)) (w : World) (h : spec_l03Cases.f k a0_0 a0_1 a0_2 a0_3 = some r) :
  Calls Try.prog 25 #[.agg #[.int .i8 a0_0, .int .i8 a0_1, .bool a0_2, .bool a0_3]] w fun e w' => ∃ v0_ : Value, e = .returned (v0_) ∧ Kd.R k46 46 w' w.heap.size (fun _ => True) v0_ r ∧ Below w.heap.size w w' := by
 have hu29 := Try.underlying29
 have hu46 := Try.underlying46
 have HB := zc.mk (Below.refl w.heap.size w)
 have H : ((some (([] : List (S46)) : List (S46))).bind fun y105 => (if a0_2 = true then (if y105.length < 70368744177664 then (spec_l03Cases.j0 k (y105 ++ [(⟨(-1), false⟩ : S46)]) a0_0 a0_1 a0_2 a0_3) else (none)) else (spec_l03Cases.j0 k y105 a0_0 a0_1 a0_2 a0_3))) = some r := h
 clear h
 obtain ⟨y105, hy105⟩ : ∃ y_ : List (S46), y_ = (([] : List (S46))) := ⟨_, rfl⟩
 replace H : (if a0_2 = true then (if y105.length < 70368744177664 then (spec_l03Cases.j0 k (y105 ++ [(⟨(-1), false⟩ : S46)]) a0_0 a0_1 a0_2 a0_3) else (none)) else (spec_l03Cases.j0 k y105 a0_0 a0_1 a0_2 a0_3)) = some r := by first | (rw [hy105]; with_reducible exact H) | (have H2_ := (Option.bind_some _ _).symm.trans H; rw [hy105]; with_reducible exact H2_) | (have H2_ := (Option.bind_some _ _).symm.trans H; with_reducible exact H2_) | with_reducible exact H | (rw [hy105]; exact H) | exact H
 have Ny105 := zc.mk hy105
 clear hy105
 have HC2 := zc.mk H
 clear H
 go_enter Try.func25, Try.ntmps25
 go_upto_if 7 with (first | ((with_reducible refine zp (N := 1) rfl ?_); refine zr ?hg (N := 1) ?hd (cs := #[.int .i8 a0_0, .int .i8 a0_1, .bool a0_2, .bool a0_3]) (t := 29) ?hr ?_; (case hd => rfl); (case hg => rfl); (case hr => first | (go_simp; done) | (go_simp; rfl)); intro gb104 hg w3 hbox hb; obtain ⟨n0_, n2_⟩ := bx (by repeat (first | (with_reducible first | exact HB.out | apply ze | apply zb | apply zd) | exact HB.out)) hb hg; have n1_ := zc.mk (hbox); have n3_ := n2_; clear HB; have HB := n0_; have BK104 := n1_; have GW104 := n2_; have GE104 := n3_; clear n0_ n1_ n2_ n3_; clear hb hbox hg) | ((with_reducible refine zp (N := 5) rfl ?_); refine Kd.R_lit k46 _ 46 ?hg (N := 5) ?hd (xs := ([] : List (S46))) (inner := []) (ok := fun _ => True) (okp := fun _ => True) ?hr ?hp (fun _ hk => hk) trivial (Below.refl _ _) (Nat.le_refl _) (by simp) ?_; (case hd => rfl); (case hg => rfl); (case hr => first | (go_simp; done) | (go_simp; rfl)); (case hp => exact (Reps.none _ _)); intro v106 w4 ho5 hb hg_ hnew_; clear hg_ hnew_; (first | rw [← Ny105.out] at ho5 | (simp only [Int.reduceToNat] at ho5; rw [← Ny105.out] at ho5)); have n0_ := zc.mk (Kd.R_lower ho5 (zz (by repeat (first | (with_reducible first | exact HB.out | apply ze | apply zb | apply zd | refine zf ?_ GE104.out) | exact HB.out)))); have n1_ := zc.mk (zn (by (with_reducible repeat (first | refine zg ?_ _ | refine zi ?_ | refine zh ?_ _)); exact BK104.out) hb); have n2_ := zc.mk (zq (by repeat (first | (with_reducible first | exact HB.out | apply ze | apply zb | apply zd | refine zf ?_ GE104.out) | exact HB.out)) hb); clear BK104; clear HB; have HO107 := n0_; have BK104 := n1_; have HB := n2_; clear n0_ n1_ n2_; clear hb ho5; obtain ⟨y1_0, y1_1, y1_2, y1_3, z1_0, z1_1, z1_2, z1_3⟩ := cf4 BK104.out))
 (try simp only [Act.put, List.setIfInBounds_toArray, List.set_cons_zero, List.set_cons_succ])
 go_cut [3] (fun v3 wc => ∃ (kq : Nat) (x3_1 : List (S46)), zc (spec_l03Cases.j0 kq x3_1 a0_0 a0_1 a0_2 a0_3 = some r) ∧ zc (kq ≤ k) ∧ zc (Kd.R k46 46 wc w.heap.size (fun _ => True) v3 x3_1) ∧ zc (wc.heap[gb104]? = some (.cells #[.int .i8 a0_0, .int .i8 a0_1, .bool a0_2, .bool a0_3] 29 (0, 0))) ∧ zc (Below w.heap.size w wc))
 case first =>
  have H := HC2.out
  clear HC2
  by_cases c7 : a0_2 = true
  ·subst c7
   have H1 : (if y105.length < 70368744177664 then (spec_l03Cases.j0 k (y105 ++ [(⟨(-1), false⟩ : S46)]) a0_0 a0_1 true a0_3) else (none)) = some r := by rw [if_pos rfl] at H; exact H
   clear H
   have H := H1
   clear H1
   by_cases c8 : y105.length < 70368744177664
   ·rw [if_pos c8] at H
    have LMc8 := zc.mk c8
    clear c8
    obtain ⟨y108, hy108⟩ : ∃ y_ : List (S46), y_ = (y105 ++ [(⟨(-1), false⟩ : S46)]) := ⟨_, rfl⟩
    replace H : (spec_l03Cases.j0 k y108 a0_0 a0_1 true a0_3) = some r := by first | (rw [hy108]; with_reducible exact H) | (have H2_ := (Option.bind_some _ _).symm.trans H; rw [hy108]; with_reducible exact H2_) | (have H2_ := (Option.bind_some _ _).symm.trans H; with_reducible exact H2_) | with_reducible exact H | (rw [hy108]; exact H) | exact H
    have Ny108 := zc.mk hy108
    clear hy108
    have H' := zc.mk H
    clear H
    go_wp2_with (first | ((with_reducible refine zua (b := .append) (xs := #[.tmp 8, .tmp 10]) rfl ?_); at_builtin; refine Kd.R_append k46 (w0 := w) w.heap.size rfl (.tmp 8) (.tmp 10) 43 46 (.agg #[(.int .i8 0), (.bool false)]) 2 rfl Try.underlying43 zkc rfl (by decide) (by omega) v106 y105 (⟨(-1), false⟩ : S46) [.int .i8 (-1), .bool false] (fun _ => True) (fun _ => False) rfl rfl ?aP (fun _ hk => hk.elim) ?aF ?aO ?aB ?aS ?aL ?_; (case aP => exact zvb _ _ _ (⟨(-1), false⟩ : S46)); (case aB => exact (by repeat (first | (with_reducible first | exact HB.out | apply ze | apply zb | apply zd | refine zf ?_ GE104.out) | exact HB.out))); (case aF => exact (fun _ _ => trivial)); (case aO => exact (by (with_reducible repeat (first | apply Kd.R_alloc | apply Kd.R_drewN | apply Kd.R_drew)); exact HO107.out)); (case aS => exact (zz (by repeat (first | (with_reducible first | exact HB.out | apply ze | apply zb | apply zd | refine zf ?_ GE104.out) | exact HB.out)))); (case aL => have := LMc8.out; omega); intro v109 w9 ho hb hg hat; rw [← Ny108.out] at ho; have n0_ := zc.mk (zkb (g := gb104) (o := .cells #[.int .i8 a0_0, .int .i8 a0_1, .bool true, .bool a0_3] 29 (0, 0)) (by (with_reducible repeat (first | refine zg ?_ _ | refine zi ?_ | refine zh ?_ _)); exact BK104.out) hg (Kd.R_ne HO107.out BK104.out (by decide))); have n1_ := zc.mk (hb); have n2_ := zc.mk (ho); clear BK104; clear HB; clear HO107; have BK104 := n0_; have HB := n1_; have HO110 := n2_; clear n0_ n1_ n2_; clear ho hb hg hat))
    go_meet
    case rel => exact ⟨_, (y108), H', ⟨by first | omega | exact Nat.le_refl _⟩, ⟨by (with_reducible repeat (first | apply Kd.R_alloc | apply Kd.R_drewN | apply Kd.R_drew)); exact HO110.out⟩, ⟨by (with_reducible repeat (first | refine zg ?_ _ | refine zi ?_ | refine zh ?_ _)); exact BK104.out⟩, ⟨by repeat (first | (with_reducible first | exact HB.out | apply ze | apply zb | apply zd | refine zf ?_ GE104.out) | exact HB.out)⟩⟩
   rw [if_neg c8] at H
   exact absurd H (by simp)
  replace c7 := Bool.eq_false_iff.mpr c7
  subst c7
  have H1 : (spec_l03Cases.j0 k y105 a0_0 a0_1 false a0_3) = some r := by rw [if_neg (show ¬ (false = true) by decide)] at H; exact H
  clear H
  have H := H1
  clear H1
  have H' := zc.mk H
  clear H
  go_wp2
  go_meet
  case rel => exact ⟨_, (y105), H', ⟨by first | omega | exact Nat.le_refl _⟩, ⟨by (with_reducible repeat (first | apply Kd.R_alloc | apply Kd.R_drewN | apply Kd.R_drew)); exact HO107.out⟩, ⟨by (with_reducible repeat (first | refine zg ?_ _ | refine zi ?_ | refine zh ?_ _)); exact BK104.out⟩, ⟨by repeat (first | (with_reducible first | exact HB.out | apply ze | apply zb | apply zd | refine zf ?_ GE104.out) | exact HB.out)⟩⟩
 case rest =>
  clear HC2
  try clear c2
  try clear p2
  try clear c7
  try clear c8
  try clear y1_0 y1_1 y1_2 y1_3
  try clear z1_0 z1_1 z1_2 z1_3
  obtain ⟨kq, x3_1, HA, HJ1, HO_3, BK104, HB⟩ := hcut
  cases kq with
  | zero => exact absurd HA.out (by simp [spec_l03Cases.j0])
  | succ kj1 =>
   have H := HA.out
   clear HA
   simp only [spec_l03Cases.j0] at H
   have H' := zc.mk H
   clear H
   go_wp2
   go_loopg [3, 4] kj1 (fun kq v3 v4 w' => ∃ (x3_2 : List (S46)) (x4_2 : Int), v4 = .int .i8 x4_2 ∧ zc (spec_l03Cases.l0 kq x3_2 x4_2 a0_0 a0_1 a0_2 a0_3 = some r) ∧ zc (kq ≤ kj1) ∧ zc (Kd.R k46 46 w' w.heap.size (fun _ => True) v3 x3_2) ∧ zc (w'.heap[gb104]? = some (.cells #[.int .i8 a0_0, .int .i8 a0_1, .bool a0_2, .bool a0_3] 29 (0, 0))) ∧ zc (Below w.heap.size w w'))
   case atStart => exact ⟨(x3_1), (0), (by first | rfl | (simp; done) | (simp [*]; done)), H', ⟨Nat.le_refl _⟩, ⟨by (with_reducible repeat (first | apply Kd.R_alloc | apply Kd.R_drewN | apply Kd.R_drew)); exact HO_3.out⟩, ⟨by (with_reducible repeat (first | refine zg ?_ _ | refine zi ?_ | refine zh ?_ _)); exact BK104.out⟩, ⟨by repeat (first | (with_reducible first | exact HB.out | apply ze | apply zb | apply zd | refine zf ?_ GE104.out) | exact HB.out)⟩⟩
   case round =>
    clear H'
    try clear c2
    try clear p2
    try clear c7
    try clear c8
    try clear y1_0 y1_1 y1_2 y1_3
    try clear z1_0 z1_1 z1_2 z1_3
    try clear p2
    obtain ⟨x3_2, x4_2, rfl, HA, HK2, HO_3, BK104, HB⟩ := hrel
    cases gk with
    | zero => exact absurd HA.out (by simp [spec_l03Cases.l0])
    | succ k2 =>
     have H := HA.out
     clear HA
     simp only [spec_l03Cases.l0] at H
     by_cases c10 : x4_2 < a0_0
     ·rw [if_pos c10] at H
      have c10b0 : decide (x4_2 < a0_0) = true := decide_eq_true c10
      clear c10
      by_cases c11 : a0_1 = 1
      ·rw [if_pos c11] at H
       have c11b0 : (a0_1 == 1) = true := beq_iff_eq.mpr c11
       have c11b1 : (a0_1 != 1) = false := bne_eq_false_iff_eq.mpr c11
       clear c11
       by_cases c12 : a0_1 = 0
       ·rw [if_pos c12] at H
        have c12b0 : (a0_1 == 0) = true := beq_iff_eq.mpr c12
        have c12b1 : (a0_1 != 0) = false := bne_eq_false_iff_eq.mpr c12
        clear c12
        have H' := zc.mk H
        clear H
        obtain ⟨y2_0, y2_1, y2_2, y2_3, z2_0, z2_1, z2_2, z2_3⟩ := cf4 BK104.out
        go_wp2
        go_roundg k2
        case measure => have := HJ1.out; have := HK2.out; omega
        case rel => exact ⟨(x3_2), (IntKind.i8.wrap (x4_2 + 1)), (by first | rfl | (simp; done) | (simp [*]; done)), H', ⟨by have := HJ1.out; have := HK2.out; omega⟩, ⟨by (with_reducible repeat (first | apply Kd.R_alloc | apply Kd.R_drewN | apply Kd.R_drew)); exact HO_3.out⟩, ⟨by (with_reducible repeat (first | refine zg ?_ _ | refine zi ?_ | refine zh ?_ _)); exact BK104.out⟩, ⟨by repeat (first | (with_reducible first | exact HB.out | apply ze | apply zb | apply zd | refine zf ?_ GE104.out) | exact HB.out)⟩⟩
       rw [if_neg c12] at H
       have c12b0 : (a0_1 == 0) = false := beq_eq_false_iff_ne.mpr c12
       have c12b1 : (a0_1 != 0) = true := bne_iff_ne.mpr c12
       by_cases c14 : x3_2.length < 70368744177664
       ·rw [if_pos c14] at H
        have LMc14 := zc.mk c14
        clear c14
        obtain ⟨y111, hy111⟩ : ∃ y_ : List (S46), y_ = (x3_2 ++ [(⟨x4_2, false⟩ : S46)]) := ⟨_, rfl⟩
        replace H : (spec_l03Cases.l0 k2 y111 (IntKind.i8.wrap (x4_2 + 1)) a0_0 a0_1 a0_2 a0_3) = some r := by first | (rw [hy111]; with_reducible exact H) | (have H2_ := (Option.bind_some _ _).symm.trans H; rw [hy111]; with_reducible exact H2_) | (have H2_ := (Option.bind_some _ _).symm.trans H; with_reducible exact H2_) | with_reducible exact H | (rw [hy111]; exact H) | exact H
        have Ny111 := zc.mk hy111
        clear hy111
        have H' := zc.mk H
        clear H
        obtain ⟨y3_0, y3_1, y3_2, y3_3, z3_0, z3_1, z3_2, z3_3⟩ := cf4 BK104.out
        go_wp2_with (first | ((with_reducible refine zua (b := .append) (xs := #[.tmp 29, .tmp 32]) rfl ?_); at_builtin; refine Kd.R_append k46 (w0 := w) w.heap.size rfl (.tmp 29) (.tmp 32) 43 46 (.agg #[(.int .i8 0), (.bool false)]) 2 rfl Try.underlying43 zkc rfl (by decide) (by omega) u3 x3_2 (⟨x4_2, false⟩ : S46) [.int .i8 x4_2, .bool false] (fun _ => True) (fun _ => False) rfl rfl ?aP (fun _ hk => hk.elim) ?aF ?aO ?aB ?aS ?aL ?_; (case aP => exact zvb _ _ _ (⟨x4_2, false⟩ : S46)); (case aB => exact (by repeat (first | (with_reducible first | exact HB.out | apply ze | apply zb | apply zd | refine zf ?_ GE104.out) | exact HB.out))); (case aF => exact (fun _ _ => trivial)); (case aO => exact (by (with_reducible repeat (first | apply Kd.R_alloc | apply Kd.R_drewN | apply Kd.R_drew)); exact HO_3.out)); (case aS => exact (zz (by repeat (first | (with_reducible first | exact HB.out | apply ze | apply zb | apply zd | refine zf ?_ GE104.out) | exact HB.out)))); (case aL => have := LMc14.out; omega); intro v112 w16 ho hb hg hat; rw [← Ny111.out] at ho; have n0_ := zc.mk (zkb (g := gb104) (o := .cells #[.int .i8 a0_0, .int .i8 a0_1, .bool a0_2, .bool a0_3] 29 (0, 0)) (by (with_reducible repeat (first | refine zg ?_ _ | refine zi ?_ | refine zh ?_ _)); exact BK104.out) hg (Kd.R_ne HO_3.out BK104.out (by decide))); have n1_ := zc.mk (hb); have n2_ := zc.mk (ho); clear BK104; clear HB; clear HO_3; have BK104 := n0_; have HB := n1_; have HO113 := n2_; clear n0_ n1_ n2_; clear ho hb hg hat))
        go_roundg k2
        case measure => have := HJ1.out; have := HK2.out; omega
        case rel => exact ⟨(y111), (IntKind.i8.wrap (x4_2 + 1)), (by first | rfl | (simp; done) | (simp [*]; done)), H', ⟨by have := HJ1.out; have := HK2.out; omega⟩, ⟨by (with_reducible repeat (first | apply Kd.R_alloc | apply Kd.R_drewN | apply Kd.R_drew)); exact HO113.out⟩, ⟨by (with_reducible repeat (first | refine zg ?_ _ | refine zi ?_ | refine zh ?_ _)); exact BK104.out⟩, ⟨by repeat (first | (with_reducible first | exact HB.out | apply ze | apply zb | apply zd | refine zf ?_ GE104.out) | exact HB.out)⟩⟩
       rw [if_neg c14] at H
       exact absurd H (by simp)
      rw [if_neg c11] at H
      have c11b0 : (a0_1 == 1) = false := beq_eq_false_iff_ne.mpr c11
      have c11b1 : (a0_1 != 1) = true := bne_iff_ne.mpr c11
      by_cases c17 : x3_2.length < 70368744177664
      ·rw [if_pos c17] at H
       have LMc17 := zc.mk c17
       clear c17
       obtain ⟨y114, hy114⟩ : ∃ y_ : List (S46), y_ = (x3_2 ++ [(⟨x4_2, true⟩ : S46)]) := ⟨_, rfl⟩
       replace H : (if a0_1 = 0 then (spec_l03Cases.l0 k2 y114 (IntKind.i8.wrap (x4_2 + 1)) a0_0 a0_1 a0_2 a0_3) else (if y114.length < 70368744177664 then (spec_l03Cases.l0 k2 (y114 ++ [(⟨x4_2, false⟩ : S46)]) (IntKind.i8.wrap (x4_2 + 1)) a0_0 a0_1 a0_2 a0_3) else (none))) = some r := by first | (rw [hy114]; with_reducible exact H) | (have H2_ := (Option.bind_some _ _).symm.trans H; rw [hy114]; with_reducible exact H2_) | (have H2_ := (Option.bind_some _ _).symm.trans H; with_reducible exact H2_) | with_reducible exact H | (rw [hy114]; exact H) | exact H
       have Ny114 := zc.mk hy114
       clear hy114
       by_cases c18 : a0_1 = 0
       ·rw [if_pos c18] at H
        have c18b0 : (a0_1 == 0) = true := beq_iff_eq.mpr c18
        have c18b1 : (a0_1 != 0) = false := bne_eq_false_iff_eq.mpr c18
        clear c18
        have H' := zc.mk H
        clear H
        obtain ⟨y4_0, y4_1, y4_2, y4_3, z4_0, z4_1, z4_2, z4_3⟩ := cf4 BK104.out
        go_wp2_with (first | ((with_reducible refine zua (b := .append) (xs := #[.tmp 21, .tmp 24]) rfl ?_); at_builtin; refine Kd.R_append k46 (w0 := w) w.heap.size rfl (.tmp 21) (.tmp 24) 43 46 (.agg #[(.int .i8 0), (.bool false)]) 2 rfl Try.underlying43 zkc rfl (by decide) (by omega) u3 x3_2 (⟨x4_2, true⟩ : S46) [.int .i8 x4_2, .bool true] (fun _ => True) (fun _ => False) rfl rfl ?aP (fun _ hk => hk.elim) ?aF ?aO ?aB ?aS ?aL ?_; (case aP => exact zvb _ _ _ (⟨x4_2, true⟩ : S46)); (case aB => exact (by repeat (first | (with_reducible first | exact HB.out | apply ze | apply zb | apply zd | refine zf ?_ GE104.out) | exact HB.out))); (case aF => exact (fun _ _ => trivial)); (case aO => exact (by (with_reducible repeat (first | apply Kd.R_alloc | apply Kd.R_drewN | apply Kd.R_drew)); exact HO_3.out)); (case aS => exact (zz (by repeat (first | (with_reducible first | exact HB.out | apply ze | apply zb | apply zd | refine zf ?_ GE104.out) | exact HB.out)))); (case aL => have := LMc17.out; omega); intro v115 w20 ho hb hg hat; rw [← Ny114.out] at ho; have n0_ := zc.mk (zkb (g := gb104) (o := .cells #[.int .i8 a0_0, .int .i8 a0_1, .bool a0_2, .bool a0_3] 29 (0, 0)) (by (with_reducible repeat (first | refine zg ?_ _ | refine zi ?_ | refine zh ?_ _)); exact BK104.out) hg (Kd.R_ne HO_3.out BK104.out (by decide))); have n1_ := zc.mk (hb); have n2_ := zc.mk (ho); clear BK104; clear HB; clear HO_3; have BK104 := n0_; have HB := n1_; have HO116 := n2_; clear n0_ n1_ n2_; clear ho hb hg hat; obtain ⟨y5_0, y5_1, y5_2, y5_3, z5_0, z5_1, z5_2, z5_3⟩ := cf4 BK104.out))
        go_roundg k2
        case measure => have := HJ1.out; have := HK2.out; omega
        case rel => exact ⟨(y114), (IntKind.i8.wrap (x4_2 + 1)), (by first | rfl | (simp; done) | (simp [*]; done)), H', ⟨by have := HJ1.out; have := HK2.out; omega⟩, ⟨by (with_reducible repeat (first | apply Kd.R_alloc | apply Kd.R_drewN | apply Kd.R_drew)); exact HO116.out⟩, ⟨by (with_reducible repeat (first | refine zg ?_ _ | refine zi ?_ | refine zh ?_ _)); exact BK104.out⟩, ⟨by repeat (first | (with_reducible first | exact HB.out | apply ze | apply zb | apply zd | refine zf ?_ GE104.out) | exact HB.out)⟩⟩
       rw [if_neg c18] at H
       have c18b0 : (a0_1 == 0) = false := beq_eq_false_iff_ne.mpr c18
       have c18b1 : (a0_1 != 0) = true := bne_iff_ne.mpr c18
       by_cases c22 : y114.length < 70368744177664
       ·rw [if_pos c22] at H
        have LMc22 := zc.mk c22
        clear c22
        obtain ⟨y117, hy117⟩ : ∃ y_ : List (S46), y_ = (y114 ++ [(⟨x4_2, false⟩ : S46)]) := ⟨_, rfl⟩
        replace H : (spec_l03Cases.l0 k2 y117 (IntKind.i8.wrap (x4_2 + 1)) a0_0 a0_1 a0_2 a0_3) = some r := by first | (rw [hy117]; with_reducible exact H) | (have H2_ := (Option.bind_some _ _).symm.trans H; rw [hy117]; with_reducible exact H2_) | (have H2_ := (Option.bind_some _ _).symm.trans H; with_reducible exact H2_) | with_reducible exact H | (rw [hy117]; exact H) | exact H
        have Ny117 := zc.mk hy117
        clear hy117
        have H' := zc.mk H
        clear H
        obtain ⟨y6_0, y6_1, y6_2, y6_3, z6_0, z6_1, z6_2, z6_3⟩ := cf4 BK104.out
        go_wp2_with (first | ((with_reducible refine zua (b := .append) (xs := #[.tmp 21, .tmp 24]) rfl ?_); at_builtin; refine Kd.R_append k46 (w0 := w) w.heap.size rfl (.tmp 21) (.tmp 24) 43 46 (.agg #[(.int .i8 0), (.bool false)]) 2 rfl Try.underlying43 zkc rfl (by decide) (by omega) u3 x3_2 (⟨x4_2, true⟩ : S46) [.int .i8 x4_2, .bool true] (fun _ => True) (fun _ => False) rfl rfl ?aP (fun _ hk => hk.elim) ?aF ?aO ?aB ?aS ?aL ?_; (case aP => exact zvb _ _ _ (⟨x4_2, true⟩ : S46)); (case aB => exact (by repeat (first | (with_reducible first | exact HB.out | apply ze | apply zb | apply zd | refine zf ?_ GE104.out) | exact HB.out))); (case aF => exact (fun _ _ => trivial)); (case aO => exact (by (with_reducible repeat (first | apply Kd.R_alloc | apply Kd.R_drewN | apply Kd.R_drew)); exact HO_3.out)); (case aS => exact (zz (by repeat (first | (with_reducible first | exact HB.out | apply ze | apply zb | apply zd | refine zf ?_ GE104.out) | exact HB.out)))); (case aL => have := LMc17.out; omega); intro v115 w24 ho hb hg hat; rw [← Ny114.out] at ho; have n0_ := zc.mk (zkb (g := gb104) (o := .cells #[.int .i8 a0_0, .int .i8 a0_1, .bool a0_2, .bool a0_3] 29 (0, 0)) (by (with_reducible repeat (first | refine zg ?_ _ | refine zi ?_ | refine zh ?_ _)); exact BK104.out) hg (Kd.R_ne HO_3.out BK104.out (by decide))); have n1_ := zc.mk (hb); have n2_ := zc.mk (ho); clear BK104; clear HB; clear HO_3; have BK104 := n0_; have HB := n1_; have HO116 := n2_; clear n0_ n1_ n2_; clear ho hb hg hat; obtain ⟨y7_0, y7_1, y7_2, y7_3, z7_0, z7_1, z7_2, z7_3⟩ := cf4 BK104.out) | ((with_reducible refine zua (b := .append) (xs := #[.tmp 29, .tmp 32]) rfl ?_); at_builtin; refine Kd.R_append k46 (w0 := w) w.heap.size rfl (.tmp 29) (.tmp 32) 43 46 (.agg #[(.int .i8 0), (.bool false)]) 2 rfl Try.underlying43 zkc rfl (by decide) (by omega) v115 y114 (⟨x4_2, false⟩ : S46) [.int .i8 x4_2, .bool false] (fun _ => True) (fun _ => False) rfl rfl ?aP (fun _ hk => hk.elim) ?aF ?aO ?aB ?aS ?aL ?_; (case aP => exact zvb _ _ _ (⟨x4_2, false⟩ : S46)); (case aB => exact (by repeat (first | (with_reducible first | exact HB.out | apply ze | apply zb | apply zd | refine zf ?_ GE104.out) | exact HB.out))); (case aF => exact (fun _ _ => trivial)); (case aO => exact (by (with_reducible repeat (first | apply Kd.R_alloc | apply Kd.R_drewN | apply Kd.R_drew)); exact HO116.out)); (case aS => exact (zz (by repeat (first | (with_reducible first | exact HB.out | apply ze | apply zb | apply zd | refine zf ?_ GE104.out) | exact HB.out)))); (case aL => have := LMc22.out; omega); intro v118 w26 ho hb hg hat; rw [← Ny117.out] at ho; have n0_ := zc.mk (zkb (g := gb104) (o := .cells #[.int .i8 a0_0, .int .i8 a0_1, .bool a0_2, .bool a0_3] 29 (0, 0)) (by (with_reducible repeat (first | refine zg ?_ _ | refine zi ?_ | refine zh ?_ _)); exact BK104.out) hg (Kd.R_ne HO116.out BK104.out (by decide))); have n1_ := zc.mk (hb); have n2_ := zc.mk (ho); clear BK104; clear HB; clear HO116; have BK104 := n0_; have HB := n1_; have HO119 := n2_; clear n0_ n1_ n2_; clear ho hb hg hat))
        go_roundg k2
        case measure => have := HJ1.out; have := HK2.out; omega
        case rel => exact ⟨(y117), (IntKind.i8.wrap (x4_2 + 1)), (by first | rfl | (simp; done) | (simp [*]; done)), H', ⟨by have := HJ1.out; have := HK2.out; omega⟩, ⟨by (with_reducible repeat (first | apply Kd.R_alloc | apply Kd.R_drewN | apply Kd.R_drew)); exact HO119.out⟩, ⟨by (with_reducible repeat (first | refine zg ?_ _ | refine zi ?_ | refine zh ?_ _)); exact BK104.out⟩, ⟨by repeat (first | (with_reducible first | exact HB.out | apply ze | apply zb | apply zd | refine zf ?_ GE104.out) | exact HB.out)⟩⟩
       rw [if_neg c22] at H
       exact absurd H (by simp)
      rw [if_neg c17] at H
      exact absurd H (by simp)
     rw [if_neg c10] at H
     have c10b0 : decide (x4_2 < a0_0) = false := decide_eq_false c10
     clear c10
     obtain rfl := Option.some.inj H
     obtain ⟨y8_0, y8_1, y8_2, y8_3, z8_0, z8_1, z8_2, z8_3⟩ := cf4 BK104.out
     go_wp2
     go_ret
     exact ⟨_, by first | rfl | (simp [zj, zk] <;> rfl) | (simp [*, zj, zk] <;> rfl), by (with_reducible repeat (first | apply Kd.R_alloc | apply Kd.R_drewN | apply Kd.R_drew)); exact HO_3.out, by repeat (first | (with_reducible first | exact HB.out | apply ze | apply zb | apply zd | refine zf ?_ GE104.out) | exact HB.out)⟩
end Go.Proofs.Ytmmonhpjjjdnjaa.V
