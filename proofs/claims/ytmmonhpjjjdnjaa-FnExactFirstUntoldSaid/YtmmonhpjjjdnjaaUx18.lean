-- Written by wip/tools/myprint.py, a program of this session, by way of the kit's print.
import Derived.Test.YtmmonhpjjjdnjaaUx0
import Derived.Test.YtmmonhpjjjdnjaaLLoadU
import Derived.Test.YtmmonhpjjjdnjaaUx1
namespace Go.Proofs.Ytmmonhpjjjdnjaa.U
open Go.RowKit Go.Proofs.YtmmonhpjjjdnjaaW.PrintWords Go.Proofs.YtmmonhpjjjdnjaaW.PrintLast Go.Proofs.YtmmonhpjjjdnjaaW.PrintMore
attribute [local go_sem] zba zea zha zia zy zz zda zca   -- for this text's walks alone
set_option linter.unusedVariables false
set_option linter.unusedSimpArgs false

/-! ### impl_casesOf: function 49 -/
mutual
def impl_casesOf.j0 : Nat → Int → Int → List (S46) → Option ((List (S46)))
 | 0, _, _, _ => none
 | k + 1, x0, x1, x7 => impl_casesOf.l0 k x1 x7 x0 0
def impl_casesOf.l0 : Nat → Int → List (S46) → Int → Int → Option ((List (S46)))
 | 0, _, _, _, _ => none
 | k + 1, x1, x7, x15, x16 => if x16 < x15 then (if x1 = 1 then (if x1 = 0 then (impl_casesOf.l0 k x1 x7 x15 (wrap64 (x16 + 1))) else (if x7.length < 70368744177664 then (impl_casesOf.l0 k x1 (x7 ++ [(⟨IntKind.i8.wrap (x16), false⟩ : S46)]) x15 (wrap64 (x16 + 1))) else (none))) else (if x7.length < 70368744177664 then ((some (x7 ++ [(⟨IntKind.i8.wrap (x16), true⟩ : S46)] : List (S46))).bind fun y258 => (if x1 = 0 then (impl_casesOf.l0 k x1 y258 x15 (wrap64 (x16 + 1))) else (if y258.length < 70368744177664 then (impl_casesOf.l0 k x1 (y258 ++ [(⟨IntKind.i8.wrap (x16), false⟩ : S46)]) x15 (wrap64 (x16 + 1))) else (none)))) else (none))) else (some x7)
end
def impl_casesOf.f (k : Nat) (a0 : Int) (a1 : Int) (a2 : Bool) : Option ((List (S46))) := (some (([] : List (S46)) : List (S46))).bind fun y249 => (if a2 = true then (if y249.length < 70368744177664 then (impl_casesOf.j0 k a0 a1 (y249 ++ [(⟨(-1), false⟩ : S46)])) else (none)) else (impl_casesOf.j0 k a0 a1 y249))
set_option maxHeartbeats 8000000 in
set_option maxRecDepth 100000 in
theorem impl_casesOf.calls (k : Nat) (a0 : Int) (a1 : Int) (a2 : Bool) (r : List (S46)) (w : World) (h : impl_casesOf.f k a0 a1 a2 = some r) :
  Calls Try.prog 49 #[.int .i64 a0, .int .i8 a1, .bool a2] w fun e w' => ∃ v0_ : Value, e = .returned (v0_) ∧ Kd.R k46 46 w' w.heap.size (fun _ => True) v0_ r ∧ Below w.heap.size w w' := by
 have hu46 := Try.underlying46
 have HB := zd.mk (Below.refl w.heap.size w)
 have H : ((some (([] : List (S46)) : List (S46))).bind fun y249 => (if a2 = true then (if y249.length < 70368744177664 then (impl_casesOf.j0 k a0 a1 (y249 ++ [(⟨(-1), false⟩ : S46)])) else (none)) else (impl_casesOf.j0 k a0 a1 y249))) = some r := h
 clear h
 obtain ⟨y249, hy249⟩ : ∃ y_ : List (S46), y_ = (([] : List (S46))) := ⟨_, rfl⟩
 replace H : (if a2 = true then (if y249.length < 70368744177664 then (impl_casesOf.j0 k a0 a1 (y249 ++ [(⟨(-1), false⟩ : S46)])) else (none)) else (impl_casesOf.j0 k a0 a1 y249)) = some r := by first | (rw [hy249]; with_reducible exact H) | (have H2_ := (Option.bind_some _ _).symm.trans H; rw [hy249]; with_reducible exact H2_) | (have H2_ := (Option.bind_some _ _).symm.trans H; with_reducible exact H2_) | with_reducible exact H | (rw [hy249]; exact H) | exact H
 have Ny249 := zd.mk hy249
 clear hy249
 have HC4 := zd.mk H
 clear H
 go_enter Try.func49, Try.ntmps49
 go_upto_if 10 with (first | ((with_reducible refine zo (N := 9) rfl ?_); refine Kd.R_lit k46 _ 46 ?hg (N := 9) ?hd (xs := ([] : List (S46))) (inner := []) (ok := fun _ => True) (okp := fun _ => True) ?hr ?hp (fun _ hk => hk) trivial (Below.refl _ _) (Nat.le_refl _) (by simp) ?_; (case hd => rfl); (case hg => rfl); (case hr => first | (go_simp; done) | (go_simp; rfl)); (case hp => exact (Reps.none _ _)); intro v250 w5 ho6 hb hg_ hnew_; clear hg_ hnew_; (first | rw [← Ny249.out] at ho6 | (simp only [Int.reduceToNat] at ho6; rw [← Ny249.out] at ho6)); have n0_ := zd.mk (Kd.R_lower ho6 (zm (by repeat (first | (with_reducible first | exact HB.out | apply zc | apply za | apply zb) | exact HB.out)))); have n1_ := zd.mk (zk (by repeat (first | (with_reducible first | exact HB.out | apply zc | apply za | apply zb) | exact HB.out)) hb); clear HB; have HO251 := n0_; have HB := n1_; clear n0_ n1_; clear hb ho6))
 (try simp only [Act.put, List.setIfInBounds_toArray, List.set_cons_zero, List.set_cons_succ])
 go_cut [7] (fun v7 wc => ∃ (kq : Nat) (x7_3 : List (S46)), zd (impl_casesOf.j0 kq a0 a1 x7_3 = some r) ∧ zd (kq ≤ k) ∧ zd (Kd.R k46 46 wc w.heap.size (fun _ => True) v7 x7_3) ∧ zd (Below w.heap.size w wc))
 case first =>
  have H := HC4.out
  clear HC4
  by_cases c7 : a2 = true
  ·subst c7
   have H1 : (if y249.length < 70368744177664 then (impl_casesOf.j0 k a0 a1 (y249 ++ [(⟨(-1), false⟩ : S46)])) else (none)) = some r := by rw [if_pos rfl] at H; exact H
   clear H
   have H := H1
   clear H1
   by_cases c8 : y249.length < 70368744177664
   ·rw [if_pos c8] at H
    have LMc8 := zd.mk c8
    clear c8
    obtain ⟨y252, hy252⟩ : ∃ y_ : List (S46), y_ = (y249 ++ [(⟨(-1), false⟩ : S46)]) := ⟨_, rfl⟩
    replace H : (impl_casesOf.j0 k a0 a1 y252) = some r := by first | (rw [hy252]; with_reducible exact H) | (have H2_ := (Option.bind_some _ _).symm.trans H; rw [hy252]; with_reducible exact H2_) | (have H2_ := (Option.bind_some _ _).symm.trans H; with_reducible exact H2_) | with_reducible exact H | (rw [hy252]; exact H) | exact H
    have Ny252 := zd.mk hy252
    clear hy252
    have H' := zd.mk H
    clear H
    go_wp2_with (first | ((with_reducible refine zja (b := .append) (xs := #[.tmp 11, .tmp 13]) rfl ?_); at_builtin; refine Kd.R_append k46 (w0 := w) w.heap.size rfl (.tmp 11) (.tmp 13) 43 46 (.agg #[(.int .i8 0), (.bool false)]) 2 rfl Try.underlying43 info46 rfl (by decide) (by omega) v250 y249 (⟨(-1), false⟩ : S46) [.int .i8 (-1), .bool false] (fun _ => True) (fun _ => False) rfl rfl ?aP (fun _ hk => hk.elim) ?aF ?aO ?aB ?aS ?aL ?_; (case aP => exact k46_mkM _ _ _ (⟨(-1), false⟩ : S46)); (case aB => exact (by repeat (first | (with_reducible first | exact HB.out | apply zc | apply za | apply zb) | exact HB.out))); (case aF => exact (fun _ _ => trivial)); (case aO => exact (by (with_reducible repeat (first | apply Kd.R_alloc | apply Kd.R_drewN | apply Kd.R_drew)); exact HO251.out)); (case aS => exact (zm (by repeat (first | (with_reducible first | exact HB.out | apply zc | apply za | apply zb) | exact HB.out)))); (case aL => have := LMc8.out; omega); intro v253 w9 ho hb hg hat; rw [← Ny252.out] at ho; have n0_ := zd.mk (hb); have n1_ := zd.mk (ho); clear HB; clear HO251; have HB := n0_; have HO254 := n1_; clear n0_ n1_; clear ho hb hg hat))
    go_meet
    case rel => exact ⟨_, (y252), H', ⟨by first | omega | exact Nat.le_refl _⟩, ⟨by (with_reducible repeat (first | apply Kd.R_alloc | apply Kd.R_drewN | apply Kd.R_drew)); exact HO254.out⟩, ⟨by repeat (first | (with_reducible first | exact HB.out | apply zc | apply za | apply zb) | exact HB.out)⟩⟩
   rw [if_neg c8] at H
   exact absurd H (by simp)
  replace c7 := Bool.eq_false_iff.mpr c7
  subst c7
  have H1 : (impl_casesOf.j0 k a0 a1 y249) = some r := by rw [if_neg (show ¬ (false = true) by decide)] at H; exact H
  clear H
  have H := H1
  clear H1
  have H' := zd.mk H
  clear H
  go_wp2
  go_meet
  case rel => exact ⟨_, (y249), H', ⟨by first | omega | exact Nat.le_refl _⟩, ⟨by (with_reducible repeat (first | apply Kd.R_alloc | apply Kd.R_drewN | apply Kd.R_drew)); exact HO251.out⟩, ⟨by repeat (first | (with_reducible first | exact HB.out | apply zc | apply za | apply zb) | exact HB.out)⟩⟩
 case rest =>
  clear HC4
  try clear p2
  try clear c4
  try clear c7
  try clear c8
  obtain ⟨kq, x7_3, HA, HJ3, HO_7, HB⟩ := hcut
  cases kq with
  | zero => exact absurd HA.out (by simp [impl_casesOf.j0])
  | succ kj3 =>
   have H := HA.out
   clear HA
   simp only [impl_casesOf.j0] at H
   have H' := zd.mk H
   clear H
   go_wp2
   go_loopg [7, 16] kj3 (fun kq v7 v16 w' => ∃ (x7_2 : List (S46)) (x16_2 : Int), v16 = .int .i64 x16_2 ∧ zd (impl_casesOf.l0 kq a1 x7_2 a0 x16_2 = some r) ∧ zd (kq ≤ kj3) ∧ zd (Kd.R k46 46 w' w.heap.size (fun _ => True) v7 x7_2) ∧ zd (Below w.heap.size w w'))
   case atStart => exact ⟨(x7_3), (0), (by first | rfl | (simp; done) | (simp [*]; done)), H', ⟨Nat.le_refl _⟩, ⟨by (with_reducible repeat (first | apply Kd.R_alloc | apply Kd.R_drewN | apply Kd.R_drew)); exact HO_7.out⟩, ⟨by repeat (first | (with_reducible first | exact HB.out | apply zc | apply za | apply zb) | exact HB.out)⟩⟩
   case round =>
    clear H'
    try clear p2
    try clear c4
    try clear c7
    try clear c8
    try clear p2
    obtain ⟨x7_2, x16_2, rfl, HA, HK2, HO_7, HB⟩ := hrel
    cases gk with
    | zero => exact absurd HA.out (by simp [impl_casesOf.l0])
    | succ k2 =>
     have H := HA.out
     clear HA
     simp only [impl_casesOf.l0] at H
     by_cases c10 : x16_2 < a0
     ·rw [if_pos c10] at H
      have c10b0 : decide (x16_2 < a0) = true := decide_eq_true c10
      clear c10
      by_cases c11 : a1 = 1
      ·rw [if_pos c11] at H
       have c11b0 : (a1 == 1) = true := beq_iff_eq.mpr c11
       have c11b1 : (a1 != 1) = false := bne_eq_false_iff_eq.mpr c11
       clear c11
       by_cases c12 : a1 = 0
       ·rw [if_pos c12] at H
        have c12b0 : (a1 == 0) = true := beq_iff_eq.mpr c12
        have c12b1 : (a1 != 0) = false := bne_eq_false_iff_eq.mpr c12
        clear c12
        have H' := zd.mk H
        clear H
        go_wp2
        go_roundg k2
        case measure => have := HJ3.out; have := HK2.out; omega
        case rel => exact ⟨(x7_2), (wrap64 (x16_2 + 1)), (by first | rfl | (simp; done) | (simp [*]; done)), H', ⟨by have := HJ3.out; have := HK2.out; omega⟩, ⟨by (with_reducible repeat (first | apply Kd.R_alloc | apply Kd.R_drewN | apply Kd.R_drew)); exact HO_7.out⟩, ⟨by repeat (first | (with_reducible first | exact HB.out | apply zc | apply za | apply zb) | exact HB.out)⟩⟩
       rw [if_neg c12] at H
       have c12b0 : (a1 == 0) = false := beq_eq_false_iff_ne.mpr c12
       have c12b1 : (a1 != 0) = true := bne_iff_ne.mpr c12
       by_cases c13 : x7_2.length < 70368744177664
       ·rw [if_pos c13] at H
        have LMc13 := zd.mk c13
        clear c13
        obtain ⟨y255, hy255⟩ : ∃ y_ : List (S46), y_ = (x7_2 ++ [(⟨IntKind.i8.wrap (x16_2), false⟩ : S46)]) := ⟨_, rfl⟩
        replace H : (impl_casesOf.l0 k2 a1 y255 a0 (wrap64 (x16_2 + 1))) = some r := by first | (rw [hy255]; with_reducible exact H) | (have H2_ := (Option.bind_some _ _).symm.trans H; rw [hy255]; with_reducible exact H2_) | (have H2_ := (Option.bind_some _ _).symm.trans H; with_reducible exact H2_) | with_reducible exact H | (rw [hy255]; exact H) | exact H
        have Ny255 := zd.mk hy255
        clear hy255
        have H' := zd.mk H
        clear H
        go_wp2_with (first | ((with_reducible refine zja (b := .append) (xs := #[.tmp 29, .tmp 33]) rfl ?_); at_builtin; refine Kd.R_append k46 (w0 := w) w.heap.size rfl (.tmp 29) (.tmp 33) 43 46 (.agg #[(.int .i8 0), (.bool false)]) 2 rfl Try.underlying43 info46 rfl (by decide) (by omega) u7 x7_2 (⟨IntKind.i8.wrap (x16_2), false⟩ : S46) [.int .i8 (IntKind.i8.wrap (x16_2)), .bool false] (fun _ => True) (fun _ => False) rfl rfl ?aP (fun _ hk => hk.elim) ?aF ?aO ?aB ?aS ?aL ?_; (case aP => exact k46_mkM _ _ _ (⟨IntKind.i8.wrap (x16_2), false⟩ : S46)); (case aB => exact (by repeat (first | (with_reducible first | exact HB.out | apply zc | apply za | apply zb) | exact HB.out))); (case aF => exact (fun _ _ => trivial)); (case aO => exact (by (with_reducible repeat (first | apply Kd.R_alloc | apply Kd.R_drewN | apply Kd.R_drew)); exact HO_7.out)); (case aS => exact (zm (by repeat (first | (with_reducible first | exact HB.out | apply zc | apply za | apply zb) | exact HB.out)))); (case aL => have := LMc13.out; omega); intro v256 w14 ho hb hg hat; rw [← Ny255.out] at ho; have n0_ := zd.mk (hb); have n1_ := zd.mk (ho); clear HB; clear HO_7; have HB := n0_; have HO257 := n1_; clear n0_ n1_; clear ho hb hg hat))
        go_roundg k2
        case measure => have := HJ3.out; have := HK2.out; omega
        case rel => exact ⟨(y255), (wrap64 (x16_2 + 1)), (by first | rfl | (simp; done) | (simp [*]; done)), H', ⟨by have := HJ3.out; have := HK2.out; omega⟩, ⟨by (with_reducible repeat (first | apply Kd.R_alloc | apply Kd.R_drewN | apply Kd.R_drew)); exact HO257.out⟩, ⟨by repeat (first | (with_reducible first | exact HB.out | apply zc | apply za | apply zb) | exact HB.out)⟩⟩
       rw [if_neg c13] at H
       exact absurd H (by simp)
      rw [if_neg c11] at H
      have c11b0 : (a1 == 1) = false := beq_eq_false_iff_ne.mpr c11
      have c11b1 : (a1 != 1) = true := bne_iff_ne.mpr c11
      by_cases c15 : x7_2.length < 70368744177664
      ·rw [if_pos c15] at H
       have LMc15 := zd.mk c15
       clear c15
       obtain ⟨y258, hy258⟩ : ∃ y_ : List (S46), y_ = (x7_2 ++ [(⟨IntKind.i8.wrap (x16_2), true⟩ : S46)]) := ⟨_, rfl⟩
       replace H : (if a1 = 0 then (impl_casesOf.l0 k2 a1 y258 a0 (wrap64 (x16_2 + 1))) else (if y258.length < 70368744177664 then (impl_casesOf.l0 k2 a1 (y258 ++ [(⟨IntKind.i8.wrap (x16_2), false⟩ : S46)]) a0 (wrap64 (x16_2 + 1))) else (none))) = some r := by first | (rw [hy258]; with_reducible exact H) | (have H2_ := (Option.bind_some _ _).symm.trans H; rw [hy258]; with_reducible exact H2_) | (have H2_ := (Option.bind_some _ _).symm.trans H; with_reducible exact H2_) | with_reducible exact H | (rw [hy258]; exact H) | exact H
       have Ny258 := zd.mk hy258
       clear hy258
       by_cases c16 : a1 = 0
       ·rw [if_pos c16] at H
        have c16b0 : (a1 == 0) = true := beq_iff_eq.mpr c16
        have c16b1 : (a1 != 0) = false := bne_eq_false_iff_eq.mpr c16
        clear c16
        have H' := zd.mk H
        clear H
        go_wp2_with (first | ((with_reducible refine zja (b := .append) (xs := #[.tmp 21, .tmp 25]) rfl ?_); at_builtin; refine Kd.R_append k46 (w0 := w) w.heap.size rfl (.tmp 21) (.tmp 25) 43 46 (.agg #[(.int .i8 0), (.bool false)]) 2 rfl Try.underlying43 info46 rfl (by decide) (by omega) u7 x7_2 (⟨IntKind.i8.wrap (x16_2), true⟩ : S46) [.int .i8 (IntKind.i8.wrap (x16_2)), .bool true] (fun _ => True) (fun _ => False) rfl rfl ?aP (fun _ hk => hk.elim) ?aF ?aO ?aB ?aS ?aL ?_; (case aP => exact k46_mkM _ _ _ (⟨IntKind.i8.wrap (x16_2), true⟩ : S46)); (case aB => exact (by repeat (first | (with_reducible first | exact HB.out | apply zc | apply za | apply zb) | exact HB.out))); (case aF => exact (fun _ _ => trivial)); (case aO => exact (by (with_reducible repeat (first | apply Kd.R_alloc | apply Kd.R_drewN | apply Kd.R_drew)); exact HO_7.out)); (case aS => exact (zm (by repeat (first | (with_reducible first | exact HB.out | apply zc | apply za | apply zb) | exact HB.out)))); (case aL => have := LMc15.out; omega); intro v259 w17 ho hb hg hat; rw [← Ny258.out] at ho; have n0_ := zd.mk (hb); have n1_ := zd.mk (ho); clear HB; clear HO_7; have HB := n0_; have HO260 := n1_; clear n0_ n1_; clear ho hb hg hat))
        go_roundg k2
        case measure => have := HJ3.out; have := HK2.out; omega
        case rel => exact ⟨(y258), (wrap64 (x16_2 + 1)), (by first | rfl | (simp; done) | (simp [*]; done)), H', ⟨by have := HJ3.out; have := HK2.out; omega⟩, ⟨by (with_reducible repeat (first | apply Kd.R_alloc | apply Kd.R_drewN | apply Kd.R_drew)); exact HO260.out⟩, ⟨by repeat (first | (with_reducible first | exact HB.out | apply zc | apply za | apply zb) | exact HB.out)⟩⟩
       rw [if_neg c16] at H
       have c16b0 : (a1 == 0) = false := beq_eq_false_iff_ne.mpr c16
       have c16b1 : (a1 != 0) = true := bne_iff_ne.mpr c16
       by_cases c18 : y258.length < 70368744177664
       ·rw [if_pos c18] at H
        have LMc18 := zd.mk c18
        clear c18
        obtain ⟨y261, hy261⟩ : ∃ y_ : List (S46), y_ = (y258 ++ [(⟨IntKind.i8.wrap (x16_2), false⟩ : S46)]) := ⟨_, rfl⟩
        replace H : (impl_casesOf.l0 k2 a1 y261 a0 (wrap64 (x16_2 + 1))) = some r := by first | (rw [hy261]; with_reducible exact H) | (have H2_ := (Option.bind_some _ _).symm.trans H; rw [hy261]; with_reducible exact H2_) | (have H2_ := (Option.bind_some _ _).symm.trans H; with_reducible exact H2_) | with_reducible exact H | (rw [hy261]; exact H) | exact H
        have Ny261 := zd.mk hy261
        clear hy261
        have H' := zd.mk H
        clear H
        go_wp2_with (first | ((with_reducible refine zja (b := .append) (xs := #[.tmp 21, .tmp 25]) rfl ?_); at_builtin; refine Kd.R_append k46 (w0 := w) w.heap.size rfl (.tmp 21) (.tmp 25) 43 46 (.agg #[(.int .i8 0), (.bool false)]) 2 rfl Try.underlying43 info46 rfl (by decide) (by omega) u7 x7_2 (⟨IntKind.i8.wrap (x16_2), true⟩ : S46) [.int .i8 (IntKind.i8.wrap (x16_2)), .bool true] (fun _ => True) (fun _ => False) rfl rfl ?aP (fun _ hk => hk.elim) ?aF ?aO ?aB ?aS ?aL ?_; (case aP => exact k46_mkM _ _ _ (⟨IntKind.i8.wrap (x16_2), true⟩ : S46)); (case aB => exact (by repeat (first | (with_reducible first | exact HB.out | apply zc | apply za | apply zb) | exact HB.out))); (case aF => exact (fun _ _ => trivial)); (case aO => exact (by (with_reducible repeat (first | apply Kd.R_alloc | apply Kd.R_drewN | apply Kd.R_drew)); exact HO_7.out)); (case aS => exact (zm (by repeat (first | (with_reducible first | exact HB.out | apply zc | apply za | apply zb) | exact HB.out)))); (case aL => have := LMc15.out; omega); intro v259 w19 ho hb hg hat; rw [← Ny258.out] at ho; have n0_ := zd.mk (hb); have n1_ := zd.mk (ho); clear HB; clear HO_7; have HB := n0_; have HO260 := n1_; clear n0_ n1_; clear ho hb hg hat) | ((with_reducible refine zja (b := .append) (xs := #[.tmp 29, .tmp 33]) rfl ?_); at_builtin; refine Kd.R_append k46 (w0 := w) w.heap.size rfl (.tmp 29) (.tmp 33) 43 46 (.agg #[(.int .i8 0), (.bool false)]) 2 rfl Try.underlying43 info46 rfl (by decide) (by omega) v259 y258 (⟨IntKind.i8.wrap (x16_2), false⟩ : S46) [.int .i8 (IntKind.i8.wrap (x16_2)), .bool false] (fun _ => True) (fun _ => False) rfl rfl ?aP (fun _ hk => hk.elim) ?aF ?aO ?aB ?aS ?aL ?_; (case aP => exact k46_mkM _ _ _ (⟨IntKind.i8.wrap (x16_2), false⟩ : S46)); (case aB => exact (by repeat (first | (with_reducible first | exact HB.out | apply zc | apply za | apply zb) | exact HB.out))); (case aF => exact (fun _ _ => trivial)); (case aO => exact (by (with_reducible repeat (first | apply Kd.R_alloc | apply Kd.R_drewN | apply Kd.R_drew)); exact HO260.out)); (case aS => exact (zm (by repeat (first | (with_reducible first | exact HB.out | apply zc | apply za | apply zb) | exact HB.out)))); (case aL => have := LMc18.out; omega); intro v262 w20 ho hb hg hat; rw [← Ny261.out] at ho; have n0_ := zd.mk (hb); have n1_ := zd.mk (ho); clear HB; clear HO260; have HB := n0_; have HO263 := n1_; clear n0_ n1_; clear ho hb hg hat))
        go_roundg k2
        case measure => have := HJ3.out; have := HK2.out; omega
        case rel => exact ⟨(y261), (wrap64 (x16_2 + 1)), (by first | rfl | (simp; done) | (simp [*]; done)), H', ⟨by have := HJ3.out; have := HK2.out; omega⟩, ⟨by (with_reducible repeat (first | apply Kd.R_alloc | apply Kd.R_drewN | apply Kd.R_drew)); exact HO263.out⟩, ⟨by repeat (first | (with_reducible first | exact HB.out | apply zc | apply za | apply zb) | exact HB.out)⟩⟩
       rw [if_neg c18] at H
       exact absurd H (by simp)
      rw [if_neg c15] at H
      exact absurd H (by simp)
     rw [if_neg c10] at H
     have c10b0 : decide (x16_2 < a0) = false := decide_eq_false c10
     clear c10
     obtain rfl := Option.some.inj H
     go_wp2
     go_ret
     exact ⟨_, by first | rfl | (simp [errW_none, errW_some] <;> rfl) | (simp [*, errW_none, errW_some] <;> rfl), by (with_reducible repeat (first | apply Kd.R_alloc | apply Kd.R_drewN | apply Kd.R_drew)); exact HO_7.out, by repeat (first | (with_reducible first | exact HB.out | apply zc | apply za | apply zb) | exact HB.out)⟩

/-! ### impl_Task_cases: function 29 -/
def impl_Task_cases.f (k : Nat) (a0_0 : Int) (a0_1 : Int) (a0_2 : Bool) (a0_3 : Bool) : Option ((List (S46))) := (impl_casesOf.f k (wrap64 (a0_0)) a0_1 a0_2).bind fun t265 => (some t265)
set_option maxHeartbeats 8000000 in
set_option maxRecDepth 100000 in
theorem impl_Task_cases.calls (k : Nat) (a0_0 : Int) (a0_1 : Int) (a0_2 : Bool) (a0_3 : Bool) (r : List (S46)) (w : World) (h : impl_Task_cases.f k a0_0 a0_1 a0_2 a0_3 = some r) :
  Calls Try.prog 29 #[.agg #[.int .i8 a0_0, .int .i8 a0_1, .bool a0_2, .bool a0_3]] w fun e w' => ∃ v0_ : Value, e = .returned (v0_) ∧ Kd.R k46 46 w' w.heap.size (fun _ => True) v0_ r ∧ Below w.heap.size w w' := by
 have hu29 := Try.underlying29
 have HB := zd.mk (Below.refl w.heap.size w)
 have H : ((impl_casesOf.f k (wrap64 (a0_0)) a0_1 a0_2).bind fun t265 => (some t265)) = some r := h
 clear h
 replace H := Option.bind_eq_some_iff.mp H
 obtain ⟨t265, A20, H⟩ := H
 replace H : (some t265) = some r := H
 have A2 := zd.mk A20
 clear A20
 obtain rfl := Option.some.inj H
 go_enter Try.func29, Try.ntmps29
 go_wp2_with (first | ((with_reducible refine zo (N := 1) rfl ?_); refine zn ?hg (N := 1) ?hd (cs := #[.int .i8 a0_0, .int .i8 a0_1, .bool a0_2, .bool a0_3]) (t := 29) ?hr ?_; (case hd => rfl); (case hg => rfl); (case hr => first | (go_simp; done) | (go_simp; rfl)); intro gb264 hg w3 hbox hb; obtain ⟨n0_, n2_⟩ := bx (by repeat (first | (with_reducible first | exact HB.out | apply zc | apply za | apply zb) | exact HB.out)) hb hg; have n1_ := zd.mk (hbox); have n3_ := n2_; clear HB; have HB := n0_; have BK264 := n1_; have GW264 := n2_; have GE264 := n3_; clear n0_ n1_ n2_ n3_; clear hb hbox hg; obtain ⟨y1_0, y1_1, y1_2, y1_3, z1_0, z1_1, z1_2, z1_3⟩ := cf4 BK264.out) | ((with_reducible refine zr (f := 49) rfl ?_); refine zx (some 10) rfl rfl Try.func49 (by kernel_rfl) rfl #[.int .i64 (wrap64 (a0_0)), .int .i8 a0_1, .bool a0_2] rfl (by (try simp only [List.map_toArray, List.map_cons, List.map_nil]); first | done | rfl | (simp only [List.length_drop, List.length_take]; rfl)) ?_; (with_reducible refine (impl_casesOf.calls k (wrap64 (a0_0)) a0_1 a0_2 t265 _ A2.out).mono ?_); rintro e w5 ⟨v266, rfl, ho0, hb⟩; refine ⟨_, rfl, ?_⟩; have n0_ := zd.mk (Kd.R_lower ho0 (zm (by repeat (first | (with_reducible first | exact HB.out | apply zc | apply za | apply zb | refine ze ?_ GE264.out) | exact HB.out)))); have n1_ := zd.mk (zj (by (with_reducible repeat (first | refine zf ?_ _ | refine zh ?_ | refine zg ?_ _)); exact BK264.out) hb); have n2_ := zd.mk (zk (by repeat (first | (with_reducible first | exact HB.out | apply zc | apply za | apply zb | refine ze ?_ GE264.out) | exact HB.out)) hb); clear BK264; clear HB; have HO267 := n0_; have BK264 := n1_; have HB := n2_; clear n0_ n1_ n2_; (try clear hb); (try clear hb2); (try clear hk); (try clear hi); (try clear ho0)))
 go_ret
 exact ⟨_, by first | rfl | (simp [errW_none, errW_some] <;> rfl) | (simp [*, errW_none, errW_some] <;> rfl), by (with_reducible repeat (first | apply Kd.R_alloc | apply Kd.R_drewN | apply Kd.R_drew)); exact HO267.out, by repeat (first | (with_reducible first | exact HB.out | apply zc | apply za | apply zb | refine ze ?_ GE264.out) | exact HB.out)⟩

/-! ### impl_within: function 38 -/
def impl_within.f (a0 : Int) (a1 : Int) (a2 : Int) : Option (Bool) := if a1 ≤ a0 then (some (decide (a0 ≤ a2))) else (some false)
set_option maxHeartbeats 8000000 in
set_option maxRecDepth 100000 in
theorem impl_within.calls (a0 : Int) (a1 : Int) (a2 : Int) (r : Bool) (w : World) (h : impl_within.f a0 a1 a2 = some r) :
  Calls Try.prog 38 #[.int .i64 a0, .int .i64 a1, .int .i64 a2] w fun e w' => e = .returned (.bool r) ∧ zka w w' := by
 have H : (if a1 ≤ a0 then (some (decide (a0 ≤ a2))) else (some false)) = some r := h
 clear h
 by_cases c4 : a1 ≤ a0
 ·rw [if_pos c4] at H
  have c4b0 : decide (a1 ≤ a0) = true := decide_eq_true c4
  clear c4
  obtain rfl := Option.some.inj H
  go_enter Try.func38, Try.ntmps38
  go_wp2
  go_ret
  exact ⟨by first | rfl | (simp; done) | (simp [*]; done), by repeat (first | exact zka.refl _ | apply zka.step)⟩
 rw [if_neg c4] at H
 have c4b0 : decide (a1 ≤ a0) = false := decide_eq_false c4
 clear c4
 obtain rfl := Option.some.inj H
 go_enter Try.func38, Try.ntmps38
 go_wp2
 go_ret
 exact ⟨by first | rfl | (simp; done) | (simp [*]; done), by repeat (first | exact zka.refl _ | apply zka.step)⟩

/-! ### impl_isKind: function 56 -/
def impl_isKind.f (a0 : Int) : Option (Bool) := (impl_within.f a0 0 2).bind fun t268 => (some t268)
set_option maxHeartbeats 8000000 in
set_option maxRecDepth 100000 in
theorem impl_isKind.calls (a0 : Int) (r : Bool) (w : World) (h : impl_isKind.f a0 = some r) :
  Calls Try.prog 56 #[.int .i64 a0] w fun e w' => e = .returned (.bool r) ∧ zka w w' := by
 have H : ((impl_within.f a0 0 2).bind fun t268 => (some t268)) = some r := h
 clear h
 replace H := Option.bind_eq_some_iff.mp H
 obtain ⟨t268, A20, H⟩ := H
 replace H : (some t268) = some r := H
 have A2 := zd.mk A20
 clear A20
 obtain rfl := Option.some.inj H
 go_enter Try.func56, Try.ntmps56
 go_wp2_with (first | ((with_reducible refine zr (f := 38) rfl ?_); refine zx (some 4) rfl rfl Try.func38 (by kernel_rfl) rfl #[.int .i64 a0, .int .i64 0, .int .i64 2] rfl (by (try simp only [List.map_toArray, List.map_cons, List.map_nil]); first | done | rfl | (simp only [List.length_drop, List.length_take]; rfl)) ?_; (with_reducible refine (impl_within.calls a0 0 2 t268 _ A2.out).mono ?_); rintro e w' ⟨rfl, ⟨nd, rfl⟩⟩; refine ⟨_, rfl, ?_⟩))
 go_ret
 exact ⟨by first | rfl | (simp; done) | (simp [*]; done), by repeat (first | exact zka.refl _ | apply zka.step)⟩

attribute [local go_sem] zba zea zha zia zy zz zda zca   -- for this text's walks alone

attribute [local go_sem high] eqA46
/-! ### impl_ValidTask: function 45 -/
def impl_ValidTask.f (a0_0 : Int) (a0_1 : Int) (a0_2 : Bool) (a0_3 : Bool) : Option (Bool) := (impl_within.f (wrap64 (a0_0)) 1 13).bind fun t270 => (if t270 = true then ((impl_isKind.f (wrap64 (a0_1))).bind fun t271 => (some t271)) else (some false))
set_option maxHeartbeats 8000000 in
set_option maxRecDepth 100000 in
theorem impl_ValidTask.calls (a0_0 : Int) (a0_1 : Int) (a0_2 : Bool) (a0_3 : Bool) (r : Bool) (w : World) (h : impl_ValidTask.f a0_0 a0_1 a0_2 a0_3 = some r) :
  Calls Try.prog 45 #[.agg #[.int .i8 a0_0, .int .i8 a0_1, .bool a0_2, .bool a0_3]] w fun e w' => e = .returned (.bool r) ∧ Below w.heap.size w w' := by
 have hu29 := Try.underlying29
 have HB := zd.mk (Below.refl w.heap.size w)
 have H : ((impl_within.f (wrap64 (a0_0)) 1 13).bind fun t270 => (if t270 = true then ((impl_isKind.f (wrap64 (a0_1))).bind fun t271 => (some t271)) else (some false))) = some r := h
 clear h
 replace H := Option.bind_eq_some_iff.mp H
 obtain ⟨t270, A20, H⟩ := H
 replace H : (if t270 = true then ((impl_isKind.f (wrap64 (a0_1))).bind fun t271 => (some t271)) else (some false)) = some r := H
 have A2 := zd.mk A20
 clear A20
 by_cases c3 : t270 = true
 ·subst c3
  have H1 : ((impl_isKind.f (wrap64 (a0_1))).bind fun t271 => (some t271)) = some r := by rw [if_pos rfl] at H; exact H
  clear H
  have H := H1
  clear H1
  replace H := Option.bind_eq_some_iff.mp H
  obtain ⟨t271, A40, H⟩ := H
  replace H : (some t271) = some r := H
  have A4 := zd.mk A40
  clear A40
  obtain rfl := Option.some.inj H
  go_enter Try.func45, Try.ntmps45
  go_wp2_with (first | ((with_reducible refine zo (N := 1) rfl ?_); refine zn ?hg (N := 1) ?hd (cs := #[.int .i8 a0_0, .int .i8 a0_1, .bool a0_2, .bool a0_3]) (t := 29) ?hr ?_; (case hd => rfl); (case hg => rfl); (case hr => first | (go_simp; done) | (go_simp; rfl)); intro gb269 hg w5 hbox hb; obtain ⟨n0_, n2_⟩ := bx (by repeat (first | (with_reducible first | exact HB.out | apply zc | apply za | apply zb) | exact HB.out)) hb hg; have n1_ := zd.mk (hbox); have n3_ := n2_; clear HB; have HB := n0_; have BK269 := n1_; have GW269 := n2_; have GE269 := n3_; clear n0_ n1_ n2_ n3_; clear hb hbox hg; obtain ⟨y1_0, y1_1, y1_2, y1_3, z1_0, z1_1, z1_2, z1_3⟩ := cf4 BK269.out) | ((with_reducible refine zr (f := 38) rfl ?_); refine zx (some 6) rfl rfl Try.func38 (by kernel_rfl) rfl #[.int .i64 (wrap64 (a0_0)), .int .i64 1, .int .i64 13] rfl (by (try simp only [List.map_toArray, List.map_cons, List.map_nil]); first | done | rfl | (simp only [List.length_drop, List.length_take]; rfl)) ?_; (with_reducible refine (impl_within.calls (wrap64 (a0_0)) 1 13 true _ A2.out).mono ?_); rintro e w' ⟨rfl, ⟨nd, rfl⟩⟩; refine ⟨_, rfl, ?_⟩) | (go_at_call 56; (with_reducible refine (impl_isKind.calls (wrap64 (a0_1)) t271 _ A4.out).mono ?_); rintro e w' ⟨rfl, ⟨nd, rfl⟩⟩))
  go_ret
  exact ⟨by first | rfl | (simp [errW_none, errW_some] <;> rfl) | (simp [*, errW_none, errW_some] <;> rfl), by repeat (first | (with_reducible first | exact HB.out | apply zc | apply za | apply zb | refine ze ?_ GE269.out) | exact HB.out)⟩
 replace c3 := Bool.eq_false_iff.mpr c3
 subst c3
 have H1 : (some false) = some r := by rw [if_neg (show ¬ (false = true) by decide)] at H; exact H
 clear H
 have H := H1
 clear H1
 obtain rfl := Option.some.inj H
 go_enter Try.func45, Try.ntmps45
 go_wp2_with (first | ((with_reducible refine zo (N := 1) rfl ?_); refine zn ?hg (N := 1) ?hd (cs := #[.int .i8 a0_0, .int .i8 a0_1, .bool a0_2, .bool a0_3]) (t := 29) ?hr ?_; (case hd => rfl); (case hg => rfl); (case hr => first | (go_simp; done) | (go_simp; rfl)); intro gb269 hg w7 hbox hb; obtain ⟨n0_, n2_⟩ := bx (by repeat (first | (with_reducible first | exact HB.out | apply zc | apply za | apply zb) | exact HB.out)) hb hg; have n1_ := zd.mk (hbox); have n3_ := n2_; clear HB; have HB := n0_; have BK269 := n1_; have GW269 := n2_; have GE269 := n3_; clear n0_ n1_ n2_ n3_; clear hb hbox hg; obtain ⟨y2_0, y2_1, y2_2, y2_3, z2_0, z2_1, z2_2, z2_3⟩ := cf4 BK269.out) | ((with_reducible refine zr (f := 38) rfl ?_); refine zx (some 6) rfl rfl Try.func38 (by kernel_rfl) rfl #[.int .i64 (wrap64 (a0_0)), .int .i64 1, .int .i64 13] rfl (by (try simp only [List.map_toArray, List.map_cons, List.map_nil]); first | done | rfl | (simp only [List.length_drop, List.length_take]; rfl)) ?_; (with_reducible refine (impl_within.calls (wrap64 (a0_0)) 1 13 false _ A2.out).mono ?_); rintro e w' ⟨rfl, ⟨nd, rfl⟩⟩; refine ⟨_, rfl, ?_⟩))
 go_ret
 exact ⟨by first | rfl | (simp [errW_none, errW_some] <;> rfl) | (simp [*, errW_none, errW_some] <;> rfl), by repeat (first | (with_reducible first | exact HB.out | apply zc | apply za | apply zb | refine ze ?_ GE269.out) | exact HB.out)⟩

/-! ### impl_Node: function 46 -/
def impl_Node.f (l0 : List (S54)) : Option (Int) := some (l0.length : Int)
set_option maxHeartbeats 8000000 in
set_option maxRecDepth 100000 in
theorem impl_Node.calls (A0 : Option Addr) (c0 : Nat) (l0 : List (S54)) (r : Int) (w : World) (hr0 : Kd.C k54 w A0 l0.length l0) (hc0 : l0.length ≤ c0) (h : impl_Node.f l0 = some r) :
  Calls Try.prog 46 #[.slice A0 l0.length c0] w fun e w' => e = .returned (.int .i64 r) ∧ zka w w' := by
 have HR0 := zd.mk hr0
 have HC0 := zd.mk hc0
 clear hr0 hc0
 have H : (some (l0.length : Int)) = some r := h
 clear h
 obtain rfl := Option.some.inj H
 go_enter Try.func46, Try.ntmps46
 go_wp2
 go_ret
 exact ⟨by first | rfl | (simp; done) | (simp [*]; done), by repeat (first | exact zka.refl _ | apply zka.step)⟩

/-! ### impl_Case_57: function 57 -/
def impl_Case_57.l0 : Nat → List (S46) → Int → Int → Int → Bool → Option (Int)
 | 0, _, _, _, _, _ => none
 | k + 1, x0, x7, x8, x273000, x273001 => if x8 < x7 then (if 0 ≤ x8 then (if x8 < (x0.length : Int) then (if (x273000 == ((rd_T46 x0 x8).f0) && (x273001 == ((rd_T46 x0 x8).f1))) = true then (some x8) else (impl_Case_57.l0 k x0 x7 (wrap64 (x8 + 1)) x273000 x273001)) else (none)) else (none)) else (some (-1))
def impl_Case_57.f (k : Nat) (l0 : List (S46)) (a1_0 : Int) (a1_1 : Bool) : Option (Int) := impl_Case_57.l0 k l0 (l0.length : Int) 0 a1_0 a1_1
set_option maxHeartbeats 8000000 in
set_option maxRecDepth 100000 in
theorem impl_Case_57.calls (k : Nat) (A0 : Option Addr) (c0 : Nat) (l0 : List (S46)) (a1_0 : Int) (a1_1 : Bool) (r : Int) (w : World) (hr0 : Kd.C k46 w A0 l0.length l0) (hc0 : l0.length ≤ c0) (h : impl_Case_57.f k l0 a1_0 a1_1 = some r) :
  Calls Try.prog 57 #[.slice A0 l0.length c0, .agg #[.int .i8 a1_0, .bool a1_1]] w fun e w' => e = .returned (.int .i64 r) ∧ Below w.heap.size w w' := by
 have hu46 := Try.underlying46
 have HR0 := zd.mk hr0
 have HC0 := zd.mk hc0
 clear hr0 hc0
 have HB := zd.mk (Below.refl w.heap.size w)
 have H : (impl_Case_57.l0 k l0 (l0.length : Int) 0 a1_0 a1_1) = some r := h
 clear h
 have H' := zd.mk H
 clear H
 go_enter Try.func57, Try.ntmps57
 go_wp2_with (first | ((with_reducible refine zo (N := 3) rfl ?_); refine zn ?hg (N := 3) ?hd (cs := #[.int .i8 a1_0, .bool a1_1]) (t := 46) ?hr ?_; (case hd => rfl); (case hg => rfl); (case hr => first | (go_simp; done) | (go_simp; rfl)); intro gb272 hg w3 hbox hb; obtain ⟨n0_, n2_⟩ := bx (by repeat (first | (with_reducible first | exact HB.out | apply zc | apply za | apply zb) | exact HB.out)) hb hg; have n1_ := zd.mk (hbox); have n3_ := n2_; clear HB; have HB := n0_; have BK272 := n1_; have GW272 := n2_; have GE272 := n3_; clear n0_ n1_ n2_ n3_; clear hb hbox hg))
 repeat (go_quiet (first | ((with_reducible refine zo (N := 3) rfl ?_); refine zn ?hg (N := 3) ?hd (cs := #[.int .i8 a1_0, .bool a1_1]) (t := 46) ?hr ?_; (case hd => rfl); (case hg => rfl); (case hr => first | (go_simp; done) | (go_simp; rfl)); intro gb272 hg w3 hbox hb; obtain ⟨n0_, n2_⟩ := bx (by repeat (first | (with_reducible first | exact HB.out | apply zc | apply za | apply zb) | exact HB.out)) hb hg; have n1_ := zd.mk (hbox); have n3_ := n2_; clear HB; have HB := n0_; have BK272 := n1_; have GW272 := n2_; have GE272 := n3_; clear n0_ n1_ n2_ n3_; clear hb hbox hg)); try go_wp2_with (first | ((with_reducible refine zo (N := 3) rfl ?_); refine zn ?hg (N := 3) ?hd (cs := #[.int .i8 a1_0, .bool a1_1]) (t := 46) ?hr ?_; (case hd => rfl); (case hg => rfl); (case hr => first | (go_simp; done) | (go_simp; rfl)); intro gb272 hg w3 hbox hb; obtain ⟨n0_, n2_⟩ := bx (by repeat (first | (with_reducible first | exact HB.out | apply zc | apply za | apply zb) | exact HB.out)) hb hg; have n1_ := zd.mk (hbox); have n3_ := n2_; clear HB; have HB := n0_; have BK272 := n1_; have GW272 := n2_; have GE272 := n3_; clear n0_ n1_ n2_ n3_; clear hb hbox hg)))
 go_loopg [8] k (fun kq v8 w' => ∃ (x8_1 : Int), v8 = .int .i64 x8_1 ∧ zd (impl_Case_57.l0 kq l0 (l0.length : Int) x8_1 a1_0 a1_1 = some r) ∧ zd (kq ≤ k) ∧ zd (w'.heap[gb272]? = some (.cells #[.int .i8 a1_0, .bool a1_1] 46 (0, 0))) ∧ zd (Below w.heap.size w w'))
 case atStart => exact ⟨(0), (by first | rfl | (simp; done) | (simp [*]; done)), H', ⟨Nat.le_refl _⟩, ⟨by (with_reducible repeat (first | refine zf ?_ _ | refine zh ?_ | refine zg ?_ _)); exact BK272.out⟩, ⟨by repeat (first | (with_reducible first | exact HB.out | apply zc | apply za | apply zb | refine ze ?_ GE272.out) | exact HB.out)⟩⟩
 case round =>
  clear H'
  try clear p2
  obtain ⟨x8_1, rfl, HA, HK1, BK272, HB⟩ := hrel
  cases gk with
  | zero => exact absurd HA.out (by simp [impl_Case_57.l0])
  | succ k1 =>
   have H := HA.out
   clear HA
   simp only [impl_Case_57.l0] at H
   by_cases c4 : x8_1 < (l0.length : Int)
   ·rw [if_pos c4] at H
    have c4b0 : decide (x8_1 < (l0.length : Int)) = true := decide_eq_true c4
    clear c4
    by_cases c5 : 0 ≤ x8_1
    ·rw [if_pos c5] at H
     have c5b0 : decide (0 ≤ x8_1) = true := decide_eq_true c5
     clear c5
     by_cases c6 : x8_1 < (l0.length : Int)
     ·rw [if_pos c6] at H
      have c6b0 : decide (x8_1 < (l0.length : Int)) = true := decide_eq_true c6
      clear c6
      by_cases c7 : (a1_0 == ((rd_T46 l0 x8_1).f0) && (a1_1 == ((rd_T46 l0 x8_1).f1))) = true
      ·rw [if_pos c7] at H
       have c7b0 : (a1_0 == ((rd_T46 l0 x8_1).f0) && (a1_1 == ((rd_T46 l0 x8_1).f1))) = true := c7
       (try (have c7b1 : decide (a1_0 = ((rd_T46 l0 x8_1).f0) && (a1_1 == ((rd_T46 l0 x8_1).f1))) = true := by simpa using c7))
       (try (have c7b2 : (a1_0 == ((rd_T46 l0 x8_1).f0) && (a1_1 == ((rd_T46 l0 x8_1).f1))) = true := by simpa using c7))
       clear c7
       obtain rfl := Option.some.inj H
       obtain ⟨y2_0, y2_1, z2_0, z2_1⟩ := cf2 BK272.out
       have p273 : 0 ≤ (x8_1 : Int) := od (by first | (with_reducible assumption) | assumption)
       have q273 : x8_1 < (l0.length : Int) := od (by first | (with_reducible assumption) | assumption)
       obtain ⟨ad273, e273, u1_0, u1_1⟩ := ac_T46 HB.out HR0.out x8_1 p273 q273
       cases e273
       replace p273 := eq_true p273
       replace q273 := eq_true q273
       go_wp2
       repeat (go_quiet (fail); try go_wp2)
       go_ret
       exact ⟨by first | rfl | (simp [errW_none, errW_some] <;> rfl) | (simp [*, errW_none, errW_some] <;> rfl), by repeat (first | (with_reducible first | exact HB.out | apply zc | apply za | apply zb | refine ze ?_ GE272.out) | exact HB.out)⟩
      rw [if_neg c7] at H
      have c7b0 : (a1_0 == ((rd_T46 l0 x8_1).f0) && (a1_1 == ((rd_T46 l0 x8_1).f1))) = false := by simpa using c7
      (try (have c7b1 : decide (a1_0 = ((rd_T46 l0 x8_1).f0) && (a1_1 == ((rd_T46 l0 x8_1).f1))) = false := by simpa using c7))
      (try (have c7b2 : (a1_0 == ((rd_T46 l0 x8_1).f0) && (a1_1 == ((rd_T46 l0 x8_1).f1))) = false := by simpa using c7))
      (try (have c7b3 : ¬ (a1_0 = ((rd_T46 l0 x8_1).f0) && (a1_1 == ((rd_T46 l0 x8_1).f1))) := by simpa using c7))
      clear c7
      have H' := zd.mk H
      clear H
      obtain ⟨y3_0, y3_1, z3_0, z3_1⟩ := cf2 BK272.out
      have p273 : 0 ≤ (x8_1 : Int) := od (by first | (with_reducible assumption) | assumption)
      have q273 : x8_1 < (l0.length : Int) := od (by first | (with_reducible assumption) | assumption)
      obtain ⟨ad273, e273, u1_0, u1_1⟩ := ac_T46 HB.out HR0.out x8_1 p273 q273
      cases e273
      replace p273 := eq_true p273
      replace q273 := eq_true q273
      go_wp2
      repeat (go_quiet (fail); try go_wp2)
      go_roundg k1
      case measure => have := HK1.out; omega
      case rel => exact ⟨(wrap64 (x8_1 + 1)), (by first | rfl | (simp; done) | (simp [*]; done)), H', ⟨by have := HK1.out; omega⟩, ⟨by (with_reducible repeat (first | refine zf ?_ _ | refine zh ?_ | refine zg ?_ _)); exact BK272.out⟩, ⟨by repeat (first | (with_reducible first | exact HB.out | apply zc | apply za | apply zb | refine ze ?_ GE272.out) | exact HB.out)⟩⟩
     rw [if_neg c6] at H
     exact absurd H (by simp)
    rw [if_neg c5] at H
    exact absurd H (by simp)
   rw [if_neg c4] at H
   have c4b0 : decide (x8_1 < (l0.length : Int)) = false := decide_eq_false c4
   clear c4
   obtain rfl := Option.some.inj H
   go_wp2
   repeat (go_quiet (fail); try go_wp2)
   go_ret
   exact ⟨by first | rfl | (simp [errW_none, errW_some] <;> rfl) | (simp [*, errW_none, errW_some] <;> rfl), by repeat (first | (with_reducible first | exact HB.out | apply zc | apply za | apply zb | refine ze ?_ GE272.out) | exact HB.out)⟩

/-! ### impl_Case_47: function 47 -/
def impl_Case_47.f (k : Nat) (l0 : List (S46)) (a1_0 : Int) (a1_1 : Bool) : Option (Bool) := (impl_Case_57.f k l0 a1_0 a1_1).bind fun t275 => (some (decide (t275 ≥ 0)))
set_option maxHeartbeats 8000000 in
set_option maxRecDepth 100000 in
theorem impl_Case_47.calls (k : Nat) (A0 : Option Addr) (c0 : Nat) (l0 : List (S46)) (a1_0 : Int) (a1_1 : Bool) (r : Bool) (w : World) (hr0 : Kd.C k46 w A0 l0.length l0) (hc0 : l0.length ≤ c0) (h : impl_Case_47.f k l0 a1_0 a1_1 = some r) :
  Calls Try.prog 47 #[.slice A0 l0.length c0, .agg #[.int .i8 a1_0, .bool a1_1]] w fun e w' => e = .returned (.bool r) ∧ Below w.heap.size w w' := by
 have hu46 := Try.underlying46
 have HR0 := zd.mk hr0
 have HC0 := zd.mk hc0
 clear hr0 hc0
 have HB := zd.mk (Below.refl w.heap.size w)
 have H : ((impl_Case_57.f k l0 a1_0 a1_1).bind fun t275 => (some (decide (t275 ≥ 0)))) = some r := h
 clear h
 replace H := Option.bind_eq_some_iff.mp H
 obtain ⟨t275, A30, H⟩ := H
 replace H : (some (decide (t275 ≥ 0))) = some r := H
 have A3 := zd.mk A30
 clear A30
 obtain rfl := Option.some.inj H
 go_enter Try.func47, Try.ntmps47
 go_wp2_with (first | ((with_reducible refine zo (N := 3) rfl ?_); refine zn ?hg (N := 3) ?hd (cs := #[.int .i8 a1_0, .bool a1_1]) (t := 46) ?hr ?_; (case hd => rfl); (case hg => rfl); (case hr => first | (go_simp; done) | (go_simp; rfl)); intro gb274 hg w4 hbox hb; obtain ⟨n0_, n2_⟩ := bx (by repeat (first | (with_reducible first | exact HB.out | apply zc | apply za | apply zb) | exact HB.out)) hb hg; have n1_ := zd.mk (hbox); have n3_ := n2_; clear HB; have HB := n0_; have BK274 := n1_; have GW274 := n2_; have GE274 := n3_; clear n0_ n1_ n2_ n3_; clear hb hbox hg; obtain ⟨y4_0, y4_1, z4_0, z4_1⟩ := cf2 BK274.out) | ((with_reducible refine zr (f := 57) rfl ?_); refine zx (some 7) rfl rfl Try.func57 (by kernel_rfl) rfl #[.slice A0 l0.length c0, .agg #[.int .i8 a1_0, .bool a1_1]] rfl (by (try simp only [List.map_toArray, List.map_cons, List.map_nil]); first | done | rfl | (simp only [List.length_drop, List.length_take]; rfl)) ?_; (with_reducible refine (impl_Case_57.calls k _ _ l0 a1_0 a1_1 t275 _ ?side1 ?side2 A3.out).mono ?_); (case side1 => repeat (first | exact (Kd.C_below HR0.out HB.out) | (with_reducible refine Kd.C_alloc ?_ _) | (with_reducible refine Kd.C_drewN ?_ _) | (with_reducible refine Kd.C_drew ?_))); (case side2 => exact HC0.out); rintro e w6 ⟨rfl, hb⟩; refine ⟨_, rfl, ?_⟩; have n0_ := zd.mk (zj (by (with_reducible repeat (first | refine zf ?_ _ | refine zh ?_ | refine zg ?_ _)); exact BK274.out) hb); have n1_ := zd.mk (zk (by repeat (first | (with_reducible first | exact HB.out | apply zc | apply za | apply zb | refine ze ?_ GE274.out) | exact HB.out)) hb); clear BK274; clear HB; have BK274 := n0_; have HB := n1_; clear n0_ n1_; (try clear hb); (try clear hb2); (try clear hk); (try clear hi)))
 go_ret
 exact ⟨by first | rfl | (simp [errW_none, errW_some] <;> rfl) | (simp [*, errW_none, errW_some] <;> rfl), by repeat (first | (with_reducible first | exact HB.out | apply zc | apply za | apply zb | refine ze ?_ GE274.out) | exact HB.out)⟩

/-! ### impl_Task_places: function 58 -/
def impl_Task_places.f (a0_0 : Int) (a0_1 : Int) (a0_2 : Bool) (a0_3 : Bool) : Option (Int) := if a0_3 = true then (some (wrap64 ((wrap64 (a0_0)) + 1))) else (some (wrap64 (a0_0)))
set_option maxHeartbeats 8000000 in
set_option maxRecDepth 100000 in
theorem impl_Task_places.calls (a0_0 : Int) (a0_1 : Int) (a0_2 : Bool) (a0_3 : Bool) (r : Int) (w : World) (h : impl_Task_places.f a0_0 a0_1 a0_2 a0_3 = some r) :
  Calls Try.prog 58 #[.agg #[.int .i8 a0_0, .int .i8 a0_1, .bool a0_2, .bool a0_3]] w fun e w' => e = .returned (.int .i64 r) ∧ Below w.heap.size w w' := by
 have hu29 := Try.underlying29
 have HB := zd.mk (Below.refl w.heap.size w)
 have H : (if a0_3 = true then (some (wrap64 ((wrap64 (a0_0)) + 1))) else (some (wrap64 (a0_0)))) = some r := h
 clear h
 by_cases c2 : a0_3 = true
 ·subst c2
  have H1 : (some (wrap64 ((wrap64 (a0_0)) + 1))) = some r := by rw [if_pos rfl] at H; exact H
  clear H
  have H := H1
  clear H1
  obtain rfl := Option.some.inj H
  go_enter Try.func58, Try.ntmps58
  go_wp2_with (first | ((with_reducible refine zo (N := 1) rfl ?_); refine zn ?hg (N := 1) ?hd (cs := #[.int .i8 a0_0, .int .i8 a0_1, .bool a0_2, .bool true]) (t := 29) ?hr ?_; (case hd => rfl); (case hg => rfl); (case hr => first | (go_simp; done) | (go_simp; rfl)); intro gb276 hg w3 hbox hb; obtain ⟨n0_, n2_⟩ := bx (by repeat (first | (with_reducible first | exact HB.out | apply zc | apply za | apply zb) | exact HB.out)) hb hg; have n1_ := zd.mk (hbox); have n3_ := n2_; clear HB; have HB := n0_; have BK276 := n1_; have GW276 := n2_; have GE276 := n3_; clear n0_ n1_ n2_ n3_; clear hb hbox hg; obtain ⟨y5_0, y5_1, y5_2, y5_3, z5_0, z5_1, z5_2, z5_3⟩ := cf4 BK276.out))
  go_ret
  exact ⟨by first | rfl | (simp [errW_none, errW_some] <;> rfl) | (simp [*, errW_none, errW_some] <;> rfl), by repeat (first | (with_reducible first | exact HB.out | apply zc | apply za | apply zb | refine ze ?_ GE276.out) | exact HB.out)⟩
 replace c2 := Bool.eq_false_iff.mpr c2
 subst c2
 have H1 : (some (wrap64 (a0_0))) = some r := by rw [if_neg (show ¬ (false = true) by decide)] at H; exact H
 clear H
 have H := H1
 clear H1
 obtain rfl := Option.some.inj H
 go_enter Try.func58, Try.ntmps58
 go_wp2_with (first | ((with_reducible refine zo (N := 1) rfl ?_); refine zn ?hg (N := 1) ?hd (cs := #[.int .i8 a0_0, .int .i8 a0_1, .bool a0_2, .bool false]) (t := 29) ?hr ?_; (case hd => rfl); (case hg => rfl); (case hr => first | (go_simp; done) | (go_simp; rfl)); intro gb276 hg w5 hbox hb; obtain ⟨n0_, n2_⟩ := bx (by repeat (first | (with_reducible first | exact HB.out | apply zc | apply za | apply zb) | exact HB.out)) hb hg; have n1_ := zd.mk (hbox); have n3_ := n2_; clear HB; have HB := n0_; have BK276 := n1_; have GW276 := n2_; have GE276 := n3_; clear n0_ n1_ n2_ n3_; clear hb hbox hg; obtain ⟨y1_0, y1_1, y1_2, y1_3, z1_0, z1_1, z1_2, z1_3⟩ := cf4 BK276.out))
 go_ret
 exact ⟨by first | rfl | (simp [errW_none, errW_some] <;> rfl) | (simp [*, errW_none, errW_some] <;> rfl), by repeat (first | (with_reducible first | exact HB.out | apply zc | apply za | apply zb | refine ze ?_ GE276.out) | exact HB.out)⟩

end Go.Proofs.Ytmmonhpjjjdnjaa.U
