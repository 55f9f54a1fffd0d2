-- Written by wip/tools/myprint.py, a program of this session, by way of the kit's print.
import Derived.Test.YtmfbcklaomigaaaNx0
import Derived.Test.YtmfbcklaomigaaaLPrN
namespace Go.Proofs.Ytmfbcklaomigaaa.N
open Go.RowKit Go.Proofs.YtmfbcklaomigaaaW.PrintWords Go.Proofs.YtmfbcklaomigaaaW.PrintLast Go.Proofs.YtmfbcklaomigaaaW.PrintMore
attribute [local go_sem] zqa zpa zwa zxa zla zka zra zta   -- for this text's walks alone
set_option linter.unusedVariables false
set_option linter.unusedSimpArgs false

/-! ### impl_casesOf: function 98 -/
mutual
def impl_casesOf.j0 : Nat → Int → Int → List (S38) → Option ((List (S38)))
 | 0, _, _, _ => none
 | k + 1, x0, x1, x7 => impl_casesOf.l0 k x1 x7 x0 0
def impl_casesOf.l0 : Nat → Int → List (S38) → Int → Int → Option ((List (S38)))
 | 0, _, _, _, _ => none
 | k + 1, x1, x7, x15, x16 => if x16 < x15 then (if x1 = 1 then (if x1 = 0 then (impl_casesOf.l0 k x1 x7 x15 (wrap64 (x16 + 1))) else (if x7.length < 70368744177664 then (impl_casesOf.l0 k x1 (x7 ++ [(⟨IntKind.i8.wrap (x16), false⟩ : S38)]) x15 (wrap64 (x16 + 1))) else (none))) else (if x7.length < 70368744177664 then ((some (x7 ++ [(⟨IntKind.i8.wrap (x16), true⟩ : S38)] : List (S38))).bind fun y240 => (if x1 = 0 then (impl_casesOf.l0 k x1 y240 x15 (wrap64 (x16 + 1))) else (if y240.length < 70368744177664 then (impl_casesOf.l0 k x1 (y240 ++ [(⟨IntKind.i8.wrap (x16), false⟩ : S38)]) x15 (wrap64 (x16 + 1))) else (none)))) else (none))) else (some x7)
end
def impl_casesOf.f (k : Nat) (a0 : Int) (a1 : Int) (a2 : Bool) : Option ((List (S38))) := (some (([] : List (S38)) : List (S38))).bind fun y231 => (if a2 = true then (if y231.length < 70368744177664 then (impl_casesOf.j0 k a0 a1 (y231 ++ [(⟨(-1), false⟩ : S38)])) else (none)) else (impl_casesOf.j0 k a0 a1 y231))
set_option maxHeartbeats 8000000 in
set_option maxRecDepth 100000 in
theorem impl_casesOf.calls (k : Nat) (a0 : Int) (a1 : Int) (a2 : Bool) (r : List (S38)) (w : World) (h : impl_casesOf.f k a0 a1 a2 = some r) :
  Calls Try.prog 98 #[.int .i64 a0, .int .i8 a1, .bool a2] w fun e w' => ∃ v0_ : Value, e = .returned (v0_) ∧ Kd.R k38 38 w' w.heap.size (fun _ => True) v0_ r ∧ Below w.heap.size w w' := by
 have hu38 := Try.underlying38
 have HB := za.mk (Below.refl w.heap.size w)
 have H : ((some (([] : List (S38)) : List (S38))).bind fun y231 => (if a2 = true then (if y231.length < 70368744177664 then (impl_casesOf.j0 k a0 a1 (y231 ++ [(⟨(-1), false⟩ : S38)])) else (none)) else (impl_casesOf.j0 k a0 a1 y231))) = some r := h
 clear h
 obtain ⟨y231, hy231⟩ : ∃ y_ : List (S38), y_ = (([] : List (S38))) := ⟨_, rfl⟩
 replace H : (if a2 = true then (if y231.length < 70368744177664 then (impl_casesOf.j0 k a0 a1 (y231 ++ [(⟨(-1), false⟩ : S38)])) else (none)) else (impl_casesOf.j0 k a0 a1 y231)) = some r := by first | (rw [hy231]; with_reducible exact H) | (have H2_ := (Option.bind_some _ _).symm.trans H; rw [hy231]; with_reducible exact H2_) | (have H2_ := (Option.bind_some _ _).symm.trans H; with_reducible exact H2_) | with_reducible exact H | (rw [hy231]; exact H) | exact H
 have Ny231 := za.mk hy231
 clear hy231
 have HC4 := za.mk H
 clear H
 go_enter Try.func98, Try.ntmps98
 go_upto_if 10 with (first | ((with_reducible refine zn (N := 9) rfl ?_); refine Kd.R_lit k38 _ 38 ?hg (N := 9) ?hd (xs := ([] : List (S38))) (inner := []) (ok := fun _ => True) (okp := fun _ => True) ?hr ?hp (fun _ hk => hk) trivial (Below.refl _ _) (Nat.le_refl _) (by simp) ?_; (case hd => rfl); (case hg => rfl); (case hr => first | (go_simp; done) | (go_simp; rfl)); (case hp => exact (Reps.none _ _)); intro v232 w5 ho6 hb hg_ hnew_; clear hg_ hnew_; (first | rw [← Ny231.out] at ho6 | (simp only [Int.reduceToNat] at ho6; rw [← Ny231.out] at ho6)); have HO233 := za.mk (Kd.R_lower ho6 (zv sB)); replace HB := za.mk (ze sB hb); clear hb ho6))
 (try simp only [Act.put, List.setIfInBounds_toArray, List.set_cons_zero, List.set_cons_succ])
 go_cut [7] (fun v7 wc => ∃ (kq : Nat) (x7_3 : List (S38)), za (impl_casesOf.j0 kq a0 a1 x7_3 = some r) ∧ za (kq ≤ k) ∧ za (Kd.R k38 38 wc w.heap.size (fun _ => True) v7 x7_3) ∧ za (Below w.heap.size w wc))
 case first =>
  have H := HC4.out
  clear HC4
  by_cases c7 : a2 = true
  ·subst c7
   have H1 : (if y231.length < 70368744177664 then (impl_casesOf.j0 k a0 a1 (y231 ++ [(⟨(-1), false⟩ : S38)])) else (none)) = some r := by rw [if_pos rfl] at H; exact H
   clear H
   have H := H1
   clear H1
   by_cases c8 : y231.length < 70368744177664
   ·rw [if_pos c8] at H
    have LMc8 := za.mk c8
    clear c8
    obtain ⟨y234, hy234⟩ : ∃ y_ : List (S38), y_ = (y231 ++ [(⟨(-1), false⟩ : S38)]) := ⟨_, rfl⟩
    replace H : (impl_casesOf.j0 k a0 a1 y234) = some r := by first | (rw [hy234]; with_reducible exact H) | (have H2_ := (Option.bind_some _ _).symm.trans H; rw [hy234]; with_reducible exact H2_) | (have H2_ := (Option.bind_some _ _).symm.trans H; with_reducible exact H2_) | with_reducible exact H | (rw [hy234]; exact H) | exact H
    have Ny234 := za.mk hy234
    clear hy234
    have H' := za.mk H
    clear H
    go_wp2_with (first | ((with_reducible refine zga (b := .append) (xs := #[.tmp 11, .tmp 13]) rfl ?_); at_builtin; refine Kd.R_append k38 (w0 := w) w.heap.size rfl (.tmp 11) (.tmp 13) 55 38 (.agg #[(.int .i8 0), (.bool false)]) 2 rfl Try.underlying55 zyb rfl (by decide) (by omega) v232 y231 (⟨(-1), false⟩ : S38) [.int .i8 (-1), .bool false] (fun _ => True) (fun _ => False) rfl rfl ?aP (fun _ hk => hk.elim) ?aF ?aO ?aB ?aS ?aL ?_; (case aP => exact znb _ _ _ (⟨(-1), false⟩ : S38)); (case aB => exact sB); (case aF => exact (fun _ _ => trivial)); (case aO => exact (uR HO233)); (case aS => exact (zv sB)); (case aL => have := LMc8.out; omega); intro v235 w9 ho hb hg hat; rw [← Ny234.out] at ho; have HO236 := za.mk ho; replace HB := za.mk hb; clear HO233; clear ho hb hg hat))
    go_meet
    case rel => exact ⟨_, (y234), H', ⟨by first | omega | exact Nat.le_refl _⟩, ⟨uR HO236⟩, ⟨sB⟩⟩
   rw [if_neg c8] at H
   exact absurd H (by simp)
  replace c7 := Bool.eq_false_iff.mpr c7
  subst c7
  have H1 : (impl_casesOf.j0 k a0 a1 y231) = some r := by rw [if_neg (show ¬ (false = true) by decide)] at H; exact H
  clear H
  have H := H1
  clear H1
  have H' := za.mk H
  clear H
  go_wp2
  go_meet
  case rel => exact ⟨_, (y231), H', ⟨by first | omega | exact Nat.le_refl _⟩, ⟨uR HO233⟩, ⟨sB⟩⟩
 case rest =>
  clear HC4
  try clear p2
  try clear c7
  try clear c8
  try clear c9
  obtain ⟨kq, x7_3, HA, HJ3, HO_7, HB⟩ := hcut
  cases kq with
  | zero => exact absurd HA.out (by simp [impl_casesOf.j0])
  | succ kj3 =>
   have H := HA.out
   clear HA
   simp only [impl_casesOf.j0] at H
   have H' := za.mk H
   clear H
   go_wp2
   go_loopg [7, 16] kj3 (fun kq v7 v16 w' => ∃ (x7_2 : List (S38)) (x16_2 : Int), v16 = .int .i64 x16_2 ∧ za (impl_casesOf.l0 kq a1 x7_2 a0 x16_2 = some r) ∧ za (kq ≤ kj3) ∧ za (Kd.R k38 38 w' w.heap.size (fun _ => True) v7 x7_2) ∧ za (Below w.heap.size w w'))
   case atStart => exact ⟨(x7_3), (0), (by first | rfl | (simp; done) | (simp [*]; done)), H', ⟨Nat.le_refl _⟩, ⟨uR HO_7⟩, ⟨sB⟩⟩
   case round =>
    clear H'
    try clear p2
    try clear c7
    try clear c8
    try clear c9
    try clear p2
    obtain ⟨x7_2, x16_2, rfl, HA, HK2, HO_7, HB⟩ := hrel
    cases gk with
    | zero => exact absurd HA.out (by simp [impl_casesOf.l0])
    | succ k2 =>
     have H := HA.out
     clear HA
     simp only [impl_casesOf.l0] at H
     by_cases c10 : x16_2 < a0
     ·rw [if_pos c10] at H
      have c10b0 : decide (x16_2 < a0) = true := decide_eq_true c10
      clear c10
      by_cases c11 : a1 = 1
      ·rw [if_pos c11] at H
       have c11b0 : (a1 == 1) = true := beq_iff_eq.mpr c11
       have c11b1 : (a1 != 1) = false := bne_eq_false_iff_eq.mpr c11
       clear c11
       by_cases c12 : a1 = 0
       ·rw [if_pos c12] at H
        have c12b0 : (a1 == 0) = true := beq_iff_eq.mpr c12
        have c12b1 : (a1 != 0) = false := bne_eq_false_iff_eq.mpr c12
        clear c12
        have H' := za.mk H
        clear H
        go_wp2
        go_roundg k2
        case measure => have := HJ3.out; have := HK2.out; omega
        case rel => exact ⟨(x7_2), (wrap64 (x16_2 + 1)), (by first | rfl | (simp; done) | (simp [*]; done)), H', ⟨by have := HJ3.out; have := HK2.out; omega⟩, ⟨uR HO_7⟩, ⟨sB⟩⟩
       rw [if_neg c12] at H
       have c12b0 : (a1 == 0) = false := beq_eq_false_iff_ne.mpr c12
       have c12b1 : (a1 != 0) = true := bne_iff_ne.mpr c12
       by_cases c13 : x7_2.length < 70368744177664
       ·rw [if_pos c13] at H
        have LMc13 := za.mk c13
        clear c13
        obtain ⟨y237, hy237⟩ : ∃ y_ : List (S38), y_ = (x7_2 ++ [(⟨IntKind.i8.wrap (x16_2), false⟩ : S38)]) := ⟨_, rfl⟩
        replace H : (impl_casesOf.l0 k2 a1 y237 a0 (wrap64 (x16_2 + 1))) = some r := by first | (rw [hy237]; with_reducible exact H) | (have H2_ := (Option.bind_some _ _).symm.trans H; rw [hy237]; with_reducible exact H2_) | (have H2_ := (Option.bind_some _ _).symm.trans H; with_reducible exact H2_) | with_reducible exact H | (rw [hy237]; exact H) | exact H
        have Ny237 := za.mk hy237
        clear hy237
        have H' := za.mk H
        clear H
        go_wp2_with (first | ((with_reducible refine zga (b := .append) (xs := #[.tmp 29, .tmp 33]) rfl ?_); at_builtin; refine Kd.R_append k38 (w0 := w) w.heap.size rfl (.tmp 29) (.tmp 33) 55 38 (.agg #[(.int .i8 0), (.bool false)]) 2 rfl Try.underlying55 zyb rfl (by decide) (by omega) u7 x7_2 (⟨IntKind.i8.wrap (x16_2), false⟩ : S38) [.int .i8 (IntKind.i8.wrap (x16_2)), .bool false] (fun _ => True) (fun _ => False) rfl rfl ?aP (fun _ hk => hk.elim) ?aF ?aO ?aB ?aS ?aL ?_; (case aP => exact znb _ _ _ (⟨IntKind.i8.wrap (x16_2), false⟩ : S38)); (case aB => exact sB); (case aF => exact (fun _ _ => trivial)); (case aO => exact (uR HO_7)); (case aS => exact (zv sB)); (case aL => have := LMc13.out; omega); intro v238 w14 ho hb hg hat; rw [← Ny237.out] at ho; have HO239 := za.mk ho; replace HB := za.mk hb; clear HO_7; clear ho hb hg hat))
        go_roundg k2
        case measure => have := HJ3.out; have := HK2.out; omega
        case rel => exact ⟨(y237), (wrap64 (x16_2 + 1)), (by first | rfl | (simp; done) | (simp [*]; done)), H', ⟨by have := HJ3.out; have := HK2.out; omega⟩, ⟨uR HO239⟩, ⟨sB⟩⟩
       rw [if_neg c13] at H
       exact absurd H (by simp)
      rw [if_neg c11] at H
      have c11b0 : (a1 == 1) = false := beq_eq_false_iff_ne.mpr c11
      have c11b1 : (a1 != 1) = true := bne_iff_ne.mpr c11
      by_cases c15 : x7_2.length < 70368744177664
      ·rw [if_pos c15] at H
       have LMc15 := za.mk c15
       clear c15
       obtain ⟨y240, hy240⟩ : ∃ y_ : List (S38), y_ = (x7_2 ++ [(⟨IntKind.i8.wrap (x16_2), true⟩ : S38)]) := ⟨_, rfl⟩
       replace H : (if a1 = 0 then (impl_casesOf.l0 k2 a1 y240 a0 (wrap64 (x16_2 + 1))) else (if y240.length < 70368744177664 then (impl_casesOf.l0 k2 a1 (y240 ++ [(⟨IntKind.i8.wrap (x16_2), false⟩ : S38)]) a0 (wrap64 (x16_2 + 1))) else (none))) = some r := by first | (rw [hy240]; with_reducible exact H) | (have H2_ := (Option.bind_some _ _).symm.trans H; rw [hy240]; with_reducible exact H2_) | (have H2_ := (Option.bind_some _ _).symm.trans H; with_reducible exact H2_) | with_reducible exact H | (rw [hy240]; exact H) | exact H
       have Ny240 := za.mk hy240
       clear hy240
       by_cases c16 : a1 = 0
       ·rw [if_pos c16] at H
        have c16b0 : (a1 == 0) = true := beq_iff_eq.mpr c16
        have c16b1 : (a1 != 0) = false := bne_eq_false_iff_eq.mpr c16
        clear c16
        have H' := za.mk H
        clear H
        go_wp2_with (first | ((with_reducible refine zga (b := .append) (xs := #[.tmp 21, .tmp 25]) rfl ?_); at_builtin; refine Kd.R_append k38 (w0 := w) w.heap.size rfl (.tmp 21) (.tmp 25) 55 38 (.agg #[(.int .i8 0), (.bool false)]) 2 rfl Try.underlying55 zyb rfl (by decide) (by omega) u7 x7_2 (⟨IntKind.i8.wrap (x16_2), true⟩ : S38) [.int .i8 (IntKind.i8.wrap (x16_2)), .bool true] (fun _ => True) (fun _ => False) rfl rfl ?aP (fun _ hk => hk.elim) ?aF ?aO ?aB ?aS ?aL ?_; (case aP => exact znb _ _ _ (⟨IntKind.i8.wrap (x16_2), true⟩ : S38)); (case aB => exact sB); (case aF => exact (fun _ _ => trivial)); (case aO => exact (uR HO_7)); (case aS => exact (zv sB)); (case aL => have := LMc15.out; omega); intro v241 w17 ho hb hg hat; rw [← Ny240.out] at ho; have HO242 := za.mk ho; replace HB := za.mk hb; clear HO_7; clear ho hb hg hat))
        go_roundg k2
        case measure => have := HJ3.out; have := HK2.out; omega
        case rel => exact ⟨(y240), (wrap64 (x16_2 + 1)), (by first | rfl | (simp; done) | (simp [*]; done)), H', ⟨by have := HJ3.out; have := HK2.out; omega⟩, ⟨uR HO242⟩, ⟨sB⟩⟩
       rw [if_neg c16] at H
       have c16b0 : (a1 == 0) = false := beq_eq_false_iff_ne.mpr c16
       have c16b1 : (a1 != 0) = true := bne_iff_ne.mpr c16
       by_cases c18 : y240.length < 70368744177664
       ·rw [if_pos c18] at H
        have LMc18 := za.mk c18
        clear c18
        obtain ⟨y243, hy243⟩ : ∃ y_ : List (S38), y_ = (y240 ++ [(⟨IntKind.i8.wrap (x16_2), false⟩ : S38)]) := ⟨_, rfl⟩
        replace H : (impl_casesOf.l0 k2 a1 y243 a0 (wrap64 (x16_2 + 1))) = some r := by first | (rw [hy243]; with_reducible exact H) | (have H2_ := (Option.bind_some _ _).symm.trans H; rw [hy243]; with_reducible exact H2_) | (have H2_ := (Option.bind_some _ _).symm.trans H; with_reducible exact H2_) | with_reducible exact H | (rw [hy243]; exact H) | exact H
        have Ny243 := za.mk hy243
        clear hy243
        have H' := za.mk H
        clear H
        go_wp2_with (first | ((with_reducible refine zga (b := .append) (xs := #[.tmp 21, .tmp 25]) rfl ?_); at_builtin; refine Kd.R_append k38 (w0 := w) w.heap.size rfl (.tmp 21) (.tmp 25) 55 38 (.agg #[(.int .i8 0), (.bool false)]) 2 rfl Try.underlying55 zyb rfl (by decide) (by omega) u7 x7_2 (⟨IntKind.i8.wrap (x16_2), true⟩ : S38) [.int .i8 (IntKind.i8.wrap (x16_2)), .bool true] (fun _ => True) (fun _ => False) rfl rfl ?aP (fun _ hk => hk.elim) ?aF ?aO ?aB ?aS ?aL ?_; (case aP => exact znb _ _ _ (⟨IntKind.i8.wrap (x16_2), true⟩ : S38)); (case aB => exact sB); (case aF => exact (fun _ _ => trivial)); (case aO => exact (uR HO_7)); (case aS => exact (zv sB)); (case aL => have := LMc15.out; omega); intro v241 w19 ho hb hg hat; rw [← Ny240.out] at ho; have HO242 := za.mk ho; replace HB := za.mk hb; clear HO_7; clear ho hb hg hat) | ((with_reducible refine zga (b := .append) (xs := #[.tmp 29, .tmp 33]) rfl ?_); at_builtin; refine Kd.R_append k38 (w0 := w) w.heap.size rfl (.tmp 29) (.tmp 33) 55 38 (.agg #[(.int .i8 0), (.bool false)]) 2 rfl Try.underlying55 zyb rfl (by decide) (by omega) v241 y240 (⟨IntKind.i8.wrap (x16_2), false⟩ : S38) [.int .i8 (IntKind.i8.wrap (x16_2)), .bool false] (fun _ => True) (fun _ => False) rfl rfl ?aP (fun _ hk => hk.elim) ?aF ?aO ?aB ?aS ?aL ?_; (case aP => exact znb _ _ _ (⟨IntKind.i8.wrap (x16_2), false⟩ : S38)); (case aB => exact sB); (case aF => exact (fun _ _ => trivial)); (case aO => exact (uR HO242)); (case aS => exact (zv sB)); (case aL => have := LMc18.out; omega); intro v244 w20 ho hb hg hat; rw [← Ny243.out] at ho; have HO245 := za.mk ho; replace HB := za.mk hb; clear HO242; clear ho hb hg hat))
        go_roundg k2
        case measure => have := HJ3.out; have := HK2.out; omega
        case rel => exact ⟨(y243), (wrap64 (x16_2 + 1)), (by first | rfl | (simp; done) | (simp [*]; done)), H', ⟨by have := HJ3.out; have := HK2.out; omega⟩, ⟨uR HO245⟩, ⟨sB⟩⟩
       rw [if_neg c18] at H
       exact absurd H (by simp)
      rw [if_neg c15] at H
      exact absurd H (by simp)
     rw [if_neg c10] at H
     have c10b0 : decide (x16_2 < a0) = false := decide_eq_false c10
     clear c10
     obtain rfl := Option.some.inj H
     go_wp2
     go_ret
     exact ⟨_, by first | rfl | (simp [zk, zj] <;> rfl) | (simp [*, zk, zj] <;> rfl), by (with_reducible repeat (first | apply Kd.R_alloc | apply Kd.R_drewN | apply Kd.R_drew)); exact HO_7.out, sB⟩

end Go.Proofs.Ytmfbcklaomigaaa.N
