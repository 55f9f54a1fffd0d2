/- The reference's WayTo. -/
import Derived.Test.YteciomagemjjaaaJx9
import Derived.Test.YteciomagemjjaaaLL2wJ
import Derived.Test.YteciomagemjjaaaLPrJ
namespace Go.Proofs.Yteciomagemjjaaa.J
open Go.RowKit Go.Proofs.YteciomagemjjaaaW.PrintWords Go.Proofs.YteciomagemjjaaaW.PrintLast Go.Proofs.YteciomagemjjaaaW.PrintMore
attribute [local go_sem] zma zna zxa zwa zia zja zoa zpa   -- for this text's walks alone
set_option linter.unusedVariables false
set_option linter.unusedSimpArgs false
/-! ### spec_WayTo: function 20 -/
def spec_WayTo.j0 : Nat → Bool → List Int → Int → Int → Int → Int → Bool → Int → Int → Int → Int → Option ((List (S80)) × Int)
 | 0, _, _, _, _, _, _, _, _, _, _, _ => none
 | k + 1, x16, x235000, x235001, x235002, x235003, x235004, x235005, x236000, x236001, x236002, x236003 => if x16 = true then (some ((([] : List (S80))), 1)) else ((spec_l02Find.f k x235000 x235001 x235002 x235003 x235004 x235005).bind fun t241 => ((spec_l02Index.f k x235000 x235001 x235002 x235003 x235004 x235005 x236000 x236001 x236002 x236003).bind fun t244 => (if 0 ≤ t244 then (if t244 < (t241.1.length : Int) then (if (rd t241.1 t244) < 0 then (some ((([] : List (S80))), 6)) else ((spec_l02Way.f k t241.1 t244 t241.2.2.1 t241.2.1).bind fun t252 => (some (t252, 0)))) else (none)) else (none))))
def spec_WayTo.f (k : Nat) (l0_0 : List Int) (a0_1 : Int) (a0_2 : Int) (a0_3 : Int) (a0_4 : Int) (a0_5 : Bool) (a1_0 : Int) (a1_1 : Int) (a1_2 : Int) (a1_3 : Int) : Option ((List (S80)) × Int) := (spec_l02Ok.f k l0_0 a0_1 a0_2 a0_3 a0_4 a0_5).bind fun t236 => (if t236 = true then ((spec_l02Water.f k l0_0 a1_0 a1_1 a1_2 a1_3).bind fun t237 => (spec_WayTo.j0 k (!t237) l0_0 a0_1 a0_2 a0_3 a0_4 a0_5 a1_0 a1_1 a1_2 a1_3)) else (spec_WayTo.j0 k true l0_0 a0_1 a0_2 a0_3 a0_4 a0_5 a1_0 a1_1 a1_2 a1_3))
set_option maxHeartbeats 8000000 in
set_option maxRecDepth 100000 in
theorem spec_WayTo.calls (k : Nat) (A0_0 : Option Addr) (c0_0 : Nat) (l0_0 : List Int) (a0_1 : Int) (a0_2 : Int) (a0_3 : Int) (a0_4 : Int) (a0_5 : Bool) (a1_0 : Int) (a1_1 : Int) (a1_2 : Int) (a1_3 : Int) (r1 : List (S80)) (r2 : Int) (w : World) (hr0_0 : Kd.C (Kd.int .i16) w A0_0 l0_0.length l0_0) (hc0_0 : l0_0.length ≤ c0_0) (h : spec_WayTo.f k l0_0 a0_1 a0_2 a0_3 a0_4 a0_5 a1_0 a1_1 a1_2 a1_3 = some (r1, r2)) :
  Calls Try.prog 20 #[.agg #[.slice A0_0 l0_0.length c0_0, .int .i16 a0_1, .int .i16 a0_2, .int .i16 a0_3, .int .i16 a0_4, .bool a0_5], .agg #[.int .i16 a1_0, .int .i16 a1_1, .int .i16 a1_2, .int .i16 a1_3]] w fun e w' => ∃ v0_ : Value, e = .returned (.tuple #[v0_, .int .i64 r2]) ∧ Kd.R k80 80 w' w.heap.size (fun _ => True) v0_ r1 ∧ Below w.heap.size w w' := by
 have hu29 := Try.underlying29
 have hu27 := Try.underlying27
 have HR0_0 := zb.mk hr0_0
 have HC0_0 := zb.mk hc0_0
 clear hr0_0 hc0_0
 have HB := zb.mk (Below.refl w.heap.size w)
 have H : ((spec_l02Ok.f k l0_0 a0_1 a0_2 a0_3 a0_4 a0_5).bind fun t236 => (if t236 = true then ((spec_l02Water.f k l0_0 a1_0 a1_1 a1_2 a1_3).bind fun t237 => (spec_WayTo.j0 k (!t237) l0_0 a0_1 a0_2 a0_3 a0_4 a0_5 a1_0 a1_1 a1_2 a1_3)) else (spec_WayTo.j0 k true l0_0 a0_1 a0_2 a0_3 a0_4 a0_5 a1_0 a1_1 a1_2 a1_3))) = some (r1, r2) := h
 clear h
 have HC3 := zb.mk H
 clear H
 go_enter Try.func20, Try.ntmps20
 go_upto_region 1 with (first | ((with_reducible refine zy (N := 2) rfl ?_); refine bx (N := 2) #[.slice A0_0 l0_0.length c0_0, .int .i16 a0_1, .int .i16 a0_2, .int .i16 a0_3, .int .i16 a0_4, .bool a0_5] 29 rfl ?_; intro gb234 hg w4 hbox hb; have BK234 := zb.mk hbox; have GW234 := gB hg; have GE234 := GW234; replace HB := zb.mk (zm sB hb); clear hb hbox hg) | ((with_reducible refine zy (N := 3) rfl ?_); refine bx (N := 3) #[.int .i16 a1_0, .int .i16 a1_1, .int .i16 a1_2, .int .i16 a1_3] 27 rfl ?_; intro gb235 hg w5 hbox hb; have BK235 := zb.mk hbox; have GW235 := gB hg; have GE235 := GW235; have NB234_235 := nK hg BK234; have NB235_234 := zb.mk NB234_235.out.symm; replace BK234 := dK BK234 hb; replace HB := zb.mk (zm sB hb); clear hb hbox hg))
 (try simp only [Act.put, List.setIfInBounds_toArray, List.set_cons_zero, List.set_cons_succ])
 go_cut [16] (fun v16 wc => ∃ (kq : Nat) (x16_2 : Bool) (x235001_2 : Int) (x235002_2 : Int) (x235003_2 : Int) (x235004_2 : Int) (x235005_2 : Bool), v16 = .bool x16_2 ∧ zb (spec_WayTo.j0 kq x16_2 l0_0 x235001_2 x235002_2 x235003_2 x235004_2 x235005_2 a1_0 a1_1 a1_2 a1_3 = some (r1, r2)) ∧ zb (kq ≤ k) ∧ zb (wc.heap[gb234]? = some (.cells #[(.slice A0_0 l0_0.length c0_0), .int .i16 x235001_2, .int .i16 x235002_2, .int .i16 x235003_2, .int .i16 x235004_2, .bool x235005_2] 29 (0, 0))) ∧ zb (wc.heap[gb235]? = some (.cells #[.int .i16 a1_0, .int .i16 a1_1, .int .i16 a1_2, .int .i16 a1_3] 27 (0, 0))) ∧ zb (Below w.heap.size w wc))
 case first =>
  have H := HC3.out
  clear HC3
  replace H := Option.bind_eq_some_iff.mp H
  obtain ⟨t236, A60, H⟩ := H
  replace H : (if t236 = true then ((spec_l02Water.f k l0_0 a1_0 a1_1 a1_2 a1_3).bind fun t237 => (spec_WayTo.j0 k (!t237) l0_0 a0_1 a0_2 a0_3 a0_4 a0_5 a1_0 a1_1 a1_2 a1_3)) else (spec_WayTo.j0 k true l0_0 a0_1 a0_2 a0_3 a0_4 a0_5 a1_0 a1_1 a1_2 a1_3)) = some (r1, r2) := H
  have A6 := zb.mk A60
  clear A60
  by_cases c7 : t236 = true
  ·subst c7
   have H1 : ((spec_l02Water.f k l0_0 a1_0 a1_1 a1_2 a1_3).bind fun t237 => (spec_WayTo.j0 k (!t237) l0_0 a0_1 a0_2 a0_3 a0_4 a0_5 a1_0 a1_1 a1_2 a1_3)) = some (r1, r2) := by rw [if_pos rfl] at H; exact H
   clear H
   have H := H1
   clear H1
   replace H := Option.bind_eq_some_iff.mp H
   obtain ⟨t237, A80, H⟩ := H
   replace H : (spec_WayTo.j0 k (!t237) l0_0 a0_1 a0_2 a0_3 a0_4 a0_5 a1_0 a1_1 a1_2 a1_3) = some (r1, r2) := H
   have A8 := zb.mk A80
   clear A80
   have H' := zb.mk H
   clear H
   go_wp2_with (first | ((with_reducible refine zt (f := 57) rfl ?_); refine gz (some 8) Try.func57 #[.pointer (some ⟨gb234, 0, none⟩)] rfl rfl ?_; (with_reducible refine (spec_l02Ok.calls k gb234 A0_0 c0_0 l0_0 a0_1 a0_2 a0_3 a0_4 a0_5 true _ ?side1 ?side2 ?side3 A6.out).mono ?_); (case side1 => exact uK BK234); (case side2 => exact uC HR0_0 HB); (case side3 => exact HC0_0.out); rintro e w9 ⟨rfl, hb⟩; refine ⟨_, rfl, ?_⟩; replace BK234 := dK BK234 hb; replace BK235 := dK BK235 hb; replace HB := zb.mk (zm sB hb); try clear hb; have hnb10 := NB234_235.out; have hnc10 := NB235_234.out; obtain ⟨hcz11_0, hcz11_1, hcz11_2, hcz11_3, hcz11_4, hcz11_5⟩ := xc6 BK234; obtain ⟨hfz11_0, hfz11_1, hfz11_2, hfz11_3, hfz11_4, hfz11_5⟩ := xf6 BK234; obtain ⟨hcz12_0, hcz12_1, hcz12_2, hcz12_3⟩ := xc4 BK235; obtain ⟨hfz12_0, hfz12_1, hfz12_2, hfz12_3⟩ := xf4 BK235) | (go_at_call 62; (with_reducible refine (spec_l02Water.calls k _ _ l0_0 a1_0 a1_1 a1_2 a1_3 t237 _ ?side1 ?side2 A8.out).mono ?_); (case side1 => exact uC HR0_0 HB); (case side2 => exact HC0_0.out); rintro e w13 ⟨rfl, hb⟩; replace BK234 := dK BK234 hb; replace BK235 := dK BK235 hb; replace HB := zb.mk (zm sB hb); try clear hb))
   go_meet
   case rel => exact ⟨_, (!t237), (a0_1), (a0_2), (a0_3), (a0_4), (a0_5), (by first | rfl | (simp; done) | (simp [*]; done)), H', ⟨by first | omega | exact Nat.le_refl _⟩, ⟨uK BK234⟩, ⟨uK BK235⟩, ⟨sB⟩⟩
  replace c7 := Bool.eq_false_iff.mpr c7
  subst c7
  have H1 : (spec_WayTo.j0 k true l0_0 a0_1 a0_2 a0_3 a0_4 a0_5 a1_0 a1_1 a1_2 a1_3) = some (r1, r2) := by rw [if_neg (show ¬ (false = true) by decide)] at H; exact H
  clear H
  have H := H1
  clear H1
  have H' := zb.mk H
  clear H
  go_wp2_with (first | ((with_reducible refine zt (f := 57) rfl ?_); refine gz (some 8) Try.func57 #[.pointer (some ⟨gb234, 0, none⟩)] rfl rfl ?_; (with_reducible refine (spec_l02Ok.calls k gb234 A0_0 c0_0 l0_0 a0_1 a0_2 a0_3 a0_4 a0_5 false _ ?side1 ?side2 ?side3 A6.out).mono ?_); (case side1 => exact uK BK234); (case side2 => exact uC HR0_0 HB); (case side3 => exact HC0_0.out); rintro e w14 ⟨rfl, hb⟩; refine ⟨_, rfl, ?_⟩; replace BK234 := dK BK234 hb; replace BK235 := dK BK235 hb; replace HB := zb.mk (zm sB hb); try clear hb))
  go_meet
  case rel => exact ⟨_, (true), (a0_1), (a0_2), (a0_3), (a0_4), (a0_5), (by first | rfl | (simp; done) | (simp [*]; done)), H', ⟨by first | omega | exact Nat.le_refl _⟩, ⟨uK BK234⟩, ⟨uK BK235⟩, ⟨sB⟩⟩
 case rest =>
  clear HC3
  try clear c1
  try clear c2
  try clear p2
  try clear c5
  try clear c7
  try clear c10
  try clear hcz11_0 hcz11_1 hcz11_2 hcz11_3 hcz11_4 hcz11_5
  try clear hcz12_0 hcz12_1 hcz12_2 hcz12_3
  try clear hfz11_0 hfz11_1 hfz11_2 hfz11_3 hfz11_4 hfz11_5
  try clear hfz12_0 hfz12_1 hfz12_2 hfz12_3
  obtain ⟨kq, x16_2, x235001_2, x235002_2, x235003_2, x235004_2, x235005_2, rfl, HA, HJ2, BK234, BK235, HB⟩ := hcut
  cases kq with
  | zero => exact absurd HA.out (by simp [spec_WayTo.j0])
  | succ kj2 =>
   have H := HA.out
   clear HA
   simp only [spec_WayTo.j0] at H
   by_cases c15 : x16_2 = true
   ·subst c15
    have H1 : (some ((([] : List (S80))), 1)) = some (r1, r2) := by rw [if_pos rfl] at H; exact H
    clear H
    have H := H1
    clear H1
    obtain ⟨y238, hy238⟩ : ∃ y_ : List (S80), y_ = (([] : List (S80))) := ⟨_, rfl⟩
    replace H : (some (y238, 1)) = some (r1, r2) := by first | (rw [hy238]; with_reducible exact H) | (have H2_ := (Option.bind_some _ _).symm.trans H; rw [hy238]; with_reducible exact H2_) | (have H2_ := (Option.bind_some _ _).symm.trans H; with_reducible exact H2_) | with_reducible exact H | (rw [hy238]; exact H) | exact H
    have Ny238 := zb.mk hy238
    clear hy238
    simp only [Option.some.injEq, Prod.mk.injEq] at H
    obtain ⟨rfl, rfl⟩ := H
    go_wp2_with (first | ((with_reducible refine zy (N := 17) rfl ?_); refine Kd.R_lit k80 _ 80 ?hg (N := 17) ?hd (xs := ([] : List (S80))) (inner := []) (ok := fun _ => True) (okp := fun _ => True) ?hr ?hp (fun _ hk => hk) trivial (Below.refl _ _) (Nat.le_refl _) (by simp) ?_; (case hd => rfl); (case hg => rfl); (case hr => first | (go_simp; done) | (go_simp; rfl)); (case hp => exact (Reps.none _ _)); intro v239 w16 ho17 hb hg_ hnew_; clear hg_ hnew_; (first | rw [← Ny238.out] at ho17 | (simp only [Int.reduceToNat] at ho17; rw [← Ny238.out] at ho17)); have HO240 := zb.mk (Kd.R_lower ho17 (zq sB)); replace BK234 := dK BK234 hb; replace BK235 := dK BK235 hb; replace HB := zb.mk (zm sB hb); clear hb ho17))
    go_ret2
    exact ⟨_, by first | rfl | (simp [zn, zo] <;> rfl) | (simp [*, zn, zo] <;> rfl), by (with_reducible repeat (first | apply Kd.R_alloc | apply Kd.R_drewN | apply Kd.R_drew)); exact HO240.out, sB⟩
   replace c15 := Bool.eq_false_iff.mpr c15
   subst c15
   have H1 : ((spec_l02Find.f kj2 l0_0 x235001_2 x235002_2 x235003_2 x235004_2 x235005_2).bind fun t241 => ((spec_l02Index.f kj2 l0_0 x235001_2 x235002_2 x235003_2 x235004_2 x235005_2 a1_0 a1_1 a1_2 a1_3).bind fun t244 => (if 0 ≤ t244 then (if t244 < (t241.1.length : Int) then (if (rd t241.1 t244) < 0 then (some ((([] : List (S80))), 6)) else ((spec_l02Way.f kj2 t241.1 t244 t241.2.2.1 t241.2.1).bind fun t252 => (some (t252, 0)))) else (none)) else (none)))) = some (r1, r2) := by rw [if_neg (show ¬ (false = true) by decide)] at H; exact H
   clear H
   have H := H1
   clear H1
   replace H := Option.bind_eq_some_iff.mp H
   obtain ⟨t241, A180, H⟩ := H
   replace H : ((spec_l02Index.f kj2 l0_0 x235001_2 x235002_2 x235003_2 x235004_2 x235005_2 a1_0 a1_1 a1_2 a1_3).bind fun t244 => (if 0 ≤ t244 then (if t244 < (t241.1.length : Int) then (if (rd t241.1 t244) < 0 then (some ((([] : List (S80))), 6)) else ((spec_l02Way.f kj2 t241.1 t244 t241.2.2.1 t241.2.1).bind fun t252 => (some (t252, 0)))) else (none)) else (none))) = some (r1, r2) := H
   have A18 := zb.mk A180
   clear A180
   replace H := Option.bind_eq_some_iff.mp H
   obtain ⟨t244, A190, H⟩ := H
   replace H : (if 0 ≤ t244 then (if t244 < (t241.1.length : Int) then (if (rd t241.1 t244) < 0 then (some ((([] : List (S80))), 6)) else ((spec_l02Way.f kj2 t241.1 t244 t241.2.2.1 t241.2.1).bind fun t252 => (some (t252, 0)))) else (none)) else (none)) = some (r1, r2) := H
   have A19 := zb.mk A190
   clear A190
   by_cases c20 : 0 ≤ t244
   ·rw [if_pos c20] at H
    have c20b0 : decide (0 ≤ t244) = true := decide_eq_true c20
    clear c20
    by_cases c21 : t244 < (t241.1.length : Int)
    ·rw [if_pos c21] at H
     have c21b0 : decide (t244 < (t241.1.length : Int)) = true := decide_eq_true c21
     clear c21
     by_cases c22 : (rd t241.1 t244) < 0
     ·rw [if_pos c22] at H
      have c22b0 : decide ((rd t241.1 t244) < 0) = true := decide_eq_true c22
      clear c22
      obtain ⟨y246, hy246⟩ : ∃ y_ : List (S80), y_ = (([] : List (S80))) := ⟨_, rfl⟩
      replace H : (some (y246, 6)) = some (r1, r2) := by first | (rw [hy246]; with_reducible exact H) | (have H2_ := (Option.bind_some _ _).symm.trans H; rw [hy246]; with_reducible exact H2_) | (have H2_ := (Option.bind_some _ _).symm.trans H; with_reducible exact H2_) | with_reducible exact H | (rw [hy246]; exact H) | exact H
      have Ny246 := zb.mk hy246
      clear hy246
      simp only [Option.some.injEq, Prod.mk.injEq] at H
      obtain ⟨rfl, rfl⟩ := H
      go_wp2_with (first | ((with_reducible refine zt (f := 58) rfl ?_); refine gz (some 18) Try.func58 #[.pointer (some ⟨gb234, 0, none⟩)] rfl rfl ?_; (with_reducible refine (spec_l02Find.calls kj2 gb234 A0_0 c0_0 l0_0 x235001_2 x235002_2 x235003_2 x235004_2 x235005_2 t241 _ ?side1 ?side2 ?side3 A18.out).mono ?_); (case side1 => exact uK BK234); (case side2 => exact uC HR0_0 HB); (case side3 => exact HC0_0.out); rintro e w23 ⟨gs, rfl, hge, v242, vF_, vB_, vO_, hbk, ho0, hr1_, hr2_, hr3_, hb⟩; refine ⟨_, rfl, ?_⟩; obtain ⟨A1_, c1_, e1_⟩ := Kd.R_slice hr1_; subst e1_; obtain ⟨A2_, c2_, e2_⟩ := Kd.R_slice hr2_; subst e2_; obtain ⟨A0_, c0_, e0_⟩ := Kd.R_slice ho0; subst e0_; have FS := zb.mk hbk; have FR1 := zb.mk (Kd.R_reads' hr1_); have FR2 := zb.mk (Kd.R_reads' hr2_); clear hbk hge hr1_ hr2_ hr3_; have HO243 := zb.mk (Kd.R_lower ho0 (zq sB)); replace BK234 := dK BK234 hb; replace BK235 := dK BK235 hb; replace HB := zb.mk (zm sB hb); try clear hb; have hnb24 := NB235_234.out; have hnc24 := NB234_235.out; obtain ⟨hcz25_0, hcz25_1, hcz25_2, hcz25_3⟩ := xc4 BK235; obtain ⟨hfz25_0, hfz25_1, hfz25_2, hfz25_3⟩ := xf4 BK235) | ((with_reducible refine zt (f := 63) rfl ?_); refine gz (some 20) Try.func63 #[.pointer (some ⟨gb234, 0, none⟩), .agg #[.int .i16 a1_0, .int .i16 a1_1, .int .i16 a1_2, .int .i16 a1_3]] rfl rfl ?_; (with_reducible refine (spec_l02Index.calls kj2 gb234 A0_0 c0_0 l0_0 x235001_2 x235002_2 x235003_2 x235004_2 x235005_2 a1_0 a1_1 a1_2 a1_3 t244 _ ?side1 ?side2 ?side3 A19.out).mono ?_); (case side1 => exact uK BK234); (case side2 => exact uC HR0_0 HB); (case side3 => exact HC0_0.out); rintro e w26 ⟨rfl, hb⟩; refine ⟨_, rfl, ?_⟩; have fs_ := dK FS hb; have f1_ := zb.mk (And.intro FR1.out.2.1 (Kd.C_below (by (with_reducible repeat (first | apply Kd.C_alloc | apply Kd.C_drewN | apply Kd.C_drew)); exact FR1.out.2.2) hb)); have f2_ := zb.mk (And.intro FR2.out.2.1 (Kd.C_below (by (with_reducible repeat (first | apply Kd.C_alloc | apply Kd.C_drewN | apply Kd.C_drew)); exact FR2.out.2.2) hb)); clear FS FR1 FR2; have FS := fs_; have FR1 := f1_; have FR2 := f2_; clear fs_ f1_ f2_; replace HO243 := dR HO243 hb; replace BK234 := dK BK234 hb; replace BK235 := dK BK235 hb; replace HB := zb.mk (zm sB hb); try clear hb; have p245 : 0 ≤ (t244 : Int) := of_decide_eq_true (by first | (with_reducible assumption) | assumption); have q245 : t244 < (t241.1.length : Int) := of_decide_eq_true (by first | (with_reducible assumption) | assumption); obtain ⟨ad245, e245, hx245_0⟩ := Kd.at_int (Kd.R_reads' HO243.out).2.2 t244 p245 q245; cases e245; replace p245 := eq_true p245; replace q245 := eq_true q245; have hs0 := zgc FS.out) | ((with_reducible refine zy (N := 29) rfl ?_); refine Kd.R_lit k80 _ 80 ?hg (N := 29) ?hd (xs := ([] : List (S80))) (inner := []) (ok := fun _ => True) (okp := fun _ => True) ?hr ?hp (fun _ hk => hk) trivial (Below.refl _ _) (Nat.le_refl _) (by simp) ?_; (case hd => rfl); (case hg => rfl); (case hr => first | (go_simp; done) | (go_simp; rfl)); (case hp => exact (Reps.none _ _)); intro v247 w28 ho29 hb hg_ hnew_; clear hg_ hnew_; (first | rw [← Ny246.out] at ho29 | (simp only [Int.reduceToNat] at ho29; rw [← Ny246.out] at ho29)); have HO248 := zb.mk (Kd.R_lower ho29 (zq sB)); replace HO243 := dR HO243 hb; replace BK234 := dK BK234 hb; replace BK235 := dK BK235 hb; replace HB := zb.mk (zm sB hb); clear hb ho29))
      go_ret2
      exact ⟨_, by first | rfl | (simp [zn, zo] <;> rfl) | (simp [*, zn, zo] <;> rfl), by (with_reducible repeat (first | apply Kd.R_alloc | apply Kd.R_drewN | apply Kd.R_drew)); exact HO248.out, sB⟩
     rw [if_neg c22] at H
     have c22b0 : decide ((rd t241.1 t244) < 0) = false := decide_eq_false c22
     clear c22
     replace H := Option.bind_eq_some_iff.mp H
     obtain ⟨t252, A310, H⟩ := H
     replace H : (some (t252, 0)) = some (r1, r2) := H
     have A31 := zb.mk A310
     clear A310
     simp only [Option.some.injEq, Prod.mk.injEq] at H
     obtain ⟨rfl, rfl⟩ := H
     go_wp2_with (first | ((with_reducible refine zt (f := 58) rfl ?_); refine gz (some 18) Try.func58 #[.pointer (some ⟨gb234, 0, none⟩)] rfl rfl ?_; (with_reducible refine (spec_l02Find.calls kj2 gb234 A0_0 c0_0 l0_0 x235001_2 x235002_2 x235003_2 x235004_2 x235005_2 t241 _ ?side1 ?side2 ?side3 A18.out).mono ?_); (case side1 => exact uK BK234); (case side2 => exact uC HR0_0 HB); (case side3 => exact HC0_0.out); rintro e w32 ⟨gs, rfl, hge, v242, vF_, vB_, vO_, hbk, ho0, hr1_, hr2_, hr3_, hb⟩; refine ⟨_, rfl, ?_⟩; obtain ⟨A1_, c1_, e1_⟩ := Kd.R_slice hr1_; subst e1_; obtain ⟨A2_, c2_, e2_⟩ := Kd.R_slice hr2_; subst e2_; obtain ⟨A0_, c0_, e0_⟩ := Kd.R_slice ho0; subst e0_; have FS := zb.mk hbk; have FR1 := zb.mk (Kd.R_reads' hr1_); have FR2 := zb.mk (Kd.R_reads' hr2_); clear hbk hge hr1_ hr2_ hr3_; have HO243 := zb.mk (Kd.R_lower ho0 (zq sB)); replace BK234 := dK BK234 hb; replace BK235 := dK BK235 hb; replace HB := zb.mk (zm sB hb); try clear hb; have hnb33 := NB235_234.out; have hnc33 := NB234_235.out; obtain ⟨hcz34_0, hcz34_1, hcz34_2, hcz34_3⟩ := xc4 BK235; obtain ⟨hfz34_0, hfz34_1, hfz34_2, hfz34_3⟩ := xf4 BK235) | ((with_reducible refine zt (f := 63) rfl ?_); refine gz (some 20) Try.func63 #[.pointer (some ⟨gb234, 0, none⟩), .agg #[.int .i16 a1_0, .int .i16 a1_1, .int .i16 a1_2, .int .i16 a1_3]] rfl rfl ?_; (with_reducible refine (spec_l02Index.calls kj2 gb234 A0_0 c0_0 l0_0 x235001_2 x235002_2 x235003_2 x235004_2 x235005_2 a1_0 a1_1 a1_2 a1_3 t244 _ ?side1 ?side2 ?side3 A19.out).mono ?_); (case side1 => exact uK BK234); (case side2 => exact uC HR0_0 HB); (case side3 => exact HC0_0.out); rintro e w35 ⟨rfl, hb⟩; refine ⟨_, rfl, ?_⟩; have fs_ := dK FS hb; have f1_ := zb.mk (And.intro FR1.out.2.1 (Kd.C_below (by (with_reducible repeat (first | apply Kd.C_alloc | apply Kd.C_drewN | apply Kd.C_drew)); exact FR1.out.2.2) hb)); have f2_ := zb.mk (And.intro FR2.out.2.1 (Kd.C_below (by (with_reducible repeat (first | apply Kd.C_alloc | apply Kd.C_drewN | apply Kd.C_drew)); exact FR2.out.2.2) hb)); clear FS FR1 FR2; have FS := fs_; have FR1 := f1_; have FR2 := f2_; clear fs_ f1_ f2_; replace HO243 := dR HO243 hb; replace BK234 := dK BK234 hb; replace BK235 := dK BK235 hb; replace HB := zb.mk (zm sB hb); try clear hb; have p245 : 0 ≤ (t244 : Int) := of_decide_eq_true (by first | (with_reducible assumption) | assumption); have q245 : t244 < (t241.1.length : Int) := of_decide_eq_true (by first | (with_reducible assumption) | assumption); obtain ⟨ad245, e245, hx245_0⟩ := Kd.at_int (Kd.R_reads' HO243.out).2.2 t244 p245 q245; cases e245; replace p245 := eq_true p245; replace q245 := eq_true q245; have hs0 := zgc FS.out) | ((with_reducible refine zt (f := 67) rfl ?_); refine gz (some 32) Try.func67 #[.pointer (some ⟨gs, 0, none⟩), .int .i64 t244] rfl rfl ?_; (refine (spec_l02Way.calls kj2 gs vO_ (some ad245) c0_ t241.1 t244 A2_ c2_ t241.2.2.1 A1_ c1_ t241.2.1 t252 _ ?hbk ?side1 ?side2 ?side3 ?side4 ?side5 ?side6 A31.out).mono ?_); (case hbk => exact by (with_reducible repeat (first | refine zg ?_ _ | refine zh ?_ | refine ze ?_ _)); exact FS.out); (case side1 => exact uQ HO243); (case side2 => exact (Kd.R_reads' HO243.out).2.1); (case side3 => exact by (with_reducible repeat (first | apply Kd.C_alloc | apply Kd.C_drewN | apply Kd.C_drew)); exact FR2.out.2); (case side4 => exact FR2.out.1); (case side5 => exact by (with_reducible repeat (first | apply Kd.C_alloc | apply Kd.C_drewN | apply Kd.C_drew)); exact FR1.out.2); (case side6 => exact FR1.out.1); rintro e w39 ⟨v253, rfl, ho0, hb⟩; refine ⟨_, rfl, ?_⟩; have HO254 := zb.mk (Kd.R_lower ho0 (zq sB)); replace HO243 := dR HO243 hb; replace BK234 := dK BK234 hb; replace BK235 := dK BK235 hb; replace HB := zb.mk (zm sB hb); try clear hb))
     go_ret2
     exact ⟨_, by first | rfl | (simp [zn, zo] <;> rfl) | (simp [*, zn, zo] <;> rfl), by (with_reducible repeat (first | apply Kd.R_alloc | apply Kd.R_drewN | apply Kd.R_drew)); exact Kd.R_mono HO254.out (fun _ hk => trivial), sB⟩
    rw [if_neg c21] at H
    exact absurd H (by simp)
   rw [if_neg c20] at H
   exact absurd H (by simp)
end Go.Proofs.Yteciomagemjjaaa.J
