/- The reference's WayToAmount. -/
import Derived.Test.YteciomagemjjaaaLHasSJ
import Derived.Test.YteciomagemjjaaaLL2wJ
import Derived.Test.YteciomagemjjaaaLPrJ
namespace Go.Proofs.Yteciomagemjjaaa.J
open Go.RowKit Go.Proofs.YteciomagemjjaaaW.PrintWords Go.Proofs.YteciomagemjjaaaW.PrintLast Go.Proofs.YteciomagemjjaaaW.PrintMore
attribute [local go_sem] zna zka zra zsa zga zha zla zma   -- for this text's walks alone
set_option linter.unusedVariables false
set_option linter.unusedSimpArgs false
/-- What stood in w0 stands. -/
def BF (w0 W : World) : Prop := Below w0.heap.size w0 W
theorem BF.refl_ (w : World) : BF w w := Below.refl _ _
theorem uF {w0 W W' : World} (h : za (BF w0 W)) (u : Below W.heap.size W W' := by with_reducible repeat (first | exact Below.refl _ _ | apply zy | apply zm | apply zv)) : Below w0.heap.size w0 W' := zi h.out u
theorem dF {w0 W W' W2 : World} (h : za (BF w0 W)) (k : Below W'.heap.size W' W2) (u : Below W.heap.size W W' := by with_reducible repeat (first | exact Below.refl _ _ | apply zy | apply zm | apply zv)) : za (BF w0 W2) := ⟨zi (zi h.out u) k⟩
/-! ### spec_WayToAmount: function 25 -/
def spec_WayToAmount.l0 : Nat → Int → (List Int × List Int × List S80 × List Int) → Int → List Int → Int → Int → Int → Int → Bool → Option ((List (S80)) × Int)
 | 0, _, _, _, _, _, _, _, _, _ => none
 | k + 1, x1, x7, x8, x236000, x236001, x236002, x236003, x236004, x236005 => if x8 < (x7.2.2.2.length : Int) then (if 0 ≤ x8 then ((spec_l02At.f k x236000 x236001 x236002 x236003 x236004 x236005 (rd x7.2.2.2 x8)).bind fun bt247 => ((spec_l02Has.f k x236000 x236001 x236002 x236003 x236004 x236005 bt247.1 bt247.2.1 bt247.2.2.1 bt247.2.2.2 x1).bind fun t251 => (if t251 = true then ((spec_l02Way.f k x7.1 (rd x7.2.2.2 x8) x7.2.2.1 x7.2.1).bind fun t253 => (some (t253, 0))) else (spec_WayToAmount.l0 k x1 x7 (wrap64 (x8 + 1)) x236000 x236001 x236002 x236003 x236004 x236005)))) else (none)) else (some ((([] : List (S80))), 6))
def spec_WayToAmount.f (k : Nat) (l0_0 : List Int) (a0_1 : Int) (a0_2 : Int) (a0_3 : Int) (a0_4 : Int) (a0_5 : Bool) (a1 : Int) : Option ((List (S80)) × Int) := (spec_l02Amount.f k l0_0 a0_1 a0_2 a0_3 a0_4 a0_5 a1).bind fun t236 => (if t236 = 0 then ((spec_l02Find.f k l0_0 a0_1 a0_2 a0_3 a0_4 a0_5).bind fun t240 => (spec_WayToAmount.l0 k a1 t240 0 l0_0 a0_1 a0_2 a0_3 a0_4 a0_5)) else (some ((([] : List (S80))), t236)))
set_option maxHeartbeats 8000000 in
set_option maxRecDepth 100000 in
theorem spec_WayToAmount.calls (k : Nat) (A0_0 : Option Addr) (c0_0 : Nat) (l0_0 : List Int) (a0_1 : Int) (a0_2 : Int) (a0_3 : Int) (a0_4 : Int) (a0_5 : Bool) (a1 : Int) (r1 : List (S80)) (r2 : Int) (w : World) (hr0_0 : Kd.C (Kd.int .i16) w A0_0 l0_0.length l0_0) (hc0_0 : l0_0.length ≤ c0_0) (h : spec_WayToAmount.f k l0_0 a0_1 a0_2 a0_3 a0_4 a0_5 a1 = some (r1, r2)) :
  Calls Try.prog 25 #[.agg #[.slice A0_0 l0_0.length c0_0, .int .i16 a0_1, .int .i16 a0_2, .int .i16 a0_3, .int .i16 a0_4, .bool a0_5], .int .i64 a1] w fun e w' => ∃ v0_ : Value, e = .returned (.tuple #[v0_, .int .i64 r2]) ∧ Kd.R k80 80 w' w.heap.size (fun _ => True) v0_ r1 ∧ Below w.heap.size w w' := by
 have hu29 := Try.underlying29
 have HR0_0 := za.mk hr0_0
 have HC0_0 := za.mk hc0_0
 clear hr0_0 hc0_0
 have HB := za.mk (Below.refl w.heap.size w)
 have H : ((spec_l02Amount.f k l0_0 a0_1 a0_2 a0_3 a0_4 a0_5 a1).bind fun t236 => (if t236 = 0 then ((spec_l02Find.f k l0_0 a0_1 a0_2 a0_3 a0_4 a0_5).bind fun t240 => (spec_WayToAmount.l0 k a1 t240 0 l0_0 a0_1 a0_2 a0_3 a0_4 a0_5)) else (some ((([] : List (S80))), t236)))) = some (r1, r2) := h
 clear h
 replace H := Option.bind_eq_some_iff.mp H
 obtain ⟨t236, A30, H⟩ := H
 replace H : (if t236 = 0 then ((spec_l02Find.f k l0_0 a0_1 a0_2 a0_3 a0_4 a0_5).bind fun t240 => (spec_WayToAmount.l0 k a1 t240 0 l0_0 a0_1 a0_2 a0_3 a0_4 a0_5)) else (some ((([] : List (S80))), t236))) = some (r1, r2) := H
 have A3 := za.mk A30
 clear A30
 by_cases c4 : t236 = 0
 ·rw [if_pos c4] at H
  have c4b0 : (t236 == 0) = true := beq_iff_eq.mpr c4
  have c4b1 : (t236 != 0) = false := bne_eq_false_iff_eq.mpr c4
  clear c4
  replace H := Option.bind_eq_some_iff.mp H
  obtain ⟨t240, A50, H⟩ := H
  replace H : (spec_WayToAmount.l0 k a1 t240 0 l0_0 a0_1 a0_2 a0_3 a0_4 a0_5) = some (r1, r2) := H
  have A5 := za.mk A50
  clear A50
  have H' := za.mk H
  clear H
  go_enter Try.func25, Try.ntmps25
  go_wp2_with (first | ((with_reducible refine zu (N := 2) rfl ?_); refine bx (N := 2) #[.slice A0_0 l0_0.length c0_0, .int .i16 a0_1, .int .i16 a0_2, .int .i16 a0_3, .int .i16 a0_4, .bool a0_5] 29 rfl ?_; intro gb235 hg w6 hbox hb; have BK235 := za.mk hbox; have GW235 := gB hg; have GE235 := gB hg; replace HB := za.mk (zi sB hb); clear hb hbox hg) | ((with_reducible refine zl (f := 72) rfl ?_); refine gz (some 10) Try.func72 #[.pointer (some ⟨gb235, 0, none⟩), .int .i64 a1] rfl rfl ?_; (with_reducible refine (spec_l02Amount.calls k gb235 A0_0 c0_0 l0_0 a0_1 a0_2 a0_3 a0_4 a0_5 a1 t236 _ ?side1 ?side2 ?side3 A3.out).mono ?_); (case side1 => exact uK BK235); (case side2 => exact uC HR0_0 HB); (case side3 => exact HC0_0.out); rintro e w7 ⟨rfl, hb⟩; refine ⟨_, rfl, ?_⟩; replace BK235 := dK BK235 hb; replace HB := za.mk (zi sB hb); try clear hb) | ((with_reducible refine zl (f := 58) rfl ?_); refine gz (some 15) Try.func58 #[.pointer (some ⟨gb235, 0, none⟩)] rfl rfl ?_; (with_reducible refine (spec_l02Find.calls k gb235 A0_0 c0_0 l0_0 a0_1 a0_2 a0_3 a0_4 a0_5 t240 _ ?side1 ?side2 ?side3 A5.out).mono ?_); (case side1 => exact uK BK235); (case side2 => exact uC HR0_0 HB); (case side3 => exact HC0_0.out); rintro e w8 ⟨gs, rfl, hge, vS_, vF_, vB_, v241, hbk, hr0_, hr1_, hr2_, ho0, hb⟩; refine ⟨_, rfl, ?_⟩; obtain ⟨S_, cS_, eS_⟩ := Kd.R_slice hr0_; subst eS_; obtain ⟨F_, cF_, eF_⟩ := Kd.R_slice hr1_; subst eF_; obtain ⟨B_, cB_, eB_⟩ := Kd.R_slice hr2_; subst eB_; obtain ⟨Ao_, co_, eo_⟩ := Kd.R_slice ho0; subst eo_; have FS := za.mk hbk; have FR0 := za.mk (Kd.R_reads' hr0_); have FR1 := za.mk (Kd.R_reads' hr1_); have FR2 := za.mk (Kd.R_reads' hr2_); have HBF := za.mk (BF.refl_ w8); clear hbk hge hr0_ hr1_ hr2_; have HO242 := za.mk (Kd.R_lower ho0 (zz sB)); replace BK235 := dK BK235 hb; replace HB := za.mk (zi sB hb); try clear hb))
  go_loopg [8] k (fun kq v8 w' => ∃ (x8_1 : Int) (x236001_1 : Int) (x236002_1 : Int) (x236003_1 : Int) (x236004_1 : Int) (x236005_1 : Bool), v8 = .int .i64 x8_1 ∧ za (spec_WayToAmount.l0 kq a1 t240 x8_1 l0_0 x236001_1 x236002_1 x236003_1 x236004_1 x236005_1 = some (r1, r2)) ∧ za (kq ≤ k) ∧ za (Kd.R (Kd.int .i64) 2 w' w.heap.size (fun _ => True) (.slice Ao_ t240.2.2.2.length co_) t240.2.2.2) ∧ za (w'.heap[gb235]? = some (.cells #[(.slice A0_0 l0_0.length c0_0), .int .i16 x236001_1, .int .i16 x236002_1, .int .i16 x236003_1, .int .i16 x236004_1, .bool x236005_1] 29 (0, 0))) ∧ za (BF w8 w') ∧ za (Below w.heap.size w w'))
  case atStart => exact ⟨(0), (a0_1), (a0_2), (a0_3), (a0_4), (a0_5), (by first | rfl | (simp; done) | (simp [*]; done)), H', ⟨Nat.le_refl _⟩, ⟨uR HO242⟩, ⟨uK BK235⟩, ⟨uF HBF⟩, ⟨sB⟩⟩
  case round =>
   clear H'
   try clear c2
   try clear p2
   try clear c4
   try clear c4b0
   try clear c4b1
   try clear c5
   try clear c7
   obtain ⟨x8_1, x236001_1, x236002_1, x236003_1, x236004_1, x236005_1, rfl, HA, HK1, HO_7, BK235, HBF, HB⟩ := hrel
   cases gk with
   | zero => exact absurd HA.out (by simp [spec_WayToAmount.l0])
   | succ k1 =>
    have H := HA.out
    clear HA
    simp only [spec_WayToAmount.l0] at H
    by_cases c9 : x8_1 < (t240.2.2.2.length : Int)
    ·rw [if_pos c9] at H
     have c9b0 : decide (x8_1 < (t240.2.2.2.length : Int)) = true := decide_eq_true c9
     clear c9
     by_cases c10 : 0 ≤ x8_1
     ·rw [if_pos c10] at H
      have c10b0 : decide (0 ≤ x8_1) = true := decide_eq_true c10
      clear c10
      replace H := Option.bind_eq_some_iff.mp H
      obtain ⟨⟨t247, t248, t249, t250⟩, A110, H⟩ := H
      replace H : ((spec_l02Has.f k1 l0_0 x236001_1 x236002_1 x236003_1 x236004_1 x236005_1 t247 t248 t249 t250 a1).bind fun t251 => (if t251 = true then ((spec_l02Way.f k1 t240.1 (rd t240.2.2.2 x8_1) t240.2.2.1 t240.2.1).bind fun t253 => (some (t253, 0))) else (spec_WayToAmount.l0 k1 a1 t240 (wrap64 (x8_1 + 1)) l0_0 x236001_1 x236002_1 x236003_1 x236004_1 x236005_1))) = some (r1, r2) := H
      have A11 := za.mk A110
      clear A110
      replace H := Option.bind_eq_some_iff.mp H
      obtain ⟨t251, A120, H⟩ := H
      replace H : (if t251 = true then ((spec_l02Way.f k1 t240.1 (rd t240.2.2.2 x8_1) t240.2.2.1 t240.2.1).bind fun t253 => (some (t253, 0))) else (spec_WayToAmount.l0 k1 a1 t240 (wrap64 (x8_1 + 1)) l0_0 x236001_1 x236002_1 x236003_1 x236004_1 x236005_1)) = some (r1, r2) := H
      have A12 := za.mk A120
      clear A120
      by_cases c13 : t251 = true
      ·subst c13
       have H1 : ((spec_l02Way.f k1 t240.1 (rd t240.2.2.2 x8_1) t240.2.2.1 t240.2.1).bind fun t253 => (some (t253, 0))) = some (r1, r2) := by rw [if_pos rfl] at H; exact H
       clear H
       have H := H1
       clear H1
       replace H := Option.bind_eq_some_iff.mp H
       obtain ⟨t253, A140, H⟩ := H
       replace H : (some (t253, 0)) = some (r1, r2) := H
       have A14 := za.mk A140
       clear A140
       simp only [Option.some.injEq, Prod.mk.injEq] at H
       obtain ⟨rfl, rfl⟩ := H
       have hs3 := zfc (zaa FS.out HBF.out)
       have p246 : 0 ≤ (x8_1 : Int) := of_decide_eq_true (by first | (with_reducible assumption) | assumption)
       have q246 : x8_1 < (t240.2.2.2.length : Int) := of_decide_eq_true (by first | (with_reducible assumption) | assumption)
       obtain ⟨ad246, e246, hx246_0⟩ := Kd.at_int (Kd.R_reads' HO_7.out).2.2 x8_1 p246 q246
       cases e246
       replace p246 := eq_true p246
       replace q246 := eq_true q246
       go_wp2_with (first | ((with_reducible refine zl (f := 74) rfl ?_); refine gz (some 32) Try.func74 #[.pointer (some ⟨gb235, 0, none⟩), .int .i64 (rd t240.2.2.2 x8_1)] rfl rfl ?_; (with_reducible refine (spec_l02At.calls k1 gb235 A0_0 c0_0 l0_0 x236001_1 x236002_1 x236003_1 x236004_1 x236005_1 (rd t240.2.2.2 x8_1) t247 t248 t249 t250 _ ?side1 ?side2 ?side3 A11.out).mono ?_); (case side1 => exact uK BK235); (case side2 => exact uC HR0_0 HB); (case side3 => exact HC0_0.out); rintro e w16 ⟨rfl, hb⟩; refine ⟨_, rfl, ?_⟩; replace HO_7 := dR HO_7 hb; replace BK235 := dK BK235 hb; replace HBF := dF HBF hb; replace HB := za.mk (zi sB hb); try clear hb) | ((with_reducible refine zl (f := 73) rfl ?_); refine gz (some 34) Try.func73 #[.pointer (some ⟨gb235, 0, none⟩), .agg #[.int .i16 t247, .int .i16 t248, .int .i16 t249, .int .i16 t250], .int .i64 a1] rfl rfl ?_; (with_reducible refine (spec_l02Has.calls k1 gb235 A0_0 c0_0 l0_0 x236001_1 x236002_1 x236003_1 x236004_1 x236005_1 t247 t248 t249 t250 a1 true _ ?side1 ?side2 ?side3 A12.out).mono ?_); (case side1 => exact uK BK235); (case side2 => exact uC HR0_0 HB); (case side3 => exact HC0_0.out); rintro e w17 ⟨rfl, hb⟩; refine ⟨_, rfl, ?_⟩; replace HO_7 := dR HO_7 hb; replace BK235 := dK BK235 hb; replace HBF := dF HBF hb; replace HB := za.mk (zi sB hb); try clear hb; have hs3 := zfc (zaa FS.out HBF.out); have p252 : 0 ≤ (x8_1 : Int) := of_decide_eq_true (by first | (with_reducible assumption) | assumption); have q252 : x8_1 < (t240.2.2.2.length : Int) := of_decide_eq_true (by first | (with_reducible assumption) | assumption); obtain ⟨ad252, e252, hx252_0⟩ := Kd.at_int (Kd.R_reads' HO_7.out).2.2 x8_1 p252 q252; obtain rfl : ad246 = ad252 := (by injection e252); replace p252 := eq_true p252; replace q252 := eq_true q252) | ((with_reducible refine zl (f := 67) rfl ?_); refine gz (some 43) Try.func67 #[.pointer (some ⟨gs, 0, none⟩), .int .i64 (rd t240.2.2.2 x8_1)] rfl rfl ?_; (with_reducible refine (spec_l02Way.calls k1 gs (.slice (some ad246) t240.2.2.2.length co_) S_ cS_ t240.1 (rd t240.2.2.2 x8_1) B_ cB_ t240.2.2.1 F_ cF_ t240.2.1 t253 _ ?hbk ?side1 ?side2 ?side3 ?side4 ?side5 ?side6 A14.out).mono ?_); (case hbk => exact zaa FS.out (uF HBF)); (case side1 => exact Kd.C_below FR0.out.2.2 (uF HBF)); (case side2 => exact FR0.out.2.1); (case side3 => exact Kd.C_below FR2.out.2.2 (uF HBF)); (case side4 => exact FR2.out.2.1); (case side5 => exact Kd.C_below FR1.out.2.2 (uF HBF)); (case side6 => exact FR1.out.2.1); rintro e w18 ⟨v254, rfl, ho0, hb⟩; refine ⟨_, rfl, ?_⟩; have HO255 := za.mk (Kd.R_lower ho0 (zz sB)); replace HO_7 := dR HO_7 hb; replace BK235 := dK BK235 hb; replace HBF := dF HBF hb; replace HB := za.mk (zi sB hb); try clear hb))
       go_ret2
       exact ⟨_, by first | rfl | (simp [zj, zk] <;> rfl) | (simp [*, zj, zk] <;> rfl), by (with_reducible repeat (first | apply Kd.R_alloc | apply Kd.R_drewN | apply Kd.R_drew)); exact HO255.out, sB⟩
      ·replace c13 := Bool.eq_false_iff.mpr c13
       subst c13
       have H1 : (spec_WayToAmount.l0 k1 a1 t240 (wrap64 (x8_1 + 1)) l0_0 x236001_1 x236002_1 x236003_1 x236004_1 x236005_1) = some (r1, r2) := by rw [if_neg (show ¬ (false = true) by decide)] at H; exact H
       clear H
       have H := H1
       clear H1
       have H' := za.mk H
       clear H
       have hs3 := zfc (zaa FS.out HBF.out)
       have p246 : 0 ≤ (x8_1 : Int) := of_decide_eq_true (by first | (with_reducible assumption) | assumption)
       have q246 : x8_1 < (t240.2.2.2.length : Int) := of_decide_eq_true (by first | (with_reducible assumption) | assumption)
       obtain ⟨ad246, e246, hx246_0⟩ := Kd.at_int (Kd.R_reads' HO_7.out).2.2 x8_1 p246 q246
       cases e246
       replace p246 := eq_true p246
       replace q246 := eq_true q246
       go_wp2_with (first | ((with_reducible refine zl (f := 74) rfl ?_); refine gz (some 32) Try.func74 #[.pointer (some ⟨gb235, 0, none⟩), .int .i64 (rd t240.2.2.2 x8_1)] rfl rfl ?_; (with_reducible refine (spec_l02At.calls k1 gb235 A0_0 c0_0 l0_0 x236001_1 x236002_1 x236003_1 x236004_1 x236005_1 (rd t240.2.2.2 x8_1) t247 t248 t249 t250 _ ?side1 ?side2 ?side3 A11.out).mono ?_); (case side1 => exact uK BK235); (case side2 => exact uC HR0_0 HB); (case side3 => exact HC0_0.out); rintro e w20 ⟨rfl, hb⟩; refine ⟨_, rfl, ?_⟩; replace HO_7 := dR HO_7 hb; replace BK235 := dK BK235 hb; replace HBF := dF HBF hb; replace HB := za.mk (zi sB hb); try clear hb) | ((with_reducible refine zl (f := 73) rfl ?_); refine gz (some 34) Try.func73 #[.pointer (some ⟨gb235, 0, none⟩), .agg #[.int .i16 t247, .int .i16 t248, .int .i16 t249, .int .i16 t250], .int .i64 a1] rfl rfl ?_; (with_reducible refine (spec_l02Has.calls k1 gb235 A0_0 c0_0 l0_0 x236001_1 x236002_1 x236003_1 x236004_1 x236005_1 t247 t248 t249 t250 a1 false _ ?side1 ?side2 ?side3 A12.out).mono ?_); (case side1 => exact uK BK235); (case side2 => exact uC HR0_0 HB); (case side3 => exact HC0_0.out); rintro e w21 ⟨rfl, hb⟩; refine ⟨_, rfl, ?_⟩; replace HO_7 := dR HO_7 hb; replace BK235 := dK BK235 hb; replace HBF := dF HBF hb; replace HB := za.mk (zi sB hb); try clear hb))
       go_roundg k1
       case measure => have := HK1.out; omega
       case rel => exact ⟨(wrap64 (x8_1 + 1)), (x236001_1), (x236002_1), (x236003_1), (x236004_1), (x236005_1), (by first | rfl | (simp; done) | (simp [*]; done)), H', ⟨by have := HK1.out; omega⟩, ⟨uR HO_7⟩, ⟨uK BK235⟩, ⟨uF HBF⟩, ⟨sB⟩⟩
     ·rw [if_neg c10] at H
      exact absurd H (by simp)
    ·rw [if_neg c9] at H
     have c9b0 : decide (x8_1 < (t240.2.2.2.length : Int)) = false := decide_eq_false c9
     clear c9
     obtain ⟨y243, hy243⟩ : ∃ y_ : List (S80), y_ = (([] : List (S80))) := ⟨_, rfl⟩
     replace H : (some (y243, 6)) = some (r1, r2) := by first | (rw [hy243]; with_reducible exact H) | (have H2_ := (Option.bind_some _ _).symm.trans H; rw [hy243]; with_reducible exact H2_) | (have H2_ := (Option.bind_some _ _).symm.trans H; with_reducible exact H2_) | with_reducible exact H | (rw [hy243]; exact H) | exact H
     have Ny243 := za.mk hy243
     clear hy243
     simp only [Option.some.injEq, Prod.mk.injEq] at H
     obtain ⟨rfl, rfl⟩ := H
     have hs3 := zfc (zaa FS.out HBF.out)
     go_wp2_with (first | ((with_reducible refine zu (N := 44) rfl ?_); refine Kd.R_lit k80 _ 80 ?hg (N := 44) ?hd (xs := ([] : List (S80))) (inner := []) (ok := fun _ => True) (okp := fun _ => True) ?hr ?hp (fun _ hk => hk) trivial (Below.refl _ _) (Nat.le_refl _) (by simp) ?_; (case hd => rfl); (case hg => rfl); (case hr => first | (go_simp; done) | (go_simp; rfl)); (case hp => exact (Reps.none _ _)); intro v244 w23 ho24 hb hg_ hnew_; clear hg_ hnew_; (first | rw [← Ny243.out] at ho24 | (simp only [Int.reduceToNat] at ho24; rw [← Ny243.out] at ho24)); have HO245 := za.mk (Kd.R_lower ho24 (zz sB)); replace HO_7 := dR HO_7 hb; replace BK235 := dK BK235 hb; replace HBF := dF HBF hb; replace HB := za.mk (zi sB hb); clear hb ho24))
     go_ret2
     exact ⟨_, by first | rfl | (simp [zj, zk] <;> rfl) | (simp [*, zj, zk] <;> rfl), by (with_reducible repeat (first | apply Kd.R_alloc | apply Kd.R_drewN | apply Kd.R_drew)); exact HO245.out, sB⟩
 ·rw [if_neg c4] at H
  have c4b0 : (t236 == 0) = false := beq_eq_false_iff_ne.mpr c4
  have c4b1 : (t236 != 0) = true := bne_iff_ne.mpr c4
  obtain ⟨y237, hy237⟩ : ∃ y_ : List (S80), y_ = (([] : List (S80))) := ⟨_, rfl⟩
  replace H : (some (y237, t236)) = some (r1, r2) := by first | (rw [hy237]; with_reducible exact H) | (have H2_ := (Option.bind_some _ _).symm.trans H; rw [hy237]; with_reducible exact H2_) | (have H2_ := (Option.bind_some _ _).symm.trans H; with_reducible exact H2_) | with_reducible exact H | (rw [hy237]; exact H) | exact H
  have Ny237 := za.mk hy237
  clear hy237
  simp only [Option.some.injEq, Prod.mk.injEq] at H
  obtain ⟨rfl, rfl⟩ := H
  go_enter Try.func25, Try.ntmps25
  go_wp2_with (first | ((with_reducible refine zu (N := 2) rfl ?_); refine bx (N := 2) #[.slice A0_0 l0_0.length c0_0, .int .i16 a0_1, .int .i16 a0_2, .int .i16 a0_3, .int .i16 a0_4, .bool a0_5] 29 rfl ?_; intro gb235 hg w25 hbox hb; have BK235 := za.mk hbox; have GW235 := gB hg; have GE235 := gB hg; replace HB := za.mk (zi sB hb); clear hb hbox hg) | ((with_reducible refine zl (f := 72) rfl ?_); refine gz (some 10) Try.func72 #[.pointer (some ⟨gb235, 0, none⟩), .int .i64 a1] rfl rfl ?_; (with_reducible refine (spec_l02Amount.calls k gb235 A0_0 c0_0 l0_0 a0_1 a0_2 a0_3 a0_4 a0_5 a1 t236 _ ?side1 ?side2 ?side3 A3.out).mono ?_); (case side1 => exact uK BK235); (case side2 => exact uC HR0_0 HB); (case side3 => exact HC0_0.out); rintro e w26 ⟨rfl, hb⟩; refine ⟨_, rfl, ?_⟩; replace BK235 := dK BK235 hb; replace HB := za.mk (zi sB hb); try clear hb) | ((with_reducible refine zu (N := 13) rfl ?_); refine Kd.R_lit k80 _ 80 ?hg (N := 13) ?hd (xs := ([] : List (S80))) (inner := []) (ok := fun _ => True) (okp := fun _ => True) ?hr ?hp (fun _ hk => hk) trivial (Below.refl _ _) (Nat.le_refl _) (by simp) ?_; (case hd => rfl); (case hg => rfl); (case hr => first | (go_simp; done) | (go_simp; rfl)); (case hp => exact (Reps.none _ _)); intro v238 w27 ho28 hb hg_ hnew_; clear hg_ hnew_; (first | rw [← Ny237.out] at ho28 | (simp only [Int.reduceToNat] at ho28; rw [← Ny237.out] at ho28)); have HO239 := za.mk (Kd.R_lower ho28 (zz sB)); replace BK235 := dK BK235 hb; replace HB := za.mk (zi sB hb); clear hb ho28))
  go_ret2
  exact ⟨_, by first | rfl | (simp [zj, zk] <;> rfl) | (simp [*, zj, zk] <;> rfl), by (with_reducible repeat (first | apply Kd.R_alloc | apply Kd.R_drewN | apply Kd.R_drew)); exact HO239.out, sB⟩
end Go.Proofs.Yteciomagemjjaaa.J
