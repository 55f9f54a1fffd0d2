-- Written by wip/tools/myprint.py, a program of this session, by way of the kit's print.
import Derived.Test.YtmfbcklaomigaaaNx0
import Derived.Test.YtmfbcklaomigaaaNx2
import Derived.Test.YtmfbcklaomigaaaLPrN
namespace Go.Proofs.Ytmfbcklaomigaaa.N
open Go.RowKit Go.Proofs.YtmfbcklaomigaaaW.PrintWords Go.Proofs.YtmfbcklaomigaaaW.PrintLast Go.Proofs.YtmfbcklaomigaaaW.PrintMore
attribute [local go_sem] zqa zpa zwa zxa zla zka zra zta   -- for this text's walks alone
set_option linter.unusedVariables false
set_option linter.unusedSimpArgs false

/-! ### spec_l03Ok: function 72 -/
def spec_l03Ok.f (a0_0 : Int) (a0_1 : Int) (a0_2 : Bool) (a0_3 : Bool) : Option (Bool) := (spec_l00In.f (wrap64 (a0_0)) 1 13).bind fun t295 => (if t295 = true then ((spec_l00In.f (wrap64 (a0_1)) 0 2).bind fun t296 => (some t296)) else (some false))
set_option maxHeartbeats 8000000 in
set_option maxRecDepth 100000 in
theorem spec_l03Ok.calls (a0_0 : Int) (a0_1 : Int) (a0_2 : Bool) (a0_3 : Bool) (r : Bool) (w : World) (h : spec_l03Ok.f a0_0 a0_1 a0_2 a0_3 = some r) :
  Calls Try.prog 72 #[.agg #[.int .i8 a0_0, .int .i8 a0_1, .bool a0_2, .bool a0_3]] w fun e w' => e = .returned (.bool r) ∧ Below w.heap.size w w' := by
 have hu50 := Try.underlying50
 have HB := za.mk (Below.refl w.heap.size w)
 have H : ((spec_l00In.f (wrap64 (a0_0)) 1 13).bind fun t295 => (if t295 = true then ((spec_l00In.f (wrap64 (a0_1)) 0 2).bind fun t296 => (some t296)) else (some false))) = some r := h
 clear h
 replace H := Option.bind_eq_some_iff.mp H
 obtain ⟨t295, A20, H⟩ := H
 replace H : (if t295 = true then ((spec_l00In.f (wrap64 (a0_1)) 0 2).bind fun t296 => (some t296)) else (some false)) = some r := H
 have A2 := za.mk A20
 clear A20
 by_cases c3 : t295 = true
 ·subst c3
  have H1 : ((spec_l00In.f (wrap64 (a0_1)) 0 2).bind fun t296 => (some t296)) = some r := by rw [if_pos rfl] at H; exact H
  clear H
  have H := H1
  clear H1
  replace H := Option.bind_eq_some_iff.mp H
  obtain ⟨t296, A40, H⟩ := H
  replace H : (some t296) = some r := H
  have A4 := za.mk A40
  clear A40
  obtain rfl := Option.some.inj H
  go_enter Try.func72, Try.ntmps72
  go_wp2_with (first | ((with_reducible refine zn (N := 1) rfl ?_); refine bx (N := 1) #[.int .i8 a0_0, .int .i8 a0_1, .bool a0_2, .bool a0_3] 50 rfl ?_; intro gb294 hg w5 hbox hb; have BK294 := za.mk hbox; have GW294 := gB hg; have GE294 := GW294; replace HB := za.mk (ze sB hb); clear hb hbox hg; obtain ⟨hcz6_0, hcz6_1, hcz6_2, hcz6_3⟩ := xc4 BK294; obtain ⟨hfz6_0, hfz6_1, hfz6_2, hfz6_3⟩ := xf4 BK294) | ((with_reducible refine zo (f := 51) rfl ?_); refine gz (some 6) Try.func51 #[.int .i64 (wrap64 (a0_0)), .int .i64 1, .int .i64 13] rfl rfl ?_; (with_reducible refine (spec_l00In.calls (wrap64 (a0_0)) 1 13 true _ A2.out).mono ?_); rintro e w' ⟨rfl, ⟨nd, rfl⟩⟩; refine ⟨_, rfl, ?_⟩) | (go_at_call 51; (with_reducible refine (spec_l00In.calls (wrap64 (a0_1)) 0 2 t296 _ A4.out).mono ?_); rintro e w' ⟨rfl, ⟨nd, rfl⟩⟩))
  go_ret
  exact ⟨by first | rfl | (simp [zk, zj] <;> rfl) | (simp [*, zk, zj] <;> rfl), sB⟩
 replace c3 := Bool.eq_false_iff.mpr c3
 subst c3
 have H1 : (some false) = some r := by rw [if_neg (show ¬ (false = true) by decide)] at H; exact H
 clear H
 have H := H1
 clear H1
 obtain rfl := Option.some.inj H
 go_enter Try.func72, Try.ntmps72
 go_wp2_with (first | ((with_reducible refine zn (N := 1) rfl ?_); refine bx (N := 1) #[.int .i8 a0_0, .int .i8 a0_1, .bool a0_2, .bool a0_3] 50 rfl ?_; intro gb294 hg w7 hbox hb; have BK294 := za.mk hbox; have GW294 := gB hg; have GE294 := GW294; replace HB := za.mk (ze sB hb); clear hb hbox hg; obtain ⟨hcz8_0, hcz8_1, hcz8_2, hcz8_3⟩ := xc4 BK294; obtain ⟨hfz8_0, hfz8_1, hfz8_2, hfz8_3⟩ := xf4 BK294) | ((with_reducible refine zo (f := 51) rfl ?_); refine gz (some 6) Try.func51 #[.int .i64 (wrap64 (a0_0)), .int .i64 1, .int .i64 13] rfl rfl ?_; (with_reducible refine (spec_l00In.calls (wrap64 (a0_0)) 1 13 false _ A2.out).mono ?_); rintro e w' ⟨rfl, ⟨nd, rfl⟩⟩; refine ⟨_, rfl, ?_⟩))
 go_ret
 exact ⟨by first | rfl | (simp [zk, zj] <;> rfl) | (simp [*, zk, zj] <;> rfl), sB⟩

/-! ### spec_l03Cases: function 73 -/
mutual
def spec_l03Cases.j0 : Nat → List (S38) → Int → Int → Bool → Bool → Option ((List (S38)))
 | 0, _, _, _, _, _ => none
 | k + 1, x3, x298000, x298001, x298002, x298003 => spec_l03Cases.l0 k x3 0 x298000 x298001 x298002 x298003
def spec_l03Cases.l0 : Nat → List (S38) → Int → Int → Int → Bool → Bool → Option ((List (S38)))
 | 0, _, _, _, _, _, _ => none
 | k + 1, x3, x4, x298000, x298001, x298002, x298003 => if x4 < x298000 then (if x298001 = 1 then (if x298001 = 0 then (spec_l03Cases.l0 k x3 (IntKind.i8.wrap (x4 + 1)) x298000 x298001 x298002 x298003) else (if x3.length < 70368744177664 then (spec_l03Cases.l0 k (x3 ++ [(⟨x4, false⟩ : S38)]) (IntKind.i8.wrap (x4 + 1)) x298000 x298001 x298002 x298003) else (none))) else (if x3.length < 70368744177664 then ((some (x3 ++ [(⟨x4, true⟩ : S38)] : List (S38))).bind fun y307 => (if x298001 = 0 then (spec_l03Cases.l0 k y307 (IntKind.i8.wrap (x4 + 1)) x298000 x298001 x298002 x298003) else (if y307.length < 70368744177664 then (spec_l03Cases.l0 k (y307 ++ [(⟨x4, false⟩ : S38)]) (IntKind.i8.wrap (x4 + 1)) x298000 x298001 x298002 x298003) else (none)))) else (none))) else (some x3)
end
def spec_l03Cases.f (k : Nat) (a0_0 : Int) (a0_1 : Int) (a0_2 : Bool) (a0_3 : Bool) : Option ((List (S38))) := (some (([] : List (S38)) : List (S38))).bind fun y298 => (if a0_2 = true then (if y298.length < 70368744177664 then (spec_l03Cases.j0 k (y298 ++ [(⟨(-1), false⟩ : S38)]) a0_0 a0_1 a0_2 a0_3) else (none)) else (spec_l03Cases.j0 k y298 a0_0 a0_1 a0_2 a0_3))
set_option maxHeartbeats 8000000 in
set_option maxRecDepth 100000 in
theorem spec_l03Cases.calls (k : Nat) (a0_0 : Int) (a0_1 : Int) (a0_2 : Bool) (a0_3 : Bool) (r : List (S38)) (w : World) (h : spec_l03Cases.f k a0_0 a0_1 a0_2 a0_3 = some r) :
  Calls Try.prog 73 #[.agg #[.int .i8 a0_0, .int .i8 a0_1, .bool a0_2, .bool a0_3]] w fun e w' => ∃ v0_ : Value, e = .returned (v0_) ∧ Kd.R k38 38 w' w.heap.size (fun _ => True) v0_ r ∧ Below w.heap.size w w' := by
 have hu50 := Try.underlying50
 have hu38 := Try.underlying38
 have HB := za.mk (Below.refl w.heap.size w)
 have H : ((some (([] : List (S38)) : List (S38))).bind fun y298 => (if a0_2 = true then (if y298.length < 70368744177664 then (spec_l03Cases.j0 k (y298 ++ [(⟨(-1), false⟩ : S38)]) a0_0 a0_1 a0_2 a0_3) else (none)) else (spec_l03Cases.j0 k y298 a0_0 a0_1 a0_2 a0_3))) = some r := h
 clear h
 obtain ⟨y298, hy298⟩ : ∃ y_ : List (S38), y_ = (([] : List (S38))) := ⟨_, rfl⟩
 replace H : (if a0_2 = true then (if y298.length < 70368744177664 then (spec_l03Cases.j0 k (y298 ++ [(⟨(-1), false⟩ : S38)]) a0_0 a0_1 a0_2 a0_3) else (none)) else (spec_l03Cases.j0 k y298 a0_0 a0_1 a0_2 a0_3)) = some r := by first | (rw [hy298]; with_reducible exact H) | (have H2_ := (Option.bind_some _ _).symm.trans H; rw [hy298]; with_reducible exact H2_) | (have H2_ := (Option.bind_some _ _).symm.trans H; with_reducible exact H2_) | with_reducible exact H | (rw [hy298]; exact H) | exact H
 have Ny298 := za.mk hy298
 clear hy298
 have HC2 := za.mk H
 clear H
 go_enter Try.func73, Try.ntmps73
 go_upto_if 7 with (first | ((with_reducible refine zn (N := 1) rfl ?_); refine bx (N := 1) #[.int .i8 a0_0, .int .i8 a0_1, .bool a0_2, .bool a0_3] 50 rfl ?_; intro gb297 hg w3 hbox hb; have BK297 := za.mk hbox; have GW297 := gB hg; have GE297 := GW297; replace HB := za.mk (ze sB hb); clear hb hbox hg) | ((with_reducible refine zn (N := 5) rfl ?_); refine Kd.R_lit k38 _ 38 ?hg (N := 5) ?hd (xs := ([] : List (S38))) (inner := []) (ok := fun _ => True) (okp := fun _ => True) ?hr ?hp (fun _ hk => hk) trivial (Below.refl _ _) (Nat.le_refl _) (by simp) ?_; (case hd => rfl); (case hg => rfl); (case hr => first | (go_simp; done) | (go_simp; rfl)); (case hp => exact (Reps.none _ _)); intro v299 w4 ho5 hb hg_ hnew_; clear hg_ hnew_; (first | rw [← Ny298.out] at ho5 | (simp only [Int.reduceToNat] at ho5; rw [← Ny298.out] at ho5)); have HO300 := za.mk (Kd.R_lower ho5 (zv sB)); replace BK297 := dK BK297 hb; replace HB := za.mk (ze sB hb); clear hb ho5; obtain ⟨hcz6_0, hcz6_1, hcz6_2, hcz6_3⟩ := xc4 BK297; obtain ⟨hfz6_0, hfz6_1, hfz6_2, hfz6_3⟩ := xf4 BK297))
 (try simp only [Act.put, List.setIfInBounds_toArray, List.set_cons_zero, List.set_cons_succ])
 go_cut [3] (fun v3 wc => ∃ (kq : Nat) (x3_1 : List (S38)), za (spec_l03Cases.j0 kq x3_1 a0_0 a0_1 a0_2 a0_3 = some r) ∧ za (kq ≤ k) ∧ za (Kd.R k38 38 wc w.heap.size (fun _ => True) v3 x3_1) ∧ za (wc.heap[gb297]? = some (.cells #[.int .i8 a0_0, .int .i8 a0_1, .bool a0_2, .bool a0_3] 50 (0, 0))) ∧ za (Below w.heap.size w wc))
 case first =>
  have H := HC2.out
  clear HC2
  by_cases c7 : a0_2 = true
  ·subst c7
   have H1 : (if y298.length < 70368744177664 then (spec_l03Cases.j0 k (y298 ++ [(⟨(-1), false⟩ : S38)]) a0_0 a0_1 true a0_3) else (none)) = some r := by rw [if_pos rfl] at H; exact H
   clear H
   have H := H1
   clear H1
   by_cases c8 : y298.length < 70368744177664
   ·rw [if_pos c8] at H
    have LMc8 := za.mk c8
    clear c8
    obtain ⟨y301, hy301⟩ : ∃ y_ : List (S38), y_ = (y298 ++ [(⟨(-1), false⟩ : S38)]) := ⟨_, rfl⟩
    replace H : (spec_l03Cases.j0 k y301 a0_0 a0_1 true a0_3) = some r := by first | (rw [hy301]; with_reducible exact H) | (have H2_ := (Option.bind_some _ _).symm.trans H; rw [hy301]; with_reducible exact H2_) | (have H2_ := (Option.bind_some _ _).symm.trans H; with_reducible exact H2_) | with_reducible exact H | (rw [hy301]; exact H) | exact H
    have Ny301 := za.mk hy301
    clear hy301
    have H' := za.mk H
    clear H
    go_wp2_with (first | ((with_reducible refine zga (b := .append) (xs := #[.tmp 8, .tmp 10]) rfl ?_); at_builtin; refine Kd.R_append k38 (w0 := w) w.heap.size rfl (.tmp 8) (.tmp 10) 55 38 (.agg #[(.int .i8 0), (.bool false)]) 2 rfl Try.underlying55 zyb rfl (by decide) (by omega) v299 y298 (⟨(-1), false⟩ : S38) [.int .i8 (-1), .bool false] (fun _ => True) (fun _ => False) rfl rfl ?aP (fun _ hk => hk.elim) ?aF ?aO ?aB ?aS ?aL ?_; (case aP => exact znb _ _ _ (⟨(-1), false⟩ : S38)); (case aB => exact sB); (case aF => exact (fun _ _ => trivial)); (case aO => exact (uR HO300)); (case aS => exact (zv sB)); (case aL => have := LMc8.out; omega); intro v302 w9 ho hb hg hat; rw [← Ny301.out] at ho; have HO303 := za.mk ho; replace BK297 := za.mk (zq (g := gb297) (o := .cells #[.int .i8 a0_0, .int .i8 a0_1, .bool true, .bool a0_3] 50 (0, 0)) (uK BK297) hg (Kd.R_ne HO300.out BK297.out (by decide))); replace HB := za.mk hb; clear HO300; clear ho hb hg hat))
    go_meet
    case rel => exact ⟨_, (y301), H', ⟨by first | omega | exact Nat.le_refl _⟩, ⟨uR HO303⟩, ⟨uK BK297⟩, ⟨sB⟩⟩
   rw [if_neg c8] at H
   exact absurd H (by simp)
  replace c7 := Bool.eq_false_iff.mpr c7
  subst c7
  have H1 : (spec_l03Cases.j0 k y298 a0_0 a0_1 false a0_3) = some r := by rw [if_neg (show ¬ (false = true) by decide)] at H; exact H
  clear H
  have H := H1
  clear H1
  have H' := za.mk H
  clear H
  go_wp2
  go_meet
  case rel => exact ⟨_, (y298), H', ⟨by first | omega | exact Nat.le_refl _⟩, ⟨uR HO300⟩, ⟨uK BK297⟩, ⟨sB⟩⟩
 case rest =>
  clear HC2
  try clear p2
  try clear c7
  try clear c8
  try clear hcz6_0 hcz6_1 hcz6_2 hcz6_3
  try clear hfz6_0 hfz6_1 hfz6_2 hfz6_3
  obtain ⟨kq, x3_1, HA, HJ1, HO_3, BK297, HB⟩ := hcut
  cases kq with
  | zero => exact absurd HA.out (by simp [spec_l03Cases.j0])
  | succ kj1 =>
   have H := HA.out
   clear HA
   simp only [spec_l03Cases.j0] at H
   have H' := za.mk H
   clear H
   go_wp2
   go_loopg [3, 4] kj1 (fun kq v3 v4 w' => ∃ (x3_2 : List (S38)) (x4_2 : Int), v4 = .int .i8 x4_2 ∧ za (spec_l03Cases.l0 kq x3_2 x4_2 a0_0 a0_1 a0_2 a0_3 = some r) ∧ za (kq ≤ kj1) ∧ za (Kd.R k38 38 w' w.heap.size (fun _ => True) v3 x3_2) ∧ za (w'.heap[gb297]? = some (.cells #[.int .i8 a0_0, .int .i8 a0_1, .bool a0_2, .bool a0_3] 50 (0, 0))) ∧ za (Below w.heap.size w w'))
   case atStart => exact ⟨(x3_1), (0), (by first | rfl | (simp; done) | (simp [*]; done)), H', ⟨Nat.le_refl _⟩, ⟨uR HO_3⟩, ⟨uK BK297⟩, ⟨sB⟩⟩
   case round =>
    clear H'
    try clear p2
    try clear c7
    try clear c8
    try clear hcz6_0 hcz6_1 hcz6_2 hcz6_3
    try clear hfz6_0 hfz6_1 hfz6_2 hfz6_3
    try clear p2
    obtain ⟨x3_2, x4_2, rfl, HA, HK2, HO_3, BK297, HB⟩ := hrel
    cases gk with
    | zero => exact absurd HA.out (by simp [spec_l03Cases.l0])
    | succ k2 =>
     have H := HA.out
     clear HA
     simp only [spec_l03Cases.l0] at H
     by_cases c10 : x4_2 < a0_0
     ·rw [if_pos c10] at H
      have c10b0 : decide (x4_2 < a0_0) = true := decide_eq_true c10
      clear c10
      by_cases c11 : a0_1 = 1
      ·rw [if_pos c11] at H
       have c11b0 : (a0_1 == 1) = true := beq_iff_eq.mpr c11
       have c11b1 : (a0_1 != 1) = false := bne_eq_false_iff_eq.mpr c11
       clear c11
       by_cases c12 : a0_1 = 0
       ·rw [if_pos c12] at H
        have c12b0 : (a0_1 == 0) = true := beq_iff_eq.mpr c12
        have c12b1 : (a0_1 != 0) = false := bne_eq_false_iff_eq.mpr c12
        clear c12
        have H' := za.mk H
        clear H
        obtain ⟨hcz13_0, hcz13_1, hcz13_2, hcz13_3⟩ := xc4 BK297
        obtain ⟨hfz13_0, hfz13_1, hfz13_2, hfz13_3⟩ := xf4 BK297
        go_wp2
        go_roundg k2
        case measure => have := HJ1.out; have := HK2.out; omega
        case rel => exact ⟨(x3_2), (IntKind.i8.wrap (x4_2 + 1)), (by first | rfl | (simp; done) | (simp [*]; done)), H', ⟨by have := HJ1.out; have := HK2.out; omega⟩, ⟨uR HO_3⟩, ⟨uK BK297⟩, ⟨sB⟩⟩
       rw [if_neg c12] at H
       have c12b0 : (a0_1 == 0) = false := beq_eq_false_iff_ne.mpr c12
       have c12b1 : (a0_1 != 0) = true := bne_iff_ne.mpr c12
       by_cases c14 : x3_2.length < 70368744177664
       ·rw [if_pos c14] at H
        have LMc14 := za.mk c14
        clear c14
        obtain ⟨y304, hy304⟩ : ∃ y_ : List (S38), y_ = (x3_2 ++ [(⟨x4_2, false⟩ : S38)]) := ⟨_, rfl⟩
        replace H : (spec_l03Cases.l0 k2 y304 (IntKind.i8.wrap (x4_2 + 1)) a0_0 a0_1 a0_2 a0_3) = some r := by first | (rw [hy304]; with_reducible exact H) | (have H2_ := (Option.bind_some _ _).symm.trans H; rw [hy304]; with_reducible exact H2_) | (have H2_ := (Option.bind_some _ _).symm.trans H; with_reducible exact H2_) | with_reducible exact H | (rw [hy304]; exact H) | exact H
        have Ny304 := za.mk hy304
        clear hy304
        have H' := za.mk H
        clear H
        obtain ⟨hcz15_0, hcz15_1, hcz15_2, hcz15_3⟩ := xc4 BK297
        obtain ⟨hfz15_0, hfz15_1, hfz15_2, hfz15_3⟩ := xf4 BK297
        go_wp2_with (first | ((with_reducible refine zga (b := .append) (xs := #[.tmp 29, .tmp 32]) rfl ?_); at_builtin; refine Kd.R_append k38 (w0 := w) w.heap.size rfl (.tmp 29) (.tmp 32) 55 38 (.agg #[(.int .i8 0), (.bool false)]) 2 rfl Try.underlying55 zyb rfl (by decide) (by omega) u3 x3_2 (⟨x4_2, false⟩ : S38) [.int .i8 x4_2, .bool false] (fun _ => True) (fun _ => False) rfl rfl ?aP (fun _ hk => hk.elim) ?aF ?aO ?aB ?aS ?aL ?_; (case aP => exact znb _ _ _ (⟨x4_2, false⟩ : S38)); (case aB => exact sB); (case aF => exact (fun _ _ => trivial)); (case aO => exact (uR HO_3)); (case aS => exact (zv sB)); (case aL => have := LMc14.out; omega); intro v305 w16 ho hb hg hat; rw [← Ny304.out] at ho; have HO306 := za.mk ho; replace BK297 := za.mk (zq (g := gb297) (o := .cells #[.int .i8 a0_0, .int .i8 a0_1, .bool a0_2, .bool a0_3] 50 (0, 0)) (uK BK297) hg (Kd.R_ne HO_3.out BK297.out (by decide))); replace HB := za.mk hb; clear HO_3; clear ho hb hg hat))
        go_roundg k2
        case measure => have := HJ1.out; have := HK2.out; omega
        case rel => exact ⟨(y304), (IntKind.i8.wrap (x4_2 + 1)), (by first | rfl | (simp; done) | (simp [*]; done)), H', ⟨by have := HJ1.out; have := HK2.out; omega⟩, ⟨uR HO306⟩, ⟨uK BK297⟩, ⟨sB⟩⟩
       rw [if_neg c14] at H
       exact absurd H (by simp)
      rw [if_neg c11] at H
      have c11b0 : (a0_1 == 1) = false := beq_eq_false_iff_ne.mpr c11
      have c11b1 : (a0_1 != 1) = true := bne_iff_ne.mpr c11
      by_cases c17 : x3_2.length < 70368744177664
      ·rw [if_pos c17] at H
       have LMc17 := za.mk c17
       clear c17
       obtain ⟨y307, hy307⟩ : ∃ y_ : List (S38), y_ = (x3_2 ++ [(⟨x4_2, true⟩ : S38)]) := ⟨_, rfl⟩
       replace H : (if a0_1 = 0 then (spec_l03Cases.l0 k2 y307 (IntKind.i8.wrap (x4_2 + 1)) a0_0 a0_1 a0_2 a0_3) else (if y307.length < 70368744177664 then (spec_l03Cases.l0 k2 (y307 ++ [(⟨x4_2, false⟩ : S38)]) (IntKind.i8.wrap (x4_2 + 1)) a0_0 a0_1 a0_2 a0_3) else (none))) = some r := by first | (rw [hy307]; with_reducible exact H) | (have H2_ := (Option.bind_some _ _).symm.trans H; rw [hy307]; with_reducible exact H2_) | (have H2_ := (Option.bind_some _ _).symm.trans H; with_reducible exact H2_) | with_reducible exact H | (rw [hy307]; exact H) | exact H
       have Ny307 := za.mk hy307
       clear hy307
       by_cases c18 : a0_1 = 0
       ·rw [if_pos c18] at H
        have c18b0 : (a0_1 == 0) = true := beq_iff_eq.mpr c18
        have c18b1 : (a0_1 != 0) = false := bne_eq_false_iff_eq.mpr c18
        clear c18
        have H' := za.mk H
        clear H
        obtain ⟨hcz19_0, hcz19_1, hcz19_2, hcz19_3⟩ := xc4 BK297
        obtain ⟨hfz19_0, hfz19_1, hfz19_2, hfz19_3⟩ := xf4 BK297
        go_wp2_with (first | ((with_reducible refine zga (b := .append) (xs := #[.tmp 21, .tmp 24]) rfl ?_); at_builtin; refine Kd.R_append k38 (w0 := w) w.heap.size rfl (.tmp 21) (.tmp 24) 55 38 (.agg #[(.int .i8 0), (.bool false)]) 2 rfl Try.underlying55 zyb rfl (by decide) (by omega) u3 x3_2 (⟨x4_2, true⟩ : S38) [.int .i8 x4_2, .bool true] (fun _ => True) (fun _ => False) rfl rfl ?aP (fun _ hk => hk.elim) ?aF ?aO ?aB ?aS ?aL ?_; (case aP => exact znb _ _ _ (⟨x4_2, true⟩ : S38)); (case aB => exact sB); (case aF => exact (fun _ _ => trivial)); (case aO => exact (uR HO_3)); (case aS => exact (zv sB)); (case aL => have := LMc17.out; omega); intro v308 w20 ho hb hg hat; rw [← Ny307.out] at ho; have HO309 := za.mk ho; replace BK297 := za.mk (zq (g := gb297) (o := .cells #[.int .i8 a0_0, .int .i8 a0_1, .bool a0_2, .bool a0_3] 50 (0, 0)) (uK BK297) hg (Kd.R_ne HO_3.out BK297.out (by decide))); replace HB := za.mk hb; clear HO_3; clear ho hb hg hat; obtain ⟨hcz21_0, hcz21_1, hcz21_2, hcz21_3⟩ := xc4 BK297; obtain ⟨hfz21_0, hfz21_1, hfz21_2, hfz21_3⟩ := xf4 BK297))
        go_roundg k2
        case measure => have := HJ1.out; have := HK2.out; omega
        case rel => exact ⟨(y307), (IntKind.i8.wrap (x4_2 + 1)), (by first | rfl | (simp; done) | (simp [*]; done)), H', ⟨by have := HJ1.out; have := HK2.out; omega⟩, ⟨uR HO309⟩, ⟨uK BK297⟩, ⟨sB⟩⟩
       rw [if_neg c18] at H
       have c18b0 : (a0_1 == 0) = false := beq_eq_false_iff_ne.mpr c18
       have c18b1 : (a0_1 != 0) = true := bne_iff_ne.mpr c18
       by_cases c22 : y307.length < 70368744177664
       ·rw [if_pos c22] at H
        have LMc22 := za.mk c22
        clear c22
        obtain ⟨y310, hy310⟩ : ∃ y_ : List (S38), y_ = (y307 ++ [(⟨x4_2, false⟩ : S38)]) := ⟨_, rfl⟩
        replace H : (spec_l03Cases.l0 k2 y310 (IntKind.i8.wrap (x4_2 + 1)) a0_0 a0_1 a0_2 a0_3) = some r := by first | (rw [hy310]; with_reducible exact H) | (have H2_ := (Option.bind_some _ _).symm.trans H; rw [hy310]; with_reducible exact H2_) | (have H2_ := (Option.bind_some _ _).symm.trans H; with_reducible exact H2_) | with_reducible exact H | (rw [hy310]; exact H) | exact H
        have Ny310 := za.mk hy310
        clear hy310
        have H' := za.mk H
        clear H
        obtain ⟨hcz23_0, hcz23_1, hcz23_2, hcz23_3⟩ := xc4 BK297
        obtain ⟨hfz23_0, hfz23_1, hfz23_2, hfz23_3⟩ := xf4 BK297
        go_wp2_with (first | ((with_reducible refine zga (b := .append) (xs := #[.tmp 21, .tmp 24]) rfl ?_); at_builtin; refine Kd.R_append k38 (w0 := w) w.heap.size rfl (.tmp 21) (.tmp 24) 55 38 (.agg #[(.int .i8 0), (.bool false)]) 2 rfl Try.underlying55 zyb rfl (by decide) (by omega) u3 x3_2 (⟨x4_2, true⟩ : S38) [.int .i8 x4_2, .bool true] (fun _ => True) (fun _ => False) rfl rfl ?aP (fun _ hk => hk.elim) ?aF ?aO ?aB ?aS ?aL ?_; (case aP => exact znb _ _ _ (⟨x4_2, true⟩ : S38)); (case aB => exact sB); (case aF => exact (fun _ _ => trivial)); (case aO => exact (uR HO_3)); (case aS => exact (zv sB)); (case aL => have := LMc17.out; omega); intro v308 w24 ho hb hg hat; rw [← Ny307.out] at ho; have HO309 := za.mk ho; replace BK297 := za.mk (zq (g := gb297) (o := .cells #[.int .i8 a0_0, .int .i8 a0_1, .bool a0_2, .bool a0_3] 50 (0, 0)) (uK BK297) hg (Kd.R_ne HO_3.out BK297.out (by decide))); replace HB := za.mk hb; clear HO_3; clear ho hb hg hat; obtain ⟨hcz25_0, hcz25_1, hcz25_2, hcz25_3⟩ := xc4 BK297; obtain ⟨hfz25_0, hfz25_1, hfz25_2, hfz25_3⟩ := xf4 BK297) | ((with_reducible refine zga (b := .append) (xs := #[.tmp 29, .tmp 32]) rfl ?_); at_builtin; refine Kd.R_append k38 (w0 := w) w.heap.size rfl (.tmp 29) (.tmp 32) 55 38 (.agg #[(.int .i8 0), (.bool false)]) 2 rfl Try.underlying55 zyb rfl (by decide) (by omega) v308 y307 (⟨x4_2, false⟩ : S38) [.int .i8 x4_2, .bool false] (fun _ => True) (fun _ => False) rfl rfl ?aP (fun _ hk => hk.elim) ?aF ?aO ?aB ?aS ?aL ?_; (case aP => exact znb _ _ _ (⟨x4_2, false⟩ : S38)); (case aB => exact sB); (case aF => exact (fun _ _ => trivial)); (case aO => exact (uR HO309)); (case aS => exact (zv sB)); (case aL => have := LMc22.out; omega); intro v311 w26 ho hb hg hat; rw [← Ny310.out] at ho; have HO312 := za.mk ho; replace BK297 := za.mk (zq (g := gb297) (o := .cells #[.int .i8 a0_0, .int .i8 a0_1, .bool a0_2, .bool a0_3] 50 (0, 0)) (uK BK297) hg (Kd.R_ne HO309.out BK297.out (by decide))); replace HB := za.mk hb; clear HO309; clear ho hb hg hat))
        go_roundg k2
        case measure => have := HJ1.out; have := HK2.out; omega
        case rel => exact ⟨(y310), (IntKind.i8.wrap (x4_2 + 1)), (by first | rfl | (simp; done) | (simp [*]; done)), H', ⟨by have := HJ1.out; have := HK2.out; omega⟩, ⟨uR HO312⟩, ⟨uK BK297⟩, ⟨sB⟩⟩
       rw [if_neg c22] at H
       exact absurd H (by simp)
      rw [if_neg c17] at H
      exact absurd H (by simp)
     rw [if_neg c10] at H
     have c10b0 : decide (x4_2 < a0_0) = false := decide_eq_false c10
     clear c10
     obtain rfl := Option.some.inj H
     obtain ⟨hcz27_0, hcz27_1, hcz27_2, hcz27_3⟩ := xc4 BK297
     obtain ⟨hfz27_0, hfz27_1, hfz27_2, hfz27_3⟩ := xf4 BK297
     go_wp2
     go_ret
     exact ⟨_, by first | rfl | (simp [zk, zj] <;> rfl) | (simp [*, zk, zj] <;> rfl), by (with_reducible repeat (first | apply Kd.R_alloc | apply Kd.R_drewN | apply Kd.R_drew)); exact HO_3.out, sB⟩

end Go.Proofs.Ytmfbcklaomigaaa.N
