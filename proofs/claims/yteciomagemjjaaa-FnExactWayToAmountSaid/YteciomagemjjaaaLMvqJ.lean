/- Lists of moves: equality and marks. -/
import Derived.Test.YteciomagemjjaaaJx0
import Derived.Test.YteciomagemjjaaaLPrJ
namespace Go.Proofs.Yteciomagemjjaaa.J
open Go.RowKit Go.Proofs.YteciomagemjjaaaW.PrintWords Go.Proofs.YteciomagemjjaaaW.PrintLast Go.Proofs.YteciomagemjjaaaW.PrintMore
attribute [local go_sem] zna zka zra zsa zga zha zla zma   -- for this text's walks alone
set_option linter.unusedVariables false
set_option linter.unusedSimpArgs false
/-! ### laws_eqMove: function 82 -/
def laws_eqMove.f (a0_0 : Int) (a0_1 : Int) (a0_2 : Int) (a1_0 : Int) (a1_1 : Int) (a1_2 : Int) : Option (Bool) := if a0_0 = a1_0 then (if a0_1 = a1_1 then (if a0_2 = a1_2 then (some true) else (some false)) else (some false)) else (some false)
set_option maxHeartbeats 8000000 in
set_option maxRecDepth 100000 in
theorem laws_eqMove.calls (a0_0 : Int) (a0_1 : Int) (a0_2 : Int) (a1_0 : Int) (a1_1 : Int) (a1_2 : Int) (r : Bool) (w : World) (h : laws_eqMove.f a0_0 a0_1 a0_2 a1_0 a1_1 a1_2 = some r) :
  Calls Try.prog 82 #[.agg #[.int .i8 a0_0, .int .i8 a0_1, .int .i8 a0_2], .agg #[.int .i8 a1_0, .int .i8 a1_1, .int .i8 a1_2]] w fun e w' => e = .returned (.bool r) ∧ Below w.heap.size w w' := by
 have hu80 := Try.underlying80
 have HB := za.mk (Below.refl w.heap.size w)
 have H : (if a0_0 = a1_0 then (if a0_1 = a1_1 then (if a0_2 = a1_2 then (some true) else (some false)) else (some false)) else (some false)) = some r := h
 clear h
 by_cases c3 : a0_0 = a1_0
 ·rw [if_pos c3] at H
  have c3b0 : (a0_0 == a1_0) = true := beq_iff_eq.mpr c3
  have c3b1 : (a0_0 != a1_0) = false := bne_eq_false_iff_eq.mpr c3
  clear c3
  by_cases c4 : a0_1 = a1_1
  ·rw [if_pos c4] at H
   have c4b0 : (a0_1 == a1_1) = true := beq_iff_eq.mpr c4
   have c4b1 : (a0_1 != a1_1) = false := bne_eq_false_iff_eq.mpr c4
   clear c4
   by_cases c5 : a0_2 = a1_2
   ·rw [if_pos c5] at H
    have c5b0 : (a0_2 == a1_2) = true := beq_iff_eq.mpr c5
    have c5b1 : (a0_2 != a1_2) = false := bne_eq_false_iff_eq.mpr c5
    clear c5
    obtain rfl := Option.some.inj H
    go_enter Try.func82, Try.ntmps82
    go_wp2_with (first | ((with_reducible refine zu (N := 2) rfl ?_); refine bx (N := 2) #[.int .i8 a0_0, .int .i8 a0_1, .int .i8 a0_2] 80 rfl ?_; intro gb295 hg w6 hbox hb; have BK295 := za.mk hbox; have GW295 := gB hg; have GE295 := GW295; replace HB := za.mk (zi sB hb); clear hb hbox hg) | ((with_reducible refine zu (N := 3) rfl ?_); refine bx (N := 3) #[.int .i8 a1_0, .int .i8 a1_1, .int .i8 a1_2] 80 rfl ?_; intro gb296 hg w7 hbox hb; have BK296 := za.mk hbox; have GW296 := gB hg; have GE296 := GW296; have NB295_296 := nK hg BK295; have NB296_295 := za.mk NB295_296.out.symm; replace BK295 := dK BK295 hb; replace HB := za.mk (zi sB hb); clear hb hbox hg; have hnb8 := NB295_296.out; have hnc8 := NB296_295.out; obtain ⟨hcz9_0, hcz9_1, hcz9_2⟩ := xc3 BK295; obtain ⟨hfz9_0, hfz9_1, hfz9_2⟩ := xf3 BK295; obtain ⟨hcz10_0, hcz10_1, hcz10_2⟩ := xc3 BK296; obtain ⟨hfz10_0, hfz10_1, hfz10_2⟩ := xf3 BK296))
    go_ret
    exact ⟨by first | rfl | (simp [zj, zk] <;> rfl) | (simp [*, zj, zk] <;> rfl), sB⟩
   rw [if_neg c5] at H
   have c5b0 : (a0_2 == a1_2) = false := beq_eq_false_iff_ne.mpr c5
   have c5b1 : (a0_2 != a1_2) = true := bne_iff_ne.mpr c5
   obtain rfl := Option.some.inj H
   go_enter Try.func82, Try.ntmps82
   go_wp2_with (first | ((with_reducible refine zu (N := 2) rfl ?_); refine bx (N := 2) #[.int .i8 a0_0, .int .i8 a0_1, .int .i8 a0_2] 80 rfl ?_; intro gb295 hg w11 hbox hb; have BK295 := za.mk hbox; have GW295 := gB hg; have GE295 := GW295; replace HB := za.mk (zi sB hb); clear hb hbox hg) | ((with_reducible refine zu (N := 3) rfl ?_); refine bx (N := 3) #[.int .i8 a1_0, .int .i8 a1_1, .int .i8 a1_2] 80 rfl ?_; intro gb296 hg w12 hbox hb; have BK296 := za.mk hbox; have GW296 := gB hg; have GE296 := GW296; have NB295_296 := nK hg BK295; have NB296_295 := za.mk NB295_296.out.symm; replace BK295 := dK BK295 hb; replace HB := za.mk (zi sB hb); clear hb hbox hg; have hnb13 := NB295_296.out; have hnc13 := NB296_295.out; obtain ⟨hcz14_0, hcz14_1, hcz14_2⟩ := xc3 BK295; obtain ⟨hfz14_0, hfz14_1, hfz14_2⟩ := xf3 BK295; obtain ⟨hcz15_0, hcz15_1, hcz15_2⟩ := xc3 BK296; obtain ⟨hfz15_0, hfz15_1, hfz15_2⟩ := xf3 BK296))
   go_ret
   exact ⟨by first | rfl | (simp [zj, zk] <;> rfl) | (simp [*, zj, zk] <;> rfl), sB⟩
  rw [if_neg c4] at H
  have c4b0 : (a0_1 == a1_1) = false := beq_eq_false_iff_ne.mpr c4
  have c4b1 : (a0_1 != a1_1) = true := bne_iff_ne.mpr c4
  obtain rfl := Option.some.inj H
  go_enter Try.func82, Try.ntmps82
  go_wp2_with (first | ((with_reducible refine zu (N := 2) rfl ?_); refine bx (N := 2) #[.int .i8 a0_0, .int .i8 a0_1, .int .i8 a0_2] 80 rfl ?_; intro gb295 hg w16 hbox hb; have BK295 := za.mk hbox; have GW295 := gB hg; have GE295 := GW295; replace HB := za.mk (zi sB hb); clear hb hbox hg) | ((with_reducible refine zu (N := 3) rfl ?_); refine bx (N := 3) #[.int .i8 a1_0, .int .i8 a1_1, .int .i8 a1_2] 80 rfl ?_; intro gb296 hg w17 hbox hb; have BK296 := za.mk hbox; have GW296 := gB hg; have GE296 := GW296; have NB295_296 := nK hg BK295; have NB296_295 := za.mk NB295_296.out.symm; replace BK295 := dK BK295 hb; replace HB := za.mk (zi sB hb); clear hb hbox hg; have hnb18 := NB295_296.out; have hnc18 := NB296_295.out; obtain ⟨hcz19_0, hcz19_1, hcz19_2⟩ := xc3 BK295; obtain ⟨hfz19_0, hfz19_1, hfz19_2⟩ := xf3 BK295; obtain ⟨hcz20_0, hcz20_1, hcz20_2⟩ := xc3 BK296; obtain ⟨hfz20_0, hfz20_1, hfz20_2⟩ := xf3 BK296))
  go_ret
  exact ⟨by first | rfl | (simp [zj, zk] <;> rfl) | (simp [*, zj, zk] <;> rfl), sB⟩
 rw [if_neg c3] at H
 have c3b0 : (a0_0 == a1_0) = false := beq_eq_false_iff_ne.mpr c3
 have c3b1 : (a0_0 != a1_0) = true := bne_iff_ne.mpr c3
 obtain rfl := Option.some.inj H
 go_enter Try.func82, Try.ntmps82
 go_wp2_with (first | ((with_reducible refine zu (N := 2) rfl ?_); refine bx (N := 2) #[.int .i8 a0_0, .int .i8 a0_1, .int .i8 a0_2] 80 rfl ?_; intro gb295 hg w21 hbox hb; have BK295 := za.mk hbox; have GW295 := gB hg; have GE295 := GW295; replace HB := za.mk (zi sB hb); clear hb hbox hg) | ((with_reducible refine zu (N := 3) rfl ?_); refine bx (N := 3) #[.int .i8 a1_0, .int .i8 a1_1, .int .i8 a1_2] 80 rfl ?_; intro gb296 hg w22 hbox hb; have BK296 := za.mk hbox; have GW296 := gB hg; have GE296 := GW296; have NB295_296 := nK hg BK295; have NB296_295 := za.mk NB295_296.out.symm; replace BK295 := dK BK295 hb; replace HB := za.mk (zi sB hb); clear hb hbox hg; have hnb23 := NB295_296.out; have hnc23 := NB296_295.out; obtain ⟨hcz24_0, hcz24_1, hcz24_2⟩ := xc3 BK295; obtain ⟨hfz24_0, hfz24_1, hfz24_2⟩ := xf3 BK295; obtain ⟨hcz25_0, hcz25_1, hcz25_2⟩ := xc3 BK296; obtain ⟨hfz25_0, hfz25_1, hfz25_2⟩ := xf3 BK296))
 go_ret
 exact ⟨by first | rfl | (simp [zj, zk] <;> rfl) | (simp [*, zj, zk] <;> rfl), sB⟩

/-! ### laws_eqMoveS: function 42 -/
def laws_eqMoveS.l0 : Nat → List (S80) → List (S80) → Int → Option (Bool)
 | 0, _, _, _ => none
 | k + 1, x0, x1, x5 => if x5 < (x0.length : Int) then (if 0 ≤ x5 then (if x5 < (x1.length : Int) then ((laws_eqMove.f ((zh x0 x5).f0) ((zh x0 x5).f1) ((zh x0 x5).f2) ((zh x1 x5).f0) ((zh x1 x5).f1) ((zh x1 x5).f2)).bind fun t299 => (if t299 = true then (laws_eqMoveS.l0 k x0 x1 (wrap64 (x5 + 1))) else (some false))) else (none)) else (none)) else (some true)
def laws_eqMoveS.f (k : Nat) (l0 : List (S80)) (l1 : List (S80)) : Option (Bool) := if (l0.length : Int) = (l1.length : Int) then (laws_eqMoveS.l0 k l0 l1 0) else (some false)
def laws_eqMoveS.T6 : Bool × List (List Nat × List Nat) := (true, [([], []), ([], []), ([0, 1], [0, 1]), ([2], [2]), ([], []), ([], []), ([4, 5], [4, 5]), ([6], [6]), ([3, 7], [3, 7]), ([8], [8])])
def laws_eqMoveS.B6 : List Nat := [0, 0, 3, 7, 0, 0, 48, 112, 255, 511]
theorem laws_eqMoveS.tab6 : rtab .any (zme Try.f42 6) = laws_eqMoveS.T6 := by kernel_rfl
theorem laws_eqMoveS.bits6 : zvb laws_eqMoveS.T6.2 laws_eqMoveS.B6 = true := by kernel_rfl
set_option maxHeartbeats 8000000 in
set_option maxRecDepth 100000 in
theorem laws_eqMoveS.calls (k : Nat) (A0 : Option Addr) (c0 : Nat) (l0 : List (S80)) (A1 : Option Addr) (c1 : Nat) (l1 : List (S80)) (r : Bool) (w : World) (hr0 : Kd.C k80 w A0 l0.length l0) (hc0 : l0.length ≤ c0) (hr1 : Kd.C k80 w A1 l1.length l1) (hc1 : l1.length ≤ c1) (h : laws_eqMoveS.f k l0 l1 = some r) :
  Calls Try.prog 42 #[.slice A0 l0.length c0, .slice A1 l1.length c1] w fun e w' => e = .returned (.bool r) ∧ Below w.heap.size w w' := by
 have hu80 := Try.underlying80
 have HR0 := za.mk hr0
 have HC0 := za.mk hc0
 clear hr0 hc0
 have HR1 := za.mk hr1
 have HC1 := za.mk hc1
 clear hr1 hc1
 have HB := za.mk (Below.refl w.heap.size w)
 have H : (if (l0.length : Int) = (l1.length : Int) then (laws_eqMoveS.l0 k l0 l1 0) else (some false)) = some r := h
 clear h
 by_cases c3 : (l0.length : Int) = (l1.length : Int)
 ·rw [if_pos c3] at H
  have c3b0 : ((l0.length : Int) == (l1.length : Int)) = true := beq_iff_eq.mpr c3
  have c3b1 : ((l0.length : Int) != (l1.length : Int)) = false := bne_eq_false_iff_eq.mpr c3
  have c3b2 : (l0.length == l1.length) = true := by first | simpa using c3 | (simp at c3 ⊢; omega)
  clear c3
  have H' := za.mk H
  clear H
  go_enter Try.func42, Try.ntmps42
  go_wp2
  go_loopg [5] k (fun kq v5 w' => ∃ (x5_1 : Int), v5 = .int .i64 x5_1 ∧ za (laws_eqMoveS.l0 kq l0 l1 x5_1 = some r) ∧ za (kq ≤ k) ∧ za (Below w.heap.size w w'))
  case atStart => exact ⟨(0), (by first | rfl | (simp; done) | (simp [*]; done)), H', ⟨Nat.le_refl _⟩, ⟨sB⟩⟩
  case round =>
   clear H'
   try clear c1
   try clear p2
   try clear c3
   try clear c3b0
   try clear c3b1
   try clear c3b2
   obtain ⟨x5_1, rfl, HA, HK1, HB⟩ := hrel
   cases gk with
   | zero => exact absurd HA.out (by simp [laws_eqMoveS.l0])
   | succ k1 =>
    have H := HA.out
    clear HA
    simp only [laws_eqMoveS.l0] at H
    by_cases c4 : x5_1 < (l0.length : Int)
    ·rw [if_pos c4] at H
     have c4b0 : decide (x5_1 < (l0.length : Int)) = true := decide_eq_true c4
     clear c4
     by_cases c5 : 0 ≤ x5_1
     ·rw [if_pos c5] at H
      have c5b0 : decide (0 ≤ x5_1) = true := decide_eq_true c5
      clear c5
      by_cases c6 : x5_1 < (l1.length : Int)
      ·rw [if_pos c6] at H
       have c6b0 : decide (x5_1 < (l1.length : Int)) = true := decide_eq_true c6
       clear c6
       replace H := Option.bind_eq_some_iff.mp H
       obtain ⟨t299, A70, H⟩ := H
       replace H : (if t299 = true then (laws_eqMoveS.l0 k1 l0 l1 (wrap64 (x5_1 + 1))) else (some false)) = some r := H
       have A7 := za.mk A70
       clear A70
       by_cases c8 : t299 = true
       ·subst c8
        have H1 : (laws_eqMoveS.l0 k1 l0 l1 (wrap64 (x5_1 + 1))) = some r := by rw [if_pos rfl] at H; exact H
        clear H
        have H := H1
        clear H1
        have H' := za.mk H
        clear H
        try go_wp2
        have n0_ := za.mk (zv HB.out)
        clear HB
        have HB := n0_
        clear n0_
        have p297 : 0 ≤ (x5_1 : Int) := of_decide_eq_true (by first | (with_reducible assumption) | assumption)
        have q297 : x5_1 < (l0.length : Int) := of_decide_eq_true (by first | (with_reducible assumption) | assumption)
        obtain ⟨ad297, e297, hx297_0, hx297_1, hx297_2⟩ := zsb HR0.out x5_1 p297 q297
        have hw297_2 := hx297_2
        have hw297_1 := hx297_1
        have hw297_0 := hx297_0
        cases e297
        replace hx297_0 := (HB.out.cell (World.block_lt_of_cell? w _ hx297_0)).trans hx297_0
        replace hx297_1 := (HB.out.cell (World.block_lt_of_cell? w _ hx297_1)).trans hx297_1
        replace hx297_2 := (HB.out.cell (World.block_lt_of_cell? w _ hx297_2)).trans hx297_2
        replace p297 := eq_true p297
        replace q297 := eq_true q297
        have p298 : 0 ≤ (x5_1 : Int) := of_decide_eq_true (by first | (with_reducible assumption) | assumption)
        have q298 : x5_1 < (l1.length : Int) := of_decide_eq_true (by first | (with_reducible assumption) | assumption)
        obtain ⟨ad298, e298, hx298_0, hx298_1, hx298_2⟩ := zsb HR1.out x5_1 p298 q298
        have hw298_2 := hx298_2
        have hw298_1 := hx298_1
        have hw298_0 := hx298_0
        cases e298
        replace hx298_0 := (HB.out.cell (World.block_lt_of_cell? w _ hx298_0)).trans hx298_0
        replace hx298_1 := (HB.out.cell (World.block_lt_of_cell? w _ hx298_1)).trans hx298_1
        replace hx298_2 := (HB.out.cell (World.block_lt_of_cell? w _ hx298_2)).trans hx298_2
        replace p298 := eq_true p298
        replace q298 := eq_true q298
        refine zic (n := 10) (S := fun w' => w'.cell? (ad297.add ((x5_1).toNat * 3)) = some (.int .i8 ((zh l0 x5_1).f0)) ∧ w'.cell? ⟨(ad297.add ((x5_1).toNat * 3)).block, (ad297.add ((x5_1).toNat * 3)).off + 1, none⟩ = some (.int .i8 ((zh l0 x5_1).f1)) ∧ w'.cell? ⟨(ad297.add ((x5_1).toNat * 3)).block, (ad297.add ((x5_1).toNat * 3)).off + 2, none⟩ = some (.int .i8 ((zh l0 x5_1).f2)) ∧ w'.cell? (ad298.add ((x5_1).toNat * 3)) = some (.int .i8 ((zh l1 x5_1).f0)) ∧ w'.cell? ⟨(ad298.add ((x5_1).toNat * 3)).block, (ad298.add ((x5_1).toNat * 3)).off + 1, none⟩ = some (.int .i8 ((zh l1 x5_1).f1)) ∧ w'.cell? ⟨(ad298.add ((x5_1).toNat * 3)).block, (ad298.add ((x5_1).toNat * 3)).off + 2, none⟩ = some (.int .i8 ((zh l1 x5_1).f2))) (ds := []) #[false, false, false, false, false, false, false, false, false, false] (by kernel_rfl) rfl rfl ⟨((HB.out.cell (World.block_lt_of_cell? w _ hw297_0)).trans hw297_0), ((HB.out.cell (World.block_lt_of_cell? w _ hw297_1)).trans hw297_1), ((HB.out.cell (World.block_lt_of_cell? w _ hw297_2)).trans hw297_2), ((HB.out.cell (World.block_lt_of_cell? w _ hw298_0)).trans hw298_0), ((HB.out.cell (World.block_lt_of_cell? w _ hw298_1)).trans hw298_1), ((HB.out.cell (World.block_lt_of_cell? w _ hw298_2)).trans hw298_2)⟩ (fun hHeld => ?_); refine zab laws_eqMoveS.tab6 laws_eqMoveS.bits6 (fun HT_ HW_ => ?_)
        generalize wr.drew = w9 at HB hx297_0 hx297_1 hx297_2 hx298_0 hx298_1 hx298_2 hHeld ⊢
        refine zea (i := 0) (N := some 17) (v := ?_) (a' := ?_) #[true, false, false, false, false, false, false, false, false, false] rfl rfl (zca HT_.out (by kernel_rfl)) (fun _ _ _ h => h) (Or.inl ⟨by rfl, ?_⟩) ?_ ?_
        rotate_left
        ·intro w'
         go_simp
         with_reducible rfl
        rotate_left
        ·simp only [Act.put, List.setIfInBounds_toArray, List.set_cons_zero, List.set_cons_succ, zw, zx]
         rfl
        refine zea (i := 1) (N := some 18) (v := ?_) (a' := ?_) #[true, true, false, false, false, false, false, false, false, false] rfl rfl (zca HT_.out (by kernel_rfl)) (fun _ _ _ h => h) (Or.inl ⟨by rfl, ?_⟩) ?_ ?_
        rotate_left
        ·intro w'
         go_simp
         with_reducible rfl
        rotate_left
        ·simp only [Act.put, List.setIfInBounds_toArray, List.set_cons_zero, List.set_cons_succ, zw, zx]
         rfl
        refine zea (i := 2) (N := some 19) (v := ?_) (a' := ?_) #[true, true, true, false, false, false, false, false, false, false] rfl rfl (zca HT_.out (by kernel_rfl)) (fun _ _ _ h => h) (Or.inl ⟨by rfl, ?_⟩) ?_ ?_
        rotate_left
        ·intro w'
         go_simp
         with_reducible rfl
        rotate_left
        ·simp only [Act.put, List.setIfInBounds_toArray, List.set_cons_zero, List.set_cons_succ, zw, zx]
         rfl
        refine zea (i := 4) (N := some 21) (v := ?_) (a' := ?_) #[true, true, true, false, true, false, false, false, false, false] rfl rfl (zca HT_.out (by kernel_rfl)) (fun _ _ _ h => h) (Or.inl ⟨by rfl, ?_⟩) ?_ ?_
        rotate_left
        ·intro w'
         go_simp
         with_reducible rfl
        rotate_left
        ·simp only [Act.put, List.setIfInBounds_toArray, List.set_cons_zero, List.set_cons_succ, zw, zx]
         rfl
        refine zea (i := 5) (N := some 22) (v := ?_) (a' := ?_) #[true, true, true, false, true, true, false, false, false, false] rfl rfl (zca HT_.out (by kernel_rfl)) (fun _ _ _ h => h) (Or.inl ⟨by rfl, ?_⟩) ?_ ?_
        rotate_left
        ·intro w'
         go_simp
         with_reducible rfl
        rotate_left
        ·simp only [Act.put, List.setIfInBounds_toArray, List.set_cons_zero, List.set_cons_succ, zw, zx]
         rfl
        refine zea (i := 6) (N := some 23) (v := ?_) (a' := ?_) #[true, true, true, false, true, true, true, false, false, false] rfl rfl (zca HT_.out (by kernel_rfl)) (fun _ _ _ h => h) (Or.inl ⟨by rfl, ?_⟩) ?_ ?_
        rotate_left
        ·intro w'
         go_simp
         with_reducible rfl
        rotate_left
        ·simp only [Act.put, List.setIfInBounds_toArray, List.set_cons_zero, List.set_cons_succ, zw, zx]
         rfl
        refine take_ (i := 3) (N := some 20) (v := ?_) (a' := ?_) #[true, true, true, true, true, true, true, false, false, false] rfl rfl (zua HT_.out HW_.out (by kernel_rfl)) (fun _ _ _ h => h) (Or.inl ⟨by rfl, ?_⟩) hHeld ?_ ?_
        rotate_left
        ·rintro w' ⟨s0, s1, s2, s3, s4, s5⟩
         go_simp
         with_reducible rfl
        rotate_left
        ·simp only [Act.put, List.setIfInBounds_toArray, List.set_cons_zero, List.set_cons_succ, zw, zx]
         rfl
        refine take_ (i := 7) (N := some 24) (v := ?_) (a' := ?_) #[true, true, true, true, true, true, true, true, false, false] rfl rfl (zua HT_.out HW_.out (by kernel_rfl)) (fun _ _ _ h => h) (Or.inl ⟨by rfl, ?_⟩) hHeld ?_ ?_
        rotate_left
        ·rintro w' ⟨s0, s1, s2, s3, s4, s5⟩
         go_simp
         with_reducible rfl
        rotate_left
        ·simp only [Act.put, List.setIfInBounds_toArray, List.set_cons_zero, List.set_cons_succ, zw, zx]
         rfl
        refine one_ (i := 8) (N := some 25) #[true, true, true, true, true, true, true, true, true, false] rfl rfl (zjb HT_.out (by kernel_rfl)) (by decide) (fun K hK => ?_)
        refine zgd Try.func82 (by kernel_rfl) rfl #[.agg #[.int .i8 ((zh l0 x5_1).f0), .int .i8 ((zh l0 x5_1).f1), .int .i8 ((zh l0 x5_1).f2)], .agg #[.int .i8 ((zh l1 x5_1).f0), .int .i8 ((zh l1 x5_1).f1), .int .i8 ((zh l1 x5_1).f2)]] (by rfl) rfl rfl (by (try simp only [List.map_toArray, List.map_cons, List.map_nil]); first | done | rfl | (simp only [List.length_drop, List.length_take]; rfl)) ?_
        with_reducible refine (laws_eqMove.calls ((zh l0 x5_1).f0) ((zh l0 x5_1).f1) ((zh l0 x5_1).f2) ((zh l1 x5_1).f0) ((zh l1 x5_1).f1) ((zh l1 x5_1).f2) true _ A7.out).mono ?_
        rintro e w10 ⟨rfl, hb⟩
        refine ⟨_, rfl, ?_⟩
        have n0_ := za.mk (zi sB hb)
        clear HB
        have HB := n0_
        clear n0_
        (try clear hb)
        (try clear hb2)
        (try clear hk)
        (try clear hi)
        refine hK.out _ _ ⟨((HB.out.cell (World.block_lt_of_cell? w _ hw297_0)).trans hw297_0), ((HB.out.cell (World.block_lt_of_cell? w _ hw297_1)).trans hw297_1), ((HB.out.cell (World.block_lt_of_cell? w _ hw297_2)).trans hw297_2), ((HB.out.cell (World.block_lt_of_cell? w _ hw298_0)).trans hw298_0), ((HB.out.cell (World.block_lt_of_cell? w _ hw298_1)).trans hw298_1), ((HB.out.cell (World.block_lt_of_cell? w _ hw298_2)).trans hw298_2)⟩ (fun hHeld => ?_)
        clear hK K
        refine zqa (a' := ?_) ?_ ?_
        rotate_left
        ·show Act.put _ (some 25) _ = _
         simp only [Act.put, List.setIfInBounds_toArray, List.set_cons_zero, List.set_cons_succ, zw, zx]
         rfl
        refine zea (i := 9) (N := some 26) (v := ?_) (a' := ?_) #[true, true, true, true, true, true, true, true, true, true] rfl rfl (zca HT_.out (by kernel_rfl)) (fun _ _ _ h => h) (Or.inl ⟨by rfl, ?_⟩) ?_ ?_
        rotate_left
        ·intro w'
         go_simp
         with_reducible rfl
        rotate_left
        ·simp only [Act.put, List.setIfInBounds_toArray, List.set_cons_zero, List.set_cons_succ, zw, zx]
         rfl
        refine zxc (zbc HT_.out (by kernel_rfl)) ?_
        try go_wp2
        go_roundg k1
        case measure => have := HK1.out; omega
        case rel => exact ⟨(wrap64 (x5_1 + 1)), (by first | rfl | (simp; done) | (simp [*]; done)), H', ⟨by have := HK1.out; omega⟩, ⟨sB⟩⟩
       replace c8 := Bool.eq_false_iff.mpr c8
       subst c8
       have H1 : (some false) = some r := by rw [if_neg (show ¬ (false = true) by decide)] at H; exact H
       clear H
       have H := H1
       clear H1
       obtain rfl := Option.some.inj H
       try go_wp2
       have n0_ := za.mk (zv HB.out)
       clear HB
       have HB := n0_
       clear n0_
       have p297 : 0 ≤ (x5_1 : Int) := of_decide_eq_true (by first | (with_reducible assumption) | assumption)
       have q297 : x5_1 < (l0.length : Int) := of_decide_eq_true (by first | (with_reducible assumption) | assumption)
       obtain ⟨ad297, e297, hx297_0, hx297_1, hx297_2⟩ := zsb HR0.out x5_1 p297 q297
       have hw297_2 := hx297_2
       have hw297_1 := hx297_1
       have hw297_0 := hx297_0
       cases e297
       replace hx297_0 := (HB.out.cell (World.block_lt_of_cell? w _ hx297_0)).trans hx297_0
       replace hx297_1 := (HB.out.cell (World.block_lt_of_cell? w _ hx297_1)).trans hx297_1
       replace hx297_2 := (HB.out.cell (World.block_lt_of_cell? w _ hx297_2)).trans hx297_2
       replace p297 := eq_true p297
       replace q297 := eq_true q297
       have p298 : 0 ≤ (x5_1 : Int) := of_decide_eq_true (by first | (with_reducible assumption) | assumption)
       have q298 : x5_1 < (l1.length : Int) := of_decide_eq_true (by first | (with_reducible assumption) | assumption)
       obtain ⟨ad298, e298, hx298_0, hx298_1, hx298_2⟩ := zsb HR1.out x5_1 p298 q298
       have hw298_2 := hx298_2
       have hw298_1 := hx298_1
       have hw298_0 := hx298_0
       cases e298
       replace hx298_0 := (HB.out.cell (World.block_lt_of_cell? w _ hx298_0)).trans hx298_0
       replace hx298_1 := (HB.out.cell (World.block_lt_of_cell? w _ hx298_1)).trans hx298_1
       replace hx298_2 := (HB.out.cell (World.block_lt_of_cell? w _ hx298_2)).trans hx298_2
       replace p298 := eq_true p298
       replace q298 := eq_true q298
       refine zic (n := 10) (S := fun w' => w'.cell? (ad297.add ((x5_1).toNat * 3)) = some (.int .i8 ((zh l0 x5_1).f0)) ∧ w'.cell? ⟨(ad297.add ((x5_1).toNat * 3)).block, (ad297.add ((x5_1).toNat * 3)).off + 1, none⟩ = some (.int .i8 ((zh l0 x5_1).f1)) ∧ w'.cell? ⟨(ad297.add ((x5_1).toNat * 3)).block, (ad297.add ((x5_1).toNat * 3)).off + 2, none⟩ = some (.int .i8 ((zh l0 x5_1).f2)) ∧ w'.cell? (ad298.add ((x5_1).toNat * 3)) = some (.int .i8 ((zh l1 x5_1).f0)) ∧ w'.cell? ⟨(ad298.add ((x5_1).toNat * 3)).block, (ad298.add ((x5_1).toNat * 3)).off + 1, none⟩ = some (.int .i8 ((zh l1 x5_1).f1)) ∧ w'.cell? ⟨(ad298.add ((x5_1).toNat * 3)).block, (ad298.add ((x5_1).toNat * 3)).off + 2, none⟩ = some (.int .i8 ((zh l1 x5_1).f2))) (ds := []) #[false, false, false, false, false, false, false, false, false, false] (by kernel_rfl) rfl rfl ⟨((HB.out.cell (World.block_lt_of_cell? w _ hw297_0)).trans hw297_0), ((HB.out.cell (World.block_lt_of_cell? w _ hw297_1)).trans hw297_1), ((HB.out.cell (World.block_lt_of_cell? w _ hw297_2)).trans hw297_2), ((HB.out.cell (World.block_lt_of_cell? w _ hw298_0)).trans hw298_0), ((HB.out.cell (World.block_lt_of_cell? w _ hw298_1)).trans hw298_1), ((HB.out.cell (World.block_lt_of_cell? w _ hw298_2)).trans hw298_2)⟩ (fun hHeld => ?_); refine zab laws_eqMoveS.tab6 laws_eqMoveS.bits6 (fun HT_ HW_ => ?_)
       generalize wr.drew = w11 at HB hx297_0 hx297_1 hx297_2 hx298_0 hx298_1 hx298_2 hHeld ⊢
       refine zea (i := 0) (N := some 17) (v := ?_) (a' := ?_) #[true, false, false, false, false, false, false, false, false, false] rfl rfl (zca HT_.out (by kernel_rfl)) (fun _ _ _ h => h) (Or.inl ⟨by rfl, ?_⟩) ?_ ?_
       rotate_left
       ·intro w'
        go_simp
        with_reducible rfl
       rotate_left
       ·simp only [Act.put, List.setIfInBounds_toArray, List.set_cons_zero, List.set_cons_succ, zw, zx]
        rfl
       refine zea (i := 1) (N := some 18) (v := ?_) (a' := ?_) #[true, true, false, false, false, false, false, false, false, false] rfl rfl (zca HT_.out (by kernel_rfl)) (fun _ _ _ h => h) (Or.inl ⟨by rfl, ?_⟩) ?_ ?_
       rotate_left
       ·intro w'
        go_simp
        with_reducible rfl
       rotate_left
       ·simp only [Act.put, List.setIfInBounds_toArray, List.set_cons_zero, List.set_cons_succ, zw, zx]
        rfl
       refine zea (i := 2) (N := some 19) (v := ?_) (a' := ?_) #[true, true, true, false, false, false, false, false, false, false] rfl rfl (zca HT_.out (by kernel_rfl)) (fun _ _ _ h => h) (Or.inl ⟨by rfl, ?_⟩) ?_ ?_
       rotate_left
       ·intro w'
        go_simp
        with_reducible rfl
       rotate_left
       ·simp only [Act.put, List.setIfInBounds_toArray, List.set_cons_zero, List.set_cons_succ, zw, zx]
        rfl
       refine zea (i := 4) (N := some 21) (v := ?_) (a' := ?_) #[true, true, true, false, true, false, false, false, false, false] rfl rfl (zca HT_.out (by kernel_rfl)) (fun _ _ _ h => h) (Or.inl ⟨by rfl, ?_⟩) ?_ ?_
       rotate_left
       ·intro w'
        go_simp
        with_reducible rfl
       rotate_left
       ·simp only [Act.put, List.setIfInBounds_toArray, List.set_cons_zero, List.set_cons_succ, zw, zx]
        rfl
       refine zea (i := 5) (N := some 22) (v := ?_) (a' := ?_) #[true, true, true, false, true, true, false, false, false, false] rfl rfl (zca HT_.out (by kernel_rfl)) (fun _ _ _ h => h) (Or.inl ⟨by rfl, ?_⟩) ?_ ?_
       rotate_left
       ·intro w'
        go_simp
        with_reducible rfl
       rotate_left
       ·simp only [Act.put, List.setIfInBounds_toArray, List.set_cons_zero, List.set_cons_succ, zw, zx]
        rfl
       refine zea (i := 6) (N := some 23) (v := ?_) (a' := ?_) #[true, true, true, false, true, true, true, false, false, false] rfl rfl (zca HT_.out (by kernel_rfl)) (fun _ _ _ h => h) (Or.inl ⟨by rfl, ?_⟩) ?_ ?_
       rotate_left
       ·intro w'
        go_simp
        with_reducible rfl
       rotate_left
       ·simp only [Act.put, List.setIfInBounds_toArray, List.set_cons_zero, List.set_cons_succ, zw, zx]
        rfl
       refine take_ (i := 3) (N := some 20) (v := ?_) (a' := ?_) #[true, true, true, true, true, true, true, false, false, false] rfl rfl (zua HT_.out HW_.out (by kernel_rfl)) (fun _ _ _ h => h) (Or.inl ⟨by rfl, ?_⟩) hHeld ?_ ?_
       rotate_left
       ·rintro w' ⟨s0, s1, s2, s3, s4, s5⟩
        go_simp
        with_reducible rfl
       rotate_left
       ·simp only [Act.put, List.setIfInBounds_toArray, List.set_cons_zero, List.set_cons_succ, zw, zx]
        rfl
       refine take_ (i := 7) (N := some 24) (v := ?_) (a' := ?_) #[true, true, true, true, true, true, true, true, false, false] rfl rfl (zua HT_.out HW_.out (by kernel_rfl)) (fun _ _ _ h => h) (Or.inl ⟨by rfl, ?_⟩) hHeld ?_ ?_
       rotate_left
       ·rintro w' ⟨s0, s1, s2, s3, s4, s5⟩
        go_simp
        with_reducible rfl
       rotate_left
       ·simp only [Act.put, List.setIfInBounds_toArray, List.set_cons_zero, List.set_cons_succ, zw, zx]
        rfl
       refine one_ (i := 8) (N := some 25) #[true, true, true, true, true, true, true, true, true, false] rfl rfl (zjb HT_.out (by kernel_rfl)) (by decide) (fun K hK => ?_)
       refine zgd Try.func82 (by kernel_rfl) rfl #[.agg #[.int .i8 ((zh l0 x5_1).f0), .int .i8 ((zh l0 x5_1).f1), .int .i8 ((zh l0 x5_1).f2)], .agg #[.int .i8 ((zh l1 x5_1).f0), .int .i8 ((zh l1 x5_1).f1), .int .i8 ((zh l1 x5_1).f2)]] (by rfl) rfl rfl (by (try simp only [List.map_toArray, List.map_cons, List.map_nil]); first | done | rfl | (simp only [List.length_drop, List.length_take]; rfl)) ?_
       with_reducible refine (laws_eqMove.calls ((zh l0 x5_1).f0) ((zh l0 x5_1).f1) ((zh l0 x5_1).f2) ((zh l1 x5_1).f0) ((zh l1 x5_1).f1) ((zh l1 x5_1).f2) false _ A7.out).mono ?_
       rintro e w12 ⟨rfl, hb⟩
       refine ⟨_, rfl, ?_⟩
       have n0_ := za.mk (zi sB hb)
       clear HB
       have HB := n0_
       clear n0_
       (try clear hb)
       (try clear hb2)
       (try clear hk)
       (try clear hi)
       refine hK.out _ _ ⟨((HB.out.cell (World.block_lt_of_cell? w _ hw297_0)).trans hw297_0), ((HB.out.cell (World.block_lt_of_cell? w _ hw297_1)).trans hw297_1), ((HB.out.cell (World.block_lt_of_cell? w _ hw297_2)).trans hw297_2), ((HB.out.cell (World.block_lt_of_cell? w _ hw298_0)).trans hw298_0), ((HB.out.cell (World.block_lt_of_cell? w _ hw298_1)).trans hw298_1), ((HB.out.cell (World.block_lt_of_cell? w _ hw298_2)).trans hw298_2)⟩ (fun hHeld => ?_)
       clear hK K
       refine zqa (a' := ?_) ?_ ?_
       rotate_left
       ·show Act.put _ (some 25) _ = _
        simp only [Act.put, List.setIfInBounds_toArray, List.set_cons_zero, List.set_cons_succ, zw, zx]
        rfl
       refine zea (i := 9) (N := some 26) (v := ?_) (a' := ?_) #[true, true, true, true, true, true, true, true, true, true] rfl rfl (zca HT_.out (by kernel_rfl)) (fun _ _ _ h => h) (Or.inl ⟨by rfl, ?_⟩) ?_ ?_
       rotate_left
       ·intro w'
        go_simp
        with_reducible rfl
       rotate_left
       ·simp only [Act.put, List.setIfInBounds_toArray, List.set_cons_zero, List.set_cons_succ, zw, zx]
        rfl
       refine zxc (zbc HT_.out (by kernel_rfl)) ?_
       try go_wp2
       go_ret
       exact ⟨by first | rfl | (simp [zj, zk] <;> rfl) | (simp [*, zj, zk] <;> rfl), sB⟩
      rw [if_neg c6] at H
      exact absurd H (by simp)
     rw [if_neg c5] at H
     exact absurd H (by simp)
    rw [if_neg c4] at H
    have c4b0 : decide (x5_1 < (l0.length : Int)) = false := decide_eq_false c4
    clear c4
    obtain rfl := Option.some.inj H
    go_wp2
    go_ret
    exact ⟨by first | rfl | (simp [zj, zk] <;> rfl) | (simp [*, zj, zk] <;> rfl), sB⟩
 rw [if_neg c3] at H
 have c3b0 : ((l0.length : Int) == (l1.length : Int)) = false := beq_eq_false_iff_ne.mpr c3
 have c3b1 : ((l0.length : Int) != (l1.length : Int)) = true := bne_iff_ne.mpr c3
 have c3b2 : (l0.length == l1.length) = false := by first | simpa using c3 | (simp at c3 ⊢; omega)
 obtain rfl := Option.some.inj H
 go_enter Try.func42, Try.ntmps42
 go_wp2
 go_ret
 exact ⟨by first | rfl | (simp [zj, zk] <;> rfl) | (simp [*, zj, zk] <;> rfl), sB⟩

/-! ### laws_markMoveS: function 43 -/
def laws_markMoveS.l0 : Nat → List (S80) → Int → Int → Option (Int × (List (S80)))
 | 0, _, _, _ => none
 | k + 1, x0, x1, x5 => if x5 < (x0.length : Int) then (if 0 ≤ x5 then ((some (x0.set (x5 : Int).toNat (⟨IntKind.i8.wrap (x1), (zh x0 x5).f1, (zh x0 x5).f2⟩ : S80) : List (S80))).bind fun y300 => ((some (y300.set (x5 : Int).toNat (⟨(zh y300 x5).f0, IntKind.i8.wrap (wrap64 (x1 + 1)), (zh y300 x5).f2⟩ : S80) : List (S80))).bind fun y301 => (laws_markMoveS.l0 k (y301.set (x5 : Int).toNat (⟨(zh y301 x5).f0, (zh y301 x5).f1, IntKind.i8.wrap (wrap64 ((wrap64 (x1 + 1)) + 1))⟩ : S80)) (wrap64 ((wrap64 ((wrap64 (x1 + 1)) + 1)) + 1)) (wrap64 (x5 + 1))))) else (none)) else (some (x1, x0))
def laws_markMoveS.f (k : Nat) (l0 : List (S80)) (a1 : Int) : Option (Int × (List (S80))) := laws_markMoveS.l0 k l0 a1 0
set_option maxHeartbeats 8000000 in
set_option maxRecDepth 100000 in
theorem laws_markMoveS.calls (k : Nat) (P0_ : Nat → Prop) (u9000_ : Value) (l0 : List (S80)) (a1 : Int) (r1 : Int) (r2 : List (S80)) (w0 w : World) (hB : Below w0.heap.size w0 w) (ho0 : Kd.R k80 80 w w0.heap.size P0_ u9000_ l0) (h : laws_markMoveS.f k l0 a1 = some (r1, r2)) :
  Calls Try.prog 43 #[u9000_, .int .i64 a1] w fun e w' => e = .returned (.int .i64 r1) ∧ Kd.R k80 80 w' w0.heap.size (fun k_ => (P0_ k_ ∨ w.heap.size ≤ k_)) u9000_ r2 ∧ Below w0.heap.size w0 w' ∧ Kept w w' (fun k_ => P0_ k_) := by
 have HO0 := za.mk (show Kd.R k80 80 w w0.heap.size (fun k_ => (P0_ k_ ∨ w.heap.size ≤ k_)) u9000_ l0 from Kd.R_mono ho0 (fun k_ hk => (.inl hk)))
 have HK := za.mk (Kept.refl w (fun k_ => P0_ k_))
 have HW0 := za.mk hB.size
 have HB := za.mk hB
 clear hB
 have H : (laws_markMoveS.l0 k l0 a1 0) = some (r1, r2) := h
 clear h
 have H' := za.mk H
 clear H
 go_enter Try.func43, Try.ntmps43
 go_wp2
 go_loopg [1, 5] k (fun kq v1 v5 w' => ∃ (x0_1 : List (S80)) (x1_1 : Int) (x5_1 : Int), v1 = .int .i64 x1_1 ∧ v5 = .int .i64 x5_1 ∧ za (laws_markMoveS.l0 kq x0_1 x1_1 x5_1 = some (r1, r2)) ∧ za (kq ≤ k) ∧ za (Kd.R k80 80 w' w0.heap.size (fun k_ => (P0_ k_ ∨ w.heap.size ≤ k_)) u9000_ x0_1) ∧ za (Kept w w' (fun k_ => P0_ k_)) ∧ za (Below w0.heap.size w0 w'))
 case atStart => exact ⟨(l0), (a1), (0), (by first | rfl | (simp; done) | (simp [*]; done)), (by first | rfl | (simp; done) | (simp [*]; done)), H', ⟨Nat.le_refl _⟩, ⟨uR HO0⟩, ⟨by repeat (first | (with_reducible first | exact HK.out | apply Kept.alloc | apply Kept.drewN | apply Kept.drew) | exact HK.out)⟩, ⟨sB⟩⟩
 case round =>
  clear H'
  try clear p2
  obtain ⟨x0_1, x1_1, x5_1, rfl, rfl, HA, HK1, HO_0, HK, HB⟩ := hrel
  cases gk with
  | zero => exact absurd HA.out (by simp [laws_markMoveS.l0])
  | succ k1 =>
   have H := HA.out
   clear HA
   simp only [laws_markMoveS.l0] at H
   by_cases c3 : x5_1 < (x0_1.length : Int)
   ·rw [if_pos c3] at H
    have c3b0 : decide (x5_1 < (x0_1.length : Int)) = true := decide_eq_true c3
    clear c3
    by_cases c4 : 0 ≤ x5_1
    ·rw [if_pos c4] at H
     have c4b0 : decide (0 ≤ x5_1) = true := decide_eq_true c4
     clear c4
     obtain ⟨y300, hy300⟩ : ∃ y_ : List (S80), y_ = (x0_1.set (x5_1 : Int).toNat (⟨IntKind.i8.wrap (x1_1), (zh x0_1 x5_1).f1, (zh x0_1 x5_1).f2⟩ : S80)) := ⟨_, rfl⟩
     replace H : ((some (y300.set (x5_1 : Int).toNat (⟨(zh y300 x5_1).f0, IntKind.i8.wrap (wrap64 (x1_1 + 1)), (zh y300 x5_1).f2⟩ : S80) : List (S80))).bind fun y301 => (laws_markMoveS.l0 k1 (y301.set (x5_1 : Int).toNat (⟨(zh y301 x5_1).f0, (zh y301 x5_1).f1, IntKind.i8.wrap (wrap64 ((wrap64 (x1_1 + 1)) + 1))⟩ : S80)) (wrap64 ((wrap64 ((wrap64 (x1_1 + 1)) + 1)) + 1)) (wrap64 (x5_1 + 1)))) = some (r1, r2) := by first | (rw [hy300]; with_reducible exact H) | (have H2_ := (Option.bind_some _ _).symm.trans H; rw [hy300]; with_reducible exact H2_) | (have H2_ := (Option.bind_some _ _).symm.trans H; with_reducible exact H2_) | with_reducible exact H | (rw [hy300]; exact H) | exact H
     have Ny300 := za.mk hy300
     clear hy300
     obtain ⟨y301, hy301⟩ : ∃ y_ : List (S80), y_ = (y300.set (x5_1 : Int).toNat (⟨(zh y300 x5_1).f0, IntKind.i8.wrap (wrap64 (x1_1 + 1)), (zh y300 x5_1).f2⟩ : S80)) := ⟨_, rfl⟩
     replace H : (laws_markMoveS.l0 k1 (y301.set (x5_1 : Int).toNat (⟨(zh y301 x5_1).f0, (zh y301 x5_1).f1, IntKind.i8.wrap (wrap64 ((wrap64 (x1_1 + 1)) + 1))⟩ : S80)) (wrap64 ((wrap64 ((wrap64 (x1_1 + 1)) + 1)) + 1)) (wrap64 (x5_1 + 1))) = some (r1, r2) := by first | (rw [hy301]; with_reducible exact H) | (have H2_ := (Option.bind_some _ _).symm.trans H; rw [hy301]; with_reducible exact H2_) | (have H2_ := (Option.bind_some _ _).symm.trans H; with_reducible exact H2_) | with_reducible exact H | (rw [hy301]; exact H) | exact H
     have Ny301 := za.mk hy301
     clear hy301
     obtain ⟨y302, hy302⟩ : ∃ y_ : List (S80), y_ = (y301.set (x5_1 : Int).toNat (⟨(zh y301 x5_1).f0, (zh y301 x5_1).f1, IntKind.i8.wrap (wrap64 ((wrap64 (x1_1 + 1)) + 1))⟩ : S80)) := ⟨_, rfl⟩
     replace H : (laws_markMoveS.l0 k1 y302 (wrap64 ((wrap64 ((wrap64 (x1_1 + 1)) + 1)) + 1)) (wrap64 (x5_1 + 1))) = some (r1, r2) := by first | (rw [hy302]; with_reducible exact H) | (have H2_ := (Option.bind_some _ _).symm.trans H; rw [hy302]; with_reducible exact H2_) | (have H2_ := (Option.bind_some _ _).symm.trans H; with_reducible exact H2_) | with_reducible exact H | (rw [hy302]; exact H) | exact H
     have Ny302 := za.mk hy302
     clear hy302
     have H' := za.mk H
     clear H
     obtain ⟨Ao8, co8, eo8⟩ := Kd.R_slice HO_0.out
     subst eo8
     have p5 : 0 ≤ (x5_1 : Int) := of_decide_eq_true (by first | (with_reducible assumption) | assumption)
     have q5 : (x5_1 : Int) < ((x0_1.length : Int) : Int) := of_decide_eq_true (by first | (with_reducible assumption) | assumption)
     obtain ⟨go5, co5, eo5, gb5, gl5, cl5, HG5⟩ := Kd.R_form HO_0.out (by omega)
     (first | cases eo5 | (injection eo5 with ea_ en_ ec_; (first | subst ea_ | (injection ea_ with ea_; subst ea_)); subst ec_; clear en_))
     have GB5 := za.mk gb5
     have GG5 := za.mk HG5
     clear gb5 gl5 HG5
     have HMgo5 := za.mk (show (P0_ go5 ∨ w.heap.size ≤ go5) from (HO_0.out.1 _ rfl))
     obtain ⟨ce5, hcl5, hM5, hcc5, hfr5⟩ := Kd.R_elem HO_0.out z80 (x5_1 : Int) p5 q5
     obtain rfl := zya hM5
     have hx5_0 : wr.cell? ⟨go5, (x5_1 : Int).toNat * 3, none⟩ = some (.int .i8 ((zh x0_1 x5_1).f0)) := hcc5 0 _ rfl
     have hx5_1 : wr.cell? ⟨go5, (x5_1 : Int).toNat * 3 + 1, none⟩ = some (.int .i8 ((zh x0_1 x5_1).f1)) := hcc5 1 _ rfl
     have hx5_2 : wr.cell? ⟨go5, (x5_1 : Int).toNat * 3 + 2, none⟩ = some (.int .i8 ((zh x0_1 x5_1).f2)) := hcc5 2 _ rfl
     have hf5_0 : wr.frozen? ⟨go5, (x5_1 : Int).toNat * 3, none⟩ = false := hfr5 0
     have hf5_1 : wr.frozen? ⟨go5, (x5_1 : Int).toNat * 3 + 1, none⟩ = false := hfr5 1
     have hf5_2 : wr.frozen? ⟨go5, (x5_1 : Int).toNat * 3 + 2, none⟩ = false := hfr5 2
     clear hcl5 hcc5 hfr5 hM5
     replace p5 := eq_true p5
     replace q5 := eq_true q5
     have HX9 := za.mk (show Kd.R k80 80 wr w0.heap.size (fun k_ => (P0_ k_ ∨ w.heap.size ≤ k_)) (.slice (some ⟨go5, 0, none⟩) x0_1.length co8) x0_1 from (uR HO_0))
     obtain ⟨ce9, hcl9, hM9, hcc9, hfr9⟩ := Kd.R_elem HX9.out z80 (x5_1 : Int) (of_decide_eq_true (by first | (with_reducible assumption) | assumption)) (by have h_ : (x5_1 : Int) < ((x0_1.length : Int) : Int) := of_decide_eq_true (by first | (with_reducible assumption) | assumption); first | exact h_ | (have e_ := (Kd.R_reads' HO_0.out).1; omega) | simpa using h_)
     obtain rfl := zya hM9
     have HP9 := Kd.R_seg HX9.out (x5_1 : Int) (of_decide_eq_true (by first | (with_reducible assumption) | assumption)) (by have h_ : (x5_1 : Int) < ((x0_1.length : Int) : Int) := of_decide_eq_true (by first | (with_reducible assumption) | assumption); first | exact h_ | (have e_ := (Kd.R_reads' HO_0.out).1; omega) | simpa using h_) (seg := [.int .i8 (IntKind.i8.wrap (x1_1))]) (j := 0) hcl9 hcc9 (show 1 ≤ 3 from by decide) (x' := (⟨IntKind.i8.wrap (x1_1), (zh x0_1 x5_1).f1, (zh x0_1 x5_1).f2⟩ : S80)) (zmb _ _ _ (⟨IntKind.i8.wrap (x1_1), (zh x0_1 x5_1).f1, (zh x0_1 x5_1).f2⟩ : S80) ) (fun _ hk => hk)
     have hx9_0 := hcc9 0 _ rfl
     (try simp only [show (k80).sz = 3 from rfl, Nat.mul_one, Nat.add_zero] at hx9_0)
     have hf9_0 := hfr9 0
     (try simp only [show (k80).sz = 3 from rfl, Nat.mul_one, Nat.add_zero] at hf9_0)
     clear hcl9 hcc9 hfr9 hM9
     go_wp2_with (first | ((with_reducible refine zbb (t := 78) (p := 17) rfl ?_); refine zxa (t := 78) (p := 17) (v := ?vo_w10) (w1 := (wr.setCell ⟨go5, (x5_1 : Int).toNat * 3, none⟩ (.int .i8 (IntKind.i8.wrap (x1_1))))) ?hg ?ho ?hn ?hr ?_; (case ho => rfl); (case hg => rfl); (case hn => rfl); (case hr => first | (go_simp; done) | (go_simp; rfl)); intro w10 hw; have hg : wr.grownBy w10 (some go5) := (by rw [hw]; exact HP9.2); have hp_ : Kd.R k80 80 w10 w0.heap.size (fun k_ => (P0_ k_ ∨ w.heap.size ≤ k_)) (.slice (some ⟨go5, 0, none⟩) x0_1.length co8) y300 := (by rw [hw, Ny300.out]; exact HP9.1); clear HP9; replace HB := za.mk ((by rw [hw]; exact zt (HB.out) GB5.out : Below w0.heap.size w0 w10)); replace HK := za.mk (Kept.of_grown (S := (fun k_ => P0_ k_)) hg (by repeat (first | (with_reducible first | exact HK.out | apply Kept.alloc | apply Kept.drewN | apply Kept.drew) | exact HK.out)) (fun k_ e_ => (HO_0.out.1 k_ e_))); replace HO_0 := za.mk hp_; clear hg hw hp_; have p6 : 0 ≤ (x5_1 : Int) := of_decide_eq_true (by first | (with_reducible assumption) | assumption); have q6 : (x5_1 : Int) < ((x0_1.length : Int) : Int) := of_decide_eq_true (by first | (with_reducible assumption) | assumption); obtain ⟨ce6, hcl6, hM6, hcc6, hfr6⟩ := Kd.R_elem HO_0.out z80 (x5_1 : Int) p6 q6; obtain rfl := zya hM6; have hx6_0 : w10.cell? ⟨go5, (x5_1 : Int).toNat * 3, none⟩ = some (.int .i8 ((zh y300 x5_1).f0)) := hcc6 0 _ rfl; have hx6_1 : w10.cell? ⟨go5, (x5_1 : Int).toNat * 3 + 1, none⟩ = some (.int .i8 ((zh y300 x5_1).f1)) := hcc6 1 _ rfl; have hx6_2 : w10.cell? ⟨go5, (x5_1 : Int).toNat * 3 + 2, none⟩ = some (.int .i8 ((zh y300 x5_1).f2)) := hcc6 2 _ rfl; have hf6_0 : w10.frozen? ⟨go5, (x5_1 : Int).toNat * 3, none⟩ = false := hfr6 0; have hf6_1 : w10.frozen? ⟨go5, (x5_1 : Int).toNat * 3 + 1, none⟩ = false := hfr6 1; have hf6_2 : w10.frozen? ⟨go5, (x5_1 : Int).toNat * 3 + 2, none⟩ = false := hfr6 2; clear hcl6 hcc6 hfr6 hM6; replace p6 := eq_true p6; replace q6 := eq_true q6; have HX11 := za.mk (show Kd.R k80 80 w10 w0.heap.size (fun k_ => (P0_ k_ ∨ w.heap.size ≤ k_)) (.slice (some ⟨go5, 0, none⟩) x0_1.length co8) y300 from (uR HO_0)); obtain ⟨ce11, hcl11, hM11, hcc11, hfr11⟩ := Kd.R_elem HX11.out z80 (x5_1 : Int) (of_decide_eq_true (by first | (with_reducible assumption) | assumption)) (by have h_ : (x5_1 : Int) < ((x0_1.length : Int) : Int) := of_decide_eq_true (by first | (with_reducible assumption) | assumption); first | exact h_ | (have e_ := (Kd.R_reads' HO_0.out).1; omega) | simpa using h_); obtain rfl := zya hM11; have HP11 := Kd.R_seg HX11.out (x5_1 : Int) (of_decide_eq_true (by first | (with_reducible assumption) | assumption)) (by have h_ : (x5_1 : Int) < ((x0_1.length : Int) : Int) := of_decide_eq_true (by first | (with_reducible assumption) | assumption); first | exact h_ | (have e_ := (Kd.R_reads' HO_0.out).1; omega) | simpa using h_) (seg := [.int .i8 (IntKind.i8.wrap (wrap64 (x1_1 + 1)))]) (j := 1) hcl11 hcc11 (show 2 ≤ 3 from by decide) (x' := (⟨(zh y300 x5_1).f0, IntKind.i8.wrap (wrap64 (x1_1 + 1)), (zh y300 x5_1).f2⟩ : S80)) (zmb _ _ _ (⟨(zh y300 x5_1).f0, IntKind.i8.wrap (wrap64 (x1_1 + 1)), (zh y300 x5_1).f2⟩ : S80) ) (fun _ hk => hk); have hx11_1 := hcc11 1 _ rfl; (try simp only [show (k80).sz = 3 from rfl, Nat.mul_one, Nat.add_zero] at hx11_1); have hf11_1 := hfr11 1; (try simp only [show (k80).sz = 3 from rfl, Nat.mul_one, Nat.add_zero] at hf11_1); clear hcl11 hcc11 hfr11 hM11) | ((with_reducible refine zbb (t := 78) (p := 25) rfl ?_); refine zxa (t := 78) (p := 25) (v := ?vo_w12) (w1 := (w10.setCell ⟨go5, (x5_1 : Int).toNat * 3 + 1, none⟩ (.int .i8 (IntKind.i8.wrap (wrap64 (x1_1 + 1)))))) ?hg ?ho ?hn ?hr ?_; (case ho => rfl); (case hg => rfl); (case hn => rfl); (case hr => first | (go_simp; done) | (go_simp; rfl)); intro w12 hw; have hg : w10.grownBy w12 (some go5) := (by rw [hw]; exact HP11.2); have hp_ : Kd.R k80 80 w12 w0.heap.size (fun k_ => (P0_ k_ ∨ w.heap.size ≤ k_)) (.slice (some ⟨go5, 0, none⟩) x0_1.length co8) y301 := (by rw [hw, Ny301.out]; exact HP11.1); clear HP11; replace HB := za.mk ((by rw [hw]; exact zt (HB.out) GB5.out : Below w0.heap.size w0 w12)); replace HK := za.mk (Kept.of_grown (S := (fun k_ => P0_ k_)) hg (by repeat (first | (with_reducible first | exact HK.out | apply Kept.alloc | apply Kept.drewN | apply Kept.drew) | exact HK.out)) (fun k_ e_ => (HO_0.out.1 k_ e_))); replace HO_0 := za.mk hp_; clear hg hw hp_; have p7 : 0 ≤ (x5_1 : Int) := of_decide_eq_true (by first | (with_reducible assumption) | assumption); have q7 : (x5_1 : Int) < ((x0_1.length : Int) : Int) := of_decide_eq_true (by first | (with_reducible assumption) | assumption); obtain ⟨ce7, hcl7, hM7, hcc7, hfr7⟩ := Kd.R_elem HO_0.out z80 (x5_1 : Int) p7 q7; obtain rfl := zya hM7; have hx7_0 : w12.cell? ⟨go5, (x5_1 : Int).toNat * 3, none⟩ = some (.int .i8 ((zh y301 x5_1).f0)) := hcc7 0 _ rfl; have hx7_1 : w12.cell? ⟨go5, (x5_1 : Int).toNat * 3 + 1, none⟩ = some (.int .i8 ((zh y301 x5_1).f1)) := hcc7 1 _ rfl; have hx7_2 : w12.cell? ⟨go5, (x5_1 : Int).toNat * 3 + 2, none⟩ = some (.int .i8 ((zh y301 x5_1).f2)) := hcc7 2 _ rfl; have hf7_0 : w12.frozen? ⟨go5, (x5_1 : Int).toNat * 3, none⟩ = false := hfr7 0; have hf7_1 : w12.frozen? ⟨go5, (x5_1 : Int).toNat * 3 + 1, none⟩ = false := hfr7 1; have hf7_2 : w12.frozen? ⟨go5, (x5_1 : Int).toNat * 3 + 2, none⟩ = false := hfr7 2; clear hcl7 hcc7 hfr7 hM7; replace p7 := eq_true p7; replace q7 := eq_true q7; have HX13 := za.mk (show Kd.R k80 80 w12 w0.heap.size (fun k_ => (P0_ k_ ∨ w.heap.size ≤ k_)) (.slice (some ⟨go5, 0, none⟩) x0_1.length co8) y301 from (uR HO_0)); obtain ⟨ce13, hcl13, hM13, hcc13, hfr13⟩ := Kd.R_elem HX13.out z80 (x5_1 : Int) (of_decide_eq_true (by first | (with_reducible assumption) | assumption)) (by have h_ : (x5_1 : Int) < ((x0_1.length : Int) : Int) := of_decide_eq_true (by first | (with_reducible assumption) | assumption); first | exact h_ | (have e_ := (Kd.R_reads' HO_0.out).1; omega) | simpa using h_); obtain rfl := zya hM13; have HP13 := Kd.R_seg HX13.out (x5_1 : Int) (of_decide_eq_true (by first | (with_reducible assumption) | assumption)) (by have h_ : (x5_1 : Int) < ((x0_1.length : Int) : Int) := of_decide_eq_true (by first | (with_reducible assumption) | assumption); first | exact h_ | (have e_ := (Kd.R_reads' HO_0.out).1; omega) | simpa using h_) (seg := [.int .i8 (IntKind.i8.wrap (wrap64 ((wrap64 (x1_1 + 1)) + 1)))]) (j := 2) hcl13 hcc13 (show 3 ≤ 3 from by decide) (x' := (⟨(zh y301 x5_1).f0, (zh y301 x5_1).f1, IntKind.i8.wrap (wrap64 ((wrap64 (x1_1 + 1)) + 1))⟩ : S80)) (zmb _ _ _ (⟨(zh y301 x5_1).f0, (zh y301 x5_1).f1, IntKind.i8.wrap (wrap64 ((wrap64 (x1_1 + 1)) + 1))⟩ : S80) ) (fun _ hk => hk); have hx13_2 := hcc13 2 _ rfl; (try simp only [show (k80).sz = 3 from rfl, Nat.mul_one, Nat.add_zero] at hx13_2); have hf13_2 := hfr13 2; (try simp only [show (k80).sz = 3 from rfl, Nat.mul_one, Nat.add_zero] at hf13_2); clear hcl13 hcc13 hfr13 hM13) | ((with_reducible refine zbb (t := 78) (p := 33) rfl ?_); refine zxa (t := 78) (p := 33) (v := ?vo_w14) (w1 := (w12.setCell ⟨go5, (x5_1 : Int).toNat * 3 + 2, none⟩ (.int .i8 (IntKind.i8.wrap (wrap64 ((wrap64 (x1_1 + 1)) + 1)))))) ?hg ?ho ?hn ?hr ?_; (case ho => rfl); (case hg => rfl); (case hn => rfl); (case hr => first | (go_simp; done) | (go_simp; rfl)); intro w14 hw; have hg : w12.grownBy w14 (some go5) := (by rw [hw]; exact HP13.2); have hp_ : Kd.R k80 80 w14 w0.heap.size (fun k_ => (P0_ k_ ∨ w.heap.size ≤ k_)) (.slice (some ⟨go5, 0, none⟩) x0_1.length co8) y302 := (by rw [hw, Ny302.out]; exact HP13.1); clear HP13; replace HB := za.mk ((by rw [hw]; exact zt (HB.out) GB5.out : Below w0.heap.size w0 w14)); replace HK := za.mk (Kept.of_grown (S := (fun k_ => P0_ k_)) hg (by repeat (first | (with_reducible first | exact HK.out | apply Kept.alloc | apply Kept.drewN | apply Kept.drew) | exact HK.out)) (fun k_ e_ => (HO_0.out.1 k_ e_))); replace HO_0 := za.mk hp_; clear hg hw hp_))
     go_roundg k1
     case measure => have := HK1.out; omega
     case rel => exact ⟨(y302), (wrap64 ((wrap64 ((wrap64 (x1_1 + 1)) + 1)) + 1)), (wrap64 (x5_1 + 1)), (by first | rfl | (simp; done) | (simp [*]; done)), (by first | rfl | (simp; done) | (simp [*]; done)), H', ⟨by have := HK1.out; omega⟩, ⟨uR HO_0⟩, ⟨by repeat (first | (with_reducible first | exact HK.out | apply Kept.alloc | apply Kept.drewN | apply Kept.drew) | exact HK.out)⟩, ⟨sB⟩⟩
    rw [if_neg c4] at H
    exact absurd H (by simp)
   rw [if_neg c3] at H
   have c3b0 : decide (x5_1 < (x0_1.length : Int)) = false := decide_eq_false c3
   clear c3
   simp only [Option.some.injEq, Prod.mk.injEq] at H
   obtain ⟨rfl, rfl⟩ := H
   obtain ⟨Ao15, co15, eo15⟩ := Kd.R_slice HO_0.out
   subst eo15
   go_wp2
   go_ret
   exact ⟨by first | rfl | (simp [zj, zk] <;> rfl) | (simp [*, zj, zk] <;> rfl), by (with_reducible repeat (first | apply Kd.R_alloc | apply Kd.R_drewN | apply Kd.R_drew)); exact HO_0.out, by repeat (first | (with_reducible first | exact HB.out | apply zy | apply zm | apply zv) | exact HB.out), by repeat (first | (with_reducible first | exact HK.out | apply Kept.alloc | apply Kept.drewN | apply Kept.drew) | exact HK.out)⟩

/-! ### laws_heldMoveS: function 44 -/
def laws_heldMoveS.l0 : Nat → List (S80) → Int → Int → Option (Int)
 | 0, _, _, _ => none
 | k + 1, x0, x1, x5 => if x5 < (x0.length : Int) then (if 0 ≤ x5 then (if ((zh x0 x5).f0) = (IntKind.i8.wrap (x1)) then (if ((zh x0 x5).f1) = (IntKind.i8.wrap (wrap64 (x1 + 1))) then (if ((zh x0 x5).f2) = (IntKind.i8.wrap (wrap64 ((wrap64 (x1 + 1)) + 1))) then (laws_heldMoveS.l0 k x0 (wrap64 ((wrap64 ((wrap64 (x1 + 1)) + 1)) + 1)) (wrap64 (x5 + 1))) else (some (-1))) else (some (-1))) else (some (-1))) else (none)) else (some x1)
def laws_heldMoveS.f (k : Nat) (l0 : List (S80)) (a1 : Int) : Option (Int) := laws_heldMoveS.l0 k l0 a1 0
set_option maxHeartbeats 8000000 in
set_option maxRecDepth 100000 in
theorem laws_heldMoveS.calls (k : Nat) (A0 : Option Addr) (c0 : Nat) (l0 : List (S80)) (a1 : Int) (r : Int) (w : World) (hr0 : Kd.C k80 w A0 l0.length l0) (hc0 : l0.length ≤ c0) (h : laws_heldMoveS.f k l0 a1 = some r) :
  Calls Try.prog 44 #[.slice A0 l0.length c0, .int .i64 a1] w fun e w' => e = .returned (.int .i64 r) ∧ zba w w' := by
 have HR0 := za.mk hr0
 have HC0 := za.mk hc0
 clear hr0 hc0
 have H : (laws_heldMoveS.l0 k l0 a1 0) = some r := h
 clear h
 have H' := za.mk H
 clear H
 go_enter Try.func44, Try.ntmps44
 go_wp2
 go_loopg [1, 5] k (fun kq v1 v5 w' => ∃ (x1_1 : Int) (x5_1 : Int), v1 = .int .i64 x1_1 ∧ v5 = .int .i64 x5_1 ∧ za (laws_heldMoveS.l0 kq l0 x1_1 x5_1 = some r) ∧ za (kq ≤ k) ∧ zba w w')
 case atStart => exact ⟨(a1), (0), (by first | rfl | (simp; done) | (simp [*]; done)), (by first | rfl | (simp; done) | (simp [*]; done)), H', ⟨Nat.le_refl _⟩, by repeat (first | exact zba.refl _ | apply zba.step)⟩
 case round =>
  clear H'
  try clear p2
  obtain ⟨x1_1, x5_1, rfl, rfl, HA, HK1, ⟨m1, rfl⟩⟩ := hrel
  cases gk with
  | zero => exact absurd HA.out (by simp [laws_heldMoveS.l0])
  | succ k1 =>
   have H := HA.out
   clear HA
   simp only [laws_heldMoveS.l0] at H
   by_cases c3 : x5_1 < (l0.length : Int)
   ·rw [if_pos c3] at H
    have c3b0 : decide (x5_1 < (l0.length : Int)) = true := decide_eq_true c3
    clear c3
    by_cases c4 : 0 ≤ x5_1
    ·rw [if_pos c4] at H
     have c4b0 : decide (0 ≤ x5_1) = true := decide_eq_true c4
     clear c4
     by_cases c5 : ((zh l0 x5_1).f0) = (IntKind.i8.wrap (x1_1))
     ·rw [if_pos c5] at H
      have c5b0 : (((zh l0 x5_1).f0) == (IntKind.i8.wrap (x1_1))) = true := beq_iff_eq.mpr c5
      have c5b1 : (((zh l0 x5_1).f0) != (IntKind.i8.wrap (x1_1))) = false := bne_eq_false_iff_eq.mpr c5
      clear c5
      by_cases c6 : ((zh l0 x5_1).f1) = (IntKind.i8.wrap (wrap64 (x1_1 + 1)))
      ·rw [if_pos c6] at H
       have c6b0 : (((zh l0 x5_1).f1) == (IntKind.i8.wrap (wrap64 (x1_1 + 1)))) = true := beq_iff_eq.mpr c6
       have c6b1 : (((zh l0 x5_1).f1) != (IntKind.i8.wrap (wrap64 (x1_1 + 1)))) = false := bne_eq_false_iff_eq.mpr c6
       (try (have c6b2 : (((zh l0 x5_1).f1) == (IntKind.i8.wrap (IntKind.i64.wrap (x1_1 + 1)))) = true := by have h_ : (((zh l0 x5_1).f1) == (IntKind.i8.wrap (wrap64 (x1_1 + 1)))) = true := beq_iff_eq.mpr c6; simpa only [zw, zx] using h_))
       (try (have c6b3 : (((zh l0 x5_1).f1) != (IntKind.i8.wrap (IntKind.i64.wrap (x1_1 + 1)))) = false := by have h_ : (((zh l0 x5_1).f1) != (IntKind.i8.wrap (wrap64 (x1_1 + 1)))) = false := bne_eq_false_iff_eq.mpr c6; simpa only [zw, zx] using h_))
       clear c6
       by_cases c7 : ((zh l0 x5_1).f2) = (IntKind.i8.wrap (wrap64 ((wrap64 (x1_1 + 1)) + 1)))
       ·rw [if_pos c7] at H
        have c7b0 : (((zh l0 x5_1).f2) == (IntKind.i8.wrap (wrap64 ((wrap64 (x1_1 + 1)) + 1)))) = true := beq_iff_eq.mpr c7
        have c7b1 : (((zh l0 x5_1).f2) != (IntKind.i8.wrap (wrap64 ((wrap64 (x1_1 + 1)) + 1)))) = false := bne_eq_false_iff_eq.mpr c7
        (try (have c7b2 : (((zh l0 x5_1).f2) == (IntKind.i8.wrap (IntKind.i64.wrap ((IntKind.i64.wrap (x1_1 + 1)) + 1)))) = true := by have h_ : (((zh l0 x5_1).f2) == (IntKind.i8.wrap (wrap64 ((wrap64 (x1_1 + 1)) + 1)))) = true := beq_iff_eq.mpr c7; simpa only [zw, zx] using h_))
        (try (have c7b3 : (((zh l0 x5_1).f2) != (IntKind.i8.wrap (IntKind.i64.wrap ((IntKind.i64.wrap (x1_1 + 1)) + 1)))) = false := by have h_ : (((zh l0 x5_1).f2) != (IntKind.i8.wrap (wrap64 ((wrap64 (x1_1 + 1)) + 1)))) = false := bne_eq_false_iff_eq.mpr c7; simpa only [zw, zx] using h_))
        clear c7
        have H' := za.mk H
        clear H
        have p303 : 0 ≤ (x5_1 : Int) := of_decide_eq_true (by first | (with_reducible assumption) | assumption)
        have q303 : x5_1 < (l0.length : Int) := of_decide_eq_true (by first | (with_reducible assumption) | assumption)
        obtain ⟨ad303, e303, hx303_0, hx303_1, hx303_2⟩ := zsb HR0.out x5_1 p303 q303
        cases e303
        replace p303 := eq_true p303
        replace q303 := eq_true q303
        have p304 : 0 ≤ (x5_1 : Int) := of_decide_eq_true (by first | (with_reducible assumption) | assumption)
        have q304 : x5_1 < (l0.length : Int) := of_decide_eq_true (by first | (with_reducible assumption) | assumption)
        obtain ⟨ad304, e304, hx304_0, hx304_1, hx304_2⟩ := zsb HR0.out x5_1 p304 q304
        obtain rfl : ad303 = ad304 := (by injection e304)
        replace p304 := eq_true p304
        replace q304 := eq_true q304
        have p305 : 0 ≤ (x5_1 : Int) := of_decide_eq_true (by first | (with_reducible assumption) | assumption)
        have q305 : x5_1 < (l0.length : Int) := of_decide_eq_true (by first | (with_reducible assumption) | assumption)
        obtain ⟨ad305, e305, hx305_0, hx305_1, hx305_2⟩ := zsb HR0.out x5_1 p305 q305
        obtain rfl : ad303 = ad305 := (by injection e305)
        replace p305 := eq_true p305
        replace q305 := eq_true q305
        go_wp2
        go_roundg k1
        case measure => have := HK1.out; omega
        case rel => exact ⟨(wrap64 ((wrap64 ((wrap64 (x1_1 + 1)) + 1)) + 1)), (wrap64 (x5_1 + 1)), (by first | rfl | (simp; done) | (simp [*]; done)), (by first | rfl | (simp; done) | (simp [*]; done)), H', ⟨by have := HK1.out; omega⟩, by repeat (first | exact zba.refl _ | apply zba.step)⟩
       rw [if_neg c7] at H
       have c7b0 : (((zh l0 x5_1).f2) == (IntKind.i8.wrap (wrap64 ((wrap64 (x1_1 + 1)) + 1)))) = false := beq_eq_false_iff_ne.mpr c7
       have c7b1 : (((zh l0 x5_1).f2) != (IntKind.i8.wrap (wrap64 ((wrap64 (x1_1 + 1)) + 1)))) = true := bne_iff_ne.mpr c7
       (try (have c7b2 : (((zh l0 x5_1).f2) == (IntKind.i8.wrap (IntKind.i64.wrap ((IntKind.i64.wrap (x1_1 + 1)) + 1)))) = false := by have h_ : (((zh l0 x5_1).f2) == (IntKind.i8.wrap (wrap64 ((wrap64 (x1_1 + 1)) + 1)))) = false := beq_eq_false_iff_ne.mpr c7; simpa only [zw, zx] using h_))
       (try (have c7b3 : (((zh l0 x5_1).f2) != (IntKind.i8.wrap (IntKind.i64.wrap ((IntKind.i64.wrap (x1_1 + 1)) + 1)))) = true := by have h_ : (((zh l0 x5_1).f2) != (IntKind.i8.wrap (wrap64 ((wrap64 (x1_1 + 1)) + 1)))) = true := bne_iff_ne.mpr c7; simpa only [zw, zx] using h_))
       obtain rfl := Option.some.inj H
       have p303 : 0 ≤ (x5_1 : Int) := of_decide_eq_true (by first | (with_reducible assumption) | assumption)
       have q303 : x5_1 < (l0.length : Int) := of_decide_eq_true (by first | (with_reducible assumption) | assumption)
       obtain ⟨ad303, e303, hx303_0, hx303_1, hx303_2⟩ := zsb HR0.out x5_1 p303 q303
       cases e303
       replace p303 := eq_true p303
       replace q303 := eq_true q303
       have p304 : 0 ≤ (x5_1 : Int) := of_decide_eq_true (by first | (with_reducible assumption) | assumption)
       have q304 : x5_1 < (l0.length : Int) := of_decide_eq_true (by first | (with_reducible assumption) | assumption)
       obtain ⟨ad304, e304, hx304_0, hx304_1, hx304_2⟩ := zsb HR0.out x5_1 p304 q304
       obtain rfl : ad303 = ad304 := (by injection e304)
       replace p304 := eq_true p304
       replace q304 := eq_true q304
       have p305 : 0 ≤ (x5_1 : Int) := of_decide_eq_true (by first | (with_reducible assumption) | assumption)
       have q305 : x5_1 < (l0.length : Int) := of_decide_eq_true (by first | (with_reducible assumption) | assumption)
       obtain ⟨ad305, e305, hx305_0, hx305_1, hx305_2⟩ := zsb HR0.out x5_1 p305 q305
       obtain rfl : ad303 = ad305 := (by injection e305)
       replace p305 := eq_true p305
       replace q305 := eq_true q305
       go_wp2
       go_ret
       exact ⟨by first | rfl | (simp; done) | (simp [*]; done), by repeat (first | exact zba.refl _ | apply zba.step)⟩
      rw [if_neg c6] at H
      have c6b0 : (((zh l0 x5_1).f1) == (IntKind.i8.wrap (wrap64 (x1_1 + 1)))) = false := beq_eq_false_iff_ne.mpr c6
      have c6b1 : (((zh l0 x5_1).f1) != (IntKind.i8.wrap (wrap64 (x1_1 + 1)))) = true := bne_iff_ne.mpr c6
      (try (have c6b2 : (((zh l0 x5_1).f1) == (IntKind.i8.wrap (IntKind.i64.wrap (x1_1 + 1)))) = false := by have h_ : (((zh l0 x5_1).f1) == (IntKind.i8.wrap (wrap64 (x1_1 + 1)))) = false := beq_eq_false_iff_ne.mpr c6; simpa only [zw, zx] using h_))
      (try (have c6b3 : (((zh l0 x5_1).f1) != (IntKind.i8.wrap (IntKind.i64.wrap (x1_1 + 1)))) = true := by have h_ : (((zh l0 x5_1).f1) != (IntKind.i8.wrap (wrap64 (x1_1 + 1)))) = true := bne_iff_ne.mpr c6; simpa only [zw, zx] using h_))
      obtain rfl := Option.some.inj H
      have p303 : 0 ≤ (x5_1 : Int) := of_decide_eq_true (by first | (with_reducible assumption) | assumption)
      have q303 : x5_1 < (l0.length : Int) := of_decide_eq_true (by first | (with_reducible assumption) | assumption)
      obtain ⟨ad303, e303, hx303_0, hx303_1, hx303_2⟩ := zsb HR0.out x5_1 p303 q303
      cases e303
      replace p303 := eq_true p303
      replace q303 := eq_true q303
      have p304 : 0 ≤ (x5_1 : Int) := of_decide_eq_true (by first | (with_reducible assumption) | assumption)
      have q304 : x5_1 < (l0.length : Int) := of_decide_eq_true (by first | (with_reducible assumption) | assumption)
      obtain ⟨ad304, e304, hx304_0, hx304_1, hx304_2⟩ := zsb HR0.out x5_1 p304 q304
      obtain rfl : ad303 = ad304 := (by injection e304)
      replace p304 := eq_true p304
      replace q304 := eq_true q304
      go_wp2
      go_ret
      exact ⟨by first | rfl | (simp; done) | (simp [*]; done), by repeat (first | exact zba.refl _ | apply zba.step)⟩
     rw [if_neg c5] at H
     have c5b0 : (((zh l0 x5_1).f0) == (IntKind.i8.wrap (x1_1))) = false := beq_eq_false_iff_ne.mpr c5
     have c5b1 : (((zh l0 x5_1).f0) != (IntKind.i8.wrap (x1_1))) = true := bne_iff_ne.mpr c5
     obtain rfl := Option.some.inj H
     have p303 : 0 ≤ (x5_1 : Int) := of_decide_eq_true (by first | (with_reducible assumption) | assumption)
     have q303 : x5_1 < (l0.length : Int) := of_decide_eq_true (by first | (with_reducible assumption) | assumption)
     obtain ⟨ad303, e303, hx303_0, hx303_1, hx303_2⟩ := zsb HR0.out x5_1 p303 q303
     cases e303
     replace p303 := eq_true p303
     replace q303 := eq_true q303
     go_wp2
     go_ret
     exact ⟨by first | rfl | (simp; done) | (simp [*]; done), by repeat (first | exact zba.refl _ | apply zba.step)⟩
    rw [if_neg c4] at H
    exact absurd H (by simp)
   rw [if_neg c3] at H
   have c3b0 : decide (x5_1 < (l0.length : Int)) = false := decide_eq_false c3
   clear c3
   obtain rfl := Option.some.inj H
   go_wp2
   go_ret
   exact ⟨by first | rfl | (simp; done) | (simp [*]; done), by repeat (first | exact zba.refl _ | apply zba.step)⟩
end Go.Proofs.Yteciomagemjjaaa.J
