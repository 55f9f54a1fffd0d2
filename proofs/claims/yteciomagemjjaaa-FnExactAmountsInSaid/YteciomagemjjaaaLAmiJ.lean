/- The program's AmountsIn. -/
import Derived.Test.YteciomagemjjaaaJx3
import Derived.Test.YteciomagemjjaaaLSearchJ
import Derived.Test.YteciomagemjjaaaLSrtJ
import Derived.Test.YteciomagemjjaaaLPrJ
import Derived.Test.YteciomagemjjaaaLFindJ
namespace Go.Proofs.Yteciomagemjjaaa.J
open Go.RowKit Go.Proofs.YteciomagemjjaaaW.PrintWords Go.Proofs.YteciomagemjjaaaW.PrintLast Go.Proofs.YteciomagemjjaaaW.PrintMore
attribute [local go_sem] zna zpa zua zva zia zja zqa zoa   -- for this text's walks alone
set_option linter.unusedVariables false
set_option linter.unusedSimpArgs false
/-- The first cells of the water of an element. -/
def wl (q : List S82) (i : Int) (l : List Int) : List Int := [(zl q i).f0.f0, (zl q i).f0.f1, (zl q i).f0.f2, (zl q i).f0.f3].take l.length
def srch4.f (k : Nat) (l0_0 : List Int) (a0_1 : Int) (a0_2 : Int) (a0_3 : Int) (a0_4 : Int) (a0_5 : Bool) : Option (List S82) := if l0_0.length ≤ 4 then impl_Puzzle_search.f k l0_0 a0_1 a0_2 a0_3 a0_4 a0_5 else none
theorem zld {k : Nat} {l : List Int} {a b c d : Int} {tap : Bool} {r : List S82} (h : srch4.f k l a b c d tap = some r) : l.length ≤ 4 ∧ impl_Puzzle_search.f k l a b c d tap = some r := by
  unfold srch4.f at h
  split at h
  · rename_i hc
    exact ⟨hc, h⟩
  · cases h
/-- Sorted, each once. -/
def sortC.f (x : List Int) : Option (List Int) := if 0 < x.length ∧ x.length < 1000000 then some (Lib.compact (x.mergeSort fun x y => decide (x ≤ y))) else none
theorem sortC_some {x r : List Int} (h : sortC.f x = some r) : (0 < x.length ∧ x.length < 1000000) ∧ Lib.compact (x.mergeSort fun x y => decide (x ≤ y)) = r := by
  unfold sortC.f at h
  split at h
  · rename_i hc
    exact ⟨hc, Option.some.inj h⟩
  · cases h
theorem add0 (g n : Nat) : (⟨g, 0, none⟩ : Addr).add n = ⟨g, n, none⟩ := by unfold Addr.add; split <;> simp_all
theorem arr9_C {w : World} {g n : Nat} {t : TypeId} {a b c d : Int} {e f i j m : Value} (h : w.heap[g]? = some (.cells #[.int .i16 a, .int .i16 b, .int .i16 c, .int .i16 d, e, f, i, j, m] t (0, 0))) (hn : n ≤ 4) : Kd.C (Kd.int .i16) w (some ⟨g, 0, none⟩) ([a, b, c, d].take n).length ([a, b, c, d].take n) := by
  have h4 : Kd.C (Kd.int .i16) w (some ⟨g, 0, none⟩) [a, b, c, d].length [a, b, c, d] := by
    refine Kd.C_of_reads (d := 0) ⟨rfl, (show (4 : Nat) ≤ 9223372036854775807 by decide), fun _ => ⟨⟨g, 0, none⟩, rfl, fun z hz => ?_⟩⟩
    have hz' : z < 4 := hz
    rw [add0]
    rcases (show z = 0 ∨ z = 1 ∨ z = 2 ∨ z = 3 by omega) with rfl | rfl | rfl | rfl
    · exact (zb h 0).trans rfl
    · exact (zb h 1).trans rfl
    · exact (zb h 2).trans rfl
    · exact (zb h 3).trans rfl
  exact Kd.C_take h4 hn
theorem slice27 (g n : Nat) (h : n ≤ 4) (w : World) : (Instr.sliceAt 27 (.pointer (some ⟨g, 0, none⟩)) none (some (.int .i64 (n : Int))) none).run Try.prog w = .ok (.slice (some ⟨g, 0, none⟩) n 4) w := by
  rcases (show n = 0 ∨ n = 1 ∨ n = 2 ∨ n = 3 ∨ n = 4 by omega) with rfl | rfl | rfl | rfl | rfl <;> kernel_rfl
/-! ### impl_AmountsIn: function 46 -/
mutual
def impl_AmountsIn.l0 : Nat → List Int → List (S82) → Int → Int → List Int → Int → Int → Int → Int → Bool → Option (List Int × Int)
 | 0, _, _, _, _, _, _, _, _, _, _ => none
 | k + 1, x4, x14, x15, x16, x360000, x360001, x360002, x360003, x360004, x360005 => if x16 < x15 then (if 0 ≤ x16 then (if x16 < (x14.length : Int) then (impl_AmountsIn.l1 k x4 x14 x15 x16 (wl x14 x16 x360000) (x360000.length : Int) 0 x360000 x360001 x360002 x360003 x360004 x360005) else (none)) else (none)) else ((sortC.f x4).bind fun t367 => (some (t367, 0)))
def impl_AmountsIn.l1 : Nat → List Int → List (S82) → Int → Int → List Int → Int → Int → List Int → Int → Int → Int → Int → Bool → Option (List Int × Int)
 | 0, _, _, _, _, _, _, _, _, _, _, _, _, _ => none
 | k + 1, x4, x14, x15, x16, x24, x25, x26, x360000, x360001, x360002, x360003, x360004, x360005 => if x26 < x25 then (if 0 ≤ x26 then (if x26 < (x24.length : Int) then (if x4.length < 17592186044416 then (impl_AmountsIn.l1 k (x4 ++ [wrap64 (rd x24 x26)]) x14 x15 x16 x24 x25 (wrap64 (x26 + 1)) x360000 x360001 x360002 x360003 x360004 x360005) else (none)) else (none)) else (none)) else (impl_AmountsIn.l0 k x4 x14 x15 (wrap64 (x16 + 1)) x360000 x360001 x360002 x360003 x360004 x360005)
end
def impl_AmountsIn.f (k : Nat) (l0_0 : List Int) (a0_1 : Int) (a0_2 : Int) (a0_3 : Int) (a0_4 : Int) (a0_5 : Bool) : Option (List Int × Int) := (impl_ValidPuzzle.f k l0_0 a0_1 a0_2 a0_3 a0_4 a0_5).bind fun t360 => (if t360 = true then ((srch4.f k l0_0 a0_1 a0_2 a0_3 a0_4 a0_5).bind fun t364 => (impl_AmountsIn.l0 k (([] : List Int)) t364 (t364.length : Int) 0 l0_0 a0_1 a0_2 a0_3 a0_4 a0_5)) else (some (([] : List Int), 1)))
set_option maxHeartbeats 8000000 in
set_option maxRecDepth 100000 in
theorem impl_AmountsIn.calls (k : Nat) (A0_0 : Option Addr) (c0_0 : Nat) (l0_0 : List Int) (a0_1 : Int) (a0_2 : Int) (a0_3 : Int) (a0_4 : Int) (a0_5 : Bool) (r1 : List Int) (r2 : Int) (w : World) (hr0_0 : Kd.C (Kd.int .i16) w A0_0 l0_0.length l0_0) (hc0_0 : l0_0.length ≤ c0_0) (h : impl_AmountsIn.f k l0_0 a0_1 a0_2 a0_3 a0_4 a0_5 = some (r1, r2)) :
  Calls Try.prog 46 #[.agg #[.slice A0_0 l0_0.length c0_0, .int .i16 a0_1, .int .i16 a0_2, .int .i16 a0_3, .int .i16 a0_4, .bool a0_5]] w fun e w' => ∃ v0_ : Value, e = .returned (.tuple #[v0_, .int .i64 r2]) ∧ Kd.R (Kd.int .i64) 2 w' w.heap.size (fun _ => True) v0_ r1 ∧ Below w.heap.size w w' := by
 have hu29 := Try.underlying29
 have hu82 := Try.underlying82
 have HR0_0 := za.mk hr0_0
 have HC0_0 := za.mk hc0_0
 clear hr0_0 hc0_0
 have HB := za.mk (Below.refl w.heap.size w)
 have H : ((impl_ValidPuzzle.f k l0_0 a0_1 a0_2 a0_3 a0_4 a0_5).bind fun t360 => (if t360 = true then ((srch4.f k l0_0 a0_1 a0_2 a0_3 a0_4 a0_5).bind fun t364 => (impl_AmountsIn.l0 k (([] : List Int)) t364 (t364.length : Int) 0 l0_0 a0_1 a0_2 a0_3 a0_4 a0_5)) else (some (([] : List Int), 1)))) = some (r1, r2) := h
 clear h
 replace H := Option.bind_eq_some_iff.mp H
 obtain ⟨t360, A20, H⟩ := H
 replace H : (if t360 = true then ((srch4.f k l0_0 a0_1 a0_2 a0_3 a0_4 a0_5).bind fun t364 => (impl_AmountsIn.l0 k (([] : List Int)) t364 (t364.length : Int) 0 l0_0 a0_1 a0_2 a0_3 a0_4 a0_5)) else (some (([] : List Int), 1))) = some (r1, r2) := H
 have A2 := za.mk A20
 clear A20
 by_cases c3 : t360 = true
 ·subst c3
  have H1 : ((srch4.f k l0_0 a0_1 a0_2 a0_3 a0_4 a0_5).bind fun t364 => (impl_AmountsIn.l0 k (([] : List Int)) t364 (t364.length : Int) 0 l0_0 a0_1 a0_2 a0_3 a0_4 a0_5)) = some (r1, r2) := by rw [if_pos rfl] at H; exact H
  clear H
  have H := H1
  clear H1
  obtain ⟨y361, hy361⟩ : ∃ y_ : List Int, y_ = (([] : List Int)) := ⟨_, rfl⟩
  replace H : ((srch4.f k l0_0 a0_1 a0_2 a0_3 a0_4 a0_5).bind fun t364 => (impl_AmountsIn.l0 k y361 t364 (t364.length : Int) 0 l0_0 a0_1 a0_2 a0_3 a0_4 a0_5)) = some (r1, r2) := by first | (rw [hy361]; with_reducible exact H) | (have H2_ := (Option.bind_some _ _).symm.trans H; rw [hy361]; with_reducible exact H2_) | (have H2_ := (Option.bind_some _ _).symm.trans H; with_reducible exact H2_) | with_reducible exact H | (rw [hy361]; exact H) | exact H
  have Ny361 := za.mk hy361
  clear hy361
  replace H := Option.bind_eq_some_iff.mp H
  obtain ⟨t364, A40, H⟩ := H
  replace H : (impl_AmountsIn.l0 k y361 t364 (t364.length : Int) 0 l0_0 a0_1 a0_2 a0_3 a0_4 a0_5) = some (r1, r2) := H
  have A4 := za.mk A40
  clear A40
  have H' := za.mk H
  clear H
  go_enter Try.func46, Try.ntmps46
  go_wp2_with (first | ((with_reducible refine zu (N := 1) rfl ?_); refine bx (N := 1) #[.slice A0_0 l0_0.length c0_0, .int .i16 a0_1, .int .i16 a0_2, .int .i16 a0_3, .int .i16 a0_4, .bool a0_5] 29 rfl ?_; intro gb359 hg w5 hbox hb; have BK359 := za.mk hbox; have GW359 := gB hg; have GE359 := gB hg; replace HB := za.mk (zh sB hb); clear hb hbox hg; obtain ⟨hcz6_0, hcz6_1, hcz6_2, hcz6_3, hcz6_4, hcz6_5⟩ := xc6 BK359; obtain ⟨hfz6_0, hfz6_1, hfz6_2, hfz6_3, hfz6_4, hfz6_5⟩ := xf6 BK359) | ((with_reducible refine zn (f := 52) rfl ?_); refine gz (some 10) Try.func52 #[.agg #[.slice A0_0 l0_0.length c0_0, .int .i16 a0_1, .int .i16 a0_2, .int .i16 a0_3, .int .i16 a0_4, .bool a0_5]] rfl rfl ?_; (with_reducible refine (impl_ValidPuzzle.calls k _ _ l0_0 a0_1 a0_2 a0_3 a0_4 a0_5 true _ ?side1 ?side2 A2.out).mono ?_); (case side1 => exact uC HR0_0 HB); (case side2 => exact HC0_0.out); rintro e w7 ⟨rfl, hb⟩; refine ⟨_, rfl, ?_⟩; replace BK359 := dK BK359 hb; replace HB := za.mk (zh sB hb); try clear hb) | ((with_reducible refine zu (N := 12) rfl ?_); refine Kd.R_lit (Kd.int .i64) _ 2 ?hg (N := 12) ?hd (xs := ([] : List Int)) (inner := []) (ok := fun _ => True) (okp := fun _ => True) ?hr ?hp (fun _ hk => hk) trivial (Below.refl _ _) (Nat.le_refl _) (by simp) ?_; (case hd => rfl); (case hg => rfl); (case hr => first | (go_simp; done) | (go_simp; rfl)); (case hp => exact (Reps.none _ _)); intro v362 w8 ho9 hb hg_ hnew_; clear hg_ hnew_; (first | rw [← Ny361.out] at ho9 | (simp only [Int.reduceToNat] at ho9; rw [← Ny361.out] at ho9)); have HO363 := za.mk (Kd.R_lower ho9 (zaa sB)); replace BK359 := dK BK359 hb; replace HB := za.mk (zh sB hb); clear hb ho9; obtain ⟨hcz10_0, hcz10_1, hcz10_2, hcz10_3, hcz10_4, hcz10_5⟩ := xc6 BK359; obtain ⟨hfz10_0, hfz10_1, hfz10_2, hfz10_3, hfz10_4, hfz10_5⟩ := xf6 BK359) | ((with_reducible refine zn (f := 55) rfl ?_); refine gz (some 14) Try.func55 #[.agg #[.slice A0_0 l0_0.length c0_0, .int .i16 a0_1, .int .i16 a0_2, .int .i16 a0_3, .int .i16 a0_4, .bool a0_5]] rfl rfl ?_; (with_reducible refine (impl_Puzzle_search.calls k _ _ l0_0 a0_1 a0_2 a0_3 a0_4 a0_5 t364 _ ?side1 ?side2 (zld A4.out).2).mono ?_); (case side1 => exact uC HR0_0 HB); (case side2 => exact HC0_0.out); rintro e w11 ⟨v365, rfl, ho0, hb⟩; refine ⟨_, rfl, ?_⟩; have HO366 := za.mk (Kd.R_lower ho0 (zaa sB)); replace HO363 := dR HO363 hb; replace BK359 := dK BK359 hb; replace HB := za.mk (zh sB hb); try clear hb; obtain ⟨Ao12, co12, eo12⟩ := Kd.R_slice HO366.out; subst eo12))
  go_loopg [4, 16] k (fun kq v4 v16 w' => ∃ (x4_1 : List Int) (x16_1 : Int), v16 = .int .i64 x16_1 ∧ za (impl_AmountsIn.l0 kq x4_1 t364 (t364.length : Int) x16_1 l0_0 a0_1 a0_2 a0_3 a0_4 a0_5 = some (r1, r2)) ∧ za (kq ≤ k) ∧ za (Kd.R (Kd.int .i64) 2 w' w.heap.size (fun _ => True) v4 x4_1) ∧ za (Kd.R k82 82 w' w.heap.size (fun _ => True) (.slice Ao12 t364.length co12) t364) ∧ za (w'.heap[gb359]? = some (.cells #[(.slice A0_0 l0_0.length c0_0), .int .i16 a0_1, .int .i16 a0_2, .int .i16 a0_3, .int .i16 a0_4, .bool a0_5] 29 (0, 0))) ∧ za (Below w.heap.size w w'))
  case atStart => exact ⟨(y361), (0), (by first | rfl | (simp; done) | (simp [*]; done)), H', ⟨Nat.le_refl _⟩, ⟨uR HO363⟩, ⟨uR HO366⟩, ⟨uK BK359⟩, ⟨sB⟩⟩
  case round =>
   clear H'
   try clear p2
   try clear c3
   try clear c4
   try clear c5
   try clear hcz10_0
   try clear hcz10_1
   try clear hcz10_2
   try clear hcz10_3
   try clear hcz10_4
   try clear hcz10_5
   try clear hcz6_0
   try clear hcz6_1
   try clear hcz6_2
   try clear hcz6_3
   try clear hcz6_4
   try clear hcz6_5
   try clear hfz10_0
   try clear hfz10_1
   try clear hfz10_2
   try clear hfz10_3
   try clear hfz10_4
   try clear hfz10_5
   try clear hfz6_0
   try clear hfz6_1
   try clear hfz6_2
   try clear hfz6_3
   try clear hfz6_4
   try clear hfz6_5
   obtain ⟨x4_1, x16_1, rfl, HA, HK1, HO_4, HO_14, BK359, HB⟩ := hrel
   cases gk with
   | zero => exact absurd HA.out (by simp [impl_AmountsIn.l0])
   | succ k1 =>
    have H := HA.out
    clear HA
    simp only [impl_AmountsIn.l0] at H
    by_cases c13 : x16_1 < (t364.length : Int)
    ·rw [if_pos c13] at H
     have c13b0 : decide (x16_1 < (t364.length : Int)) = true := decide_eq_true c13
     clear c13
     by_cases c14 : 0 ≤ x16_1
     ·rw [if_pos c14] at H
      have c14b0 : decide (0 ≤ x16_1) = true := decide_eq_true c14
      clear c14
      by_cases c15 : x16_1 < (t364.length : Int)
      ·rw [if_pos c15] at H
       have c15b0 : decide (x16_1 < (t364.length : Int)) = true := decide_eq_true c15
       clear c15
       have H' := za.mk H
       clear H
       have p370 : 0 ≤ (x16_1 : Int) := of_decide_eq_true (by first | (with_reducible assumption) | assumption)
       have q370 : x16_1 < (t364.length : Int) := of_decide_eq_true (by first | (with_reducible assumption) | assumption)
       obtain ⟨ad370, e370, hx370_0, hx370_1, hx370_2, hx370_3, hx370_4, hx370_5, hx370_6, hx370_7, hx370_8⟩ := at_T82 (Kd.R_reads' HO_14.out).2.2 x16_1 p370 q370
       cases e370
       replace p370 := eq_true p370
       replace q370 := eq_true q370
       have hsl := fun (g : Nat) (w' : World) => slice27 g l0_0.length (zld A4.out).1 w'
       go_wp2_with (first | ((with_reducible refine zu (N := 6) rfl ?_); refine bx (N := 6) #[.int .i16 0, .int .i16 0, .int .i16 0, .int .i16 0, .int .i64 0, .int .i8 0, .int .i8 0, .int .i8 0, .int .i64 0] 82 rfl ?_; intro gb371 hg w16 hbox hb; have BK371 := za.mk hbox; have GW371 := gB hg; have GE371 := gB hg; have NB359_371 := nK hg BK359; have NB371_359 := za.mk (nK hg BK359).out.symm; replace HO_4 := dR HO_4 hb; replace HO_14 := za.mk (Kd.R_below (Kd.R_elderB (uR HO_14) gb371 (Nat.le_of_eq hg.symm)) hb); replace BK359 := dK BK359 hb; replace HB := za.mk (zh sB hb); clear hb hbox hg; have hnb17 := NB371_359.out; have hnc17 := NB359_371.out; obtain ⟨hcz18_0, hcz18_1, hcz18_2, hcz18_3, hcz18_4, hcz18_5, hcz18_6, hcz18_7, hcz18_8⟩ := xc9 BK371; obtain ⟨hfz18_0, hfz18_1, hfz18_2, hfz18_3, hfz18_4, hfz18_5, hfz18_6, hfz18_7, hfz18_8⟩ := xf9 BK371; obtain ⟨hcz19_0, hcz19_1, hcz19_2, hcz19_3, hcz19_4, hcz19_5⟩ := xc6 BK359; obtain ⟨hfz19_0, hfz19_1, hfz19_2, hfz19_3, hfz19_4, hfz19_5⟩ := xf6 BK359))
       go_loopg [4, 26] k1 (fun kq v4 v26 w' => ∃ (x4_2 : List Int) (x26_2 : Int), v26 = .int .i64 x26_2 ∧ za (impl_AmountsIn.l1 kq x4_2 t364 (t364.length : Int) x16_1 (wl t364 x16_1 l0_0) (l0_0.length : Int) x26_2 l0_0 a0_1 a0_2 a0_3 a0_4 a0_5 = some (r1, r2)) ∧ za (kq ≤ k1) ∧ za (Kd.R (Kd.int .i64) 2 w' w.heap.size (fun _ => True) v4 x4_2) ∧ za (Kd.R k82 82 w' w.heap.size (fun k_ => k_ ≠ gb371) (.slice (some ad370) t364.length co12) t364) ∧ za (w'.heap[gb359]? = some (.cells #[(.slice A0_0 l0_0.length c0_0), .int .i16 a0_1, .int .i16 a0_2, .int .i16 a0_3, .int .i16 a0_4, .bool a0_5] 29 (0, 0))) ∧ za (w'.heap[gb371]? = some (.cells #[.int .i16 ((zl t364 x16_1).f0.f0), .int .i16 ((zl t364 x16_1).f0.f1), .int .i16 ((zl t364 x16_1).f0.f2), .int .i16 ((zl t364 x16_1).f0.f3), .int .i64 ((zl t364 x16_1).f1), .int .i8 ((zl t364 x16_1).f2.f0), .int .i8 ((zl t364 x16_1).f2.f1), .int .i8 ((zl t364 x16_1).f2.f2), .int .i64 ((zl t364 x16_1).f3)] 82 (0, 0))) ∧ za (Below w.heap.size w w'))
       case atStart => exact ⟨(x4_1), (0), (by first | rfl | (simp; done) | (simp [*]; done)), H', ⟨Nat.le_refl _⟩, ⟨by (with_reducible repeat (first | apply Kd.R_alloc | apply Kd.R_drewN | apply Kd.R_drew)); exact Kd.R_mono (Kd.R_far (p := ⟨gb371, 8, none⟩) (Kd.R_far (p := ⟨gb371, 7, none⟩) (Kd.R_far (p := ⟨gb371, 6, none⟩) (Kd.R_far (p := ⟨gb371, 5, none⟩) (Kd.R_far (p := ⟨gb371, 4, none⟩) (Kd.R_far (p := ⟨gb371, 3, none⟩) (Kd.R_far (p := ⟨gb371, 2, none⟩) (Kd.R_far (p := ⟨gb371, 1, none⟩) (Kd.R_far (p := ⟨gb371, 0, none⟩) (Kd.R_types HO_4.out BK371.out (by decide)) (fun _ hk => hk.2) (.int .i16 ((zl t364 x16_1).f0.f0))) (fun _ hk => hk.2) (.int .i16 ((zl t364 x16_1).f0.f1))) (fun _ hk => hk.2) (.int .i16 ((zl t364 x16_1).f0.f2))) (fun _ hk => hk.2) (.int .i16 ((zl t364 x16_1).f0.f3))) (fun _ hk => hk.2) (.int .i64 ((zl t364 x16_1).f1))) (fun _ hk => hk.2) (.int .i8 ((zl t364 x16_1).f2.f0))) (fun _ hk => hk.2) (.int .i8 ((zl t364 x16_1).f2.f1))) (fun _ hk => hk.2) (.int .i8 ((zl t364 x16_1).f2.f2))) (fun _ hk => hk.2) (.int .i64 ((zl t364 x16_1).f3))) (fun _ hk => trivial)⟩, ⟨by (with_reducible repeat (first | apply Kd.R_alloc | apply Kd.R_drewN | apply Kd.R_drew)); exact Kd.R_mono (Kd.R_far (p := ⟨gb371, 8, none⟩) (Kd.R_far (p := ⟨gb371, 7, none⟩) (Kd.R_far (p := ⟨gb371, 6, none⟩) (Kd.R_far (p := ⟨gb371, 5, none⟩) (Kd.R_far (p := ⟨gb371, 4, none⟩) (Kd.R_far (p := ⟨gb371, 3, none⟩) (Kd.R_far (p := ⟨gb371, 2, none⟩) (Kd.R_far (p := ⟨gb371, 1, none⟩) (Kd.R_far (p := ⟨gb371, 0, none⟩) (Kd.R_mono HO_14.out (fun k_ hk => (⟨hk, hk.2⟩ : _ ∧ k_ ≠ gb371))) (fun _ hk => hk.2) (.int .i16 ((zl t364 x16_1).f0.f0))) (fun _ hk => hk.2) (.int .i16 ((zl t364 x16_1).f0.f1))) (fun _ hk => hk.2) (.int .i16 ((zl t364 x16_1).f0.f2))) (fun _ hk => hk.2) (.int .i16 ((zl t364 x16_1).f0.f3))) (fun _ hk => hk.2) (.int .i64 ((zl t364 x16_1).f1))) (fun _ hk => hk.2) (.int .i8 ((zl t364 x16_1).f2.f0))) (fun _ hk => hk.2) (.int .i8 ((zl t364 x16_1).f2.f1))) (fun _ hk => hk.2) (.int .i8 ((zl t364 x16_1).f2.f2))) (fun _ hk => hk.2) (.int .i64 ((zl t364 x16_1).f3))) (fun _ hk => hk.1.2)⟩, ⟨by (with_reducible repeat (first | refine ze ?_ _ | refine zf ?_ | refine zc ?_ _)); refine zm ?_ NB359_371.out _; (with_reducible repeat (first | refine ze ?_ _ | refine zf ?_ | refine zc ?_ _)); refine zm ?_ NB359_371.out _; (with_reducible repeat (first | refine ze ?_ _ | refine zf ?_ | refine zc ?_ _)); refine zm ?_ NB359_371.out _; (with_reducible repeat (first | refine ze ?_ _ | refine zf ?_ | refine zc ?_ _)); refine zm ?_ NB359_371.out _; (with_reducible repeat (first | refine ze ?_ _ | refine zf ?_ | refine zc ?_ _)); refine zm ?_ NB359_371.out _; (with_reducible repeat (first | refine ze ?_ _ | refine zf ?_ | refine zc ?_ _)); refine zm ?_ NB359_371.out _; (with_reducible repeat (first | refine ze ?_ _ | refine zf ?_ | refine zc ?_ _)); refine zm ?_ NB359_371.out _; (with_reducible repeat (first | refine ze ?_ _ | refine zf ?_ | refine zc ?_ _)); refine zm ?_ NB359_371.out _; (with_reducible repeat (first | refine ze ?_ _ | refine zf ?_ | refine zc ?_ _)); refine zm ?_ NB359_371.out _; (with_reducible repeat (first | refine ze ?_ _ | refine zf ?_ | refine zc ?_ _)); exact BK359.out⟩, ⟨by (with_reducible repeat (first | refine ze ?_ _ | refine zf ?_ | refine zc ?_ _)); refine zx (cs := #[.int .i16 ((zl t364 x16_1).f0.f0), .int .i16 ((zl t364 x16_1).f0.f1), .int .i16 ((zl t364 x16_1).f0.f2), .int .i16 ((zl t364 x16_1).f0.f3), .int .i64 ((zl t364 x16_1).f1), .int .i8 ((zl t364 x16_1).f2.f0), .int .i8 ((zl t364 x16_1).f2.f1), .int .i8 ((zl t364 x16_1).f2.f2), .int .i64 0]) ?_ 8 _ rfl; (with_reducible repeat (first | refine ze ?_ _ | refine zf ?_ | refine zc ?_ _)); refine zx (cs := #[.int .i16 ((zl t364 x16_1).f0.f0), .int .i16 ((zl t364 x16_1).f0.f1), .int .i16 ((zl t364 x16_1).f0.f2), .int .i16 ((zl t364 x16_1).f0.f3), .int .i64 ((zl t364 x16_1).f1), .int .i8 ((zl t364 x16_1).f2.f0), .int .i8 ((zl t364 x16_1).f2.f1), .int .i8 0, .int .i64 0]) ?_ 7 _ rfl; (with_reducible repeat (first | refine ze ?_ _ | refine zf ?_ | refine zc ?_ _)); refine zx (cs := #[.int .i16 ((zl t364 x16_1).f0.f0), .int .i16 ((zl t364 x16_1).f0.f1), .int .i16 ((zl t364 x16_1).f0.f2), .int .i16 ((zl t364 x16_1).f0.f3), .int .i64 ((zl t364 x16_1).f1), .int .i8 ((zl t364 x16_1).f2.f0), .int .i8 0, .int .i8 0, .int .i64 0]) ?_ 6 _ rfl; (with_reducible repeat (first | refine ze ?_ _ | refine zf ?_ | refine zc ?_ _)); refine zx (cs := #[.int .i16 ((zl t364 x16_1).f0.f0), .int .i16 ((zl t364 x16_1).f0.f1), .int .i16 ((zl t364 x16_1).f0.f2), .int .i16 ((zl t364 x16_1).f0.f3), .int .i64 ((zl t364 x16_1).f1), .int .i8 0, .int .i8 0, .int .i8 0, .int .i64 0]) ?_ 5 _ rfl; (with_reducible repeat (first | refine ze ?_ _ | refine zf ?_ | refine zc ?_ _)); refine zx (cs := #[.int .i16 ((zl t364 x16_1).f0.f0), .int .i16 ((zl t364 x16_1).f0.f1), .int .i16 ((zl t364 x16_1).f0.f2), .int .i16 ((zl t364 x16_1).f0.f3), .int .i64 0, .int .i8 0, .int .i8 0, .int .i8 0, .int .i64 0]) ?_ 4 _ rfl; (with_reducible repeat (first | refine ze ?_ _ | refine zf ?_ | refine zc ?_ _)); refine zx (cs := #[.int .i16 ((zl t364 x16_1).f0.f0), .int .i16 ((zl t364 x16_1).f0.f1), .int .i16 ((zl t364 x16_1).f0.f2), .int .i16 0, .int .i64 0, .int .i8 0, .int .i8 0, .int .i8 0, .int .i64 0]) ?_ 3 _ rfl; (with_reducible repeat (first | refine ze ?_ _ | refine zf ?_ | refine zc ?_ _)); refine zx (cs := #[.int .i16 ((zl t364 x16_1).f0.f0), .int .i16 ((zl t364 x16_1).f0.f1), .int .i16 0, .int .i16 0, .int .i64 0, .int .i8 0, .int .i8 0, .int .i8 0, .int .i64 0]) ?_ 2 _ rfl; (with_reducible repeat (first | refine ze ?_ _ | refine zf ?_ | refine zc ?_ _)); refine zx (cs := #[.int .i16 ((zl t364 x16_1).f0.f0), .int .i16 0, .int .i16 0, .int .i16 0, .int .i64 0, .int .i8 0, .int .i8 0, .int .i8 0, .int .i64 0]) ?_ 1 _ rfl; (with_reducible repeat (first | refine ze ?_ _ | refine zf ?_ | refine zc ?_ _)); refine zx (cs := #[.int .i16 0, .int .i16 0, .int .i16 0, .int .i16 0, .int .i64 0, .int .i8 0, .int .i8 0, .int .i8 0, .int .i64 0]) ?_ 0 _ rfl; (with_reducible repeat (first | refine ze ?_ _ | refine zf ?_ | refine zc ?_ _)); exact BK371.out⟩, ⟨sB⟩⟩
       case round =>
        clear H'
        try clear c1
        try clear p2
        try clear c3
        try clear p3
        try clear q3
        try clear hx3
        try clear c4
        try clear c5
        try clear c13
        try clear c13b0
        try clear c14
        try clear c14b0
        try clear c15
        try clear c15b0
        try clear c17
        try clear hcz10_0
        try clear hcz10_1
        try clear hcz10_2
        try clear hcz10_3
        try clear hcz10_4
        try clear hcz10_5
        try clear hcz18_0
        try clear hcz18_1
        try clear hcz18_2
        try clear hcz18_3
        try clear hcz18_4
        try clear hcz18_5
        try clear hcz18_6
        try clear hcz18_7
        try clear hcz18_8
        try clear hcz19_0
        try clear hcz19_1
        try clear hcz19_2
        try clear hcz19_3
        try clear hcz19_4
        try clear hcz19_5
        try clear hcz6_0
        try clear hcz6_1
        try clear hcz6_2
        try clear hcz6_3
        try clear hcz6_4
        try clear hcz6_5
        try clear hfz10_0
        try clear hfz10_1
        try clear hfz10_2
        try clear hfz10_3
        try clear hfz10_4
        try clear hfz10_5
        try clear hfz18_0
        try clear hfz18_1
        try clear hfz18_2
        try clear hfz18_3
        try clear hfz18_4
        try clear hfz18_5
        try clear hfz18_6
        try clear hfz18_7
        try clear hfz18_8
        try clear hfz19_0
        try clear hfz19_1
        try clear hfz19_2
        try clear hfz19_3
        try clear hfz19_4
        try clear hfz19_5
        try clear hfz6_0
        try clear hfz6_1
        try clear hfz6_2
        try clear hfz6_3
        try clear hfz6_4
        try clear hfz6_5
        try clear hx370_0
        try clear hx370_1
        try clear hx370_2
        try clear hx370_3
        try clear hx370_4
        try clear hx370_5
        try clear hx370_6
        try clear hx370_7
        try clear hx370_8
        try clear p2
        try clear p370
        try clear q370
        obtain ⟨x4_2, x26_2, rfl, HA, HK2, HO_4, HO_14, BK359, BK371, HB⟩ := hrel
        cases gk with
        | zero => exact absurd HA.out (by simp [impl_AmountsIn.l1])
        | succ k2 =>
         have H := HA.out
         clear HA
         simp only [impl_AmountsIn.l1] at H
         by_cases c20 : x26_2 < (l0_0.length : Int)
         ·rw [if_pos c20] at H
          have c20b0 : decide (x26_2 < (l0_0.length : Int)) = true := decide_eq_true c20
          clear c20
          by_cases c21 : 0 ≤ x26_2
          ·rw [if_pos c21] at H
           have c21b0 : decide (0 ≤ x26_2) = true := decide_eq_true c21
           clear c21
           by_cases c22 : x26_2 < ((wl t364 x16_1 l0_0).length : Int)
           ·rw [if_pos c22] at H
            have c22b0 : decide (x26_2 < ((wl t364 x16_1 l0_0).length : Int)) = true := decide_eq_true c22
            clear c22
            by_cases c23 : x4_2.length < 17592186044416
            ·rw [if_pos c23] at H
             have LMc23 := za.mk c23
             clear c23
             obtain ⟨y373, hy373⟩ : ∃ y_ : List Int, y_ = (x4_2 ++ [wrap64 (rd (wl t364 x16_1 l0_0) x26_2)]) := ⟨_, rfl⟩
             replace H : (impl_AmountsIn.l1 k2 y373 t364 (t364.length : Int) x16_1 (wl t364 x16_1 l0_0) (l0_0.length : Int) (wrap64 (x26_2 + 1)) l0_0 a0_1 a0_2 a0_3 a0_4 a0_5) = some (r1, r2) := by first | (rw [hy373]; with_reducible exact H) | (have H2_ := (Option.bind_some _ _).symm.trans H; rw [hy373]; with_reducible exact H2_) | (have H2_ := (Option.bind_some _ _).symm.trans H; with_reducible exact H2_) | with_reducible exact H | (rw [hy373]; exact H) | exact H
             have Ny373 := za.mk hy373
             clear hy373
             have H' := za.mk H
             clear H
             have p372 : 0 ≤ (x26_2 : Int) := of_decide_eq_true (by assumption)
             have q372 : x26_2 < ((wl t364 x16_1 l0_0).length : Int) := of_decide_eq_true c22b0
             obtain ⟨ad372, e372, hx372_0⟩ := Kd.at_int (arr9_C (uK BK371) (zld A4.out).1) x26_2 p372 q372
             cases e372
             rw [add0] at hx372_0
             have q9_ := eq_true (of_decide_eq_true c20b0)
             replace p372 := eq_true p372
             replace q372 := eq_true q372
             go_wp2_with (first | ((with_reducible refine zbb (b := .append) (xs := #[.tmp 30, .tmp 33]) rfl ?_); at_builtin; refine Kd.R_append (Kd.int .i64) (w0 := w) w.heap.size rfl (.tmp 30) (.tmp 33) 65 2 (.int .i64 0) 8 rfl Try.underlying65 info2 rfl (by decide) (by omega) u4 x4_2 (wrap64 (rd (wl t364 x16_1 l0_0) x26_2)) [.int .i64 (wrap64 (rd (wl t364 x16_1 l0_0) x26_2))] (fun _ => True) (fun _ => False) rfl rfl ?aP (fun _ hk => hk.elim) ?aF ?aO ?aB ?aS ?aL ?_; (case aP => exact rfl); (case aB => exact sB); (case aF => exact (fun _ _ => trivial)); (case aO => exact (uR HO_4)); (case aS => exact (zaa sB)); (case aL => have := LMc23.out; omega); intro v374 w24 ho hb hg hat; rw [← Ny373.out] at ho; have HO375 := za.mk ho; replace HO_14 := za.mk (Kd.R_over' (uR HO_14) (Kd.R_typed (uR HO_4)) (by decide) hg); replace BK359 := za.mk (zga (g := gb359) (o := .cells #[.slice A0_0 l0_0.length c0_0, .int .i16 a0_1, .int .i16 a0_2, .int .i16 a0_3, .int .i16 a0_4, .bool a0_5] 29 (0, 0)) (uK BK359) hg (Kd.R_ne HO_4.out BK359.out (by decide))); replace BK371 := za.mk (zga (g := gb371) (o := .cells #[.int .i16 ((zl t364 x16_1).f0.f0), .int .i16 ((zl t364 x16_1).f0.f1), .int .i16 ((zl t364 x16_1).f0.f2), .int .i16 ((zl t364 x16_1).f0.f3), .int .i64 ((zl t364 x16_1).f1), .int .i8 ((zl t364 x16_1).f2.f0), .int .i8 ((zl t364 x16_1).f2.f1), .int .i8 ((zl t364 x16_1).f2.f2), .int .i64 ((zl t364 x16_1).f3)] 82 (0, 0)) (uK BK371) hg (Kd.R_ne HO_4.out BK371.out (by decide))); replace HB := za.mk hb; clear HO_4; clear ho hb hg hat))
             go_roundg k2
             case measure => have := HK1.out; have := HK2.out; omega
             case rel => exact ⟨(y373), (wrap64 (x26_2 + 1)), (by first | rfl | (simp; done) | (simp [*]; done)), H', ⟨by have := HK1.out; have := HK2.out; omega⟩, ⟨uR HO375⟩, ⟨uR HO_14⟩, ⟨uK BK359⟩, ⟨uK BK371⟩, ⟨sB⟩⟩
            ·rw [if_neg c23] at H
             exact absurd H (by simp)
           ·rw [if_neg c22] at H
            exact absurd H (by simp)
          ·rw [if_neg c21] at H
           exact absurd H (by simp)
         ·rw [if_neg c20] at H
          have c20b0 : decide (x26_2 < (l0_0.length : Int)) = false := decide_eq_false c20
          clear c20
          have H' := za.mk H
          clear H
          go_wp2
          go_roundg k2
          case measure => have := HK1.out; have := HK2.out; omega
          case rel => exact ⟨(x4_2), (wrap64 (x16_1 + 1)), (by first | rfl | (simp; done) | (simp [*]; done)), H', ⟨by have := HK1.out; have := HK2.out; omega⟩, ⟨uR HO_4⟩, ⟨uR' (Kd.R_mono HO_14.out (fun _ hk => trivial))⟩, ⟨uK BK359⟩, ⟨sB⟩⟩
      ·rw [if_neg c15] at H
       exact absurd H (by simp)
     ·rw [if_neg c14] at H
      exact absurd H (by simp)
    ·rw [if_neg c13] at H
     have c13b0 : decide (x16_1 < (t364.length : Int)) = false := decide_eq_false c13
     clear c13
     replace H := Option.bind_eq_some_iff.mp H
     obtain ⟨t367, A260, H⟩ := H
     replace H : (some (t367, 0)) = some (r1, r2) := H
     have A26 := za.mk A260
     clear A260
     simp only [Option.some.injEq, Prod.mk.injEq] at H
     obtain ⟨rfl, rfl⟩ := H
     obtain ⟨⟨hx0, hx1⟩, hxr⟩ := sortC_some A26.out
     have HX0 := za.mk hx0
     have HX1 := za.mk hx1
     have HXR := za.mk hxr
     obtain ⟨g, cap, eo, -, -, -⟩ := Kd.R_form HO_4.out hx0
     subst eo
     clear hx0 hx1 hxr
     go_wp2_with (first | ((with_reducible refine zn (f := 83) rfl ?_); refine gz (some 38) Try.func83 #[.slice (some ⟨g, 0, none⟩) x4_1.length cap] rfl rfl ?_; (with_reducible refine (sort_calls w _ ?sB (fun _ => True) g cap x4_1 HX0.out HX1.out ?side1).mono ?_); (case sB => exact sB); (case side1 => exact uR HO_4); rintro e w30 ⟨rfl, hso, hb⟩; refine ⟨_, rfl, ?_⟩; replace HO_4 := za.mk hso; replace HB := za.mk hb; clear hso hb) | ((with_reducible refine zn (f := 84) rfl ?_); refine gz (some 40) Try.func84 #[.slice (some ⟨g, 0, none⟩) x4_1.length cap] rfl rfl ?_; (with_reducible refine (compact_calls w _ ?sB (fun _ => True) g cap x4_1.length (x4_1.mergeSort fun x y => decide (x ≤ y)) (List.length_mergeSort ..) ?h0 ?h1 ?side1).mono ?_); (case sB => exact sB); (case h0 => rw [List.length_mergeSort]; exact HX0.out); (case h1 => rw [List.length_mergeSort]; exact HX1.out); (case side1 => exact uR HO_4); rintro e w31 ⟨vr, rfl, hco, hb⟩; refine ⟨_, rfl, ?_⟩; rw [HXR.out] at hco; have HO369 := za.mk hco; replace HB := za.mk hb; clear hco hb))
     go_ret2
     exact ⟨_, by first | rfl | (simp [zj, zk] <;> rfl) | (simp [*, zj, zk] <;> rfl), by (with_reducible repeat (first | apply Kd.R_alloc | apply Kd.R_drewN | apply Kd.R_drew)); exact Kd.R_mono HO369.out (fun _ hk => trivial), sB⟩
 ·replace c3 := Bool.eq_false_iff.mpr c3
  subst c3
  have H1 : (some (([] : List Int), 1)) = some (r1, r2) := by rw [if_neg (show ¬ (false = true) by decide)] at H; exact H
  clear H
  have H := H1
  clear H1
  simp only [Option.some.injEq, Prod.mk.injEq] at H
  obtain ⟨rfl, rfl⟩ := H
  go_enter Try.func46, Try.ntmps46
  go_wp2_with (first | ((with_reducible refine zu (N := 1) rfl ?_); refine bx (N := 1) #[.slice A0_0 l0_0.length c0_0, .int .i16 a0_1, .int .i16 a0_2, .int .i16 a0_3, .int .i16 a0_4, .bool a0_5] 29 rfl ?_; intro gb359 hg w29 hbox hb; have BK359 := za.mk hbox; have GW359 := gB hg; have GE359 := gB hg; replace HB := za.mk (zh sB hb); clear hb hbox hg; obtain ⟨hcz30_0, hcz30_1, hcz30_2, hcz30_3, hcz30_4, hcz30_5⟩ := xc6 BK359; obtain ⟨hfz30_0, hfz30_1, hfz30_2, hfz30_3, hfz30_4, hfz30_5⟩ := xf6 BK359) | ((with_reducible refine zn (f := 52) rfl ?_); refine gz (some 10) Try.func52 #[.agg #[.slice A0_0 l0_0.length c0_0, .int .i16 a0_1, .int .i16 a0_2, .int .i16 a0_3, .int .i16 a0_4, .bool a0_5]] rfl rfl ?_; (with_reducible refine (impl_ValidPuzzle.calls k _ _ l0_0 a0_1 a0_2 a0_3 a0_4 a0_5 false _ ?side1 ?side2 A2.out).mono ?_); (case side1 => exact uC HR0_0 HB); (case side2 => exact HC0_0.out); rintro e w31 ⟨rfl, hb⟩; refine ⟨_, rfl, ?_⟩; replace BK359 := dK BK359 hb; replace HB := za.mk (zh sB hb); try clear hb))
  go_ret2
  exact ⟨_, by first | rfl | (simp [zj, zk] <;> rfl) | (simp [*, zj, zk] <;> rfl), by first | exact Kd.R_nil _ _ _ _ _ | exact Kd.N_nil _ _ _ _ _ | exact Kd.V_nil _ _ _ _ _ | exact Kd.Q_nil _ _ _ _ _ | exact Kd.S_nil _ _ _ _ _, sB⟩
end Go.Proofs.Yteciomagemjjaaa.J
