/- The program's table of steps. -/
import Derived.Test.YteciomagemjjaaaJx3
import Derived.Test.YteciomagemjjaaaLSearchJ
import Derived.Test.YteciomagemjjaaaLIdxWJ
import Derived.Test.YteciomagemjjaaaLRepJ
namespace Go.Proofs.Yteciomagemjjaaa.J
open Go.RowKit Go.Proofs.YteciomagemjjaaaW.PrintWords Go.Proofs.YteciomagemjjaaaW.PrintLast Go.Proofs.YteciomagemjjaaaW.PrintMore
attribute [local go_sem] zsa zqa zza zya zka zma zua zra   -- for this text's walks alone
set_option linter.unusedVariables false
set_option linter.unusedSimpArgs false
/-! ### impl_StepsTable: function 12 -/
def impl_StepsTable.l0 : Nat → List Int → List (S82) → Int → Int → List Int → Int → Int → Int → Int → Bool → Option (List Int × Int)
 | 0, _, _, _, _, _, _, _, _, _, _ => none
 | k + 1, x4, x15, x16, x17, x157000, x157001, x157002, x157003, x157004, x157005 => if x17 < x16 then (if 0 ≤ x17 then (if x17 < (x15.length : Int) then ((impl_Puzzle_index.f x157000 x157001 x157002 x157003 x157004 x157005 ((zo x15 x17).f0.f0) ((zo x15 x17).f0.f1) ((zo x15 x17).f0.f2) ((zo x15 x17).f0.f3)).bind fun t170 => (if 0 ≤ t170 then (if t170 < (x4.length : Int) then (impl_StepsTable.l0 k (x4.set (t170 : Int).toNat (IntKind.i16.wrap ((zo x15 x17).f3))) x15 x16 (wrap64 (x17 + 1)) x157000 x157001 x157002 x157003 x157004 x157005) else (none)) else (none))) else (none)) else (none)) else (some (x4, 0))
def impl_StepsTable.f (k : Nat) (l0_0 : List Int) (a0_1 : Int) (a0_2 : Int) (a0_3 : Int) (a0_4 : Int) (a0_5 : Bool) : Option (List Int × Int) := (impl_ValidPuzzle.f k l0_0 a0_1 a0_2 a0_3 a0_4 a0_5).bind fun t157 => (if t157 = true then ((impl_Puzzle_states.f k l0_0 a0_1 a0_2 a0_3 a0_4 a0_5).bind fun t161 => ((slices_Repeat.f (([(-1)] : List Int)) t161).bind fun t162 => ((impl_Puzzle_search.f k l0_0 a0_1 a0_2 a0_3 a0_4 a0_5).bind fun t165 => (impl_StepsTable.l0 k t162 t165 (t165.length : Int) 0 l0_0 a0_1 a0_2 a0_3 a0_4 a0_5)))) else (some (([] : List Int), 1)))
def impl_StepsTable.T7 : Bool × List (List Nat × List Nat) := (true, [([], []), ([], []), ([], []), ([2], [2]), ([1, 3], [1, 3]), ([], []), ([5], [5]), ([6], [6]), ([0, 4, 0, 1, 2, 3, 4, 5, 6, 7], [0, 4]), ([8, 7, 4, 0, 1, 2, 3, 4, 5, 6, 7], [7, 8])])
def impl_StepsTable.B7 : List Nat := [0, 0, 0, 4, 14, 0, 32, 96, 255, 511]
theorem impl_StepsTable.tab7 : rtab .any (opsOf Try.f12 7) = impl_StepsTable.T7 := by kernel_rfl
theorem impl_StepsTable.bits7 : zwb impl_StepsTable.T7.2 impl_StepsTable.B7 = true := by kernel_rfl
set_option maxHeartbeats 8000000 in
set_option maxRecDepth 100000 in
theorem impl_StepsTable.calls (k : Nat) (A0_0 : Option Addr) (c0_0 : Nat) (l0_0 : List Int) (a0_1 : Int) (a0_2 : Int) (a0_3 : Int) (a0_4 : Int) (a0_5 : Bool) (r1 : List Int) (r2 : Int) (w : World) (hr0_0 : Kd.C (Kd.int .i16) w A0_0 l0_0.length l0_0) (hc0_0 : l0_0.length ≤ c0_0) (h : impl_StepsTable.f k l0_0 a0_1 a0_2 a0_3 a0_4 a0_5 = some (r1, r2)) :
  Calls Try.prog 12 #[.agg #[.slice A0_0 l0_0.length c0_0, .int .i16 a0_1, .int .i16 a0_2, .int .i16 a0_3, .int .i16 a0_4, .bool a0_5]] w fun e w' => ∃ v0_ : Value, e = .returned (.tuple #[v0_, .int .i64 r2]) ∧ Kd.R (Kd.int .i16) 25 w' w.heap.size (fun _ => True) v0_ r1 ∧ Below w.heap.size w w' := by
 have hu29 := Try.underlying29
 have hu82 := Try.underlying82
 have hu27 := Try.underlying27
 have HR0_0 := ze.mk hr0_0
 have HC0_0 := ze.mk hc0_0
 clear hr0_0 hc0_0
 have HB := ze.mk (Below.refl w.heap.size w)
 have H : ((impl_ValidPuzzle.f k l0_0 a0_1 a0_2 a0_3 a0_4 a0_5).bind fun t157 => (if t157 = true then ((impl_Puzzle_states.f k l0_0 a0_1 a0_2 a0_3 a0_4 a0_5).bind fun t161 => ((slices_Repeat.f (([(-1)] : List Int)) t161).bind fun t162 => ((impl_Puzzle_search.f k l0_0 a0_1 a0_2 a0_3 a0_4 a0_5).bind fun t165 => (impl_StepsTable.l0 k t162 t165 (t165.length : Int) 0 l0_0 a0_1 a0_2 a0_3 a0_4 a0_5)))) else (some (([] : List Int), 1)))) = some (r1, r2) := h
 clear h
 replace H := Option.bind_eq_some_iff.mp H
 obtain ⟨t157, A20, H⟩ := H
 replace H : (if t157 = true then ((impl_Puzzle_states.f k l0_0 a0_1 a0_2 a0_3 a0_4 a0_5).bind fun t161 => ((slices_Repeat.f (([(-1)] : List Int)) t161).bind fun t162 => ((impl_Puzzle_search.f k l0_0 a0_1 a0_2 a0_3 a0_4 a0_5).bind fun t165 => (impl_StepsTable.l0 k t162 t165 (t165.length : Int) 0 l0_0 a0_1 a0_2 a0_3 a0_4 a0_5)))) else (some (([] : List Int), 1))) = some (r1, r2) := H
 have A2 := ze.mk A20
 clear A20
 by_cases c3 : t157 = true
 ·subst c3
  have H1 : ((impl_Puzzle_states.f k l0_0 a0_1 a0_2 a0_3 a0_4 a0_5).bind fun t161 => ((slices_Repeat.f (([(-1)] : List Int)) t161).bind fun t162 => ((impl_Puzzle_search.f k l0_0 a0_1 a0_2 a0_3 a0_4 a0_5).bind fun t165 => (impl_StepsTable.l0 k t162 t165 (t165.length : Int) 0 l0_0 a0_1 a0_2 a0_3 a0_4 a0_5)))) = some (r1, r2) := by rw [if_pos rfl] at H; exact H
  clear H
  have H := H1
  clear H1
  obtain ⟨y158, hy158⟩ : ∃ y_ : List Int, y_ = (([(-1)] : List Int)) := ⟨_, rfl⟩
  replace H : ((impl_Puzzle_states.f k l0_0 a0_1 a0_2 a0_3 a0_4 a0_5).bind fun t161 => ((slices_Repeat.f y158 t161).bind fun t162 => ((impl_Puzzle_search.f k l0_0 a0_1 a0_2 a0_3 a0_4 a0_5).bind fun t165 => (impl_StepsTable.l0 k t162 t165 (t165.length : Int) 0 l0_0 a0_1 a0_2 a0_3 a0_4 a0_5)))) = some (r1, r2) := by first | (rw [hy158]; with_reducible exact H) | (have H2_ := (Option.bind_some _ _).symm.trans H; rw [hy158]; with_reducible exact H2_) | (have H2_ := (Option.bind_some _ _).symm.trans H; with_reducible exact H2_) | with_reducible exact H | (rw [hy158]; exact H) | exact H
  have Ny158 := ze.mk hy158
  clear hy158
  replace H := Option.bind_eq_some_iff.mp H
  obtain ⟨t161, A40, H⟩ := H
  replace H : ((slices_Repeat.f y158 t161).bind fun t162 => ((impl_Puzzle_search.f k l0_0 a0_1 a0_2 a0_3 a0_4 a0_5).bind fun t165 => (impl_StepsTable.l0 k t162 t165 (t165.length : Int) 0 l0_0 a0_1 a0_2 a0_3 a0_4 a0_5))) = some (r1, r2) := H
  have A4 := ze.mk A40
  clear A40
  replace H := Option.bind_eq_some_iff.mp H
  obtain ⟨t162, A50, H⟩ := H
  replace H : ((impl_Puzzle_search.f k l0_0 a0_1 a0_2 a0_3 a0_4 a0_5).bind fun t165 => (impl_StepsTable.l0 k t162 t165 (t165.length : Int) 0 l0_0 a0_1 a0_2 a0_3 a0_4 a0_5)) = some (r1, r2) := H
  have A5 := ze.mk A50
  clear A50
  replace H := Option.bind_eq_some_iff.mp H
  obtain ⟨t165, A60, H⟩ := H
  replace H : (impl_StepsTable.l0 k t162 t165 (t165.length : Int) 0 l0_0 a0_1 a0_2 a0_3 a0_4 a0_5) = some (r1, r2) := H
  have A6 := ze.mk A60
  clear A60
  have H' := ze.mk H
  clear H
  go_enter Try.func12, Try.ntmps12
  go_wp2_with (first | ((with_reducible refine zaa (N := 1) rfl ?_); refine zz ?hg (N := 1) ?hd (cs := #[.slice A0_0 l0_0.length c0_0, .int .i16 a0_1, .int .i16 a0_2, .int .i16 a0_3, .int .i16 a0_4, .bool a0_5]) (t := 29) ?hr ?_; (case hd => rfl); (case hg => rfl); (case hr => first | (go_simp; done) | (go_simp; rfl)); intro gb156 hg w7 hbox hb; have n0_ := ze.mk (zm (by repeat (first | (with_reducible first | exact HB.out | apply zj | apply zc | apply zi) | exact HB.out)) hb); have n1_ := ze.mk (hbox); have n2_ := ze.mk ((by rw [hg]; exact (zn (by repeat (first | (with_reducible first | exact HB.out | apply zj | apply zc | apply zi) | exact HB.out))) : w.heap.size ≤ gb156)); have n3_ := ze.mk ((by rw [hg]; exact (zn (by repeat (first | (with_reducible first | exact HB.out | apply zj | apply zc | apply zi) | exact HB.out))) : w.heap.size ≤ gb156)); clear HB; have HB := n0_; have BK156 := n1_; have GW156 := n2_; have GE156 := n3_; clear n0_ n1_ n2_ n3_; clear hb hbox hg; have hcz8_0 : w7.cell? ⟨gb156, 0, none⟩ = some (.slice A0_0 l0_0.length c0_0) := (za BK156.out 0).trans rfl; have hcz8_1 : w7.cell? ⟨gb156, 1, none⟩ = some (.int .i16 a0_1) := (za BK156.out 1).trans rfl; have hcz8_2 : w7.cell? ⟨gb156, 2, none⟩ = some (.int .i16 a0_2) := (za BK156.out 2).trans rfl; have hcz8_3 : w7.cell? ⟨gb156, 3, none⟩ = some (.int .i16 a0_3) := (za BK156.out 3).trans rfl; have hcz8_4 : w7.cell? ⟨gb156, 4, none⟩ = some (.int .i16 a0_4) := (za BK156.out 4).trans rfl; have hcz8_5 : w7.cell? ⟨gb156, 5, none⟩ = some (.bool a0_5) := (za BK156.out 5).trans rfl; have hfz8_0 := zb BK156.out 0; have hfz8_1 := zb BK156.out 1; have hfz8_2 := zb BK156.out 2; have hfz8_3 := zb BK156.out 3; have hfz8_4 := zb BK156.out 4; have hfz8_5 := zb BK156.out 5) | ((with_reducible refine zv (f := 52) rfl ?_); refine zha (some 8) rfl rfl Try.func52 (by kernel_rfl) rfl #[.agg #[.slice A0_0 l0_0.length c0_0, .int .i16 a0_1, .int .i16 a0_2, .int .i16 a0_3, .int .i16 a0_4, .bool a0_5]] rfl (by (try simp only [List.map_toArray, List.map_cons, List.map_nil]); first | done | rfl | (simp only [List.length_drop, List.length_take]; rfl)) ?_; (with_reducible refine (impl_ValidPuzzle.calls k _ _ l0_0 a0_1 a0_2 a0_3 a0_4 a0_5 true _ ?side1 ?side2 A2.out).mono ?_); (case side1 => repeat (first | exact (Kd.C_below HR0_0.out HB.out) | (with_reducible refine Kd.C_alloc ?_ _) | (with_reducible refine Kd.C_drewN ?_ _) | (with_reducible refine Kd.C_drew ?_))); (case side2 => exact HC0_0.out); rintro e w9 ⟨rfl, hb⟩; refine ⟨_, rfl, ?_⟩; have n0_ := ze.mk (zl (g := gb156) (o := .cells #[.slice A0_0 l0_0.length c0_0, .int .i16 a0_1, .int .i16 a0_2, .int .i16 a0_3, .int .i16 a0_4, .bool a0_5] 29 (0, 0)) (by (with_reducible repeat (first | refine zg ?_ _ | refine zh ?_ | refine zf ?_ _)); exact BK156.out) hb); have n1_ := ze.mk (zm (by repeat (first | (with_reducible first | exact HB.out | apply zj | apply zc | apply zi | refine zk ?_ GE156.out) | exact HB.out)) hb); clear BK156; clear HB; have BK156 := n0_; have HB := n1_; clear n0_ n1_; (try clear hb); (try clear hb2); (try clear hk); (try clear hi)) | ((with_reducible refine zaa (N := 10) rfl ?_); refine Kd.R_lit (Kd.int .i16) _ 25 ?hg (N := 10) ?hd (xs := ([(-1)] : List Int)) (inner := [.int .i16 (-1)]) (ok := fun _ => True) (okp := fun _ => True) ?hr ?hp (fun _ hk => hk) trivial (Below.refl _ _) (Nat.le_refl _) (by simp) ?_; (case hd => rfl); (case hg => rfl); (case hr => first | (go_simp; done) | (go_simp; rfl)); (case hp => exact (Reps.one (show Kd.M (Kd.int .i16) _ _ _ (-1) [.int .i16 (-1)] from rfl) (Reps.none _ _))); intro v159 w10 ho11 hb hg_ hnew_; clear hg_ hnew_; (first | rw [← Ny158.out] at ho11 | (simp only [Int.reduceToNat] at ho11; rw [← Ny158.out] at ho11)); have n0_ := ze.mk (Kd.R_lower ho11 (zn (by repeat (first | (with_reducible first | exact HB.out | apply zj | apply zc | apply zi | refine zk ?_ GE156.out) | exact HB.out)))); have n1_ := ze.mk (zl (g := gb156) (o := .cells #[.slice A0_0 l0_0.length c0_0, .int .i16 a0_1, .int .i16 a0_2, .int .i16 a0_3, .int .i16 a0_4, .bool a0_5] 29 (0, 0)) (by (with_reducible repeat (first | refine zg ?_ _ | refine zh ?_ | refine zf ?_ _)); exact BK156.out) hb); have n2_ := ze.mk (zm (by repeat (first | (with_reducible first | exact HB.out | apply zj | apply zc | apply zi | refine zk ?_ GE156.out) | exact HB.out)) hb); clear BK156; clear HB; have HO160 := n0_; have BK156 := n1_; have HB := n2_; clear n0_ n1_ n2_; clear hb ho11; have hcz12_0 : w10.cell? ⟨gb156, 0, none⟩ = some (.slice A0_0 l0_0.length c0_0) := (za BK156.out 0).trans rfl; have hcz12_1 : w10.cell? ⟨gb156, 1, none⟩ = some (.int .i16 a0_1) := (za BK156.out 1).trans rfl; have hcz12_2 : w10.cell? ⟨gb156, 2, none⟩ = some (.int .i16 a0_2) := (za BK156.out 2).trans rfl; have hcz12_3 : w10.cell? ⟨gb156, 3, none⟩ = some (.int .i16 a0_3) := (za BK156.out 3).trans rfl; have hcz12_4 : w10.cell? ⟨gb156, 4, none⟩ = some (.int .i16 a0_4) := (za BK156.out 4).trans rfl; have hcz12_5 : w10.cell? ⟨gb156, 5, none⟩ = some (.bool a0_5) := (za BK156.out 5).trans rfl; have hfz12_0 := zb BK156.out 0; have hfz12_1 := zb BK156.out 1; have hfz12_2 := zb BK156.out 2; have hfz12_3 := zb BK156.out 3; have hfz12_4 := zb BK156.out 4; have hfz12_5 := zb BK156.out 5) | ((with_reducible refine zv (f := 54) rfl ?_); refine zha (some 12) rfl rfl Try.func54 (by kernel_rfl) rfl #[.agg #[.slice A0_0 l0_0.length c0_0, .int .i16 a0_1, .int .i16 a0_2, .int .i16 a0_3, .int .i16 a0_4, .bool a0_5]] rfl (by (try simp only [List.map_toArray, List.map_cons, List.map_nil]); first | done | rfl | (simp only [List.length_drop, List.length_take]; rfl)) ?_; (with_reducible refine (impl_Puzzle_states.calls k _ _ l0_0 a0_1 a0_2 a0_3 a0_4 a0_5 t161 _ ?side1 ?side2 A4.out).mono ?_); (case side1 => repeat (first | exact (Kd.C_below HR0_0.out HB.out) | (with_reducible refine Kd.C_alloc ?_ _) | (with_reducible refine Kd.C_drewN ?_ _) | (with_reducible refine Kd.C_drew ?_))); (case side2 => exact HC0_0.out); rintro e w13 ⟨rfl, hb⟩; refine ⟨_, rfl, ?_⟩; have n0_ := ze.mk (Kd.R_below (by (with_reducible repeat (first | apply Kd.R_alloc | apply Kd.R_drewN | apply Kd.R_drew)); exact HO160.out) hb); have n1_ := ze.mk (zl (g := gb156) (o := .cells #[.slice A0_0 l0_0.length c0_0, .int .i16 a0_1, .int .i16 a0_2, .int .i16 a0_3, .int .i16 a0_4, .bool a0_5] 29 (0, 0)) (by (with_reducible repeat (first | refine zg ?_ _ | refine zh ?_ | refine zf ?_ _)); exact BK156.out) hb); have n2_ := ze.mk (zm (by repeat (first | (with_reducible first | exact HB.out | apply zj | apply zc | apply zi | refine zk ?_ GE156.out) | exact HB.out)) hb); clear HO160; clear BK156; clear HB; have HO160 := n0_; have BK156 := n1_; have HB := n2_; clear n0_ n1_ n2_; (try clear hb); (try clear hb2); (try clear hk); (try clear hi); obtain ⟨Ao14, co14, eo14⟩ := Kd.R_slice HO160.out; subst eo14) | ((with_reducible refine zv (f := 53) rfl ?_); refine zha (some 13) rfl rfl Try.func53 (by kernel_rfl) rfl #[.slice Ao14 y158.length co14, .int .i64 t161] rfl (by (try simp only [List.map_toArray, List.map_cons, List.map_nil]); first | done | rfl | (simp only [List.length_drop, List.length_take]; rfl)) ?_; (with_reducible refine (slices_Repeat.calls _ _ y158 t161 t162 _ ?side1 ?side2 A5.out).mono ?_); (case side1 => repeat (first | exact (Kd.R_reads' HO160.out).2.2 | (with_reducible refine Kd.C_alloc ?_ _) | (with_reducible refine Kd.C_drewN ?_ _) | (with_reducible refine Kd.C_drew ?_))); (case side2 => exact (Kd.R_reads' HO160.out).2.1); rintro e w15 ⟨v163, rfl, ho0, hb⟩; refine ⟨_, rfl, ?_⟩; have n0_ := ze.mk (Kd.R_elder' (by (with_reducible repeat (first | apply Kd.R_alloc | apply Kd.R_drewN | apply Kd.R_drew)); exact HO160.out) (Kd.R_base ho0) hb); have n1_ := ze.mk (Kd.R_lower (Kd.R_new' ho0 (Kd.R_lt (by (with_reducible repeat (first | apply Kd.R_alloc | apply Kd.R_drewN | apply Kd.R_drew)); exact HO160.out))) (zn (by repeat (first | (with_reducible first | exact HB.out | apply zj | apply zc | apply zi | refine zk ?_ GE156.out) | exact HB.out)))); have n2_ := ze.mk (zl (g := gb156) (o := .cells #[.slice A0_0 l0_0.length c0_0, .int .i16 a0_1, .int .i16 a0_2, .int .i16 a0_3, .int .i16 a0_4, .bool a0_5] 29 (0, 0)) (by (with_reducible repeat (first | refine zg ?_ _ | refine zh ?_ | refine zf ?_ _)); exact BK156.out) hb); have n3_ := ze.mk (zm (by repeat (first | (with_reducible first | exact HB.out | apply zj | apply zc | apply zi | refine zk ?_ GE156.out) | exact HB.out)) hb); clear HO160; clear BK156; clear HB; have HO160 := n0_; have HO164 := n1_; have BK156 := n2_; have HB := n3_; clear n0_ n1_ n2_ n3_; (try clear hb); (try clear hb2); (try clear hk); (try clear hi); (try clear ho0); have hcz16_0 : w15.cell? ⟨gb156, 0, none⟩ = some (.slice A0_0 l0_0.length c0_0) := (za BK156.out 0).trans rfl; have hcz16_1 : w15.cell? ⟨gb156, 1, none⟩ = some (.int .i16 a0_1) := (za BK156.out 1).trans rfl; have hcz16_2 : w15.cell? ⟨gb156, 2, none⟩ = some (.int .i16 a0_2) := (za BK156.out 2).trans rfl; have hcz16_3 : w15.cell? ⟨gb156, 3, none⟩ = some (.int .i16 a0_3) := (za BK156.out 3).trans rfl; have hcz16_4 : w15.cell? ⟨gb156, 4, none⟩ = some (.int .i16 a0_4) := (za BK156.out 4).trans rfl; have hcz16_5 : w15.cell? ⟨gb156, 5, none⟩ = some (.bool a0_5) := (za BK156.out 5).trans rfl; have hfz16_0 := zb BK156.out 0; have hfz16_1 := zb BK156.out 1; have hfz16_2 := zb BK156.out 2; have hfz16_3 := zb BK156.out 3; have hfz16_4 := zb BK156.out 4; have hfz16_5 := zb BK156.out 5) | ((with_reducible refine zv (f := 55) rfl ?_); refine zha (some 15) rfl rfl Try.func55 (by kernel_rfl) rfl #[.agg #[.slice A0_0 l0_0.length c0_0, .int .i16 a0_1, .int .i16 a0_2, .int .i16 a0_3, .int .i16 a0_4, .bool a0_5]] rfl (by (try simp only [List.map_toArray, List.map_cons, List.map_nil]); first | done | rfl | (simp only [List.length_drop, List.length_take]; rfl)) ?_; (with_reducible refine (impl_Puzzle_search.calls k _ _ l0_0 a0_1 a0_2 a0_3 a0_4 a0_5 t165 _ ?side1 ?side2 A6.out).mono ?_); (case side1 => repeat (first | exact (Kd.C_below HR0_0.out HB.out) | (with_reducible refine Kd.C_alloc ?_ _) | (with_reducible refine Kd.C_drewN ?_ _) | (with_reducible refine Kd.C_drew ?_))); (case side2 => exact HC0_0.out); rintro e w17 ⟨v166, rfl, ho0, hb⟩; refine ⟨_, rfl, ?_⟩; have n0_ := ze.mk (Kd.R_below (by (with_reducible repeat (first | apply Kd.R_alloc | apply Kd.R_drewN | apply Kd.R_drew)); exact HO160.out) hb); have n1_ := ze.mk (Kd.R_below (by (with_reducible repeat (first | apply Kd.R_alloc | apply Kd.R_drewN | apply Kd.R_drew)); exact HO164.out) hb); have n2_ := ze.mk (Kd.R_lower ho0 (zn (by repeat (first | (with_reducible first | exact HB.out | apply zj | apply zc | apply zi | refine zk ?_ GE156.out) | exact HB.out)))); have n3_ := ze.mk (zl (g := gb156) (o := .cells #[.slice A0_0 l0_0.length c0_0, .int .i16 a0_1, .int .i16 a0_2, .int .i16 a0_3, .int .i16 a0_4, .bool a0_5] 29 (0, 0)) (by (with_reducible repeat (first | refine zg ?_ _ | refine zh ?_ | refine zf ?_ _)); exact BK156.out) hb); have n4_ := ze.mk (zm (by repeat (first | (with_reducible first | exact HB.out | apply zj | apply zc | apply zi | refine zk ?_ GE156.out) | exact HB.out)) hb); clear HO160; clear HO164; clear BK156; clear HB; have HO160 := n0_; have HO164 := n1_; have HO167 := n2_; have BK156 := n3_; have HB := n4_; clear n0_ n1_ n2_ n3_ n4_; (try clear hb); (try clear hb2); (try clear hk); (try clear hi); (try clear ho0); obtain ⟨Ao18, co18, eo18⟩ := Kd.R_slice HO167.out; subst eo18))
  go_loopg [17] k (fun kq v17 w' => ∃ (x4_1 : List Int) (x17_1 : Int), v17 = .int .i64 x17_1 ∧ ze (impl_StepsTable.l0 kq x4_1 t165 (t165.length : Int) x17_1 l0_0 a0_1 a0_2 a0_3 a0_4 a0_5 = some (r1, r2)) ∧ ze (kq ≤ k) ∧ ze (Kd.R (Kd.int .i16) 25 w' w.heap.size (fun _ => True) v163 x4_1) ∧ ze (Kd.R k82 82 w' w.heap.size (fun _ => True) (.slice Ao18 t165.length co18) t165) ∧ ze (w'.heap[gb156]? = some (.cells #[(.slice A0_0 l0_0.length c0_0), .int .i16 a0_1, .int .i16 a0_2, .int .i16 a0_3, .int .i16 a0_4, .bool a0_5] 29 (0, 0))) ∧ ze (Below w.heap.size w w'))
  case atStart => exact ⟨(t162), (0), (by first | rfl | (simp; done) | (simp [*]; done)), H', ⟨Nat.le_refl _⟩, ⟨by (with_reducible repeat (first | apply Kd.R_alloc | apply Kd.R_drewN | apply Kd.R_drew)); exact Kd.R_mono HO164.out (fun _ hk => trivial)⟩, ⟨by (with_reducible repeat (first | apply Kd.R_alloc | apply Kd.R_drewN | apply Kd.R_drew)); exact HO167.out⟩, ⟨by (with_reducible repeat (first | refine zg ?_ _ | refine zh ?_ | refine zf ?_ _)); exact BK156.out⟩, ⟨by repeat (first | (with_reducible first | exact HB.out | apply zj | apply zc | apply zi | refine zk ?_ GE156.out) | exact HB.out)⟩⟩
  case round =>
   clear H'
   try clear c1
   try clear p2
   try clear c3
   try clear c5
   try clear c12
   try clear hcz12_0
   try clear hcz12_1
   try clear hcz12_2
   try clear hcz12_3
   try clear hcz12_4
   try clear hcz12_5
   try clear hcz16_0
   try clear hcz16_1
   try clear hcz16_2
   try clear hcz16_3
   try clear hcz16_4
   try clear hcz16_5
   try clear hcz8_0
   try clear hcz8_1
   try clear hcz8_2
   try clear hcz8_3
   try clear hcz8_4
   try clear hcz8_5
   try clear hfz12_0
   try clear hfz12_1
   try clear hfz12_2
   try clear hfz12_3
   try clear hfz12_4
   try clear hfz12_5
   try clear hfz16_0
   try clear hfz16_1
   try clear hfz16_2
   try clear hfz16_3
   try clear hfz16_4
   try clear hfz16_5
   try clear hfz8_0
   try clear hfz8_1
   try clear hfz8_2
   try clear hfz8_3
   try clear hfz8_4
   try clear hfz8_5
   obtain ⟨x4_1, x17_1, rfl, HA, HK1, HO_4, HO_15, BK156, HB⟩ := hrel
   cases gk with
   | zero => exact absurd HA.out (by simp [impl_StepsTable.l0])
   | succ k1 =>
    have H := HA.out
    clear HA
    simp only [impl_StepsTable.l0] at H
    by_cases c19 : x17_1 < (t165.length : Int)
    ·rw [if_pos c19] at H
     have c19b0 : decide (x17_1 < (t165.length : Int)) = true := decide_eq_true c19
     clear c19
     by_cases c20 : 0 ≤ x17_1
     ·rw [if_pos c20] at H
      have c20b0 : decide (0 ≤ x17_1) = true := decide_eq_true c20
      clear c20
      by_cases c21 : x17_1 < (t165.length : Int)
      ·rw [if_pos c21] at H
       have c21b0 : decide (x17_1 < (t165.length : Int)) = true := decide_eq_true c21
       clear c21
       replace H := Option.bind_eq_some_iff.mp H
       obtain ⟨t170, A220, H⟩ := H
       replace H : (if 0 ≤ t170 then (if t170 < (x4_1.length : Int) then (impl_StepsTable.l0 k1 (x4_1.set (t170 : Int).toNat (IntKind.i16.wrap ((zo t165 x17_1).f3))) t165 (t165.length : Int) (wrap64 (x17_1 + 1)) l0_0 a0_1 a0_2 a0_3 a0_4 a0_5) else (none)) else (none)) = some (r1, r2) := H
       have A22 := ze.mk A220
       clear A220
       by_cases c23 : 0 ≤ t170
       ·rw [if_pos c23] at H
        have c23b0 : decide (0 ≤ t170) = true := decide_eq_true c23
        clear c23
        by_cases c24 : t170 < (x4_1.length : Int)
        ·rw [if_pos c24] at H
         have c24b0 : decide (t170 < (x4_1.length : Int)) = true := decide_eq_true c24
         clear c24
         obtain ⟨y171, hy171⟩ : ∃ y_ : List Int, y_ = (x4_1.set (t170 : Int).toNat (IntKind.i16.wrap ((zo t165 x17_1).f3))) := ⟨_, rfl⟩
         replace H : (impl_StepsTable.l0 k1 y171 t165 (t165.length : Int) (wrap64 (x17_1 + 1)) l0_0 a0_1 a0_2 a0_3 a0_4 a0_5) = some (r1, r2) := by first | (rw [hy171]; with_reducible exact H) | (have H2_ := (Option.bind_some _ _).symm.trans H; rw [hy171]; with_reducible exact H2_) | (have H2_ := (Option.bind_some _ _).symm.trans H; with_reducible exact H2_) | with_reducible exact H | (rw [hy171]; exact H) | exact H
         have Ny171 := ze.mk hy171
         clear hy171
         have H' := ze.mk H
         clear H
         have p168 : 0 ≤ (x17_1 : Int) := of_decide_eq_true (by first | (with_reducible assumption) | assumption)
         have q168 : x17_1 < (t165.length : Int) := of_decide_eq_true (by first | (with_reducible assumption) | assumption)
         obtain ⟨ad168, e168, hx168_0, hx168_1, hx168_2, hx168_3, hx168_4, hx168_5, hx168_6, hx168_7, hx168_8⟩ := at_T82 (Kd.R_reads' HO_15.out).2.2 x17_1 p168 q168
         cases e168
         replace p168 := eq_true p168
         replace q168 := eq_true q168
         try go_wp2_with (first | ((with_reducible refine zaa (N := 6) rfl ?_); refine zz ?hg (N := 6) ?hd (cs := #[.int .i16 0, .int .i16 0, .int .i16 0, .int .i16 0, .int .i64 0, .int .i8 0, .int .i8 0, .int .i8 0, .int .i64 0]) (t := 82) ?hr ?_; (case hd => rfl); (case hg => rfl); (case hr => first | (go_simp; done) | (go_simp; rfl)); intro gb169 hg w26 hbox hb; have n0_ := ze.mk (Kd.R_below (by (with_reducible repeat (first | apply Kd.R_alloc | apply Kd.R_drewN | apply Kd.R_drew)); exact HO_4.out) hb); have n1_ := ze.mk (Kd.R_below (Kd.R_elderB (by (with_reducible repeat (first | apply Kd.R_alloc | apply Kd.R_drewN | apply Kd.R_drew)); exact HO_15.out) gb169 (Nat.le_of_eq hg.symm)) hb); have n2_ := ze.mk (zl (g := gb156) (o := .cells #[.slice A0_0 l0_0.length c0_0, .int .i16 a0_1, .int .i16 a0_2, .int .i16 a0_3, .int .i16 a0_4, .bool a0_5] 29 (0, 0)) (by (with_reducible repeat (first | refine zg ?_ _ | refine zh ?_ | refine zf ?_ _)); exact BK156.out) hb); have n3_ := ze.mk (zm (by repeat (first | (with_reducible first | exact HB.out | apply zj | apply zc | apply zi | refine zk ?_ GE156.out) | exact HB.out)) hb); have n4_ := ze.mk (hbox); have n5_ := ze.mk ((by rw [hg]; exact (zn (by repeat (first | (with_reducible first | exact HB.out | apply zj | apply zc | apply zi | refine zk ?_ GE156.out) | exact HB.out))) : w.heap.size ≤ gb169)); have n6_ := ze.mk ((by rw [hg]; exact (zn (by repeat (first | (with_reducible first | exact HB.out | apply zj | apply zc | apply zi | refine zk ?_ GE156.out) | exact HB.out))) : w.heap.size ≤ gb169)); have n7_ := ze.mk ((by rw [hg]; exact Nat.ne_of_lt (zfa (g := gb156) (o := .cells #[.slice A0_0 l0_0.length c0_0, .int .i16 a0_1, .int .i16 a0_2, .int .i16 a0_3, .int .i16 a0_4, .bool a0_5] 29 (0, 0)) (by (with_reducible repeat (first | refine zg ?_ _ | refine zh ?_ | refine zf ?_ _)); exact BK156.out)) : gb156 ≠ gb169)); have n8_ := ze.mk ((by rw [hg]; exact Nat.ne_of_gt (zfa (g := gb156) (o := .cells #[.slice A0_0 l0_0.length c0_0, .int .i16 a0_1, .int .i16 a0_2, .int .i16 a0_3, .int .i16 a0_4, .bool a0_5] 29 (0, 0)) (by (with_reducible repeat (first | refine zg ?_ _ | refine zh ?_ | refine zf ?_ _)); exact BK156.out)) : gb169 ≠ gb156)); clear HO_4; clear HO_15; clear BK156; clear HB; have HO_4 := n0_; have HO_15 := n1_; have BK156 := n2_; have HB := n3_; have BK169 := n4_; have GW169 := n5_; have GE169 := n6_; have NB156_169 := n7_; have NB169_156 := n8_; clear n0_ n1_ n2_ n3_ n4_ n5_ n6_ n7_ n8_; clear hb hbox hg; have hnb27 := NB169_156.out; have hnc27 := NB156_169.out; have hcz28_0 : w26.cell? ⟨gb169, 0, none⟩ = some (.int .i16 0) := (za BK169.out 0).trans rfl; have hcz28_1 : w26.cell? ⟨gb169, 1, none⟩ = some (.int .i16 0) := (za BK169.out 1).trans rfl; have hcz28_2 : w26.cell? ⟨gb169, 2, none⟩ = some (.int .i16 0) := (za BK169.out 2).trans rfl; have hcz28_3 : w26.cell? ⟨gb169, 3, none⟩ = some (.int .i16 0) := (za BK169.out 3).trans rfl; have hcz28_4 : w26.cell? ⟨gb169, 4, none⟩ = some (.int .i64 0) := (za BK169.out 4).trans rfl; have hcz28_5 : w26.cell? ⟨gb169, 5, none⟩ = some (.int .i8 0) := (za BK169.out 5).trans rfl; have hcz28_6 : w26.cell? ⟨gb169, 6, none⟩ = some (.int .i8 0) := (za BK169.out 6).trans rfl; have hcz28_7 : w26.cell? ⟨gb169, 7, none⟩ = some (.int .i8 0) := (za BK169.out 7).trans rfl; have hcz28_8 : w26.cell? ⟨gb169, 8, none⟩ = some (.int .i64 0) := (za BK169.out 8).trans rfl; have hfz28_0 := zb BK169.out 0; have hfz28_1 := zb BK169.out 1; have hfz28_2 := zb BK169.out 2; have hfz28_3 := zb BK169.out 3; have hfz28_4 := zb BK169.out 4; have hfz28_5 := zb BK169.out 5; have hfz28_6 := zb BK169.out 6; have hfz28_7 := zb BK169.out 7; have hfz28_8 := zb BK169.out 8))
         have n0_ : ze (Kd.R (Kd.int .i16) 25 (((((((((w26.setCell ⟨gb169, 0, none⟩ (.int .i16 ((zo t165 x17_1).f0.f0))).setCell ⟨gb169, 1, none⟩ (.int .i16 ((zo t165 x17_1).f0.f1))).setCell ⟨gb169, 2, none⟩ (.int .i16 ((zo t165 x17_1).f0.f2))).setCell ⟨gb169, 3, none⟩ (.int .i16 ((zo t165 x17_1).f0.f3))).setCell ⟨gb169, 4, none⟩ (.int .i64 ((zo t165 x17_1).f1))).setCell ⟨gb169, 5, none⟩ (.int .i8 ((zo t165 x17_1).f2.f0))).setCell ⟨gb169, 6, none⟩ (.int .i8 ((zo t165 x17_1).f2.f1))).setCell ⟨gb169, 7, none⟩ (.int .i8 ((zo t165 x17_1).f2.f2))).setCell ⟨gb169, 8, none⟩ (.int .i64 ((zo t165 x17_1).f3))) w.heap.size (fun _ => True) v163 x4_1) := ⟨by (with_reducible repeat (first | apply Kd.R_alloc | apply Kd.R_drewN | apply Kd.R_drew)); exact Kd.R_mono (Kd.R_far (p := ⟨gb169, 8, none⟩) (Kd.R_far (p := ⟨gb169, 7, none⟩) (Kd.R_far (p := ⟨gb169, 6, none⟩) (Kd.R_far (p := ⟨gb169, 5, none⟩) (Kd.R_far (p := ⟨gb169, 4, none⟩) (Kd.R_far (p := ⟨gb169, 3, none⟩) (Kd.R_far (p := ⟨gb169, 2, none⟩) (Kd.R_far (p := ⟨gb169, 1, none⟩) (Kd.R_far (p := ⟨gb169, 0, none⟩) (Kd.R_types HO_4.out BK169.out (by decide)) (fun _ hk => hk.2) (.int .i16 ((zo t165 x17_1).f0.f0))) (fun _ hk => hk.2) (.int .i16 ((zo t165 x17_1).f0.f1))) (fun _ hk => hk.2) (.int .i16 ((zo t165 x17_1).f0.f2))) (fun _ hk => hk.2) (.int .i16 ((zo t165 x17_1).f0.f3))) (fun _ hk => hk.2) (.int .i64 ((zo t165 x17_1).f1))) (fun _ hk => hk.2) (.int .i8 ((zo t165 x17_1).f2.f0))) (fun _ hk => hk.2) (.int .i8 ((zo t165 x17_1).f2.f1))) (fun _ hk => hk.2) (.int .i8 ((zo t165 x17_1).f2.f2))) (fun _ hk => hk.2) (.int .i64 ((zo t165 x17_1).f3))) (fun _ hk => trivial)⟩
         have n1_ : ze (Kd.R k82 82 (((((((((w26.setCell ⟨gb169, 0, none⟩ (.int .i16 ((zo t165 x17_1).f0.f0))).setCell ⟨gb169, 1, none⟩ (.int .i16 ((zo t165 x17_1).f0.f1))).setCell ⟨gb169, 2, none⟩ (.int .i16 ((zo t165 x17_1).f0.f2))).setCell ⟨gb169, 3, none⟩ (.int .i16 ((zo t165 x17_1).f0.f3))).setCell ⟨gb169, 4, none⟩ (.int .i64 ((zo t165 x17_1).f1))).setCell ⟨gb169, 5, none⟩ (.int .i8 ((zo t165 x17_1).f2.f0))).setCell ⟨gb169, 6, none⟩ (.int .i8 ((zo t165 x17_1).f2.f1))).setCell ⟨gb169, 7, none⟩ (.int .i8 ((zo t165 x17_1).f2.f2))).setCell ⟨gb169, 8, none⟩ (.int .i64 ((zo t165 x17_1).f3))) w.heap.size (fun k_ => k_ ≠ gb169) (.slice (some ad168) t165.length co18) t165) := ⟨by (with_reducible repeat (first | apply Kd.R_alloc | apply Kd.R_drewN | apply Kd.R_drew)); exact Kd.R_mono (Kd.R_far (p := ⟨gb169, 8, none⟩) (Kd.R_far (p := ⟨gb169, 7, none⟩) (Kd.R_far (p := ⟨gb169, 6, none⟩) (Kd.R_far (p := ⟨gb169, 5, none⟩) (Kd.R_far (p := ⟨gb169, 4, none⟩) (Kd.R_far (p := ⟨gb169, 3, none⟩) (Kd.R_far (p := ⟨gb169, 2, none⟩) (Kd.R_far (p := ⟨gb169, 1, none⟩) (Kd.R_far (p := ⟨gb169, 0, none⟩) (Kd.R_mono HO_15.out (fun k_ hk => (⟨hk, hk.2⟩ : _ ∧ k_ ≠ gb169))) (fun _ hk => hk.2) (.int .i16 ((zo t165 x17_1).f0.f0))) (fun _ hk => hk.2) (.int .i16 ((zo t165 x17_1).f0.f1))) (fun _ hk => hk.2) (.int .i16 ((zo t165 x17_1).f0.f2))) (fun _ hk => hk.2) (.int .i16 ((zo t165 x17_1).f0.f3))) (fun _ hk => hk.2) (.int .i64 ((zo t165 x17_1).f1))) (fun _ hk => hk.2) (.int .i8 ((zo t165 x17_1).f2.f0))) (fun _ hk => hk.2) (.int .i8 ((zo t165 x17_1).f2.f1))) (fun _ hk => hk.2) (.int .i8 ((zo t165 x17_1).f2.f2))) (fun _ hk => hk.2) (.int .i64 ((zo t165 x17_1).f3))) (fun _ hk => hk.1.2)⟩
         have n2_ : ze ((((((((((w26.setCell ⟨gb169, 0, none⟩ (.int .i16 ((zo t165 x17_1).f0.f0))).setCell ⟨gb169, 1, none⟩ (.int .i16 ((zo t165 x17_1).f0.f1))).setCell ⟨gb169, 2, none⟩ (.int .i16 ((zo t165 x17_1).f0.f2))).setCell ⟨gb169, 3, none⟩ (.int .i16 ((zo t165 x17_1).f0.f3))).setCell ⟨gb169, 4, none⟩ (.int .i64 ((zo t165 x17_1).f1))).setCell ⟨gb169, 5, none⟩ (.int .i8 ((zo t165 x17_1).f2.f0))).setCell ⟨gb169, 6, none⟩ (.int .i8 ((zo t165 x17_1).f2.f1))).setCell ⟨gb169, 7, none⟩ (.int .i8 ((zo t165 x17_1).f2.f2))).setCell ⟨gb169, 8, none⟩ (.int .i64 ((zo t165 x17_1).f3))).heap[gb156]? = some (.cells #[.slice A0_0 l0_0.length c0_0, .int .i16 a0_1, .int .i16 a0_2, .int .i16 a0_3, .int .i16 a0_4, .bool a0_5] 29 (0, 0))) := ⟨by (with_reducible repeat (first | refine zg ?_ _ | refine zh ?_ | refine zf ?_ _)); refine zu ?_ NB156_169.out _; (with_reducible repeat (first | refine zg ?_ _ | refine zh ?_ | refine zf ?_ _)); refine zu ?_ NB156_169.out _; (with_reducible repeat (first | refine zg ?_ _ | refine zh ?_ | refine zf ?_ _)); refine zu ?_ NB156_169.out _; (with_reducible repeat (first | refine zg ?_ _ | refine zh ?_ | refine zf ?_ _)); refine zu ?_ NB156_169.out _; (with_reducible repeat (first | refine zg ?_ _ | refine zh ?_ | refine zf ?_ _)); refine zu ?_ NB156_169.out _; (with_reducible repeat (first | refine zg ?_ _ | refine zh ?_ | refine zf ?_ _)); refine zu ?_ NB156_169.out _; (with_reducible repeat (first | refine zg ?_ _ | refine zh ?_ | refine zf ?_ _)); refine zu ?_ NB156_169.out _; (with_reducible repeat (first | refine zg ?_ _ | refine zh ?_ | refine zf ?_ _)); refine zu ?_ NB156_169.out _; (with_reducible repeat (first | refine zg ?_ _ | refine zh ?_ | refine zf ?_ _)); refine zu ?_ NB156_169.out _; (with_reducible repeat (first | refine zg ?_ _ | refine zh ?_ | refine zf ?_ _)); exact BK156.out⟩
         have n3_ : ze ((((((((((w26.setCell ⟨gb169, 0, none⟩ (.int .i16 ((zo t165 x17_1).f0.f0))).setCell ⟨gb169, 1, none⟩ (.int .i16 ((zo t165 x17_1).f0.f1))).setCell ⟨gb169, 2, none⟩ (.int .i16 ((zo t165 x17_1).f0.f2))).setCell ⟨gb169, 3, none⟩ (.int .i16 ((zo t165 x17_1).f0.f3))).setCell ⟨gb169, 4, none⟩ (.int .i64 ((zo t165 x17_1).f1))).setCell ⟨gb169, 5, none⟩ (.int .i8 ((zo t165 x17_1).f2.f0))).setCell ⟨gb169, 6, none⟩ (.int .i8 ((zo t165 x17_1).f2.f1))).setCell ⟨gb169, 7, none⟩ (.int .i8 ((zo t165 x17_1).f2.f2))).setCell ⟨gb169, 8, none⟩ (.int .i64 ((zo t165 x17_1).f3))).heap[gb169]? = some (.cells #[.int .i16 ((zo t165 x17_1).f0.f0), .int .i16 ((zo t165 x17_1).f0.f1), .int .i16 ((zo t165 x17_1).f0.f2), .int .i16 ((zo t165 x17_1).f0.f3), .int .i64 ((zo t165 x17_1).f1), .int .i8 ((zo t165 x17_1).f2.f0), .int .i8 ((zo t165 x17_1).f2.f1), .int .i8 ((zo t165 x17_1).f2.f2), .int .i64 ((zo t165 x17_1).f3)] 82 (0, 0))) := ⟨by (with_reducible repeat (first | refine zg ?_ _ | refine zh ?_ | refine zf ?_ _)); refine zca (cs := #[.int .i16 ((zo t165 x17_1).f0.f0), .int .i16 ((zo t165 x17_1).f0.f1), .int .i16 ((zo t165 x17_1).f0.f2), .int .i16 ((zo t165 x17_1).f0.f3), .int .i64 ((zo t165 x17_1).f1), .int .i8 ((zo t165 x17_1).f2.f0), .int .i8 ((zo t165 x17_1).f2.f1), .int .i8 ((zo t165 x17_1).f2.f2), .int .i64 0]) ?_ 8 _ rfl; (with_reducible repeat (first | refine zg ?_ _ | refine zh ?_ | refine zf ?_ _)); refine zca (cs := #[.int .i16 ((zo t165 x17_1).f0.f0), .int .i16 ((zo t165 x17_1).f0.f1), .int .i16 ((zo t165 x17_1).f0.f2), .int .i16 ((zo t165 x17_1).f0.f3), .int .i64 ((zo t165 x17_1).f1), .int .i8 ((zo t165 x17_1).f2.f0), .int .i8 ((zo t165 x17_1).f2.f1), .int .i8 0, .int .i64 0]) ?_ 7 _ rfl; (with_reducible repeat (first | refine zg ?_ _ | refine zh ?_ | refine zf ?_ _)); refine zca (cs := #[.int .i16 ((zo t165 x17_1).f0.f0), .int .i16 ((zo t165 x17_1).f0.f1), .int .i16 ((zo t165 x17_1).f0.f2), .int .i16 ((zo t165 x17_1).f0.f3), .int .i64 ((zo t165 x17_1).f1), .int .i8 ((zo t165 x17_1).f2.f0), .int .i8 0, .int .i8 0, .int .i64 0]) ?_ 6 _ rfl; (with_reducible repeat (first | refine zg ?_ _ | refine zh ?_ | refine zf ?_ _)); refine zca (cs := #[.int .i16 ((zo t165 x17_1).f0.f0), .int .i16 ((zo t165 x17_1).f0.f1), .int .i16 ((zo t165 x17_1).f0.f2), .int .i16 ((zo t165 x17_1).f0.f3), .int .i64 ((zo t165 x17_1).f1), .int .i8 0, .int .i8 0, .int .i8 0, .int .i64 0]) ?_ 5 _ rfl; (with_reducible repeat (first | refine zg ?_ _ | refine zh ?_ | refine zf ?_ _)); refine zca (cs := #[.int .i16 ((zo t165 x17_1).f0.f0), .int .i16 ((zo t165 x17_1).f0.f1), .int .i16 ((zo t165 x17_1).f0.f2), .int .i16 ((zo t165 x17_1).f0.f3), .int .i64 0, .int .i8 0, .int .i8 0, .int .i8 0, .int .i64 0]) ?_ 4 _ rfl; (with_reducible repeat (first | refine zg ?_ _ | refine zh ?_ | refine zf ?_ _)); refine zca (cs := #[.int .i16 ((zo t165 x17_1).f0.f0), .int .i16 ((zo t165 x17_1).f0.f1), .int .i16 ((zo t165 x17_1).f0.f2), .int .i16 0, .int .i64 0, .int .i8 0, .int .i8 0, .int .i8 0, .int .i64 0]) ?_ 3 _ rfl; (with_reducible repeat (first | refine zg ?_ _ | refine zh ?_ | refine zf ?_ _)); refine zca (cs := #[.int .i16 ((zo t165 x17_1).f0.f0), .int .i16 ((zo t165 x17_1).f0.f1), .int .i16 0, .int .i16 0, .int .i64 0, .int .i8 0, .int .i8 0, .int .i8 0, .int .i64 0]) ?_ 2 _ rfl; (with_reducible repeat (first | refine zg ?_ _ | refine zh ?_ | refine zf ?_ _)); refine zca (cs := #[.int .i16 ((zo t165 x17_1).f0.f0), .int .i16 0, .int .i16 0, .int .i16 0, .int .i64 0, .int .i8 0, .int .i8 0, .int .i8 0, .int .i64 0]) ?_ 1 _ rfl; (with_reducible repeat (first | refine zg ?_ _ | refine zh ?_ | refine zf ?_ _)); refine zca (cs := #[.int .i16 0, .int .i16 0, .int .i16 0, .int .i16 0, .int .i64 0, .int .i8 0, .int .i8 0, .int .i8 0, .int .i64 0]) ?_ 0 _ rfl; (with_reducible repeat (first | refine zg ?_ _ | refine zh ?_ | refine zf ?_ _)); exact BK169.out⟩
         have n4_ : ze (Below w.heap.size w (((((((((w26.setCell ⟨gb169, 0, none⟩ (.int .i16 ((zo t165 x17_1).f0.f0))).setCell ⟨gb169, 1, none⟩ (.int .i16 ((zo t165 x17_1).f0.f1))).setCell ⟨gb169, 2, none⟩ (.int .i16 ((zo t165 x17_1).f0.f2))).setCell ⟨gb169, 3, none⟩ (.int .i16 ((zo t165 x17_1).f0.f3))).setCell ⟨gb169, 4, none⟩ (.int .i64 ((zo t165 x17_1).f1))).setCell ⟨gb169, 5, none⟩ (.int .i8 ((zo t165 x17_1).f2.f0))).setCell ⟨gb169, 6, none⟩ (.int .i8 ((zo t165 x17_1).f2.f1))).setCell ⟨gb169, 7, none⟩ (.int .i8 ((zo t165 x17_1).f2.f2))).setCell ⟨gb169, 8, none⟩ (.int .i64 ((zo t165 x17_1).f3)))) := ⟨by repeat (first | (with_reducible first | exact HB.out | apply zj | apply zc | apply zi | refine zk ?_ GE156.out | refine zk ?_ GE169.out) | exact HB.out)⟩
         (try clear HO_4)
         (try clear HO_15)
         (try clear BK156)
         (try clear BK169)
         (try clear HB)
         generalize (((((((((w26.setCell ⟨gb169, 0, none⟩ (.int .i16 ((zo t165 x17_1).f0.f0))).setCell ⟨gb169, 1, none⟩ (.int .i16 ((zo t165 x17_1).f0.f1))).setCell ⟨gb169, 2, none⟩ (.int .i16 ((zo t165 x17_1).f0.f2))).setCell ⟨gb169, 3, none⟩ (.int .i16 ((zo t165 x17_1).f0.f3))).setCell ⟨gb169, 4, none⟩ (.int .i64 ((zo t165 x17_1).f1))).setCell ⟨gb169, 5, none⟩ (.int .i8 ((zo t165 x17_1).f2.f0))).setCell ⟨gb169, 6, none⟩ (.int .i8 ((zo t165 x17_1).f2.f1))).setCell ⟨gb169, 7, none⟩ (.int .i8 ((zo t165 x17_1).f2.f2))).setCell ⟨gb169, 8, none⟩ (.int .i64 ((zo t165 x17_1).f3))) = w29 at n0_ n1_ n2_ n3_ n4_ ⊢
         have HO_4 := n0_
         have HO_15 := n1_
         have BK156 := n2_
         have BK169 := n3_
         have HB := n4_
         clear n0_ n1_ n2_ n3_ n4_
         have n0_ := ze.mk (Kd.R_drew HO_4.out)
         have n1_ := ze.mk (Kd.R_drew HO_15.out)
         have n2_ := ze.mk (zh BK156.out)
         have n3_ := ze.mk (zh BK169.out)
         have n4_ := ze.mk (zi HB.out)
         clear HO_4
         clear HO_15
         clear BK156
         clear BK169
         clear HB
         have HO_4 := n0_
         have HO_15 := n1_
         have BK156 := n2_
         have BK169 := n3_
         have HB := n4_
         clear n0_ n1_ n2_ n3_ n4_
         refine zhc (n := 10) (S := fun w' => w'.cell? ⟨gb156, 0, none⟩ = some (.slice A0_0 l0_0.length c0_0) ∧ w'.cell? ⟨gb156, 1, none⟩ = some (.int .i16 a0_1) ∧ w'.cell? ⟨gb156, 2, none⟩ = some (.int .i16 a0_2) ∧ w'.cell? ⟨gb156, 3, none⟩ = some (.int .i16 a0_3) ∧ w'.cell? ⟨gb156, 4, none⟩ = some (.int .i16 a0_4) ∧ w'.cell? ⟨gb156, 5, none⟩ = some (.bool a0_5) ∧ w'.cell? ⟨gb169, 0, none⟩ = some (.int .i16 ((zo t165 x17_1).f0.f0)) ∧ w'.cell? ⟨gb169, 1, none⟩ = some (.int .i16 ((zo t165 x17_1).f0.f1)) ∧ w'.cell? ⟨gb169, 2, none⟩ = some (.int .i16 ((zo t165 x17_1).f0.f2)) ∧ w'.cell? ⟨gb169, 3, none⟩ = some (.int .i16 ((zo t165 x17_1).f0.f3)) ∧ w'.cell? ⟨gb169, 4, none⟩ = some (.int .i64 ((zo t165 x17_1).f1)) ∧ w'.cell? ⟨gb169, 5, none⟩ = some (.int .i8 ((zo t165 x17_1).f2.f0)) ∧ w'.cell? ⟨gb169, 6, none⟩ = some (.int .i8 ((zo t165 x17_1).f2.f1)) ∧ w'.cell? ⟨gb169, 7, none⟩ = some (.int .i8 ((zo t165 x17_1).f2.f2)) ∧ w'.cell? ⟨gb169, 8, none⟩ = some (.int .i64 ((zo t165 x17_1).f3))) (ds := [9]) #[false, false, false, false, false, false, false, false, false, false] (by kernel_rfl) rfl rfl ⟨(za BK156.out 0).trans rfl, (za BK156.out 1).trans rfl, (za BK156.out 2).trans rfl, (za BK156.out 3).trans rfl, (za BK156.out 4).trans rfl, (za BK156.out 5).trans rfl, (za BK169.out 0).trans rfl, (za BK169.out 1).trans rfl, (za BK169.out 2).trans rfl, (za BK169.out 3).trans rfl, (za BK169.out 4).trans rfl, (za BK169.out 5).trans rfl, (za BK169.out 6).trans rfl, (za BK169.out 7).trans rfl, (za BK169.out 8).trans rfl⟩ (fun hHeld => ?_); refine zlb impl_StepsTable.tab7 impl_StepsTable.bits7 (fun HT_ HW_ => ?_)
         generalize w29.drew = w30 at HO_4 HO_15 BK156 BK169 HB hHeld ⊢
         refine zia (i := 0) (N := some 21) (v := ?_) (a' := ?_) #[true, false, false, false, false, false, false, false, false, false] rfl rfl (zea HT_.out (by kernel_rfl)) (fun _ _ _ h => h) (Or.inl ⟨by rfl, ?_⟩) ?_ ?_
         rotate_left
         ·intro w'
          go_simp
          with_reducible rfl
         rotate_left
         ·simp only [Act.put, List.setIfInBounds_toArray, List.set_cons_zero, List.set_cons_succ, zy, zba]
          rfl
         refine zia (i := 2) (N := some 23) (v := ?_) (a' := ?_) #[true, false, true, false, false, false, false, false, false, false] rfl rfl (zea HT_.out (by kernel_rfl)) (fun _ _ _ h => h) (Or.inl ⟨by rfl, ?_⟩) ?_ ?_
         rotate_left
         ·intro w'
          go_simp
          with_reducible rfl
         rotate_left
         ·simp only [Act.put, List.setIfInBounds_toArray, List.set_cons_zero, List.set_cons_succ, zy, zba]
          rfl
         refine zia (i := 5) (N := some 26) (v := ?_) (a' := ?_) #[true, false, true, false, false, true, false, false, false, false] rfl rfl (zea HT_.out (by kernel_rfl)) (fun _ _ _ h => h) (Or.inl ⟨by rfl, ?_⟩) ?_ ?_
         rotate_left
         ·intro w'
          go_simp
          with_reducible rfl
         rotate_left
         ·simp only [Act.put, List.setIfInBounds_toArray, List.set_cons_zero, List.set_cons_succ, zy, zba]
          rfl
         refine take_ (i := 1) (N := some 22) (v := ?_) (a' := ?_) #[true, true, true, false, false, true, false, false, false, false] rfl rfl (zxa HT_.out HW_.out (by kernel_rfl)) (fun _ _ _ h => h) (Or.inl ⟨by rfl, ?_⟩) hHeld ?_ ?_
         rotate_left
         ·rintro w' ⟨s0, s1, s2, s3, s4, s5, s6, s7, s8, s9, s10, s11, s12, s13, s14⟩
          go_simp
          with_reducible rfl
         rotate_left
         ·simp only [Act.put, List.setIfInBounds_toArray, List.set_cons_zero, List.set_cons_succ, zy, zba]
          rfl
         refine take_ (i := 3) (N := some 24) (v := ?_) (a' := ?_) #[true, true, true, true, false, true, false, false, false, false] rfl rfl (zxa HT_.out HW_.out (by kernel_rfl)) (fun _ _ _ h => h) (Or.inl ⟨by rfl, ?_⟩) hHeld ?_ ?_
         rotate_left
         ·rintro w' ⟨s0, s1, s2, s3, s4, s5, s6, s7, s8, s9, s10, s11, s12, s13, s14⟩
          go_simp
          with_reducible rfl
         rotate_left
         ·simp only [Act.put, List.setIfInBounds_toArray, List.set_cons_zero, List.set_cons_succ, zy, zba]
          rfl
         refine take_ (i := 6) (N := some 27) (v := ?_) (a' := ?_) #[true, true, true, true, false, true, true, false, false, false] rfl rfl (zxa HT_.out HW_.out (by kernel_rfl)) (fun _ _ _ h => h) (Or.inl ⟨by rfl, ?_⟩) hHeld ?_ ?_
         rotate_left
         ·rintro w' ⟨s0, s1, s2, s3, s4, s5, s6, s7, s8, s9, s10, s11, s12, s13, s14⟩
          go_simp
          with_reducible rfl
         rotate_left
         ·simp only [Act.put, List.setIfInBounds_toArray, List.set_cons_zero, List.set_cons_succ, zy, zba]
          rfl
         refine zia (i := 7) (N := some 28) (v := ?_) (a' := ?_) #[true, true, true, true, false, true, true, true, false, false] rfl rfl (zea HT_.out (by kernel_rfl)) (fun _ _ _ h => h) (Or.inl ⟨by rfl, ?_⟩) ?_ ?_
         rotate_left
         ·intro w'
          go_simp
          with_reducible rfl
         rotate_left
         ·simp only [Act.put, List.setIfInBounds_toArray, List.set_cons_zero, List.set_cons_succ, zy, zba]
          rfl
         refine one_ (i := 4) (N := some 25) #[true, true, true, true, true, true, true, true, false, false] rfl rfl (zpb HT_.out (by kernel_rfl)) (by decide) (fun K hK => ?_)
         refine zsd Try.func56 (by kernel_rfl) rfl #[.agg #[.slice A0_0 l0_0.length c0_0, .int .i16 a0_1, .int .i16 a0_2, .int .i16 a0_3, .int .i16 a0_4, .bool a0_5], .agg #[.int .i16 ((zo t165 x17_1).f0.f0), .int .i16 ((zo t165 x17_1).f0.f1), .int .i16 ((zo t165 x17_1).f0.f2), .int .i16 ((zo t165 x17_1).f0.f3)]] (by rfl) rfl rfl (by (try simp only [List.map_toArray, List.map_cons, List.map_nil]); first | done | rfl | (simp only [List.length_drop, List.length_take]; rfl)) ?_
         with_reducible refine (impl_Puzzle_index.calls _ _ l0_0 a0_1 a0_2 a0_3 a0_4 a0_5 ((zo t165 x17_1).f0.f0) ((zo t165 x17_1).f0.f1) ((zo t165 x17_1).f0.f2) ((zo t165 x17_1).f0.f3) t170 _ ?side1 ?side2 A22.out).mono ?_
         (case side1 => repeat (first | exact (Kd.C_below HR0_0.out HB.out) | (with_reducible refine Kd.C_alloc ?_ _) | (with_reducible refine Kd.C_drewN ?_ _) | (with_reducible refine Kd.C_drew ?_)))
         (case side2 => exact HC0_0.out)
         rintro e w31 ⟨rfl, hb⟩
         refine ⟨_, rfl, ?_⟩
         have n0_ := ze.mk (Kd.R_below (by (with_reducible repeat (first | apply Kd.R_alloc | apply Kd.R_drewN | apply Kd.R_drew)); exact HO_4.out) hb)
         have n1_ := ze.mk (Kd.R_below (by (with_reducible repeat (first | apply Kd.R_alloc | apply Kd.R_drewN | apply Kd.R_drew)); exact HO_15.out) hb)
         have n2_ := ze.mk (zl (g := gb156) (o := .cells #[.slice A0_0 l0_0.length c0_0, .int .i16 a0_1, .int .i16 a0_2, .int .i16 a0_3, .int .i16 a0_4, .bool a0_5] 29 (0, 0)) (by (with_reducible repeat (first | refine zg ?_ _ | refine zh ?_ | refine zf ?_ _)); exact BK156.out) hb)
         have n3_ := ze.mk (zl (g := gb169) (o := .cells #[.int .i16 ((zo t165 x17_1).f0.f0), .int .i16 ((zo t165 x17_1).f0.f1), .int .i16 ((zo t165 x17_1).f0.f2), .int .i16 ((zo t165 x17_1).f0.f3), .int .i64 ((zo t165 x17_1).f1), .int .i8 ((zo t165 x17_1).f2.f0), .int .i8 ((zo t165 x17_1).f2.f1), .int .i8 ((zo t165 x17_1).f2.f2), .int .i64 ((zo t165 x17_1).f3)] 82 (0, 0)) (by (with_reducible repeat (first | refine zg ?_ _ | refine zh ?_ | refine zf ?_ _)); exact BK169.out) hb)
         have n4_ := ze.mk (zm (by repeat (first | (with_reducible first | exact HB.out | apply zj | apply zc | apply zi | refine zk ?_ GE156.out | refine zk ?_ GE169.out) | exact HB.out)) hb)
         clear HO_4
         clear HO_15
         clear BK156
         clear BK169
         clear HB
         have HO_4 := n0_
         have HO_15 := n1_
         have BK156 := n2_
         have BK169 := n3_
         have HB := n4_
         clear n0_ n1_ n2_ n3_ n4_
         (try clear hb)
         (try clear hb2)
         (try clear hk)
         (try clear hi)
         have p25 : 0 ≤ (t170 : Int) := of_decide_eq_true (by first | (with_reducible assumption) | assumption)
         have q25 : (t170 : Int) < ((x4_1.length : Int) : Int) := of_decide_eq_true (by first | (with_reducible assumption) | assumption)
         obtain ⟨go25, co25, eo25, gb25, gl25, cl25, HG25⟩ := Kd.R_form HO_4.out (by omega)
         (first | cases eo25 | (injection eo25 with ea_ en_ ec_; (first | subst ea_ | (injection ea_ with ea_; subst ea_)); subst ec_; clear en_))
         have GB25 := ze.mk gb25
         have GG25 := ze.mk HG25
         clear gb25 gl25 HG25
         obtain ⟨hx25_0, hf25_0⟩ := Kd.R_celln 0 HO_4.out (t170 : Int) p25 q25
         replace p25 := eq_true p25
         replace q25 := eq_true q25
         have HP32 := Kd.R_putn HO_4.out (t170 : Int) (IntKind.i16.wrap ((zo t165 x17_1).f3))
         rw [← Ny171.out] at HP32
         have HQ32 := ze.mk HP32
         clear HP32
         refine hK.out _ _ ⟨(za BK156.out 0).trans rfl, (za BK156.out 1).trans rfl, (za BK156.out 2).trans rfl, (za BK156.out 3).trans rfl, (za BK156.out 4).trans rfl, (za BK156.out 5).trans rfl, (za BK169.out 0).trans rfl, (za BK169.out 1).trans rfl, (za BK169.out 2).trans rfl, (za BK169.out 3).trans rfl, (za BK169.out 4).trans rfl, (za BK169.out 5).trans rfl, (za BK169.out 6).trans rfl, (za BK169.out 7).trans rfl, (za BK169.out 8).trans rfl⟩ (fun hHeld => ?_)
         clear hK K
         refine zpa (a' := ?_) ?_ ?_
         rotate_left
         ·show Act.put _ (some 25) _ = _
          simp only [Act.put, List.setIfInBounds_toArray, List.set_cons_zero, List.set_cons_succ, zy, zba]
          rfl
         refine zia (i := 8) (N := some 29) (v := ?_) (a' := ?_) #[true, true, true, true, true, true, true, true, true, false] rfl rfl (zea HT_.out (by kernel_rfl)) (fun _ _ _ h => h) (Or.inl ⟨by rfl, ?_⟩) ?_ ?_
         rotate_left
         ·intro w'
          go_simp
          with_reducible rfl
         rotate_left
         ·simp only [Act.put, List.setIfInBounds_toArray, List.set_cons_zero, List.set_cons_succ, zy, zba]
          rfl
         refine last_ (i := 9) (N := none) #[true, true, true, true, true, true, true, true, true, true] rfl rfl (zpb HT_.out (by kernel_rfl)) (by decide) (fun K hK => ?_)
         refine skip_ (w1 := ?_) (by rfl) rfl ?_ ?_
         rotate_left
         ·go_simp
          rfl
         refine hK.out _ _ ?_
         clear hK K
         refine zhd (zic HT_.out (by kernel_rfl)) ?_
         try go_wp2
         go_roundg k1
         case measure => have := HK1.out; omega
         case rel => exact ⟨(y171), (wrap64 (x17_1 + 1)), (by first | rfl | (simp; done) | (simp [*]; done)), H', ⟨by have := HK1.out; omega⟩, ⟨by (with_reducible repeat (first | apply Kd.R_alloc | apply Kd.R_drewN | apply Kd.R_drew)); exact HQ32.out⟩, ⟨by (with_reducible repeat (first | apply Kd.R_alloc | apply Kd.R_drewN | apply Kd.R_drew)); exact Kd.R_mono (Kd.R_far (p := ⟨go25, (t170 : Int).toNat, none⟩) (Kd.R_types HO_15.out GG25.out (by decide)) (fun _ hk => hk.2) (.int .i16 (IntKind.i16.wrap ((zo t165 x17_1).f3)))) (fun _ hk => trivial)⟩, ⟨by (with_reducible repeat (first | refine zg ?_ _ | refine zh ?_ | refine zf ?_ _)); refine zu ?_ (by have h_ := Kd.R_ne HO_4.out BK156.out (by decide); intro e_; exact h_ (by rw [e_]; rfl)) _; (with_reducible repeat (first | refine zg ?_ _ | refine zh ?_ | refine zf ?_ _)); exact BK156.out⟩, ⟨by repeat (first | (with_reducible first | exact HB.out | apply zj | apply zc | apply zi | refine zk ?_ GB25.out | refine zk ?_ GE156.out | refine zk ?_ GE169.out) | exact HB.out)⟩⟩
        ·rw [if_neg c24] at H
         exact absurd H (by simp)
       ·rw [if_neg c23] at H
        exact absurd H (by simp)
      ·rw [if_neg c21] at H
       exact absurd H (by simp)
     ·rw [if_neg c20] at H
      exact absurd H (by simp)
    ·rw [if_neg c19] at H
     have c19b0 : decide (x17_1 < (t165.length : Int)) = false := decide_eq_false c19
     clear c19
     simp only [Option.some.injEq, Prod.mk.injEq] at H
     obtain ⟨rfl, rfl⟩ := H
     go_wp2
     go_ret2
     exact ⟨_, by first | rfl | (simp [zt, zr] <;> rfl) | (simp [*, zt, zr] <;> rfl), by (with_reducible repeat (first | apply Kd.R_alloc | apply Kd.R_drewN | apply Kd.R_drew)); exact HO_4.out, by repeat (first | (with_reducible first | exact HB.out | apply zj | apply zc | apply zi | refine zk ?_ GE156.out) | exact HB.out)⟩
 ·replace c3 := Bool.eq_false_iff.mpr c3
  subst c3
  have H1 : (some (([] : List Int), 1)) = some (r1, r2) := by rw [if_neg (show ¬ (false = true) by decide)] at H; exact H
  clear H
  have H := H1
  clear H1
  simp only [Option.some.injEq, Prod.mk.injEq] at H
  obtain ⟨rfl, rfl⟩ := H
  go_enter Try.func12, Try.ntmps12
  go_wp2_with (first | ((with_reducible refine zaa (N := 1) rfl ?_); refine zz ?hg (N := 1) ?hd (cs := #[.slice A0_0 l0_0.length c0_0, .int .i16 a0_1, .int .i16 a0_2, .int .i16 a0_3, .int .i16 a0_4, .bool a0_5]) (t := 29) ?hr ?_; (case hd => rfl); (case hg => rfl); (case hr => first | (go_simp; done) | (go_simp; rfl)); intro gb156 hg w33 hbox hb; have n0_ := ze.mk (zm (by repeat (first | (with_reducible first | exact HB.out | apply zj | apply zc | apply zi) | exact HB.out)) hb); have n1_ := ze.mk (hbox); have n2_ := ze.mk ((by rw [hg]; exact (zn (by repeat (first | (with_reducible first | exact HB.out | apply zj | apply zc | apply zi) | exact HB.out))) : w.heap.size ≤ gb156)); have n3_ := ze.mk ((by rw [hg]; exact (zn (by repeat (first | (with_reducible first | exact HB.out | apply zj | apply zc | apply zi) | exact HB.out))) : w.heap.size ≤ gb156)); clear HB; have HB := n0_; have BK156 := n1_; have GW156 := n2_; have GE156 := n3_; clear n0_ n1_ n2_ n3_; clear hb hbox hg; have hcz34_0 : w33.cell? ⟨gb156, 0, none⟩ = some (.slice A0_0 l0_0.length c0_0) := (za BK156.out 0).trans rfl; have hcz34_1 : w33.cell? ⟨gb156, 1, none⟩ = some (.int .i16 a0_1) := (za BK156.out 1).trans rfl; have hcz34_2 : w33.cell? ⟨gb156, 2, none⟩ = some (.int .i16 a0_2) := (za BK156.out 2).trans rfl; have hcz34_3 : w33.cell? ⟨gb156, 3, none⟩ = some (.int .i16 a0_3) := (za BK156.out 3).trans rfl; have hcz34_4 : w33.cell? ⟨gb156, 4, none⟩ = some (.int .i16 a0_4) := (za BK156.out 4).trans rfl; have hcz34_5 : w33.cell? ⟨gb156, 5, none⟩ = some (.bool a0_5) := (za BK156.out 5).trans rfl; have hfz34_0 := zb BK156.out 0; have hfz34_1 := zb BK156.out 1; have hfz34_2 := zb BK156.out 2; have hfz34_3 := zb BK156.out 3; have hfz34_4 := zb BK156.out 4; have hfz34_5 := zb BK156.out 5) | ((with_reducible refine zv (f := 52) rfl ?_); refine zha (some 8) rfl rfl Try.func52 (by kernel_rfl) rfl #[.agg #[.slice A0_0 l0_0.length c0_0, .int .i16 a0_1, .int .i16 a0_2, .int .i16 a0_3, .int .i16 a0_4, .bool a0_5]] rfl (by (try simp only [List.map_toArray, List.map_cons, List.map_nil]); first | done | rfl | (simp only [List.length_drop, List.length_take]; rfl)) ?_; (with_reducible refine (impl_ValidPuzzle.calls k _ _ l0_0 a0_1 a0_2 a0_3 a0_4 a0_5 false _ ?side1 ?side2 A2.out).mono ?_); (case side1 => repeat (first | exact (Kd.C_below HR0_0.out HB.out) | (with_reducible refine Kd.C_alloc ?_ _) | (with_reducible refine Kd.C_drewN ?_ _) | (with_reducible refine Kd.C_drew ?_))); (case side2 => exact HC0_0.out); rintro e w35 ⟨rfl, hb⟩; refine ⟨_, rfl, ?_⟩; have n0_ := ze.mk (zl (g := gb156) (o := .cells #[.slice A0_0 l0_0.length c0_0, .int .i16 a0_1, .int .i16 a0_2, .int .i16 a0_3, .int .i16 a0_4, .bool a0_5] 29 (0, 0)) (by (with_reducible repeat (first | refine zg ?_ _ | refine zh ?_ | refine zf ?_ _)); exact BK156.out) hb); have n1_ := ze.mk (zm (by repeat (first | (with_reducible first | exact HB.out | apply zj | apply zc | apply zi | refine zk ?_ GE156.out) | exact HB.out)) hb); clear BK156; clear HB; have BK156 := n0_; have HB := n1_; clear n0_ n1_; (try clear hb); (try clear hb2); (try clear hk); (try clear hi)))
  go_ret2
  exact ⟨_, by first | rfl | (simp [zt, zr] <;> rfl) | (simp [*, zt, zr] <;> rfl), by first | exact Kd.R_nil _ _ _ _ _ | exact Kd.N_nil _ _ _ _ _ | exact Kd.V_nil _ _ _ _ _ | exact Kd.Q_nil _ _ _ _ _ | exact Kd.S_nil _ _ _ _ _, by repeat (first | (with_reducible first | exact HB.out | apply zj | apply zc | apply zi | refine zk ?_ GE156.out) | exact HB.out)⟩
end Go.Proofs.Yteciomagemjjaaa.J
