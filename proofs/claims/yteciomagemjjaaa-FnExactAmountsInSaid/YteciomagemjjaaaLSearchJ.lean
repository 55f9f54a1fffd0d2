/- The program's search: every water that can be reached, in the order in which they are met. -/
import Derived.Test.YteciomagemjjaaaJx5
import Derived.Test.YteciomagemjjaaaLMapJ
import Derived.Test.YteciomagemjjaaaLMovedJ
import Derived.Test.YteciomagemjjaaaLPrJ
namespace Go.Proofs.Yteciomagemjjaaa.J
open Go.RowKit Go.Proofs.YteciomagemjjaaaW.PrintWords Go.Proofs.YteciomagemjjaaaW.PrintLast Go.Proofs.YteciomagemjjaaaW.PrintMore
attribute [local go_sem] zna zpa zua zva zia zja zqa zoa   -- for this text's walks alone
set_option linter.unusedVariables false
set_option linter.unusedSimpArgs false
/-- The water behind a move, one that is a key. -/
def mvd (l0_0 : List Int) (a0_1 : Int) (a0_2 : Int) (a0_3 : Int) (a0_4 : Int) (a0_5 : Bool) (a1_0 : Int) (a1_1 : Int) (a1_2 : Int) (a1_3 : Int) (a2_0 : Int) (a2_1 : Int) (a2_2 : Int) : Option (Int × Int × Int × Int × Bool) :=
  (impl_Puzzle_moved.f l0_0 a0_1 a0_2 a0_3 a0_4 a0_5 a1_0 a1_1 a1_2 a1_3 a2_0 a2_1 a2_2).bind fun x => if wfW (⟨x.1, x.2.1, x.2.2.1, x.2.2.2.1⟩ : S27) then some x else none
theorem mvd_inv {l0_0 : List Int} {a0_1 : Int} {a0_2 : Int} {a0_3 : Int} {a0_4 : Int} {a0_5 : Bool} {a1_0 : Int} {a1_1 : Int} {a1_2 : Int} {a1_3 : Int} {a2_0 : Int} {a2_1 : Int} {a2_2 : Int} {x : Int × Int × Int × Int × Bool} (h : mvd l0_0 a0_1 a0_2 a0_3 a0_4 a0_5 a1_0 a1_1 a1_2 a1_3 a2_0 a2_1 a2_2 = some x) : impl_Puzzle_moved.f l0_0 a0_1 a0_2 a0_3 a0_4 a0_5 a1_0 a1_1 a1_2 a1_3 a2_0 a2_1 a2_2 = some x ∧ wfW (⟨x.1, x.2.1, x.2.2.1, x.2.2.2.1⟩ : S27) := by
  obtain ⟨y, h1, h2⟩ := Option.bind_eq_some_iff.mp h
  by_cases hw : wfW (⟨y.1, y.2.1, y.2.2.1, y.2.2.2.1⟩ : S27)
  · rw [if_pos hw] at h2
    cases h2
    exact ⟨h1, hw⟩
  rw [if_neg hw] at h2
  cases h2
mutual
def impl_Puzzle_search.l0 : Nat → List (S82) → Int → List Int → Int → Int → Int → Int → Bool → Option ((List (S82)))
 | 0, _, _, _, _, _, _, _, _ => none
 | k + 1, x3, x5, x143000, x143001, x143002, x143003, x143004, x143005 => if x5 < (x3.length : Int) then (if 0 ≤ x5 then ((impl_Puzzle_moves.f k x143000 x143001 x143002 x143003 x143004 x143005 ((zl x3 x5).f0.f0) ((zl x3 x5).f0.f1) ((zl x3 x5).f0.f2) ((zl x3 x5).f0.f3)).bind fun t148 => (impl_Puzzle_search.l1 k x3 x5 t148 (t148.length : Int) 0 x143000 x143001 x143002 x143003 x143004 x143005)) else (none)) else (some x3)
def impl_Puzzle_search.l1 : Nat → List (S82) → Int → List (S80) → Int → Int → List Int → Int → Int → Int → Int → Bool → Option ((List (S82)))
 | 0, _, _, _, _, _, _, _, _, _, _, _ => none
 | k + 1, x3, x5, x30, x31, x32, x143000, x143001, x143002, x143003, x143004, x143005 => if x32 < x31 then (if 0 ≤ x32 then (if x32 < (x30.length : Int) then (if 0 ≤ x5 then (if x5 < (x3.length : Int) then ((mvd x143000 x143001 x143002 x143003 x143004 x143005 ((zl x3 x5).f0.f0) ((zl x3 x5).f0.f1) ((zl x3 x5).f0.f2) ((zl x3 x5).f0.f3) ((zi x30 x32).f0) ((zi x30 x32).f1) ((zi x30 x32).f2)).bind fun bt154 => (if inQ x3 (⟨bt154.1, bt154.2.1, bt154.2.2.1, bt154.2.2.2.1⟩ : S27) = true then (impl_Puzzle_search.l1 k x3 x5 x30 x31 (wrap64 (x32 + 1)) x143000 x143001 x143002 x143003 x143004 x143005) else (if x3.length < 4398046511104 then (impl_Puzzle_search.l1 k (x3 ++ [(⟨(⟨bt154.1, bt154.2.1, bt154.2.2.1, bt154.2.2.2.1⟩ : S27), x5, (⟨(zi x30 x32).f0, (zi x30 x32).f1, (zi x30 x32).f2⟩ : S80), wrap64 (((zl x3 x5).f3) + 1)⟩ : S82)]) x5 x30 x31 (wrap64 (x32 + 1)) x143000 x143001 x143002 x143003 x143004 x143005) else (none)))) else (none)) else (none)) else (none)) else (none)) else (impl_Puzzle_search.l0 k x3 (wrap64 (x5 + 1)) x143000 x143001 x143002 x143003 x143004 x143005)
end
def impl_Puzzle_search.f (k : Nat) (l0_0 : List Int) (a0_1 : Int) (a0_2 : Int) (a0_3 : Int) (a0_4 : Int) (a0_5 : Bool) : Option ((List (S82))) := if wfW (⟨a0_1, a0_2, a0_3, a0_4⟩ : S27) then impl_Puzzle_search.l0 k (([(⟨(⟨a0_1, a0_2, a0_3, a0_4⟩ : S27), (-1), (⟨0, 0, 0⟩ : S80), 0⟩ : S82)] : List (S82))) 0 l0_0 a0_1 a0_2 a0_3 a0_4 a0_5 else none
def impl_Puzzle_search.T5 : Bool × List (List Nat × List Nat) := (true, [([], []), ([], []), ([], []), ([1, 2], [1, 2]), ([3], [3]), ([4], [4]), ([0, 5], [0, 5]), ([6], [6]), ([], [])])
def impl_Puzzle_search.B5 : List Nat := [0, 0, 0, 6, 14, 30, 63, 127, 0]
theorem impl_Puzzle_search.tab5 : rtab .any (opsOf Try.f55 5) = impl_Puzzle_search.T5 := by kernel_rfl
theorem impl_Puzzle_search.bits5 : zxb impl_Puzzle_search.T5.2 impl_Puzzle_search.B5 = true := by kernel_rfl
def impl_Puzzle_search.T8 : Bool × List (List Nat × List Nat) := (true, [([], []), ([], []), ([], []), ([1, 2], [1, 2]), ([3], [3]), ([4], [4]), ([], []), ([0, 5, 6], [0, 5, 6]), ([7], [7]), ([8], [8]), ([8], [8]), ([], []), ([11, 9, 7, 0, 1, 2, 3, 4, 5, 6, 7, 8, 9, 11], [9, 11]), ([10, 12, 0, 1, 2, 3, 4, 5, 6, 7, 8, 9, 10, 11, 12], [10])])
def impl_Puzzle_search.B8 : List Nat := [0, 0, 0, 6, 14, 30, 0, 127, 255, 511, 511, 0, 3071, 8191]
theorem impl_Puzzle_search.tab8 : rtab .any (opsOf Try.f55 8) = impl_Puzzle_search.T8 := by kernel_rfl
theorem impl_Puzzle_search.bits8 : zxb impl_Puzzle_search.T8.2 impl_Puzzle_search.B8 = true := by kernel_rfl
def impl_Puzzle_search.T11 : Bool × List (List Nat × List Nat) := (true, [([], []), ([], []), ([], []), ([], []), ([], []), ([], []), ([4, 5], [4, 5]), ([6], [6]), ([7], [7]), ([8], [8]), ([1, 2, 3, 9], [1, 2, 3, 9]), ([10], [10]), ([0, 11], [0, 11]), ([12, 12, 0, 1, 2, 3, 4, 5, 6, 7, 8, 9, 10, 11, 12], [0, 4, 12])])
def impl_Puzzle_search.B11 : List Nat := [0, 0, 0, 0, 0, 0, 48, 112, 240, 496, 1022, 2046, 4095, 8191]
theorem impl_Puzzle_search.tab11 : rtab .any (opsOf Try.f55 11) = impl_Puzzle_search.T11 := by kernel_rfl
theorem impl_Puzzle_search.bits11 : zxb impl_Puzzle_search.T11.2 impl_Puzzle_search.B11 = true := by kernel_rfl
set_option maxHeartbeats 8000000 in
set_option maxRecDepth 100000 in
theorem impl_Puzzle_search.calls (k : Nat) (A0_0 : Option Addr) (c0_0 : Nat) (l0_0 : List Int) (a0_1 : Int) (a0_2 : Int) (a0_3 : Int) (a0_4 : Int) (a0_5 : Bool) (r : List (S82)) (w : World) (hr0_0 : Kd.C (Kd.int .i16) w A0_0 l0_0.length l0_0) (hc0_0 : l0_0.length ≤ c0_0) (h : impl_Puzzle_search.f k l0_0 a0_1 a0_2 a0_3 a0_4 a0_5 = some r) :
  Calls Try.prog 55 #[.agg #[.slice A0_0 l0_0.length c0_0, .int .i16 a0_1, .int .i16 a0_2, .int .i16 a0_3, .int .i16 a0_4, .bool a0_5]] w fun e w' => ∃ v0_ : Value, e = .returned (v0_) ∧ Kd.R k82 82 w' w.heap.size (fun _ => True) v0_ r ∧ Below w.heap.size w w' := by
 have hu29 := Try.underlying29
 have hu27 := Try.underlying27
 have hu82 := Try.underlying82
 have hu80 := Try.underlying80
 have HR0_0 := za.mk hr0_0
 have HC0_0 := za.mk hc0_0
 clear hr0_0 hc0_0
 have HB := za.mk (Below.refl w.heap.size w)
 unfold impl_Puzzle_search.f at h
 have hwf0 : wfW (⟨a0_1, a0_2, a0_3, a0_4⟩ : S27) := Decidable.byContradiction fun hn => by rw [if_neg hn] at h; cases h
 rw [if_pos hwf0] at h
 have HWF0 := za.mk hwf0
 clear hwf0
 have H : (impl_Puzzle_search.l0 k (([(⟨(⟨a0_1, a0_2, a0_3, a0_4⟩ : S27), (-1), (⟨0, 0, 0⟩ : S80), 0⟩ : S82)] : List (S82))) 0 l0_0 a0_1 a0_2 a0_3 a0_4 a0_5) = some r := h
 clear h
 obtain ⟨y144, hy144⟩ : ∃ y_ : List (S82), y_ = (([(⟨(⟨a0_1, a0_2, a0_3, a0_4⟩ : S27), (-1), (⟨0, 0, 0⟩ : S80), 0⟩ : S82)] : List (S82))) := ⟨_, rfl⟩
 replace H : (impl_Puzzle_search.l0 k y144 0 l0_0 a0_1 a0_2 a0_3 a0_4 a0_5) = some r := by first | (rw [hy144]; with_reducible exact H) | (have H2_ := (Option.bind_some _ _).symm.trans H; rw [hy144]; with_reducible exact H2_) | (have H2_ := (Option.bind_some _ _).symm.trans H; with_reducible exact H2_) | with_reducible exact H | (rw [hy144]; exact H) | exact H
 have Ny144 := za.mk hy144
 clear hy144
 have H' := za.mk H
 clear H
 go_enter Try.func55, Try.ntmps55
 try go_wp2_with (first | ((with_reducible refine zu (N := 1) rfl ?_); refine bx (N := 1) #[.slice A0_0 l0_0.length c0_0, .int .i16 a0_1, .int .i16 a0_2, .int .i16 a0_3, .int .i16 a0_4, .bool a0_5] 29 rfl ?_; intro gb142 hg w2 hbox hb; have BK142 := za.mk hbox; have GW142 := gB hg; have GE142 := GW142; replace HB := za.mk (zh sB hb); clear hb hbox hg))
 have n0_ := za.mk (zf BK142.out)
 have n2_ := za.mk (zv HB.out)
 clear BK142 HB
 have BK142 := n0_
 have HB := n2_
 clear n0_ n2_
 refine zlc (n := 11) (S := fun w' => w'.cell? ⟨gb142, 0, none⟩ = some (.slice A0_0 l0_0.length c0_0) ∧ w'.cell? ⟨gb142, 1, none⟩ = some (.int .i16 a0_1) ∧ w'.cell? ⟨gb142, 2, none⟩ = some (.int .i16 a0_2) ∧ w'.cell? ⟨gb142, 3, none⟩ = some (.int .i16 a0_3) ∧ w'.cell? ⟨gb142, 4, none⟩ = some (.int .i16 a0_4) ∧ w'.cell? ⟨gb142, 5, none⟩ = some (.bool a0_5)) (ds := []) #[false, false, false, false, false, false, false, false, false, false, false] (by kernel_rfl) rfl rfl ⟨(zb BK142.out 0).trans rfl, (zb BK142.out 1).trans rfl, (zb BK142.out 2).trans rfl, (zb BK142.out 3).trans rfl, (zb BK142.out 4).trans rfl, (zb BK142.out 5).trans rfl⟩ (fun hHeld => ?_)
 generalize w2.drew = w4 at BK142 HB hHeld ⊢
 refine zfa (i := 0) (N := some 10) (v := ?_) (a' := ?_) #[true, false, false, false, false, false, false, false, false, false, false] rfl rfl (by kernel_rfl) (fun _ _ _ h => h) (Or.inl ⟨by rfl, ?_⟩) ?_ ?_
 rotate_left
 ·intro w'
  go_simp
  with_reducible rfl
 rotate_left
 ·simp only [Act.put, List.setIfInBounds_toArray, List.set_cons_zero, List.set_cons_succ, zz, zy]
  rfl
 refine take_ (i := 1) (N := some 11) (v := ?_) (a' := ?_) #[true, true, false, false, false, false, false, false, false, false, false] rfl rfl (by kernel_rfl) (fun _ _ _ h => h) (Or.inl ⟨by rfl, ?_⟩) hHeld ?_ ?_
 rotate_left
 ·rintro w' ⟨s0, s1, s2, s3, s4, s5⟩
  go_simp
  with_reducible rfl
 rotate_left
 ·simp only [Act.put, List.setIfInBounds_toArray, List.set_cons_zero, List.set_cons_succ, zz, zy]
  rfl
 refine zfa (i := 2) (N := some 12) (v := ?_) (a' := ?_) #[true, true, true, false, false, false, false, false, false, false, false] rfl rfl (by kernel_rfl) (fun _ _ _ h => h) (Or.inl ⟨by rfl, ?_⟩) ?_ ?_
 rotate_left
 ·intro w'
  go_simp
  with_reducible rfl
 rotate_left
 ·simp only [Act.put, List.setIfInBounds_toArray, List.set_cons_zero, List.set_cons_succ, zz, zy]
  rfl
 refine zfa (i := 5) (N := some 15) (v := ?_) (a' := ?_) #[true, true, true, false, false, true, false, false, false, false, false] rfl rfl (by kernel_rfl) (fun _ _ _ h => h) (Or.inl ⟨by rfl, ?_⟩) ?_ ?_
 rotate_left
 ·intro w'
  go_simp
  with_reducible rfl
 rotate_left
 ·simp only [Act.put, List.setIfInBounds_toArray, List.set_cons_zero, List.set_cons_succ, zz, zy]
  rfl
 refine take_ (i := 6) (N := some 16) (v := ?_) (a' := ?_) #[true, true, true, false, false, true, true, false, false, false, false] rfl rfl (by kernel_rfl) (fun _ _ _ h => h) (Or.inl ⟨by rfl, ?_⟩) hHeld ?_ ?_
 rotate_left
 ·rintro w' ⟨s0, s1, s2, s3, s4, s5⟩
  go_simp
  with_reducible rfl
 rotate_left
 ·simp only [Act.put, List.setIfInBounds_toArray, List.set_cons_zero, List.set_cons_succ, zz, zy]
  rfl
 refine zse (σ := Value × Nat) 1 #[true, true, true, true, true, true, true, true, true, true, false] (fun s_ => [(13, s_.1), (3, s_.1), (14, .map (some s_.2)), (17, .map (some s_.2))]) (fun s_ w' => (w'.cell? ⟨gb142, 0, none⟩ = some (.slice A0_0 l0_0.length c0_0) ∧ w'.cell? ⟨gb142, 1, none⟩ = some (.int .i16 a0_1) ∧ w'.cell? ⟨gb142, 2, none⟩ = some (.int .i16 a0_2) ∧ w'.cell? ⟨gb142, 3, none⟩ = some (.int .i16 a0_3) ∧ w'.cell? ⟨gb142, 4, none⟩ = some (.int .i16 a0_4) ∧ w'.cell? ⟨gb142, 5, none⟩ = some (.bool a0_5)) ∧ Kd.R k82 82 w' w.heap.size (fun _ => True) s_.1 y144 ∧ w'.heap[gb142]? = some (.cells #[.slice A0_0 l0_0.length c0_0, .int .i16 a0_1, .int .i16 a0_2, .int .i16 a0_3, .int .i16 a0_4, .bool a0_5] 29 (0, 0)) ∧ IsM w' s_.2 [(⟨(⟨a0_1, a0_2, a0_3, a0_4⟩ : S27), (-1), (⟨0, 0, 0⟩ : S80), 0⟩ : S82)] ∧ w.heap.size ≤ s_.2 ∧ gb142 ≠ s_.2 ∧ Below w.heap.size w w') ?_ ?_
 rotate_left
 ·intro hCont
  refine two_ (i := 3) (j := 4) (Ni := some 13) (Nj := some 14) #[true, true, true, true, false, true, true, false, false, false, false] #[true, true, true, false, true, true, true, false, false, false, false] rfl rfl rfl rfl (by kernel_rfl) (by decide) (by decide) (fun K hK => ?_) (fun K hK => ?_)
  ·skip
   refine Kd.R_lit_step k82 _ 82 ?hg (N := 13) ?hd (xs := ([(⟨(⟨a0_1, a0_2, a0_3, a0_4⟩ : S27), (-1), (⟨0, 0, 0⟩ : S80), 0⟩ : S82)] : List (S82))) (inner := [.int .i16 a0_1, .int .i16 a0_2, .int .i16 a0_3, .int .i16 a0_4, .int .i64 (-1), .int .i8 0, .int .i8 0, .int .i8 0, .int .i64 0]) (ok := fun _ => True) (okp := fun _ => True) ?hr ?hp (fun _ hk => hk) trivial (Below.refl _ _) (Nat.le_refl _) (by simp) ?_; (case hd => rfl); (case hg => rfl); (case hr => first | (go_simp; done) | (go_simp; rfl)); (case hp => exact (Reps.c9 (show Kd.M k82 _ _ _ (⟨(⟨a0_1, a0_2, a0_3, a0_4⟩ : S27), (-1), (⟨0, 0, 0⟩ : S80), 0⟩ : S82) [.int .i16 a0_1, .int .i16 a0_2, .int .i16 a0_3, .int .i16 a0_4, .int .i64 (-1), .int .i8 0, .int .i8 0, .int .i8 0, .int .i64 0] from (k82_mkM _ _ _ (⟨(⟨a0_1, a0_2, a0_3, a0_4⟩ : S27), (-1), (⟨0, 0, 0⟩ : S80), 0⟩ : S82) )) (Reps.none _ _)))
   intro v145 w5 ho6 hb hg_ hnew_
   clear hg_ hnew_
   rw [← Ny144.out] at ho6
   have n0_ := za.mk (Kd.R_lower ho6 (zaa HB.out))
   have n1_ := za.mk (zca BK142.out hb)
   have n3_ := za.mk (zh HB.out hb)
   clear BK142 HB
   have HO146 := n0_
   have BK142 := n1_
   have HB := n3_
   clear n0_ n1_ n3_ hb ho6
   refine hK.out _ _ ⟨(zb BK142.out 0).trans rfl, (zb BK142.out 1).trans rfl, (zb BK142.out 2).trans rfl, (zb BK142.out 3).trans rfl, (zb BK142.out 4).trans rfl, (zb BK142.out 5).trans rfl⟩ (fun hHeld => ?_)
   clear hK K
   refine zma (a' := ?_) ?_ ?_
   rotate_left
   ·show Act.put _ (some 13) _ = _
    simp only [Act.put, List.setIfInBounds_toArray, List.set_cons_zero, List.set_cons_succ, zz, zy]
    rfl
   refine zfa (i := 9) (N := some 3) (v := ?_) (a' := ?_) #[true, true, true, true, false, true, true, false, false, true, false] rfl rfl (by kernel_rfl) (fun _ _ _ h => h) (Or.inl ⟨by rfl, ?_⟩) ?_ ?_
   rotate_left
   ·intro w'
    go_simp
    with_reducible rfl
   rotate_left
   ·simp only [Act.put, List.setIfInBounds_toArray, List.set_cons_zero, List.set_cons_succ, zz, zy]
    rfl
   refine one_ (i := 4) (N := some 14) #[true, true, true, true, true, true, true, false, false, true, false] rfl rfl (by kernel_rfl) (by decide) (fun K hK => ?_)
   refine step_made rfl rfl (fun hIM => ?_)
   obtain ⟨gb143, hg143⟩ : ∃ g, g = w5.heap.size := ⟨_, rfl⟩
   rw [← hg143] at hIM ⊢
   have GE143 : za (w.heap.size ≤ gb143) := ⟨by rw [hg143]; exact zaa HB.out⟩
   have NB142_143 : za (gb142 ≠ gb143) := ⟨by rw [hg143]; exact Nat.ne_of_lt (zfb BK142.out)⟩
   have HM := za.mk hIM
   have n1_ := za.mk (zc BK142.out (.map #[] 0))
   have n3_ := za.mk (zw HB.out (.map #[] 0))
   have n0_ := za.mk (Kd.R_alloc HO146.out (.map #[] 0))
   clear HO146
   have HO146 := n0_
   clear n0_
   clear BK142 HB hg143 hIM
   have BK142 := n1_
   have HB := n3_
   clear n1_ n3_
   generalize w5.alloc (.map #[] 0) = w6 at *
   refine hK.out _ _ ⟨(zb BK142.out 0).trans rfl, (zb BK142.out 1).trans rfl, (zb BK142.out 2).trans rfl, (zb BK142.out 3).trans rfl, (zb BK142.out 4).trans rfl, (zb BK142.out 5).trans rfl⟩ (fun hHeld => ?_)
   clear hK K
   refine zma (a' := ?_) ?_ ?_
   rotate_left
   ·show Act.put _ (some 14) _ = _
    simp only [Act.put, List.setIfInBounds_toArray, List.set_cons_zero, List.set_cons_succ, zz, zy]
    rfl
   refine one_ (i := 7) (N := none) #[true, true, true, true, true, true, true, true, false, true, false] rfl rfl (by kernel_rfl) (by decide) (fun K hK => ?_)
   refine zyc rfl (.tmp 14) (.tmp 16) _ rfl (b := gb143) (q := []) rfl HM.out (by decide) (e := (⟨(⟨a0_1, a0_2, a0_3, a0_4⟩ : S27), (-1), (⟨0, 0, 0⟩ : S80), 0⟩ : S82)) rfl HWF0.out rfl (fun w7 hIM hgr => ?_)
   have n1_ := za.mk (zga BK142.out hgr (zqd NB142_143.out))
   have n3_ := za.mk (HB.out.grown hgr (zaa HB.out) (fun j hj => by cases hj; exact GE143.out))
   have n0_ := za.mk (R_isM HO146.out HM.out hgr)
   clear HO146
   have HO146 := n0_
   clear n0_
   clear BK142 HB HM
   have BK142 := n1_
   have HB := n3_
   have HM := za.mk hIM
   clear n1_ n3_ hIM hgr
   refine hK.out _ _ ⟨(zb BK142.out 0).trans rfl, (zb BK142.out 1).trans rfl, (zb BK142.out 2).trans rfl, (zb BK142.out 3).trans rfl, (zb BK142.out 4).trans rfl, (zb BK142.out 5).trans rfl⟩ (fun hHeld => ?_)
   clear hK K
   refine zma (a' := ?_) ?_ ?_
   rotate_left
   ·show Act.put _ (none) _ = _
    simp only [Act.put, List.setIfInBounds_toArray, List.set_cons_zero, List.set_cons_succ, zz, zy]
    rfl
   refine zfa (i := 8) (N := some 17) (v := ?_) (a' := ?_) #[true, true, true, true, true, true, true, true, true, true, false] rfl rfl (by kernel_rfl) (fun _ _ _ h => h) (Or.inl ⟨by rfl, ?_⟩) ?_ ?_
   rotate_left
   ·intro w'
    go_simp
    with_reducible rfl
   rotate_left
   ·simp only [Act.put, List.setIfInBounds_toArray, List.set_cons_zero, List.set_cons_succ, zz, zy]
    rfl
   exact zma (by simp only [zra, Act.put, List.setIfInBounds_toArray, List.set_cons_zero, List.set_cons_succ]) (hCont (v145, gb143) _ ⟨hHeld, HO146.out, BK142.out, HM.out, GE143.out, NB142_143.out, HB.out⟩)
  skip
  refine step_made rfl rfl (fun hIM => ?_)
  obtain ⟨gb143, hg143⟩ : ∃ g, g = w4.heap.size := ⟨_, rfl⟩
  rw [← hg143] at hIM ⊢
  have GE143 : za (w.heap.size ≤ gb143) := ⟨by rw [hg143]; exact zaa HB.out⟩
  have NB142_143 : za (gb142 ≠ gb143) := ⟨by rw [hg143]; exact Nat.ne_of_lt (zfb BK142.out)⟩
  have HM := za.mk hIM
  have n1_ := za.mk (zc BK142.out (.map #[] 0))
  have n3_ := za.mk (zw HB.out (.map #[] 0))
  clear BK142 HB hg143 hIM
  have BK142 := n1_
  have HB := n3_
  clear n1_ n3_
  generalize w4.alloc (.map #[] 0) = w5 at *
  refine hK.out _ _ ⟨(zb BK142.out 0).trans rfl, (zb BK142.out 1).trans rfl, (zb BK142.out 2).trans rfl, (zb BK142.out 3).trans rfl, (zb BK142.out 4).trans rfl, (zb BK142.out 5).trans rfl⟩ (fun hHeld => ?_)
  clear hK K
  refine zma (a' := ?_) ?_ ?_
  rotate_left
  ·show Act.put _ (some 14) _ = _
   simp only [Act.put, List.setIfInBounds_toArray, List.set_cons_zero, List.set_cons_succ, zz, zy]
   rfl
  refine two_ (i := 3) (j := 7) (Ni := some 13) (Nj := none) #[true, true, true, true, true, true, true, false, false, false, false] #[true, true, true, false, true, true, true, true, false, false, false] rfl rfl rfl rfl (by kernel_rfl) (by decide) (by decide) (fun K hK => ?_) (fun K hK => ?_)
  ·skip
   refine Kd.R_lit_step k82 _ 82 ?hg (N := 13) ?hd (xs := ([(⟨(⟨a0_1, a0_2, a0_3, a0_4⟩ : S27), (-1), (⟨0, 0, 0⟩ : S80), 0⟩ : S82)] : List (S82))) (inner := [.int .i16 a0_1, .int .i16 a0_2, .int .i16 a0_3, .int .i16 a0_4, .int .i64 (-1), .int .i8 0, .int .i8 0, .int .i8 0, .int .i64 0]) (ok := fun _ => True) (okp := fun _ => True) ?hr ?hp (fun _ hk => hk) trivial (Below.refl _ _) (Nat.le_refl _) (by simp) ?_; (case hd => rfl); (case hg => rfl); (case hr => first | (go_simp; done) | (go_simp; rfl)); (case hp => exact (Reps.c9 (show Kd.M k82 _ _ _ (⟨(⟨a0_1, a0_2, a0_3, a0_4⟩ : S27), (-1), (⟨0, 0, 0⟩ : S80), 0⟩ : S82) [.int .i16 a0_1, .int .i16 a0_2, .int .i16 a0_3, .int .i16 a0_4, .int .i64 (-1), .int .i8 0, .int .i8 0, .int .i8 0, .int .i64 0] from (k82_mkM _ _ _ (⟨(⟨a0_1, a0_2, a0_3, a0_4⟩ : S27), (-1), (⟨0, 0, 0⟩ : S80), 0⟩ : S82) )) (Reps.none _ _)))
   intro v145 w6 ho6 hb hg_ hnew_
   clear hg_ hnew_
   rw [← Ny144.out] at ho6
   have n0_ := za.mk (Kd.R_lower ho6 (zaa HB.out))
   have n1_ := za.mk (zca BK142.out hb)
   have n3_ := za.mk (zh HB.out hb)
   have n2_ := za.mk (IsM.below HM.out hb)
   clear HM
   have HM := n2_
   clear n2_
   clear BK142 HB
   have HO146 := n0_
   have BK142 := n1_
   have HB := n3_
   clear n0_ n1_ n3_ hb ho6
   refine hK.out _ _ ⟨(zb BK142.out 0).trans rfl, (zb BK142.out 1).trans rfl, (zb BK142.out 2).trans rfl, (zb BK142.out 3).trans rfl, (zb BK142.out 4).trans rfl, (zb BK142.out 5).trans rfl⟩ (fun hHeld => ?_)
   clear hK K
   refine zma (a' := ?_) ?_ ?_
   rotate_left
   ·show Act.put _ (some 13) _ = _
    simp only [Act.put, List.setIfInBounds_toArray, List.set_cons_zero, List.set_cons_succ, zz, zy]
    rfl
   refine zfa (i := 9) (N := some 3) (v := ?_) (a' := ?_) #[true, true, true, true, true, true, true, false, false, true, false] rfl rfl (by kernel_rfl) (fun _ _ _ h => h) (Or.inl ⟨by rfl, ?_⟩) ?_ ?_
   rotate_left
   ·intro w'
    go_simp
    with_reducible rfl
   rotate_left
   ·simp only [Act.put, List.setIfInBounds_toArray, List.set_cons_zero, List.set_cons_succ, zz, zy]
    rfl
   refine one_ (i := 7) (N := none) #[true, true, true, true, true, true, true, true, false, true, false] rfl rfl (by kernel_rfl) (by decide) (fun K hK => ?_)
   refine zyc rfl (.tmp 14) (.tmp 16) _ rfl (b := gb143) (q := []) rfl HM.out (by decide) (e := (⟨(⟨a0_1, a0_2, a0_3, a0_4⟩ : S27), (-1), (⟨0, 0, 0⟩ : S80), 0⟩ : S82)) rfl HWF0.out rfl (fun w7 hIM hgr => ?_)
   have n1_ := za.mk (zga BK142.out hgr (zqd NB142_143.out))
   have n3_ := za.mk (HB.out.grown hgr (zaa HB.out) (fun j hj => by cases hj; exact GE143.out))
   have n0_ := za.mk (R_isM HO146.out HM.out hgr)
   clear HO146
   have HO146 := n0_
   clear n0_
   clear BK142 HB HM
   have BK142 := n1_
   have HB := n3_
   have HM := za.mk hIM
   clear n1_ n3_ hIM hgr
   refine hK.out _ _ ⟨(zb BK142.out 0).trans rfl, (zb BK142.out 1).trans rfl, (zb BK142.out 2).trans rfl, (zb BK142.out 3).trans rfl, (zb BK142.out 4).trans rfl, (zb BK142.out 5).trans rfl⟩ (fun hHeld => ?_)
   clear hK K
   refine zma (a' := ?_) ?_ ?_
   rotate_left
   ·show Act.put _ (none) _ = _
    simp only [Act.put, List.setIfInBounds_toArray, List.set_cons_zero, List.set_cons_succ, zz, zy]
    rfl
   refine zfa (i := 8) (N := some 17) (v := ?_) (a' := ?_) #[true, true, true, true, true, true, true, true, true, true, false] rfl rfl (by kernel_rfl) (fun _ _ _ h => h) (Or.inl ⟨by rfl, ?_⟩) ?_ ?_
   rotate_left
   ·intro w'
    go_simp
    with_reducible rfl
   rotate_left
   ·simp only [Act.put, List.setIfInBounds_toArray, List.set_cons_zero, List.set_cons_succ, zz, zy]
    rfl
   exact zma (by simp only [zra, Act.put, List.setIfInBounds_toArray, List.set_cons_zero, List.set_cons_succ]) (hCont (v145, gb143) _ ⟨hHeld, HO146.out, BK142.out, HM.out, GE143.out, NB142_143.out, HB.out⟩)
  skip
  refine zyc rfl (.tmp 14) (.tmp 16) _ rfl (b := gb143) (q := []) rfl HM.out (by decide) (e := (⟨(⟨a0_1, a0_2, a0_3, a0_4⟩ : S27), (-1), (⟨0, 0, 0⟩ : S80), 0⟩ : S82)) rfl HWF0.out rfl (fun w6 hIM hgr => ?_)
  have n1_ := za.mk (zga BK142.out hgr (zqd NB142_143.out))
  have n3_ := za.mk (HB.out.grown hgr (zaa HB.out) (fun j hj => by cases hj; exact GE143.out))
  clear BK142 HB HM
  have BK142 := n1_
  have HB := n3_
  have HM := za.mk hIM
  clear n1_ n3_ hIM hgr
  refine hK.out _ _ ⟨(zb BK142.out 0).trans rfl, (zb BK142.out 1).trans rfl, (zb BK142.out 2).trans rfl, (zb BK142.out 3).trans rfl, (zb BK142.out 4).trans rfl, (zb BK142.out 5).trans rfl⟩ (fun hHeld => ?_)
  clear hK K
  refine zma (a' := ?_) ?_ ?_
  rotate_left
  ·show Act.put _ (none) _ = _
   simp only [Act.put, List.setIfInBounds_toArray, List.set_cons_zero, List.set_cons_succ, zz, zy]
   rfl
  refine zfa (i := 8) (N := some 17) (v := ?_) (a' := ?_) #[true, true, true, false, true, true, true, true, true, false, false] rfl rfl (by kernel_rfl) (fun _ _ _ h => h) (Or.inl ⟨by rfl, ?_⟩) ?_ ?_
  rotate_left
  ·intro w'
   go_simp
   with_reducible rfl
  rotate_left
  ·simp only [Act.put, List.setIfInBounds_toArray, List.set_cons_zero, List.set_cons_succ, zz, zy]
   rfl
  refine one_ (i := 3) (N := some 13) #[true, true, true, true, true, true, true, true, true, false, false] rfl rfl (by kernel_rfl) (by decide) (fun K hK => ?_)
  refine Kd.R_lit_step k82 _ 82 ?hg (N := 13) ?hd (xs := ([(⟨(⟨a0_1, a0_2, a0_3, a0_4⟩ : S27), (-1), (⟨0, 0, 0⟩ : S80), 0⟩ : S82)] : List (S82))) (inner := [.int .i16 a0_1, .int .i16 a0_2, .int .i16 a0_3, .int .i16 a0_4, .int .i64 (-1), .int .i8 0, .int .i8 0, .int .i8 0, .int .i64 0]) (ok := fun _ => True) (okp := fun _ => True) ?hr ?hp (fun _ hk => hk) trivial (Below.refl _ _) (Nat.le_refl _) (by simp) ?_; (case hd => rfl); (case hg => rfl); (case hr => first | (go_simp; done) | (go_simp; rfl)); (case hp => exact (Reps.c9 (show Kd.M k82 _ _ _ (⟨(⟨a0_1, a0_2, a0_3, a0_4⟩ : S27), (-1), (⟨0, 0, 0⟩ : S80), 0⟩ : S82) [.int .i16 a0_1, .int .i16 a0_2, .int .i16 a0_3, .int .i16 a0_4, .int .i64 (-1), .int .i8 0, .int .i8 0, .int .i8 0, .int .i64 0] from (k82_mkM _ _ _ (⟨(⟨a0_1, a0_2, a0_3, a0_4⟩ : S27), (-1), (⟨0, 0, 0⟩ : S80), 0⟩ : S82) )) (Reps.none _ _)))
  intro v145 w7 ho6 hb hg_ hnew_
  clear hg_ hnew_
  rw [← Ny144.out] at ho6
  have n0_ := za.mk (Kd.R_lower ho6 (zaa HB.out))
  have n1_ := za.mk (zca BK142.out hb)
  have n3_ := za.mk (zh HB.out hb)
  have n2_ := za.mk (IsM.below HM.out hb)
  clear HM
  have HM := n2_
  clear n2_
  clear BK142 HB
  have HO146 := n0_
  have BK142 := n1_
  have HB := n3_
  clear n0_ n1_ n3_ hb ho6
  refine hK.out _ _ ⟨(zb BK142.out 0).trans rfl, (zb BK142.out 1).trans rfl, (zb BK142.out 2).trans rfl, (zb BK142.out 3).trans rfl, (zb BK142.out 4).trans rfl, (zb BK142.out 5).trans rfl⟩ (fun hHeld => ?_)
  clear hK K
  refine zma (a' := ?_) ?_ ?_
  rotate_left
  ·show Act.put _ (some 13) _ = _
   simp only [Act.put, List.setIfInBounds_toArray, List.set_cons_zero, List.set_cons_succ, zz, zy]
   rfl
  refine zfa (i := 9) (N := some 3) (v := ?_) (a' := ?_) #[true, true, true, true, true, true, true, true, true, true, false] rfl rfl (by kernel_rfl) (fun _ _ _ h => h) (Or.inl ⟨by rfl, ?_⟩) ?_ ?_
  rotate_left
  ·intro w'
   go_simp
   with_reducible rfl
  rotate_left
  ·simp only [Act.put, List.setIfInBounds_toArray, List.set_cons_zero, List.set_cons_succ, zz, zy]
   rfl
  exact zma (by simp only [zra, Act.put, List.setIfInBounds_toArray, List.set_cons_zero, List.set_cons_succ]) (hCont (v145, gb143) _ ⟨hHeld, HO146.out, BK142.out, HM.out, GE143.out, NB142_143.out, HB.out⟩)
 rintro ⟨v145, gb143⟩ w8 ⟨hS_, h0_, h1_, h2_, h3_, h4_, h5_⟩
 clear BK142 HB
 have HO146 := za.mk h0_
 have BK142 := za.mk h1_
 have GE143 : za (w.heap.size ≤ gb143) := ⟨h3_⟩
 have NB142_143 : za (gb142 ≠ gb143) := ⟨h4_⟩
 have NB143_142 : za (gb143 ≠ gb142) := ⟨fun e => h4_ e.symm⟩
 have HB := za.mk h5_
 obtain ⟨es0, mc0, hM_, hF_⟩ := isM_open h2_
 rw [← Ny144.out] at hF_
 have BK143 : za (w8.heap[gb143]? = some (.map es0 mc0)) := ⟨hM_⟩
 have FM := za.mk hF_
 clear h0_ h1_ h2_ h3_ h4_ h5_ hM_ hF_ hHeld
 have hHeld := hS_
 clear hS_
 refine zma (a' := ?_) ?_ ?_
 rotate_left
 ·simp only [zra, Act.put, List.setIfInBounds_toArray, List.set_cons_zero, List.set_cons_succ]
  rfl
 refine zfa (i := 10) (N := some 4) (v := ?_) (a' := ?_) #[true, true, true, true, true, true, true, true, true, true, true] rfl rfl (by kernel_rfl) (fun _ _ _ h => h) (Or.inl ⟨by rfl, ?_⟩) ?_ ?_
 rotate_left
 ·intro w'
  go_simp
  with_reducible rfl
 rotate_left
 ·simp only [Act.put, List.setIfInBounds_toArray, List.set_cons_zero, List.set_cons_succ, zz, zy]
  rfl
 refine zae (by kernel_rfl) ?_
 clear hHeld
 try go_wp2
 go_loopg [3, 5] k (fun kq v3 v5 w' => ∃ (x3_1 : List (S82)) (x5_1 : Int) (es1 : Array MapEntry) (mc1 : Nat), v5 = .int .i64 x5_1 ∧ za (impl_Puzzle_search.l0 kq x3_1 x5_1 l0_0 a0_1 a0_2 a0_3 a0_4 a0_5 = some r) ∧ za (kq ≤ k) ∧ za (Kd.R k82 82 w' w.heap.size (fun _ => True) v3 x3_1) ∧ za (w'.heap[gb142]? = some (.cells #[(.slice A0_0 l0_0.length c0_0), .int .i16 a0_1, .int .i16 a0_2, .int .i16 a0_3, .int .i16 a0_4, .bool a0_5] 29 (0, 0))) ∧ za (w'.heap[gb143]? = some (.map es1 mc1)) ∧ za (MF es1 mc1 x3_1) ∧ za (Below w.heap.size w w'))
 case atStart => exact ⟨(y144), (0), es0, mc0, (by first | rfl | (simp; done) | (simp [*]; done)), H', ⟨Nat.le_refl _⟩, ⟨uR HO146⟩, ⟨uK BK142⟩, ⟨uK BK143⟩, FM, ⟨sB⟩⟩
 case round =>
  clear H'
  try clear p2
  try clear c5
  obtain ⟨x3_1, x5_1, es1, mc1, rfl, HA, HK1, HO_3, BK142, BK143, FM, HB⟩ := hrel
  cases gk with
  | zero => exact absurd HA.out (by simp [impl_Puzzle_search.l0])
  | succ k1 =>
   have H := HA.out
   clear HA
   simp only [impl_Puzzle_search.l0] at H
   by_cases c7 : x5_1 < (x3_1.length : Int)
   ·rw [if_pos c7] at H
    have c7b0 : decide (x5_1 < (x3_1.length : Int)) = true := decide_eq_true c7
    clear c7
    by_cases c8 : 0 ≤ x5_1
    rotate_left
    ·rw [if_neg c8] at H
     exact absurd H (by simp)
    rw [if_pos c8] at H
    have c8b0 : decide (0 ≤ x5_1) = true := decide_eq_true c8
    clear c8
    replace H := Option.bind_eq_some_iff.mp H
    obtain ⟨t148, A90, H⟩ := H
    replace H : (impl_Puzzle_search.l1 k1 x3_1 x5_1 t148 (t148.length : Int) 0 l0_0 a0_1 a0_2 a0_3 a0_4 a0_5) = some r := H
    have A9 := za.mk A90
    clear A90
    have H' := za.mk H
    clear H
    obtain ⟨Ao10, co10, eo10⟩ := Kd.R_slice HO_3.out
    subst eo10
    try go_wp2
    have n0_ := za.mk (Kd.R_drew HO_3.out)
    have n1_ := za.mk (zf BK142.out)
    have n2_ := za.mk (zf BK143.out)
    have n3_ := za.mk (zv HB.out)
    clear HO_3
    clear BK142
    clear BK143
    clear HB
    have HO_3 := n0_
    have BK142 := n1_
    have BK143 := n2_
    have HB := n3_
    clear n0_ n1_ n2_ n3_
    have p147 : 0 ≤ (x5_1 : Int) := of_decide_eq_true (by first | (with_reducible assumption) | assumption)
    have q147 : x5_1 < (x3_1.length : Int) := of_decide_eq_true (by first | (with_reducible assumption) | assumption)
    obtain ⟨ad147, e147, hx147_0, hx147_1, hx147_2, hx147_3, hx147_4, hx147_5, hx147_6, hx147_7, hx147_8⟩ := at_T82 (Kd.R_reads' HO_3.out).2.2 x5_1 p147 q147
    cases e147
    replace p147 := eq_true p147
    replace q147 := eq_true q147
    refine zlc (n := 9) (S := fun w' => w'.cell? ⟨gb142, 0, none⟩ = some (.slice A0_0 l0_0.length c0_0) ∧ w'.cell? ⟨gb142, 1, none⟩ = some (.int .i16 a0_1) ∧ w'.cell? ⟨gb142, 2, none⟩ = some (.int .i16 a0_2) ∧ w'.cell? ⟨gb142, 3, none⟩ = some (.int .i16 a0_3) ∧ w'.cell? ⟨gb142, 4, none⟩ = some (.int .i16 a0_4) ∧ w'.cell? ⟨gb142, 5, none⟩ = some (.bool a0_5) ∧ w'.cell? (ad147.add ((x5_1).toNat * 9)) = some (.int .i16 ((zl x3_1 x5_1).f0.f0)) ∧ w'.cell? ⟨(ad147.add ((x5_1).toNat * 9)).block, (ad147.add ((x5_1).toNat * 9)).off + 1, none⟩ = some (.int .i16 ((zl x3_1 x5_1).f0.f1)) ∧ w'.cell? ⟨(ad147.add ((x5_1).toNat * 9)).block, (ad147.add ((x5_1).toNat * 9)).off + 2, none⟩ = some (.int .i16 ((zl x3_1 x5_1).f0.f2)) ∧ w'.cell? ⟨(ad147.add ((x5_1).toNat * 9)).block, (ad147.add ((x5_1).toNat * 9)).off + 3, none⟩ = some (.int .i16 ((zl x3_1 x5_1).f0.f3)) ∧ w'.cell? ⟨(ad147.add ((x5_1).toNat * 9)).block, (ad147.add ((x5_1).toNat * 9)).off + 4, none⟩ = some (.int .i64 ((zl x3_1 x5_1).f1)) ∧ w'.cell? ⟨(ad147.add ((x5_1).toNat * 9)).block, (ad147.add ((x5_1).toNat * 9)).off + 5, none⟩ = some (.int .i8 ((zl x3_1 x5_1).f2.f0)) ∧ w'.cell? ⟨(ad147.add ((x5_1).toNat * 9)).block, (ad147.add ((x5_1).toNat * 9)).off + 6, none⟩ = some (.int .i8 ((zl x3_1 x5_1).f2.f1)) ∧ w'.cell? ⟨(ad147.add ((x5_1).toNat * 9)).block, (ad147.add ((x5_1).toNat * 9)).off + 7, none⟩ = some (.int .i8 ((zl x3_1 x5_1).f2.f2)) ∧ w'.cell? ⟨(ad147.add ((x5_1).toNat * 9)).block, (ad147.add ((x5_1).toNat * 9)).off + 8, none⟩ = some (.int .i64 ((zl x3_1 x5_1).f3))) (ds := []) #[false, false, false, false, false, false, false, false, false] (by kernel_rfl) rfl rfl ⟨(zb BK142.out 0).trans rfl, (zb BK142.out 1).trans rfl, (zb BK142.out 2).trans rfl, (zb BK142.out 3).trans rfl, (zb BK142.out 4).trans rfl, (zb BK142.out 5).trans rfl, hx147_0, hx147_1, hx147_2, hx147_3, hx147_4, hx147_5, hx147_6, hx147_7, hx147_8⟩ (fun hHeld => ?_); refine zpb impl_Puzzle_search.tab5 impl_Puzzle_search.bits5 (fun HT_ HW_ => ?_)
    generalize wr.drew = w11 at HO_3 BK142 BK143 HB hx147_0 hx147_1 hx147_2 hx147_3 hx147_4 hx147_5 hx147_6 hx147_7 hx147_8 hHeld ⊢
    refine zfa (i := 1) (N := some 25) (v := ?_) (a' := ?_) #[false, true, false, false, false, false, false, false, false] rfl rfl (zda HT_.out (by kernel_rfl)) (fun _ _ _ h => h) (Or.inl ⟨by rfl, ?_⟩) ?_ ?_
    rotate_left
    ·intro w'
     go_simp
     with_reducible rfl
    rotate_left
    ·simp only [Act.put, List.setIfInBounds_toArray, List.set_cons_zero, List.set_cons_succ, zz, zy]
     rfl
    refine zfa (i := 2) (N := some 26) (v := ?_) (a' := ?_) #[false, true, true, false, false, false, false, false, false] rfl rfl (zda HT_.out (by kernel_rfl)) (fun _ _ _ h => h) (Or.inl ⟨by rfl, ?_⟩) ?_ ?_
    rotate_left
    ·intro w'
     go_simp
     with_reducible rfl
    rotate_left
    ·simp only [Act.put, List.setIfInBounds_toArray, List.set_cons_zero, List.set_cons_succ, zz, zy]
     rfl
    refine zfa (i := 3) (N := some 27) (v := ?_) (a' := ?_) #[false, true, true, true, false, false, false, false, false] rfl rfl (zda HT_.out (by kernel_rfl)) (fun _ _ _ h => h) (Or.inl ⟨by rfl, ?_⟩) ?_ ?_
    rotate_left
    ·intro w'
     go_simp
     with_reducible rfl
    rotate_left
    ·simp only [Act.put, List.setIfInBounds_toArray, List.set_cons_zero, List.set_cons_succ, zz, zy]
     rfl
    refine zfa (i := 4) (N := some 28) (v := ?_) (a' := ?_) #[false, true, true, true, true, false, false, false, false] rfl rfl (zda HT_.out (by kernel_rfl)) (fun _ _ _ h => h) (Or.inl ⟨by rfl, ?_⟩) ?_ ?_
    rotate_left
    ·intro w'
     go_simp
     with_reducible rfl
    rotate_left
    ·simp only [Act.put, List.setIfInBounds_toArray, List.set_cons_zero, List.set_cons_succ, zz, zy]
     rfl
    refine zfa (i := 8) (N := some 32) (v := ?_) (a' := ?_) #[false, true, true, true, true, false, false, false, true] rfl rfl (zda HT_.out (by kernel_rfl)) (fun _ _ _ h => h) (Or.inl ⟨by rfl, ?_⟩) ?_ ?_
    rotate_left
    ·intro w'
     go_simp
     with_reducible rfl
    rotate_left
    ·simp only [Act.put, List.setIfInBounds_toArray, List.set_cons_zero, List.set_cons_succ, zz, zy]
     rfl
    refine take_ (i := 0) (N := some 24) (v := ?_) (a' := ?_) #[true, true, true, true, true, false, false, false, true] rfl rfl (zwa HT_.out HW_.out (by kernel_rfl)) (fun _ _ _ h => h) (Or.inl ⟨by rfl, ?_⟩) hHeld ?_ ?_
    rotate_left
    ·rintro w' ⟨s0, s1, s2, s3, s4, s5, s6, s7, s8, s9, s10, s11, s12, s13, s14⟩
     go_simp
     with_reducible rfl
    rotate_left
    ·simp only [Act.put, List.setIfInBounds_toArray, List.set_cons_zero, List.set_cons_succ, zz, zy]
     rfl
    refine take_ (i := 5) (N := some 29) (v := ?_) (a' := ?_) #[true, true, true, true, true, true, false, false, true] rfl rfl (zwa HT_.out HW_.out (by kernel_rfl)) (fun _ _ _ h => h) (Or.inl ⟨by rfl, ?_⟩) hHeld ?_ ?_
    rotate_left
    ·rintro w' ⟨s0, s1, s2, s3, s4, s5, s6, s7, s8, s9, s10, s11, s12, s13, s14⟩
     go_simp
     with_reducible rfl
    rotate_left
    ·simp only [Act.put, List.setIfInBounds_toArray, List.set_cons_zero, List.set_cons_succ, zz, zy]
     rfl
    refine one_ (i := 6) (N := some 30) #[true, true, true, true, true, true, true, false, true] rfl rfl (ztb HT_.out (by kernel_rfl)) (by decide) (fun K hK => ?_)
    refine zyd Try.func91 (by kernel_rfl) rfl #[.agg #[.slice A0_0 l0_0.length c0_0, .int .i16 a0_1, .int .i16 a0_2, .int .i16 a0_3, .int .i16 a0_4, .bool a0_5], .agg #[.int .i16 ((zl x3_1 x5_1).f0.f0), .int .i16 ((zl x3_1 x5_1).f0.f1), .int .i16 ((zl x3_1 x5_1).f0.f2), .int .i16 ((zl x3_1 x5_1).f0.f3)]] (by rfl) rfl rfl (by (try simp only [List.map_toArray, List.map_cons, List.map_nil]); first | done | rfl | (simp only [List.length_drop, List.length_take]; rfl)) ?_
    with_reducible refine (impl_Puzzle_moves.calls k1 _ _ l0_0 a0_1 a0_2 a0_3 a0_4 a0_5 ((zl x3_1 x5_1).f0.f0) ((zl x3_1 x5_1).f0.f1) ((zl x3_1 x5_1).f0.f2) ((zl x3_1 x5_1).f0.f3) t148 _ ?side1 ?side2 A9.out).mono ?_
    (case side1 => exact uC HR0_0 HB)
    (case side2 => exact HC0_0.out)
    rintro e w12 ⟨v149, rfl, ho0, hb⟩
    have HS6_ := (hb.cell (World.block_lt_of_cell? _ _ (hHeld.2.2.2.2.2.2.1))).trans (hHeld.2.2.2.2.2.2.1)
    have HS7_ := (hb.cell (World.block_lt_of_cell? _ _ (hHeld.2.2.2.2.2.2.2.1))).trans (hHeld.2.2.2.2.2.2.2.1)
    have HS8_ := (hb.cell (World.block_lt_of_cell? _ _ (hHeld.2.2.2.2.2.2.2.2.1))).trans (hHeld.2.2.2.2.2.2.2.2.1)
    have HS9_ := (hb.cell (World.block_lt_of_cell? _ _ (hHeld.2.2.2.2.2.2.2.2.2.1))).trans (hHeld.2.2.2.2.2.2.2.2.2.1)
    have HS10_ := (hb.cell (World.block_lt_of_cell? _ _ (hHeld.2.2.2.2.2.2.2.2.2.2.1))).trans (hHeld.2.2.2.2.2.2.2.2.2.2.1)
    have HS11_ := (hb.cell (World.block_lt_of_cell? _ _ (hHeld.2.2.2.2.2.2.2.2.2.2.2.1))).trans (hHeld.2.2.2.2.2.2.2.2.2.2.2.1)
    have HS12_ := (hb.cell (World.block_lt_of_cell? _ _ (hHeld.2.2.2.2.2.2.2.2.2.2.2.2.1))).trans (hHeld.2.2.2.2.2.2.2.2.2.2.2.2.1)
    have HS13_ := (hb.cell (World.block_lt_of_cell? _ _ (hHeld.2.2.2.2.2.2.2.2.2.2.2.2.2.1))).trans (hHeld.2.2.2.2.2.2.2.2.2.2.2.2.2.1)
    have HS14_ := (hb.cell (World.block_lt_of_cell? _ _ (hHeld.2.2.2.2.2.2.2.2.2.2.2.2.2.2))).trans (hHeld.2.2.2.2.2.2.2.2.2.2.2.2.2.2)
    refine ⟨_, rfl, ?_⟩
    have n0_ := dR HO_3 hb
    have n1_ := za.mk (Kd.R_lower ho0 (zaa sB))
    have n2_ := dK BK142 hb
    have n3_ := za.mk (zca (g := gb143) (o := .map es1 mc1) (uK BK143) hb)
    have n4_ := za.mk (zh sB hb)
    clear HO_3
    clear BK142
    clear BK143
    clear HB
    have HO_3 := n0_
    have HO150 := n1_
    have BK142 := n2_
    have BK143 := n3_
    have HB := n4_
    clear n0_ n1_ n2_ n3_ n4_
    (try clear hb)
    (try clear hb2)
    (try clear hk)
    (try clear hi)
    (try clear ho0)
    obtain ⟨Ao13, co13, eo13⟩ := Kd.R_slice HO150.out
    (first | subst eo13 | (injection eo13 with f1_ f2_ f3_; have f4_ := f1_.symm; have f5_ := f3_.symm; clear f1_ f2_ f3_; subst f4_; subst f5_))
    refine hK.out _ _ ⟨(zb BK142.out 0).trans rfl, (zb BK142.out 1).trans rfl, (zb BK142.out 2).trans rfl, (zb BK142.out 3).trans rfl, (zb BK142.out 4).trans rfl, (zb BK142.out 5).trans rfl, HS6_, HS7_, HS8_, HS9_, HS10_, HS11_, HS12_, HS13_, HS14_⟩ (fun hHeld => ?_)
    clear hK K
    refine zma (a' := ?_) ?_ ?_
    rotate_left
    ·show Act.put _ (some 30) _ = _
     simp only [Act.put, List.setIfInBounds_toArray, List.set_cons_zero, List.set_cons_succ, zz, zy]
     rfl
    refine zfa (i := 7) (N := some 31) (v := ?_) (a' := ?_) #[true, true, true, true, true, true, true, true, true] rfl rfl (zda HT_.out (by kernel_rfl)) (fun _ _ _ h => h) (Or.inl ⟨by rfl, ?_⟩) ?_ ?_
    rotate_left
    ·intro w'
     go_simp
     with_reducible rfl
    rotate_left
    ·simp only [Act.put, List.setIfInBounds_toArray, List.set_cons_zero, List.set_cons_succ, zz, zy]
     rfl
    refine zae (zfc HT_.out (by kernel_rfl)) ?_
    try go_wp2
    go_loopg [3, 32] k1 (fun kq v3 v32 w' => ∃ (x3_2 : List (S82)) (x32_2 : Int) (es2 : Array MapEntry) (mc2 : Nat), v32 = .int .i64 x32_2 ∧ za (impl_Puzzle_search.l1 kq x3_2 x5_1 t148 (t148.length : Int) x32_2 l0_0 a0_1 a0_2 a0_3 a0_4 a0_5 = some r) ∧ za (kq ≤ k1) ∧ za (Kd.R k82 82 w' w.heap.size (fun _ => True) v3 x3_2) ∧ za (Kd.R k80 80 w' w.heap.size (fun _ => True) (.slice Ao13 t148.length co13) t148) ∧ za (w'.heap[gb142]? = some (.cells #[(.slice A0_0 l0_0.length c0_0), .int .i16 a0_1, .int .i16 a0_2, .int .i16 a0_3, .int .i16 a0_4, .bool a0_5] 29 (0, 0))) ∧ za (w'.heap[gb143]? = some (.map es2 mc2)) ∧ za (MF es2 mc2 x3_2) ∧ za (Below w.heap.size w w'))
    case atStart => exact ⟨(x3_1), (0), es1, mc1, (by first | rfl | (simp; done) | (simp [*]; done)), H', ⟨Nat.le_refl _⟩, ⟨uR HO_3⟩, ⟨uR HO150⟩, ⟨uK BK142⟩, ⟨uK BK143⟩, FM, ⟨sB⟩⟩
    case round =>
     clear H'
     try clear p1
     try clear q1
     try clear hx1
     try clear p2
     try clear c5
     try clear c7
     try clear c7b0
     try clear c8
     try clear c8b0
     try clear c9
     try clear hx147_0
     try clear hx147_1
     try clear hx147_2
     try clear hx147_3
     try clear hx147_4
     try clear hx147_5
     try clear hx147_6
     try clear hx147_7
     try clear hx147_8
     try clear p147
     try clear p2
     try clear q147
     obtain ⟨x3_2, x32_2, es2, mc2, rfl, HA, HK2, HO_3, HO_30, BK142, BK143, FM, HB⟩ := hrel
     cases gk with
     | zero => exact absurd HA.out (by simp [impl_Puzzle_search.l1])
     | succ k2 =>
      have H := HA.out
      clear HA
      simp only [impl_Puzzle_search.l1] at H
      by_cases c14 : x32_2 < (t148.length : Int)
      ·rw [if_pos c14] at H
       have c14b0 : decide (x32_2 < (t148.length : Int)) = true := decide_eq_true c14
       clear c14
       by_cases c15 : 0 ≤ x32_2
       rotate_left
       ·rw [if_neg c15] at H
        exact absurd H (by simp)
       rw [if_pos c15] at H
       have c15b0 : decide (0 ≤ x32_2) = true := decide_eq_true c15
       clear c15
       by_cases c16 : x32_2 < (t148.length : Int)
       rotate_left
       ·rw [if_neg c16] at H
        exact absurd H (by simp)
       rw [if_pos c16] at H
       have c16b0 : decide (x32_2 < (t148.length : Int)) = true := decide_eq_true c16
       clear c16
       by_cases c17 : 0 ≤ x5_1
       rotate_left
       ·rw [if_neg c17] at H
        exact absurd H (by simp)
       rw [if_pos c17] at H
       have c17b0 : decide (0 ≤ x5_1) = true := decide_eq_true c17
       clear c17
       by_cases c18 : x5_1 < (x3_2.length : Int)
       rotate_left
       ·rw [if_neg c18] at H
        exact absurd H (by simp)
       rw [if_pos c18] at H
       have c18b0 : decide (x5_1 < (x3_2.length : Int)) = true := decide_eq_true c18
       clear c18
       replace H := Option.bind_eq_some_iff.mp H
       obtain ⟨⟨t154, t155, t156, t157, t158⟩, A190, H⟩ := H
       have HWF : za (wfW (⟨t154, t155, t156, t157⟩ : S27)) := ⟨(mvd_inv A190).2⟩
       replace A190 := (mvd_inv A190).1
       replace H : (if inQ x3_2 (⟨t154, t155, t156, t157⟩ : S27) = true then (impl_Puzzle_search.l1 k2 x3_2 x5_1 t148 (t148.length : Int) (wrap64 (x32_2 + 1)) l0_0 a0_1 a0_2 a0_3 a0_4 a0_5) else (if x3_2.length < 4398046511104 then (impl_Puzzle_search.l1 k2 (x3_2 ++ [(⟨(⟨t154, t155, t156, t157⟩ : S27), x5_1, (⟨(zi t148 x32_2).f0, (zi t148 x32_2).f1, (zi t148 x32_2).f2⟩ : S80), wrap64 (((zl x3_2 x5_1).f3) + 1)⟩ : S82)]) x5_1 t148 (t148.length : Int) (wrap64 (x32_2 + 1)) l0_0 a0_1 a0_2 a0_3 a0_4 a0_5) else (none))) = some r := H
       have A19 := za.mk A190
       clear A190
       have HS_ := za.mk H
       clear H
       have p151 : 0 ≤ (x32_2 : Int) := of_decide_eq_true (by first | (with_reducible assumption) | assumption)
       have q151 : x32_2 < (t148.length : Int) := of_decide_eq_true (by first | (with_reducible assumption) | assumption)
       obtain ⟨ad151, e151, hx151_0, hx151_1, hx151_2⟩ := at_T80 (Kd.R_reads' HO_30.out).2.2 x32_2 p151 q151
       cases e151
       replace p151 := eq_true p151
       replace q151 := eq_true q151
       try go_wp2_with (first | ((with_reducible refine zu (N := 7) rfl ?_); refine bx (N := 7) #[.int .i8 0, .int .i8 0, .int .i8 0] 80 rfl ?_; intro gb152 hg w21 hbox hb; have BK152 := za.mk hbox; have GW152 := gB hg; have GE152 := GW152; have NB142_152 := nK hg BK142; have NB152_142 := za.mk NB142_152.out.symm; have NB143_152 := za.mk ((by rw [hg]; exact Nat.ne_of_lt (zfb (g := gb143) (o := .map es2 mc2) (uK BK143)) : gb143 ≠ gb152)); have NB152_143 := za.mk NB143_152.out.symm; replace HO_3 := dR HO_3 hb; replace HO_30 := za.mk (Kd.R_below (Kd.R_elderB (uR HO_30) gb152 (Nat.le_of_eq hg.symm)) hb); replace BK142 := dK BK142 hb; replace BK143 := za.mk (zca (g := gb143) (o := .map es2 mc2) (uK BK143) hb); replace HB := za.mk (zh sB hb); clear hb hbox hg; have hnb22 := NB152_142.out; have hnc22 := NB142_152.out; have hnb23 := NB152_143.out; have hnc23 := NB143_152.out; obtain ⟨hcz24_0, hcz24_1, hcz24_2⟩ := xc3 BK152; obtain ⟨hfz24_0, hfz24_1, hfz24_2⟩ := xf3 BK152))
       have n0_ : za (Kd.R k82 82 (((w21.setCell ⟨gb152, 0, none⟩ (.int .i8 ((zi t148 x32_2).f0))).setCell ⟨gb152, 1, none⟩ (.int .i8 ((zi t148 x32_2).f1))).setCell ⟨gb152, 2, none⟩ (.int .i8 ((zi t148 x32_2).f2))) w.heap.size (fun _ => True) u3 x3_2) := ⟨by (with_reducible repeat (first | apply Kd.R_alloc | apply Kd.R_drewN | apply Kd.R_drew)); exact Kd.R_mono (Kd.R_far (p := ⟨gb152, 2, none⟩) (Kd.R_far (p := ⟨gb152, 1, none⟩) (Kd.R_far (p := ⟨gb152, 0, none⟩) (Kd.R_types HO_3.out BK152.out (by decide)) (fun _ hk => hk.2) (.int .i8 ((zi t148 x32_2).f0))) (fun _ hk => hk.2) (.int .i8 ((zi t148 x32_2).f1))) (fun _ hk => hk.2) (.int .i8 ((zi t148 x32_2).f2))) (fun _ hk => trivial)⟩
       have n1_ : za (Kd.R k80 80 (((w21.setCell ⟨gb152, 0, none⟩ (.int .i8 ((zi t148 x32_2).f0))).setCell ⟨gb152, 1, none⟩ (.int .i8 ((zi t148 x32_2).f1))).setCell ⟨gb152, 2, none⟩ (.int .i8 ((zi t148 x32_2).f2))) w.heap.size (fun k_ => k_ ≠ gb152) (.slice (some ad151) t148.length co13) t148) := ⟨by (with_reducible repeat (first | apply Kd.R_alloc | apply Kd.R_drewN | apply Kd.R_drew)); exact Kd.R_mono (Kd.R_far (p := ⟨gb152, 2, none⟩) (Kd.R_far (p := ⟨gb152, 1, none⟩) (Kd.R_far (p := ⟨gb152, 0, none⟩) (Kd.R_mono HO_30.out (fun k_ hk => (⟨hk, hk.2⟩ : _ ∧ k_ ≠ gb152))) (fun _ hk => hk.2) (.int .i8 ((zi t148 x32_2).f0))) (fun _ hk => hk.2) (.int .i8 ((zi t148 x32_2).f1))) (fun _ hk => hk.2) (.int .i8 ((zi t148 x32_2).f2))) (fun _ hk => hk.1.2)⟩
       have n2_ : za ((((w21.setCell ⟨gb152, 0, none⟩ (.int .i8 ((zi t148 x32_2).f0))).setCell ⟨gb152, 1, none⟩ (.int .i8 ((zi t148 x32_2).f1))).setCell ⟨gb152, 2, none⟩ (.int .i8 ((zi t148 x32_2).f2))).heap[gb142]? = some (.cells #[.slice A0_0 l0_0.length c0_0, .int .i16 a0_1, .int .i16 a0_2, .int .i16 a0_3, .int .i16 a0_4, .bool a0_5] 29 (0, 0))) := ⟨by (with_reducible repeat (first | refine ze ?_ _ | refine zf ?_ | refine zc ?_ _)); refine zm ?_ NB142_152.out _; (with_reducible repeat (first | refine ze ?_ _ | refine zf ?_ | refine zc ?_ _)); refine zm ?_ NB142_152.out _; (with_reducible repeat (first | refine ze ?_ _ | refine zf ?_ | refine zc ?_ _)); refine zm ?_ NB142_152.out _; (with_reducible repeat (first | refine ze ?_ _ | refine zf ?_ | refine zc ?_ _)); exact BK142.out⟩
       have n3_ : za ((((w21.setCell ⟨gb152, 0, none⟩ (.int .i8 ((zi t148 x32_2).f0))).setCell ⟨gb152, 1, none⟩ (.int .i8 ((zi t148 x32_2).f1))).setCell ⟨gb152, 2, none⟩ (.int .i8 ((zi t148 x32_2).f2))).heap[gb143]? = some (.map es2 mc2)) := ⟨by (with_reducible repeat (first | refine ze ?_ _ | refine zf ?_ | refine zc ?_ _)); refine zka ?_ NB143_152.out _; (with_reducible repeat (first | refine ze ?_ _ | refine zf ?_ | refine zc ?_ _)); refine zka ?_ NB143_152.out _; (with_reducible repeat (first | refine ze ?_ _ | refine zf ?_ | refine zc ?_ _)); refine zka ?_ NB143_152.out _; (with_reducible repeat (first | refine ze ?_ _ | refine zf ?_ | refine zc ?_ _)); exact BK143.out⟩
       have n4_ : za ((((w21.setCell ⟨gb152, 0, none⟩ (.int .i8 ((zi t148 x32_2).f0))).setCell ⟨gb152, 1, none⟩ (.int .i8 ((zi t148 x32_2).f1))).setCell ⟨gb152, 2, none⟩ (.int .i8 ((zi t148 x32_2).f2))).heap[gb152]? = some (.cells #[.int .i8 ((zi t148 x32_2).f0), .int .i8 ((zi t148 x32_2).f1), .int .i8 ((zi t148 x32_2).f2)] 80 (0, 0))) := ⟨by (with_reducible repeat (first | refine ze ?_ _ | refine zf ?_ | refine zc ?_ _)); refine zx (cs := #[.int .i8 ((zi t148 x32_2).f0), .int .i8 ((zi t148 x32_2).f1), .int .i8 0]) ?_ 2 _ rfl; (with_reducible repeat (first | refine ze ?_ _ | refine zf ?_ | refine zc ?_ _)); refine zx (cs := #[.int .i8 ((zi t148 x32_2).f0), .int .i8 0, .int .i8 0]) ?_ 1 _ rfl; (with_reducible repeat (first | refine ze ?_ _ | refine zf ?_ | refine zc ?_ _)); refine zx (cs := #[.int .i8 0, .int .i8 0, .int .i8 0]) ?_ 0 _ rfl; (with_reducible repeat (first | refine ze ?_ _ | refine zf ?_ | refine zc ?_ _)); exact BK152.out⟩
       have n5_ : za (Below w.heap.size w (((w21.setCell ⟨gb152, 0, none⟩ (.int .i8 ((zi t148 x32_2).f0))).setCell ⟨gb152, 1, none⟩ (.int .i8 ((zi t148 x32_2).f1))).setCell ⟨gb152, 2, none⟩ (.int .i8 ((zi t148 x32_2).f2)))) := ⟨sB⟩
       (try clear HO_3)
       (try clear HO_30)
       (try clear BK142)
       (try clear BK143)
       (try clear BK152)
       (try clear HB)
       generalize (((w21.setCell ⟨gb152, 0, none⟩ (.int .i8 ((zi t148 x32_2).f0))).setCell ⟨gb152, 1, none⟩ (.int .i8 ((zi t148 x32_2).f1))).setCell ⟨gb152, 2, none⟩ (.int .i8 ((zi t148 x32_2).f2))) = w25 at n0_ n1_ n2_ n3_ n4_ n5_ ⊢
       have HO_3 := n0_
       have HO_30 := n1_
       have BK142 := n2_
       have BK143 := n3_
       have BK152 := n4_
       have HB := n5_
       clear n0_ n1_ n2_ n3_ n4_ n5_
       have n0_ := za.mk (Kd.R_drew HO_3.out)
       have n1_ := za.mk (Kd.R_drew HO_30.out)
       have n2_ := za.mk (zf BK142.out)
       have n3_ := za.mk (zf BK143.out)
       have n4_ := za.mk (zf BK152.out)
       have n5_ := za.mk (zv HB.out)
       clear HO_3
       clear HO_30
       clear BK142
       clear BK143
       clear BK152
       clear HB
       have HO_3 := n0_
       have HO_30 := n1_
       have BK142 := n2_
       have BK143 := n3_
       have BK152 := n4_
       have HB := n5_
       clear n0_ n1_ n2_ n3_ n4_ n5_
       obtain ⟨Ao27, co27, eo27⟩ := Kd.R_slice HO_3.out
       (first | subst eo27 | (injection eo27 with f1_ f2_ f3_; have f4_ := f1_.symm; have f5_ := f3_.symm; clear f1_ f2_ f3_; subst f4_; subst f5_))
       have p153 : 0 ≤ (x5_1 : Int) := of_decide_eq_true (by first | (with_reducible assumption) | assumption)
       have q153 : x5_1 < (x3_2.length : Int) := of_decide_eq_true (by first | (with_reducible assumption) | assumption)
       obtain ⟨ad153, e153, hx153_0, hx153_1, hx153_2, hx153_3, hx153_4, hx153_5, hx153_6, hx153_7, hx153_8⟩ := at_T82 (Kd.R_reads' HO_3.out).2.2 x5_1 p153 q153
       cases e153
       replace p153 := eq_true p153
       replace q153 := eq_true q153
       refine zlc (n := 14) (S := fun w' => w'.cell? ⟨gb142, 0, none⟩ = some (.slice A0_0 l0_0.length c0_0) ∧ w'.cell? ⟨gb142, 1, none⟩ = some (.int .i16 a0_1) ∧ w'.cell? ⟨gb142, 2, none⟩ = some (.int .i16 a0_2) ∧ w'.cell? ⟨gb142, 3, none⟩ = some (.int .i16 a0_3) ∧ w'.cell? ⟨gb142, 4, none⟩ = some (.int .i16 a0_4) ∧ w'.cell? ⟨gb142, 5, none⟩ = some (.bool a0_5) ∧ w'.cell? ⟨gb152, 0, none⟩ = some (.int .i8 ((zi t148 x32_2).f0)) ∧ w'.cell? ⟨gb152, 1, none⟩ = some (.int .i8 ((zi t148 x32_2).f1)) ∧ w'.cell? ⟨gb152, 2, none⟩ = some (.int .i8 ((zi t148 x32_2).f2)) ∧ w'.cell? (ad153.add ((x5_1).toNat * 9)) = some (.int .i16 ((zl x3_2 x5_1).f0.f0)) ∧ w'.cell? ⟨(ad153.add ((x5_1).toNat * 9)).block, (ad153.add ((x5_1).toNat * 9)).off + 1, none⟩ = some (.int .i16 ((zl x3_2 x5_1).f0.f1)) ∧ w'.cell? ⟨(ad153.add ((x5_1).toNat * 9)).block, (ad153.add ((x5_1).toNat * 9)).off + 2, none⟩ = some (.int .i16 ((zl x3_2 x5_1).f0.f2)) ∧ w'.cell? ⟨(ad153.add ((x5_1).toNat * 9)).block, (ad153.add ((x5_1).toNat * 9)).off + 3, none⟩ = some (.int .i16 ((zl x3_2 x5_1).f0.f3)) ∧ w'.cell? ⟨(ad153.add ((x5_1).toNat * 9)).block, (ad153.add ((x5_1).toNat * 9)).off + 4, none⟩ = some (.int .i64 ((zl x3_2 x5_1).f1)) ∧ w'.cell? ⟨(ad153.add ((x5_1).toNat * 9)).block, (ad153.add ((x5_1).toNat * 9)).off + 5, none⟩ = some (.int .i8 ((zl x3_2 x5_1).f2.f0)) ∧ w'.cell? ⟨(ad153.add ((x5_1).toNat * 9)).block, (ad153.add ((x5_1).toNat * 9)).off + 6, none⟩ = some (.int .i8 ((zl x3_2 x5_1).f2.f1)) ∧ w'.cell? ⟨(ad153.add ((x5_1).toNat * 9)).block, (ad153.add ((x5_1).toNat * 9)).off + 7, none⟩ = some (.int .i8 ((zl x3_2 x5_1).f2.f2)) ∧ w'.cell? ⟨(ad153.add ((x5_1).toNat * 9)).block, (ad153.add ((x5_1).toNat * 9)).off + 8, none⟩ = some (.int .i64 ((zl x3_2 x5_1).f3))) (ds := []) #[false, false, false, false, false, false, false, false, false, false, false, false, false, false] (by kernel_rfl) rfl rfl ⟨(zb BK142.out 0).trans rfl, (zb BK142.out 1).trans rfl, (zb BK142.out 2).trans rfl, (zb BK142.out 3).trans rfl, (zb BK142.out 4).trans rfl, (zb BK142.out 5).trans rfl, (zb BK152.out 0).trans rfl, (zb BK152.out 1).trans rfl, (zb BK152.out 2).trans rfl, hx153_0, hx153_1, hx153_2, hx153_3, hx153_4, hx153_5, hx153_6, hx153_7, hx153_8⟩ (fun hHeld => ?_); refine zpb impl_Puzzle_search.tab8 impl_Puzzle_search.bits8 (fun HT_ HW_ => ?_)
       generalize w25.drew = w26 at HO_3 HO_30 BK142 BK143 BK152 HB hx153_0 hx153_1 hx153_2 hx153_3 hx153_4 hx153_5 hx153_6 hx153_7 hx153_8 hHeld ⊢
       refine zfa (i := 1) (N := some 38) (v := ?_) (a' := ?_) #[false, true, false, false, false, false, false, false, false, false, false, false, false, false] rfl rfl (zda HT_.out (by kernel_rfl)) (fun _ _ _ h => h) (Or.inl ⟨by rfl, ?_⟩) ?_ ?_
       rotate_left
       ·intro w'
        go_simp
        with_reducible rfl
       rotate_left
       ·simp only [Act.put, List.setIfInBounds_toArray, List.set_cons_zero, List.set_cons_succ, zz, zy]
        rfl
       refine zfa (i := 2) (N := some 39) (v := ?_) (a' := ?_) #[false, true, true, false, false, false, false, false, false, false, false, false, false, false] rfl rfl (zda HT_.out (by kernel_rfl)) (fun _ _ _ h => h) (Or.inl ⟨by rfl, ?_⟩) ?_ ?_
       rotate_left
       ·intro w'
        go_simp
        with_reducible rfl
       rotate_left
       ·simp only [Act.put, List.setIfInBounds_toArray, List.set_cons_zero, List.set_cons_succ, zz, zy]
        rfl
       refine zfa (i := 3) (N := some 40) (v := ?_) (a' := ?_) #[false, true, true, true, false, false, false, false, false, false, false, false, false, false] rfl rfl (zda HT_.out (by kernel_rfl)) (fun _ _ _ h => h) (Or.inl ⟨by rfl, ?_⟩) ?_ ?_
       rotate_left
       ·intro w'
        go_simp
        with_reducible rfl
       rotate_left
       ·simp only [Act.put, List.setIfInBounds_toArray, List.set_cons_zero, List.set_cons_succ, zz, zy]
        rfl
       refine zfa (i := 4) (N := some 41) (v := ?_) (a' := ?_) #[false, true, true, true, true, false, false, false, false, false, false, false, false, false] rfl rfl (zda HT_.out (by kernel_rfl)) (fun _ _ _ h => h) (Or.inl ⟨by rfl, ?_⟩) ?_ ?_
       rotate_left
       ·intro w'
        go_simp
        with_reducible rfl
       rotate_left
       ·simp only [Act.put, List.setIfInBounds_toArray, List.set_cons_zero, List.set_cons_succ, zz, zy]
        rfl
       refine take_ (i := 0) (N := some 37) (v := ?_) (a' := ?_) #[true, true, true, true, true, false, false, false, false, false, false, false, false, false] rfl rfl (zwa HT_.out HW_.out (by kernel_rfl)) (fun _ _ _ h => h) (Or.inl ⟨by rfl, ?_⟩) hHeld ?_ ?_
       rotate_left
       ·rintro w' ⟨s0, s1, s2, s3, s4, s5, s6, s7, s8, s9, s10, s11, s12, s13, s14, s15, s16, s17⟩
        go_simp
        with_reducible rfl
       rotate_left
       ·simp only [Act.put, List.setIfInBounds_toArray, List.set_cons_zero, List.set_cons_succ, zz, zy]
        rfl
       refine take_ (i := 5) (N := some 42) (v := ?_) (a' := ?_) #[true, true, true, true, true, true, false, false, false, false, false, false, false, false] rfl rfl (zwa HT_.out HW_.out (by kernel_rfl)) (fun _ _ _ h => h) (Or.inl ⟨by rfl, ?_⟩) hHeld ?_ ?_
       rotate_left
       ·rintro w' ⟨s0, s1, s2, s3, s4, s5, s6, s7, s8, s9, s10, s11, s12, s13, s14, s15, s16, s17⟩
        go_simp
        with_reducible rfl
       rotate_left
       ·simp only [Act.put, List.setIfInBounds_toArray, List.set_cons_zero, List.set_cons_succ, zz, zy]
        rfl
       refine take_ (i := 6) (N := some 43) (v := ?_) (a' := ?_) #[true, true, true, true, true, true, true, false, false, false, false, false, false, false] rfl rfl (zwa HT_.out HW_.out (by kernel_rfl)) (fun _ _ _ h => h) (Or.inl ⟨by rfl, ?_⟩) hHeld ?_ ?_
       rotate_left
       ·rintro w' ⟨s0, s1, s2, s3, s4, s5, s6, s7, s8, s9, s10, s11, s12, s13, s14, s15, s16, s17⟩
        go_simp
        with_reducible rfl
       rotate_left
       ·simp only [Act.put, List.setIfInBounds_toArray, List.set_cons_zero, List.set_cons_succ, zz, zy]
        rfl
       refine zse (σ := Nat) 2 #[true, true, true, true, true, true, true, true, true, true, true, true, false, false] (fun s_ => [(44, .tuple #[.agg #[.int .i16 t154, .int .i16 t155, .int .i16 t156, .int .i16 t157], .bool t158]), (8, .pointer (some ⟨s_, 0, none⟩)), (36, .tuple #[.agg #[.int .i16 t154, .int .i16 t155, .int .i16 t156, .int .i16 t157], .bool t158]), (45, .agg #[.int .i16 t154, .int .i16 t155, .int .i16 t156, .int .i16 t157]), (46, .bool t158)]) (fun s_ w' => (w'.cell? ⟨gb142, 0, none⟩ = some (.slice A0_0 l0_0.length c0_0) ∧ w'.cell? ⟨gb142, 1, none⟩ = some (.int .i16 a0_1) ∧ w'.cell? ⟨gb142, 2, none⟩ = some (.int .i16 a0_2) ∧ w'.cell? ⟨gb142, 3, none⟩ = some (.int .i16 a0_3) ∧ w'.cell? ⟨gb142, 4, none⟩ = some (.int .i16 a0_4) ∧ w'.cell? ⟨gb142, 5, none⟩ = some (.bool a0_5) ∧ w'.cell? ⟨gb152, 0, none⟩ = some (.int .i8 ((zi t148 x32_2).f0)) ∧ w'.cell? ⟨gb152, 1, none⟩ = some (.int .i8 ((zi t148 x32_2).f1)) ∧ w'.cell? ⟨gb152, 2, none⟩ = some (.int .i8 ((zi t148 x32_2).f2)) ∧ w'.cell? (ad153.add ((x5_1).toNat * 9)) = some (.int .i16 ((zl x3_2 x5_1).f0.f0)) ∧ w'.cell? ⟨(ad153.add ((x5_1).toNat * 9)).block, (ad153.add ((x5_1).toNat * 9)).off + 1, none⟩ = some (.int .i16 ((zl x3_2 x5_1).f0.f1)) ∧ w'.cell? ⟨(ad153.add ((x5_1).toNat * 9)).block, (ad153.add ((x5_1).toNat * 9)).off + 2, none⟩ = some (.int .i16 ((zl x3_2 x5_1).f0.f2)) ∧ w'.cell? ⟨(ad153.add ((x5_1).toNat * 9)).block, (ad153.add ((x5_1).toNat * 9)).off + 3, none⟩ = some (.int .i16 ((zl x3_2 x5_1).f0.f3)) ∧ w'.cell? ⟨(ad153.add ((x5_1).toNat * 9)).block, (ad153.add ((x5_1).toNat * 9)).off + 4, none⟩ = some (.int .i64 ((zl x3_2 x5_1).f1)) ∧ w'.cell? ⟨(ad153.add ((x5_1).toNat * 9)).block, (ad153.add ((x5_1).toNat * 9)).off + 5, none⟩ = some (.int .i8 ((zl x3_2 x5_1).f2.f0)) ∧ w'.cell? ⟨(ad153.add ((x5_1).toNat * 9)).block, (ad153.add ((x5_1).toNat * 9)).off + 6, none⟩ = some (.int .i8 ((zl x3_2 x5_1).f2.f1)) ∧ w'.cell? ⟨(ad153.add ((x5_1).toNat * 9)).block, (ad153.add ((x5_1).toNat * 9)).off + 7, none⟩ = some (.int .i8 ((zl x3_2 x5_1).f2.f2)) ∧ w'.cell? ⟨(ad153.add ((x5_1).toNat * 9)).block, (ad153.add ((x5_1).toNat * 9)).off + 8, none⟩ = some (.int .i64 ((zl x3_2 x5_1).f3))) ∧ (Kd.R k82 82 w' w.heap.size (fun _ => True) (.slice (some ad153) x3_2.length co27) x3_2) ∧ (Kd.R k80 80 w' w.heap.size (fun k_ => k_ ≠ gb152) (.slice (some ad151) t148.length co13) t148) ∧ (w'.heap[gb142]? = some (.cells #[.slice A0_0 l0_0.length c0_0, .int .i16 a0_1, .int .i16 a0_2, .int .i16 a0_3, .int .i16 a0_4, .bool a0_5] 29 (0, 0))) ∧ (w'.heap[gb143]? = some (.map es2 mc2)) ∧ (w'.heap[gb152]? = some (.cells #[.int .i8 ((zi t148 x32_2).f0), .int .i8 ((zi t148 x32_2).f1), .int .i8 ((zi t148 x32_2).f2)] 80 (0, 0))) ∧ (w'.heap[s_]? = some (.cells #[.int .i16 0, .int .i16 0, .int .i16 0, .int .i16 0] 27 (0, 0))) ∧ (w.heap.size ≤ s_) ∧ (w.heap.size ≤ s_) ∧ (gb142 ≠ s_) ∧ (s_ ≠ gb142) ∧ (gb143 ≠ s_) ∧ (s_ ≠ gb143) ∧ (gb152 ≠ s_) ∧ (s_ ≠ gb152) ∧ (Below w.heap.size w w')) ?_ ?_
       rotate_left
       ·intro hCont
        refine two_ (i := 7) (j := 11) (Ni := some 44) (Nj := some 8) #[true, true, true, true, true, true, true, true, false, false, false, false, false, false] #[true, true, true, true, true, true, true, false, false, false, false, true, false, false] rfl rfl rfl rfl (two_of HT_.out (by kernel_rfl)) (by decide) (by decide) (fun K hK => ?_) (fun K hK => ?_)
        ·skip
         refine zyd Try.func92 (by kernel_rfl) rfl #[.agg #[.slice A0_0 l0_0.length c0_0, .int .i16 a0_1, .int .i16 a0_2, .int .i16 a0_3, .int .i16 a0_4, .bool a0_5], .agg #[.int .i16 ((zl x3_2 x5_1).f0.f0), .int .i16 ((zl x3_2 x5_1).f0.f1), .int .i16 ((zl x3_2 x5_1).f0.f2), .int .i16 ((zl x3_2 x5_1).f0.f3)], .agg #[.int .i8 ((zi t148 x32_2).f0), .int .i8 ((zi t148 x32_2).f1), .int .i8 ((zi t148 x32_2).f2)]] (by rfl) rfl rfl (by (try simp only [List.map_toArray, List.map_cons, List.map_nil]); first | done | rfl | (simp only [List.length_drop, List.length_take]; rfl)) ?_
         with_reducible refine (impl_Puzzle_moved.calls _ _ l0_0 a0_1 a0_2 a0_3 a0_4 a0_5 ((zl x3_2 x5_1).f0.f0) ((zl x3_2 x5_1).f0.f1) ((zl x3_2 x5_1).f0.f2) ((zl x3_2 x5_1).f0.f3) ((zi t148 x32_2).f0) ((zi t148 x32_2).f1) ((zi t148 x32_2).f2) t154 t155 t156 t157 t158 _ ?side1 ?side2 A19.out).mono ?_
         (case side1 => exact uC HR0_0 HB)
         (case side2 => exact HC0_0.out)
         rintro e w28 ⟨rfl, hb⟩
         have HS9_ := (hb.cell (World.block_lt_of_cell? _ _ (hHeld.2.2.2.2.2.2.2.2.2.1))).trans (hHeld.2.2.2.2.2.2.2.2.2.1)
         have HS10_ := (hb.cell (World.block_lt_of_cell? _ _ (hHeld.2.2.2.2.2.2.2.2.2.2.1))).trans (hHeld.2.2.2.2.2.2.2.2.2.2.1)
         have HS11_ := (hb.cell (World.block_lt_of_cell? _ _ (hHeld.2.2.2.2.2.2.2.2.2.2.2.1))).trans (hHeld.2.2.2.2.2.2.2.2.2.2.2.1)
         have HS12_ := (hb.cell (World.block_lt_of_cell? _ _ (hHeld.2.2.2.2.2.2.2.2.2.2.2.2.1))).trans (hHeld.2.2.2.2.2.2.2.2.2.2.2.2.1)
         have HS13_ := (hb.cell (World.block_lt_of_cell? _ _ (hHeld.2.2.2.2.2.2.2.2.2.2.2.2.2.1))).trans (hHeld.2.2.2.2.2.2.2.2.2.2.2.2.2.1)
         have HS14_ := (hb.cell (World.block_lt_of_cell? _ _ (hHeld.2.2.2.2.2.2.2.2.2.2.2.2.2.2.1))).trans (hHeld.2.2.2.2.2.2.2.2.2.2.2.2.2.2.1)
         have HS15_ := (hb.cell (World.block_lt_of_cell? _ _ (hHeld.2.2.2.2.2.2.2.2.2.2.2.2.2.2.2.1))).trans (hHeld.2.2.2.2.2.2.2.2.2.2.2.2.2.2.2.1)
         have HS16_ := (hb.cell (World.block_lt_of_cell? _ _ (hHeld.2.2.2.2.2.2.2.2.2.2.2.2.2.2.2.2.1))).trans (hHeld.2.2.2.2.2.2.2.2.2.2.2.2.2.2.2.2.1)
         have HS17_ := (hb.cell (World.block_lt_of_cell? _ _ (hHeld.2.2.2.2.2.2.2.2.2.2.2.2.2.2.2.2.2))).trans (hHeld.2.2.2.2.2.2.2.2.2.2.2.2.2.2.2.2.2)
         refine ⟨_, rfl, ?_⟩
         have n0_ := dR HO_3 hb
         have n1_ := dR HO_30 hb
         have n2_ := dK BK142 hb
         have n3_ := za.mk (zca (g := gb143) (o := .map es2 mc2) (uK BK143) hb)
         have n4_ := dK BK152 hb
         have n5_ := za.mk (zh sB hb)
         clear HO_3
         clear HO_30
         clear BK142
         clear BK143
         clear BK152
         clear HB
         have HO_3 := n0_
         have HO_30 := n1_
         have BK142 := n2_
         have BK143 := n3_
         have BK152 := n4_
         have HB := n5_
         clear n0_ n1_ n2_ n3_ n4_ n5_
         (try clear hb)
         (try clear hb2)
         (try clear hk)
         (try clear hi)
         refine hK.out _ _ ⟨(zb BK142.out 0).trans rfl, (zb BK142.out 1).trans rfl, (zb BK142.out 2).trans rfl, (zb BK142.out 3).trans rfl, (zb BK142.out 4).trans rfl, (zb BK142.out 5).trans rfl, (zb BK152.out 0).trans rfl, (zb BK152.out 1).trans rfl, (zb BK152.out 2).trans rfl, HS9_, HS10_, HS11_, HS12_, HS13_, HS14_, HS15_, HS16_, HS17_⟩ (fun hHeld => ?_)
         clear hK K
         refine zma (a' := ?_) ?_ ?_
         rotate_left
         ·show Act.put _ (some 44) _ = _
          simp only [Act.put, List.setIfInBounds_toArray, List.set_cons_zero, List.set_cons_succ, zz, zy]
          rfl
         refine zfa (i := 8) (N := some 36) (v := ?_) (a' := ?_) #[true, true, true, true, true, true, true, true, true, false, false, false, false, false] rfl rfl (zda HT_.out (by kernel_rfl)) (fun _ _ _ h => h) (Or.inl ⟨by rfl, ?_⟩) ?_ ?_
         rotate_left
         ·intro w'
          go_simp
          with_reducible rfl
         rotate_left
         ·simp only [Act.put, List.setIfInBounds_toArray, List.set_cons_zero, List.set_cons_succ, zz, zy]
          rfl
         refine zfa (i := 9) (N := some 45) (v := ?_) (a' := ?_) #[true, true, true, true, true, true, true, true, true, true, false, false, false, false] rfl rfl (zda HT_.out (by kernel_rfl)) (fun _ _ _ h => h) (Or.inl ⟨by rfl, ?_⟩) ?_ ?_
         rotate_left
         ·intro w'
          go_simp
          with_reducible rfl
         rotate_left
         ·simp only [Act.put, List.setIfInBounds_toArray, List.set_cons_zero, List.set_cons_succ, zz, zy]
          rfl
         refine zfa (i := 10) (N := some 46) (v := ?_) (a' := ?_) #[true, true, true, true, true, true, true, true, true, true, true, false, false, false] rfl rfl (zda HT_.out (by kernel_rfl)) (fun _ _ _ h => h) (Or.inl ⟨by rfl, ?_⟩) ?_ ?_
         rotate_left
         ·intro w'
          go_simp
          with_reducible rfl
         rotate_left
         ·simp only [Act.put, List.setIfInBounds_toArray, List.set_cons_zero, List.set_cons_succ, zz, zy]
          rfl
         refine one_ (i := 11) (N := some 8) #[true, true, true, true, true, true, true, true, true, true, true, true, false, false] rfl rfl (ztb HT_.out (by kernel_rfl)) (by decide) (fun K hK => ?_)
         refine zed ?hg (N := 8) ?hd (cs := #[.int .i16 0, .int .i16 0, .int .i16 0, .int .i16 0]) (t := 27) ?hr ?_; (case hd => rfl); (case hg => rfl); (case hr => first | (go_simp; done) | (go_simp; rfl))
         intro gb159 hg w29 hbox hb
         have HS9_ := (hb.cell (World.block_lt_of_cell? _ _ (hHeld.2.2.2.2.2.2.2.2.2.1))).trans (hHeld.2.2.2.2.2.2.2.2.2.1)
         have HS10_ := (hb.cell (World.block_lt_of_cell? _ _ (hHeld.2.2.2.2.2.2.2.2.2.2.1))).trans (hHeld.2.2.2.2.2.2.2.2.2.2.1)
         have HS11_ := (hb.cell (World.block_lt_of_cell? _ _ (hHeld.2.2.2.2.2.2.2.2.2.2.2.1))).trans (hHeld.2.2.2.2.2.2.2.2.2.2.2.1)
         have HS12_ := (hb.cell (World.block_lt_of_cell? _ _ (hHeld.2.2.2.2.2.2.2.2.2.2.2.2.1))).trans (hHeld.2.2.2.2.2.2.2.2.2.2.2.2.1)
         have HS13_ := (hb.cell (World.block_lt_of_cell? _ _ (hHeld.2.2.2.2.2.2.2.2.2.2.2.2.2.1))).trans (hHeld.2.2.2.2.2.2.2.2.2.2.2.2.2.1)
         have HS14_ := (hb.cell (World.block_lt_of_cell? _ _ (hHeld.2.2.2.2.2.2.2.2.2.2.2.2.2.2.1))).trans (hHeld.2.2.2.2.2.2.2.2.2.2.2.2.2.2.1)
         have HS15_ := (hb.cell (World.block_lt_of_cell? _ _ (hHeld.2.2.2.2.2.2.2.2.2.2.2.2.2.2.2.1))).trans (hHeld.2.2.2.2.2.2.2.2.2.2.2.2.2.2.2.1)
         have HS16_ := (hb.cell (World.block_lt_of_cell? _ _ (hHeld.2.2.2.2.2.2.2.2.2.2.2.2.2.2.2.2.1))).trans (hHeld.2.2.2.2.2.2.2.2.2.2.2.2.2.2.2.2.1)
         have HS17_ := (hb.cell (World.block_lt_of_cell? _ _ (hHeld.2.2.2.2.2.2.2.2.2.2.2.2.2.2.2.2.2))).trans (hHeld.2.2.2.2.2.2.2.2.2.2.2.2.2.2.2.2.2)
         have n0_ := dR HO_3 hb
         have n1_ := dR HO_30 hb
         have n2_ := dK BK142 hb
         have n3_ := za.mk (zca (g := gb143) (o := .map es2 mc2) (uK BK143) hb)
         have n4_ := dK BK152 hb
         have n5_ := za.mk (zh sB hb)
         have n6_ := za.mk hbox
         have n7_ := gB hg
         have n8_ := gB hg
         have n9_ := nK hg BK142
         have n10_ := za.mk (nK hg BK142).out.symm
         have n11_ := za.mk ((by rw [hg]; exact Nat.ne_of_lt (zfb (g := gb143) (o := .map es2 mc2) (uK BK143)) : gb143 ≠ gb159))
         have n12_ := za.mk ((by rw [hg]; exact Nat.ne_of_gt (zfb (g := gb143) (o := .map es2 mc2) (uK BK143)) : gb159 ≠ gb143))
         have n13_ := nK hg BK152
         have n14_ := za.mk (nK hg BK152).out.symm
         clear HO_3
         clear HO_30
         clear BK142
         clear BK143
         clear BK152
         clear HB
         have HO_3 := n0_
         have HO_30 := n1_
         have BK142 := n2_
         have BK143 := n3_
         have BK152 := n4_
         have HB := n5_
         have BK159 := n6_
         have GW159 := n7_
         have GE159 := n8_
         have NB142_159 := n9_
         have NB159_142 := n10_
         have NB143_159 := n11_
         have NB159_143 := n12_
         have NB152_159 := n13_
         have NB159_152 := n14_
         clear n0_ n1_ n2_ n3_ n4_ n5_ n6_ n7_ n8_ n9_ n10_ n11_ n12_ n13_ n14_
         clear hb hbox hg
         refine hK.out _ _ ⟨(zb BK142.out 0).trans rfl, (zb BK142.out 1).trans rfl, (zb BK142.out 2).trans rfl, (zb BK142.out 3).trans rfl, (zb BK142.out 4).trans rfl, (zb BK142.out 5).trans rfl, (zb BK152.out 0).trans rfl, (zb BK152.out 1).trans rfl, (zb BK152.out 2).trans rfl, HS9_, HS10_, HS11_, HS12_, HS13_, HS14_, HS15_, HS16_, HS17_⟩ (fun hHeld => ?_)
         clear hK K
         refine zma (a' := ?_) ?_ ?_
         rotate_left
         ·show Act.put _ (some 8) _ = _
          simp only [Act.put, List.setIfInBounds_toArray, List.set_cons_zero, List.set_cons_succ, zz, zy]
          rfl
         exact zma (by simp only [zra, Act.put, List.setIfInBounds_toArray, List.set_cons_zero, List.set_cons_succ]) (hCont (gb159) _ ⟨hHeld, (uR HO_3), (uR HO_30), (uK BK142), (uK BK143), (uK BK152), (uK BK159), GW159.out, GE159.out, NB142_159.out, NB159_142.out, NB143_159.out, NB159_143.out, NB152_159.out, NB159_152.out, sB⟩)
        skip
        refine zed ?hg (N := 8) ?hd (cs := #[.int .i16 0, .int .i16 0, .int .i16 0, .int .i16 0]) (t := 27) ?hr ?_; (case hd => rfl); (case hg => rfl); (case hr => first | (go_simp; done) | (go_simp; rfl))
        intro gb159 hg w28 hbox hb
        have HS9_ := (hb.cell (World.block_lt_of_cell? _ _ (hHeld.2.2.2.2.2.2.2.2.2.1))).trans (hHeld.2.2.2.2.2.2.2.2.2.1)
        have HS10_ := (hb.cell (World.block_lt_of_cell? _ _ (hHeld.2.2.2.2.2.2.2.2.2.2.1))).trans (hHeld.2.2.2.2.2.2.2.2.2.2.1)
        have HS11_ := (hb.cell (World.block_lt_of_cell? _ _ (hHeld.2.2.2.2.2.2.2.2.2.2.2.1))).trans (hHeld.2.2.2.2.2.2.2.2.2.2.2.1)
        have HS12_ := (hb.cell (World.block_lt_of_cell? _ _ (hHeld.2.2.2.2.2.2.2.2.2.2.2.2.1))).trans (hHeld.2.2.2.2.2.2.2.2.2.2.2.2.1)
        have HS13_ := (hb.cell (World.block_lt_of_cell? _ _ (hHeld.2.2.2.2.2.2.2.2.2.2.2.2.2.1))).trans (hHeld.2.2.2.2.2.2.2.2.2.2.2.2.2.1)
        have HS14_ := (hb.cell (World.block_lt_of_cell? _ _ (hHeld.2.2.2.2.2.2.2.2.2.2.2.2.2.2.1))).trans (hHeld.2.2.2.2.2.2.2.2.2.2.2.2.2.2.1)
        have HS15_ := (hb.cell (World.block_lt_of_cell? _ _ (hHeld.2.2.2.2.2.2.2.2.2.2.2.2.2.2.2.1))).trans (hHeld.2.2.2.2.2.2.2.2.2.2.2.2.2.2.2.1)
        have HS16_ := (hb.cell (World.block_lt_of_cell? _ _ (hHeld.2.2.2.2.2.2.2.2.2.2.2.2.2.2.2.2.1))).trans (hHeld.2.2.2.2.2.2.2.2.2.2.2.2.2.2.2.2.1)
        have HS17_ := (hb.cell (World.block_lt_of_cell? _ _ (hHeld.2.2.2.2.2.2.2.2.2.2.2.2.2.2.2.2.2))).trans (hHeld.2.2.2.2.2.2.2.2.2.2.2.2.2.2.2.2.2)
        have n0_ := dR HO_3 hb
        have n1_ := dR HO_30 hb
        have n2_ := dK BK142 hb
        have n3_ := za.mk (zca (g := gb143) (o := .map es2 mc2) (uK BK143) hb)
        have n4_ := dK BK152 hb
        have n5_ := za.mk (zh sB hb)
        have n6_ := za.mk hbox
        have n7_ := gB hg
        have n8_ := gB hg
        have n9_ := nK hg BK142
        have n10_ := za.mk (nK hg BK142).out.symm
        have n11_ := za.mk ((by rw [hg]; exact Nat.ne_of_lt (zfb (g := gb143) (o := .map es2 mc2) (uK BK143)) : gb143 ≠ gb159))
        have n12_ := za.mk ((by rw [hg]; exact Nat.ne_of_gt (zfb (g := gb143) (o := .map es2 mc2) (uK BK143)) : gb159 ≠ gb143))
        have n13_ := nK hg BK152
        have n14_ := za.mk (nK hg BK152).out.symm
        clear HO_3
        clear HO_30
        clear BK142
        clear BK143
        clear BK152
        clear HB
        have HO_3 := n0_
        have HO_30 := n1_
        have BK142 := n2_
        have BK143 := n3_
        have BK152 := n4_
        have HB := n5_
        have BK159 := n6_
        have GW159 := n7_
        have GE159 := n8_
        have NB142_159 := n9_
        have NB159_142 := n10_
        have NB143_159 := n11_
        have NB159_143 := n12_
        have NB152_159 := n13_
        have NB159_152 := n14_
        clear n0_ n1_ n2_ n3_ n4_ n5_ n6_ n7_ n8_ n9_ n10_ n11_ n12_ n13_ n14_
        clear hb hbox hg
        refine hK.out _ _ ⟨(zb BK142.out 0).trans rfl, (zb BK142.out 1).trans rfl, (zb BK142.out 2).trans rfl, (zb BK142.out 3).trans rfl, (zb BK142.out 4).trans rfl, (zb BK142.out 5).trans rfl, (zb BK152.out 0).trans rfl, (zb BK152.out 1).trans rfl, (zb BK152.out 2).trans rfl, HS9_, HS10_, HS11_, HS12_, HS13_, HS14_, HS15_, HS16_, HS17_⟩ (fun hHeld => ?_)
        clear hK K
        refine zma (a' := ?_) ?_ ?_
        rotate_left
        ·show Act.put _ (some 8) _ = _
         simp only [Act.put, List.setIfInBounds_toArray, List.set_cons_zero, List.set_cons_succ, zz, zy]
         rfl
        refine one_ (i := 7) (N := some 44) #[true, true, true, true, true, true, true, true, false, false, false, true, false, false] rfl rfl (ztb HT_.out (by kernel_rfl)) (by decide) (fun K hK => ?_)
        refine zyd Try.func92 (by kernel_rfl) rfl #[.agg #[.slice A0_0 l0_0.length c0_0, .int .i16 a0_1, .int .i16 a0_2, .int .i16 a0_3, .int .i16 a0_4, .bool a0_5], .agg #[.int .i16 ((zl x3_2 x5_1).f0.f0), .int .i16 ((zl x3_2 x5_1).f0.f1), .int .i16 ((zl x3_2 x5_1).f0.f2), .int .i16 ((zl x3_2 x5_1).f0.f3)], .agg #[.int .i8 ((zi t148 x32_2).f0), .int .i8 ((zi t148 x32_2).f1), .int .i8 ((zi t148 x32_2).f2)]] (by rfl) rfl rfl (by (try simp only [List.map_toArray, List.map_cons, List.map_nil]); first | done | rfl | (simp only [List.length_drop, List.length_take]; rfl)) ?_
        with_reducible refine (impl_Puzzle_moved.calls _ _ l0_0 a0_1 a0_2 a0_3 a0_4 a0_5 ((zl x3_2 x5_1).f0.f0) ((zl x3_2 x5_1).f0.f1) ((zl x3_2 x5_1).f0.f2) ((zl x3_2 x5_1).f0.f3) ((zi t148 x32_2).f0) ((zi t148 x32_2).f1) ((zi t148 x32_2).f2) t154 t155 t156 t157 t158 _ ?side1 ?side2 A19.out).mono ?_
        (case side1 => exact uC HR0_0 HB)
        (case side2 => exact HC0_0.out)
        rintro e w29 ⟨rfl, hb⟩
        have HS9_ := (hb.cell (World.block_lt_of_cell? _ _ (hHeld.2.2.2.2.2.2.2.2.2.1))).trans (hHeld.2.2.2.2.2.2.2.2.2.1)
        have HS10_ := (hb.cell (World.block_lt_of_cell? _ _ (hHeld.2.2.2.2.2.2.2.2.2.2.1))).trans (hHeld.2.2.2.2.2.2.2.2.2.2.1)
        have HS11_ := (hb.cell (World.block_lt_of_cell? _ _ (hHeld.2.2.2.2.2.2.2.2.2.2.2.1))).trans (hHeld.2.2.2.2.2.2.2.2.2.2.2.1)
        have HS12_ := (hb.cell (World.block_lt_of_cell? _ _ (hHeld.2.2.2.2.2.2.2.2.2.2.2.2.1))).trans (hHeld.2.2.2.2.2.2.2.2.2.2.2.2.1)
        have HS13_ := (hb.cell (World.block_lt_of_cell? _ _ (hHeld.2.2.2.2.2.2.2.2.2.2.2.2.2.1))).trans (hHeld.2.2.2.2.2.2.2.2.2.2.2.2.2.1)
        have HS14_ := (hb.cell (World.block_lt_of_cell? _ _ (hHeld.2.2.2.2.2.2.2.2.2.2.2.2.2.2.1))).trans (hHeld.2.2.2.2.2.2.2.2.2.2.2.2.2.2.1)
        have HS15_ := (hb.cell (World.block_lt_of_cell? _ _ (hHeld.2.2.2.2.2.2.2.2.2.2.2.2.2.2.2.1))).trans (hHeld.2.2.2.2.2.2.2.2.2.2.2.2.2.2.2.1)
        have HS16_ := (hb.cell (World.block_lt_of_cell? _ _ (hHeld.2.2.2.2.2.2.2.2.2.2.2.2.2.2.2.2.1))).trans (hHeld.2.2.2.2.2.2.2.2.2.2.2.2.2.2.2.2.1)
        have HS17_ := (hb.cell (World.block_lt_of_cell? _ _ (hHeld.2.2.2.2.2.2.2.2.2.2.2.2.2.2.2.2.2))).trans (hHeld.2.2.2.2.2.2.2.2.2.2.2.2.2.2.2.2.2)
        refine ⟨_, rfl, ?_⟩
        have n0_ := dR HO_3 hb
        have n1_ := dR HO_30 hb
        have n2_ := dK BK142 hb
        have n3_ := za.mk (zca (g := gb143) (o := .map es2 mc2) (uK BK143) hb)
        have n4_ := dK BK152 hb
        have n5_ := dK BK159 hb
        have n6_ := za.mk (zh sB hb)
        clear HO_3
        clear HO_30
        clear BK142
        clear BK143
        clear BK152
        clear BK159
        clear HB
        have HO_3 := n0_
        have HO_30 := n1_
        have BK142 := n2_
        have BK143 := n3_
        have BK152 := n4_
        have BK159 := n5_
        have HB := n6_
        clear n0_ n1_ n2_ n3_ n4_ n5_ n6_
        (try clear hb)
        (try clear hb2)
        (try clear hk)
        (try clear hi)
        refine hK.out _ _ ⟨(zb BK142.out 0).trans rfl, (zb BK142.out 1).trans rfl, (zb BK142.out 2).trans rfl, (zb BK142.out 3).trans rfl, (zb BK142.out 4).trans rfl, (zb BK142.out 5).trans rfl, (zb BK152.out 0).trans rfl, (zb BK152.out 1).trans rfl, (zb BK152.out 2).trans rfl, HS9_, HS10_, HS11_, HS12_, HS13_, HS14_, HS15_, HS16_, HS17_⟩ (fun hHeld => ?_)
        clear hK K
        refine zma (a' := ?_) ?_ ?_
        rotate_left
        ·show Act.put _ (some 44) _ = _
         simp only [Act.put, List.setIfInBounds_toArray, List.set_cons_zero, List.set_cons_succ, zz, zy]
         rfl
        refine zfa (i := 8) (N := some 36) (v := ?_) (a' := ?_) #[true, true, true, true, true, true, true, true, true, false, false, true, false, false] rfl rfl (zda HT_.out (by kernel_rfl)) (fun _ _ _ h => h) (Or.inl ⟨by rfl, ?_⟩) ?_ ?_
        rotate_left
        ·intro w'
         go_simp
         with_reducible rfl
        rotate_left
        ·simp only [Act.put, List.setIfInBounds_toArray, List.set_cons_zero, List.set_cons_succ, zz, zy]
         rfl
        refine zfa (i := 9) (N := some 45) (v := ?_) (a' := ?_) #[true, true, true, true, true, true, true, true, true, true, false, true, false, false] rfl rfl (zda HT_.out (by kernel_rfl)) (fun _ _ _ h => h) (Or.inl ⟨by rfl, ?_⟩) ?_ ?_
        rotate_left
        ·intro w'
         go_simp
         with_reducible rfl
        rotate_left
        ·simp only [Act.put, List.setIfInBounds_toArray, List.set_cons_zero, List.set_cons_succ, zz, zy]
         rfl
        refine zfa (i := 10) (N := some 46) (v := ?_) (a' := ?_) #[true, true, true, true, true, true, true, true, true, true, true, true, false, false] rfl rfl (zda HT_.out (by kernel_rfl)) (fun _ _ _ h => h) (Or.inl ⟨by rfl, ?_⟩) ?_ ?_
        rotate_left
        ·intro w'
         go_simp
         with_reducible rfl
        rotate_left
        ·simp only [Act.put, List.setIfInBounds_toArray, List.set_cons_zero, List.set_cons_succ, zz, zy]
         rfl
        exact zma (by simp only [zra, Act.put, List.setIfInBounds_toArray, List.set_cons_zero, List.set_cons_succ]) (hCont (gb159) _ ⟨hHeld, (uR HO_3), (uR HO_30), (uK BK142), (uK BK143), (uK BK152), (uK BK159), GW159.out, GE159.out, NB142_159.out, NB159_142.out, NB143_159.out, NB159_143.out, NB152_159.out, NB159_152.out, sB⟩)
       rintro gb159 w30 ⟨hS_, h0_, h1_, h2_, h3_, h4_, h5_, h6_, h7_, h8_, h9_, h10_, h11_, h12_, h13_, h14_⟩
       have n0_ : za (Kd.R k82 82 w30 w.heap.size (fun _ => True) (.slice (some ad153) x3_2.length co27) x3_2) := ⟨h0_⟩
       have n1_ : za (Kd.R k80 80 w30 w.heap.size (fun k_ => k_ ≠ gb152) (.slice (some ad151) t148.length co13) t148) := ⟨h1_⟩
       have n2_ : za (w30.heap[gb142]? = some (.cells #[.slice A0_0 l0_0.length c0_0, .int .i16 a0_1, .int .i16 a0_2, .int .i16 a0_3, .int .i16 a0_4, .bool a0_5] 29 (0, 0))) := ⟨h2_⟩
       have n3_ : za (w30.heap[gb143]? = some (.map es2 mc2)) := ⟨h3_⟩
       have n4_ : za (w30.heap[gb152]? = some (.cells #[.int .i8 ((zi t148 x32_2).f0), .int .i8 ((zi t148 x32_2).f1), .int .i8 ((zi t148 x32_2).f2)] 80 (0, 0))) := ⟨h4_⟩
       have n5_ : za (w30.heap[gb159]? = some (.cells #[.int .i16 0, .int .i16 0, .int .i16 0, .int .i16 0] 27 (0, 0))) := ⟨h5_⟩
       have n6_ : za (w.heap.size ≤ gb159) := ⟨h6_⟩
       have n7_ : za (w.heap.size ≤ gb159) := ⟨h7_⟩
       have n8_ : za (gb142 ≠ gb159) := ⟨h8_⟩
       have n9_ : za (gb159 ≠ gb142) := ⟨h9_⟩
       have n10_ : za (gb143 ≠ gb159) := ⟨h10_⟩
       have n11_ : za (gb159 ≠ gb143) := ⟨h11_⟩
       have n12_ : za (gb152 ≠ gb159) := ⟨h12_⟩
       have n13_ : za (gb159 ≠ gb152) := ⟨h13_⟩
       have n14_ : za (Below w.heap.size w w30) := ⟨h14_⟩
       clear HO_3
       clear HO_30
       clear BK142
       clear BK143
       clear BK152
       clear HB
       clear h0_ h1_ h2_ h3_ h4_ h5_ h6_ h7_ h8_ h9_ h10_ h11_ h12_ h13_ h14_
       have HO_3 := n0_
       have HO_30 := n1_
       have BK142 := n2_
       have BK143 := n3_
       have BK152 := n4_
       have BK159 := n5_
       have GW159 := n6_
       have GE159 := n7_
       have NB142_159 := n8_
       have NB159_142 := n9_
       have NB143_159 := n10_
       have NB159_143 := n11_
       have NB152_159 := n12_
       have NB159_152 := n13_
       have HB := n14_
       clear n0_ n1_ n2_ n3_ n4_ n5_ n6_ n7_ n8_ n9_ n10_ n11_ n12_ n13_ n14_
       have hHeld : w30.cell? ⟨gb142, 0, none⟩ = some (.slice A0_0 l0_0.length c0_0) ∧ w30.cell? ⟨gb142, 1, none⟩ = some (.int .i16 a0_1) ∧ w30.cell? ⟨gb142, 2, none⟩ = some (.int .i16 a0_2) ∧ w30.cell? ⟨gb142, 3, none⟩ = some (.int .i16 a0_3) ∧ w30.cell? ⟨gb142, 4, none⟩ = some (.int .i16 a0_4) ∧ w30.cell? ⟨gb142, 5, none⟩ = some (.bool a0_5) ∧ w30.cell? ⟨gb152, 0, none⟩ = some (.int .i8 ((zi t148 x32_2).f0)) ∧ w30.cell? ⟨gb152, 1, none⟩ = some (.int .i8 ((zi t148 x32_2).f1)) ∧ w30.cell? ⟨gb152, 2, none⟩ = some (.int .i8 ((zi t148 x32_2).f2)) ∧ w30.cell? (ad153.add ((x5_1).toNat * 9)) = some (.int .i16 ((zl x3_2 x5_1).f0.f0)) ∧ w30.cell? ⟨(ad153.add ((x5_1).toNat * 9)).block, (ad153.add ((x5_1).toNat * 9)).off + 1, none⟩ = some (.int .i16 ((zl x3_2 x5_1).f0.f1)) ∧ w30.cell? ⟨(ad153.add ((x5_1).toNat * 9)).block, (ad153.add ((x5_1).toNat * 9)).off + 2, none⟩ = some (.int .i16 ((zl x3_2 x5_1).f0.f2)) ∧ w30.cell? ⟨(ad153.add ((x5_1).toNat * 9)).block, (ad153.add ((x5_1).toNat * 9)).off + 3, none⟩ = some (.int .i16 ((zl x3_2 x5_1).f0.f3)) ∧ w30.cell? ⟨(ad153.add ((x5_1).toNat * 9)).block, (ad153.add ((x5_1).toNat * 9)).off + 4, none⟩ = some (.int .i64 ((zl x3_2 x5_1).f1)) ∧ w30.cell? ⟨(ad153.add ((x5_1).toNat * 9)).block, (ad153.add ((x5_1).toNat * 9)).off + 5, none⟩ = some (.int .i8 ((zl x3_2 x5_1).f2.f0)) ∧ w30.cell? ⟨(ad153.add ((x5_1).toNat * 9)).block, (ad153.add ((x5_1).toNat * 9)).off + 6, none⟩ = some (.int .i8 ((zl x3_2 x5_1).f2.f1)) ∧ w30.cell? ⟨(ad153.add ((x5_1).toNat * 9)).block, (ad153.add ((x5_1).toNat * 9)).off + 7, none⟩ = some (.int .i8 ((zl x3_2 x5_1).f2.f2)) ∧ w30.cell? ⟨(ad153.add ((x5_1).toNat * 9)).block, (ad153.add ((x5_1).toNat * 9)).off + 8, none⟩ = some (.int .i64 ((zl x3_2 x5_1).f3)) := hS_
       refine zma (a' := ?_) ?_ ?_
       rotate_left
       ·simp only [zra, Act.put, List.setIfInBounds_toArray, List.set_cons_zero, List.set_cons_succ]
        rfl
       refine one_ (i := 12) (N := none) #[true, true, true, true, true, true, true, true, true, true, true, true, true, false] rfl rfl (ztb HT_.out (by kernel_rfl)) (by decide) (fun K hK => ?_)
       have hs31 : w30.cell? ⟨gb159, 0, none⟩ = some (.int .i16 0) := (zb BK159.out 0).trans rfl
       have hfs31 := zg BK159.out 0
       have hns31_0 := NB142_159.out
       have hns31_1 := NB143_159.out
       have hns31_2 := NB152_159.out
       have hms31_0 := NB159_142.out
       have hms31_1 := NB159_143.out
       have hms31_2 := NB159_152.out
       have hs32 : w30.cell? ⟨gb159, 1, none⟩ = some (.int .i16 0) := (zb BK159.out 1).trans rfl
       have hfs32 := zg BK159.out 1
       have hns32_0 := NB142_159.out
       have hns32_1 := NB143_159.out
       have hns32_2 := NB152_159.out
       have hms32_0 := NB159_142.out
       have hms32_1 := NB159_143.out
       have hms32_2 := NB159_152.out
       have hs33 : w30.cell? ⟨gb159, 2, none⟩ = some (.int .i16 0) := (zb BK159.out 2).trans rfl
       have hfs33 := zg BK159.out 2
       have hns33_0 := NB142_159.out
       have hns33_1 := NB143_159.out
       have hns33_2 := NB152_159.out
       have hms33_0 := NB159_142.out
       have hms33_1 := NB159_143.out
       have hms33_2 := NB159_152.out
       have hs34 : w30.cell? ⟨gb159, 3, none⟩ = some (.int .i16 0) := (zb BK159.out 3).trans rfl
       have hfs34 := zg BK159.out 3
       have hns34_0 := NB142_159.out
       have hns34_1 := NB143_159.out
       have hns34_2 := NB152_159.out
       have hms34_0 := NB159_142.out
       have hms34_1 := NB159_143.out
       have hms34_2 := NB159_152.out
       refine skip_ (w1 := ?_) (by rfl) rfl ?_ ?_
       rotate_left
       ·go_simp
        rfl
       refine hK.out _ _ ⟨((zr (p := ⟨gb159, _, none⟩) NB142_159.out _).trans (((zr (p := ⟨gb159, _, none⟩) NB142_159.out _).trans (((zr (p := ⟨gb159, _, none⟩) NB142_159.out _).trans (((zr (p := ⟨gb159, _, none⟩) NB142_159.out _).trans (hHeld.1)))))))), ((zr (p := ⟨gb159, _, none⟩) NB142_159.out _).trans (((zr (p := ⟨gb159, _, none⟩) NB142_159.out _).trans (((zr (p := ⟨gb159, _, none⟩) NB142_159.out _).trans (((zr (p := ⟨gb159, _, none⟩) NB142_159.out _).trans (hHeld.2.1)))))))), ((zr (p := ⟨gb159, _, none⟩) NB142_159.out _).trans (((zr (p := ⟨gb159, _, none⟩) NB142_159.out _).trans (((zr (p := ⟨gb159, _, none⟩) NB142_159.out _).trans (((zr (p := ⟨gb159, _, none⟩) NB142_159.out _).trans (hHeld.2.2.1)))))))), ((zr (p := ⟨gb159, _, none⟩) NB142_159.out _).trans (((zr (p := ⟨gb159, _, none⟩) NB142_159.out _).trans (((zr (p := ⟨gb159, _, none⟩) NB142_159.out _).trans (((zr (p := ⟨gb159, _, none⟩) NB142_159.out _).trans (hHeld.2.2.2.1)))))))), ((zr (p := ⟨gb159, _, none⟩) NB142_159.out _).trans (((zr (p := ⟨gb159, _, none⟩) NB142_159.out _).trans (((zr (p := ⟨gb159, _, none⟩) NB142_159.out _).trans (((zr (p := ⟨gb159, _, none⟩) NB142_159.out _).trans (hHeld.2.2.2.2.1)))))))), ((zr (p := ⟨gb159, _, none⟩) NB142_159.out _).trans (((zr (p := ⟨gb159, _, none⟩) NB142_159.out _).trans (((zr (p := ⟨gb159, _, none⟩) NB142_159.out _).trans (((zr (p := ⟨gb159, _, none⟩) NB142_159.out _).trans (hHeld.2.2.2.2.2.1)))))))), ((zr (p := ⟨gb159, _, none⟩) NB152_159.out _).trans (((zr (p := ⟨gb159, _, none⟩) NB152_159.out _).trans (((zr (p := ⟨gb159, _, none⟩) NB152_159.out _).trans (((zr (p := ⟨gb159, _, none⟩) NB152_159.out _).trans (hHeld.2.2.2.2.2.2.1)))))))), ((zr (p := ⟨gb159, _, none⟩) NB152_159.out _).trans (((zr (p := ⟨gb159, _, none⟩) NB152_159.out _).trans (((zr (p := ⟨gb159, _, none⟩) NB152_159.out _).trans (((zr (p := ⟨gb159, _, none⟩) NB152_159.out _).trans (hHeld.2.2.2.2.2.2.2.1)))))))), ((zr (p := ⟨gb159, _, none⟩) NB152_159.out _).trans (((zr (p := ⟨gb159, _, none⟩) NB152_159.out _).trans (((zr (p := ⟨gb159, _, none⟩) NB152_159.out _).trans (((zr (p := ⟨gb159, _, none⟩) NB152_159.out _).trans (hHeld.2.2.2.2.2.2.2.2.1)))))))), ((zr (p := ⟨gb159, _, none⟩) (by first | exact Kd.own_blk (Kd.R_ne HO_3.out BK159.out (by decide)) | (rw [zq]; exact Kd.own_blk (Kd.R_ne HO_3.out BK159.out (by decide))) | (show (Addr.add _ _).block ≠ _; rw [zq]; exact Kd.own_blk (Kd.R_ne HO_3.out BK159.out (by decide))) | (dsimp only; exact Kd.own_blk (Kd.R_ne HO_3.out BK159.out (by decide)))) _).trans (((zr (p := ⟨gb159, _, none⟩) (by first | exact Kd.own_blk (Kd.R_ne HO_3.out BK159.out (by decide)) | (rw [zq]; exact Kd.own_blk (Kd.R_ne HO_3.out BK159.out (by decide))) | (show (Addr.add _ _).block ≠ _; rw [zq]; exact Kd.own_blk (Kd.R_ne HO_3.out BK159.out (by decide))) | (dsimp only; exact Kd.own_blk (Kd.R_ne HO_3.out BK159.out (by decide)))) _).trans (((zr (p := ⟨gb159, _, none⟩) (by first | exact Kd.own_blk (Kd.R_ne HO_3.out BK159.out (by decide)) | (rw [zq]; exact Kd.own_blk (Kd.R_ne HO_3.out BK159.out (by decide))) | (show (Addr.add _ _).block ≠ _; rw [zq]; exact Kd.own_blk (Kd.R_ne HO_3.out BK159.out (by decide))) | (dsimp only; exact Kd.own_blk (Kd.R_ne HO_3.out BK159.out (by decide)))) _).trans (((zr (p := ⟨gb159, _, none⟩) (by first | exact Kd.own_blk (Kd.R_ne HO_3.out BK159.out (by decide)) | (rw [zq]; exact Kd.own_blk (Kd.R_ne HO_3.out BK159.out (by decide))) | (show (Addr.add _ _).block ≠ _; rw [zq]; exact Kd.own_blk (Kd.R_ne HO_3.out BK159.out (by decide))) | (dsimp only; exact Kd.own_blk (Kd.R_ne HO_3.out BK159.out (by decide)))) _).trans (hHeld.2.2.2.2.2.2.2.2.2.1)))))))), ((zr (p := ⟨gb159, _, none⟩) (by first | exact Kd.own_blk (Kd.R_ne HO_3.out BK159.out (by decide)) | (rw [zq]; exact Kd.own_blk (Kd.R_ne HO_3.out BK159.out (by decide))) | (show (Addr.add _ _).block ≠ _; rw [zq]; exact Kd.own_blk (Kd.R_ne HO_3.out BK159.out (by decide))) | (dsimp only; exact Kd.own_blk (Kd.R_ne HO_3.out BK159.out (by decide)))) _).trans (((zr (p := ⟨gb159, _, none⟩) (by first | exact Kd.own_blk (Kd.R_ne HO_3.out BK159.out (by decide)) | (rw [zq]; exact Kd.own_blk (Kd.R_ne HO_3.out BK159.out (by decide))) | (show (Addr.add _ _).block ≠ _; rw [zq]; exact Kd.own_blk (Kd.R_ne HO_3.out BK159.out (by decide))) | (dsimp only; exact Kd.own_blk (Kd.R_ne HO_3.out BK159.out (by decide)))) _).trans (((zr (p := ⟨gb159, _, none⟩) (by first | exact Kd.own_blk (Kd.R_ne HO_3.out BK159.out (by decide)) | (rw [zq]; exact Kd.own_blk (Kd.R_ne HO_3.out BK159.out (by decide))) | (show (Addr.add _ _).block ≠ _; rw [zq]; exact Kd.own_blk (Kd.R_ne HO_3.out BK159.out (by decide))) | (dsimp only; exact Kd.own_blk (Kd.R_ne HO_3.out BK159.out (by decide)))) _).trans (((zr (p := ⟨gb159, _, none⟩) (by first | exact Kd.own_blk (Kd.R_ne HO_3.out BK159.out (by decide)) | (rw [zq]; exact Kd.own_blk (Kd.R_ne HO_3.out BK159.out (by decide))) | (show (Addr.add _ _).block ≠ _; rw [zq]; exact Kd.own_blk (Kd.R_ne HO_3.out BK159.out (by decide))) | (dsimp only; exact Kd.own_blk (Kd.R_ne HO_3.out BK159.out (by decide)))) _).trans (hHeld.2.2.2.2.2.2.2.2.2.2.1)))))))), ((zr (p := ⟨gb159, _, none⟩) (by first | exact Kd.own_blk (Kd.R_ne HO_3.out BK159.out (by decide)) | (rw [zq]; exact Kd.own_blk (Kd.R_ne HO_3.out BK159.out (by decide))) | (show (Addr.add _ _).block ≠ _; rw [zq]; exact Kd.own_blk (Kd.R_ne HO_3.out BK159.out (by decide))) | (dsimp only; exact Kd.own_blk (Kd.R_ne HO_3.out BK159.out (by decide)))) _).trans (((zr (p := ⟨gb159, _, none⟩) (by first | exact Kd.own_blk (Kd.R_ne HO_3.out BK159.out (by decide)) | (rw [zq]; exact Kd.own_blk (Kd.R_ne HO_3.out BK159.out (by decide))) | (show (Addr.add _ _).block ≠ _; rw [zq]; exact Kd.own_blk (Kd.R_ne HO_3.out BK159.out (by decide))) | (dsimp only; exact Kd.own_blk (Kd.R_ne HO_3.out BK159.out (by decide)))) _).trans (((zr (p := ⟨gb159, _, none⟩) (by first | exact Kd.own_blk (Kd.R_ne HO_3.out BK159.out (by decide)) | (rw [zq]; exact Kd.own_blk (Kd.R_ne HO_3.out BK159.out (by decide))) | (show (Addr.add _ _).block ≠ _; rw [zq]; exact Kd.own_blk (Kd.R_ne HO_3.out BK159.out (by decide))) | (dsimp only; exact Kd.own_blk (Kd.R_ne HO_3.out BK159.out (by decide)))) _).trans (((zr (p := ⟨gb159, _, none⟩) (by first | exact Kd.own_blk (Kd.R_ne HO_3.out BK159.out (by decide)) | (rw [zq]; exact Kd.own_blk (Kd.R_ne HO_3.out BK159.out (by decide))) | (show (Addr.add _ _).block ≠ _; rw [zq]; exact Kd.own_blk (Kd.R_ne HO_3.out BK159.out (by decide))) | (dsimp only; exact Kd.own_blk (Kd.R_ne HO_3.out BK159.out (by decide)))) _).trans (hHeld.2.2.2.2.2.2.2.2.2.2.2.1)))))))), ((zr (p := ⟨gb159, _, none⟩) (by first | exact Kd.own_blk (Kd.R_ne HO_3.out BK159.out (by decide)) | (rw [zq]; exact Kd.own_blk (Kd.R_ne HO_3.out BK159.out (by decide))) | (show (Addr.add _ _).block ≠ _; rw [zq]; exact Kd.own_blk (Kd.R_ne HO_3.out BK159.out (by decide))) | (dsimp only; exact Kd.own_blk (Kd.R_ne HO_3.out BK159.out (by decide)))) _).trans (((zr (p := ⟨gb159, _, none⟩) (by first | exact Kd.own_blk (Kd.R_ne HO_3.out BK159.out (by decide)) | (rw [zq]; exact Kd.own_blk (Kd.R_ne HO_3.out BK159.out (by decide))) | (show (Addr.add _ _).block ≠ _; rw [zq]; exact Kd.own_blk (Kd.R_ne HO_3.out BK159.out (by decide))) | (dsimp only; exact Kd.own_blk (Kd.R_ne HO_3.out BK159.out (by decide)))) _).trans (((zr (p := ⟨gb159, _, none⟩) (by first | exact Kd.own_blk (Kd.R_ne HO_3.out BK159.out (by decide)) | (rw [zq]; exact Kd.own_blk (Kd.R_ne HO_3.out BK159.out (by decide))) | (show (Addr.add _ _).block ≠ _; rw [zq]; exact Kd.own_blk (Kd.R_ne HO_3.out BK159.out (by decide))) | (dsimp only; exact Kd.own_blk (Kd.R_ne HO_3.out BK159.out (by decide)))) _).trans (((zr (p := ⟨gb159, _, none⟩) (by first | exact Kd.own_blk (Kd.R_ne HO_3.out BK159.out (by decide)) | (rw [zq]; exact Kd.own_blk (Kd.R_ne HO_3.out BK159.out (by decide))) | (show (Addr.add _ _).block ≠ _; rw [zq]; exact Kd.own_blk (Kd.R_ne HO_3.out BK159.out (by decide))) | (dsimp only; exact Kd.own_blk (Kd.R_ne HO_3.out BK159.out (by decide)))) _).trans (hHeld.2.2.2.2.2.2.2.2.2.2.2.2.1)))))))), ((zr (p := ⟨gb159, _, none⟩) (by first | exact Kd.own_blk (Kd.R_ne HO_3.out BK159.out (by decide)) | (rw [zq]; exact Kd.own_blk (Kd.R_ne HO_3.out BK159.out (by decide))) | (show (Addr.add _ _).block ≠ _; rw [zq]; exact Kd.own_blk (Kd.R_ne HO_3.out BK159.out (by decide))) | (dsimp only; exact Kd.own_blk (Kd.R_ne HO_3.out BK159.out (by decide)))) _).trans (((zr (p := ⟨gb159, _, none⟩) (by first | exact Kd.own_blk (Kd.R_ne HO_3.out BK159.out (by decide)) | (rw [zq]; exact Kd.own_blk (Kd.R_ne HO_3.out BK159.out (by decide))) | (show (Addr.add _ _).block ≠ _; rw [zq]; exact Kd.own_blk (Kd.R_ne HO_3.out BK159.out (by decide))) | (dsimp only; exact Kd.own_blk (Kd.R_ne HO_3.out BK159.out (by decide)))) _).trans (((zr (p := ⟨gb159, _, none⟩) (by first | exact Kd.own_blk (Kd.R_ne HO_3.out BK159.out (by decide)) | (rw [zq]; exact Kd.own_blk (Kd.R_ne HO_3.out BK159.out (by decide))) | (show (Addr.add _ _).block ≠ _; rw [zq]; exact Kd.own_blk (Kd.R_ne HO_3.out BK159.out (by decide))) | (dsimp only; exact Kd.own_blk (Kd.R_ne HO_3.out BK159.out (by decide)))) _).trans (((zr (p := ⟨gb159, _, none⟩) (by first | exact Kd.own_blk (Kd.R_ne HO_3.out BK159.out (by decide)) | (rw [zq]; exact Kd.own_blk (Kd.R_ne HO_3.out BK159.out (by decide))) | (show (Addr.add _ _).block ≠ _; rw [zq]; exact Kd.own_blk (Kd.R_ne HO_3.out BK159.out (by decide))) | (dsimp only; exact Kd.own_blk (Kd.R_ne HO_3.out BK159.out (by decide)))) _).trans (hHeld.2.2.2.2.2.2.2.2.2.2.2.2.2.1)))))))), ((zr (p := ⟨gb159, _, none⟩) (by first | exact Kd.own_blk (Kd.R_ne HO_3.out BK159.out (by decide)) | (rw [zq]; exact Kd.own_blk (Kd.R_ne HO_3.out BK159.out (by decide))) | (show (Addr.add _ _).block ≠ _; rw [zq]; exact Kd.own_blk (Kd.R_ne HO_3.out BK159.out (by decide))) | (dsimp only; exact Kd.own_blk (Kd.R_ne HO_3.out BK159.out (by decide)))) _).trans (((zr (p := ⟨gb159, _, none⟩) (by first | exact Kd.own_blk (Kd.R_ne HO_3.out BK159.out (by decide)) | (rw [zq]; exact Kd.own_blk (Kd.R_ne HO_3.out BK159.out (by decide))) | (show (Addr.add _ _).block ≠ _; rw [zq]; exact Kd.own_blk (Kd.R_ne HO_3.out BK159.out (by decide))) | (dsimp only; exact Kd.own_blk (Kd.R_ne HO_3.out BK159.out (by decide)))) _).trans (((zr (p := ⟨gb159, _, none⟩) (by first | exact Kd.own_blk (Kd.R_ne HO_3.out BK159.out (by decide)) | (rw [zq]; exact Kd.own_blk (Kd.R_ne HO_3.out BK159.out (by decide))) | (show (Addr.add _ _).block ≠ _; rw [zq]; exact Kd.own_blk (Kd.R_ne HO_3.out BK159.out (by decide))) | (dsimp only; exact Kd.own_blk (Kd.R_ne HO_3.out BK159.out (by decide)))) _).trans (((zr (p := ⟨gb159, _, none⟩) (by first | exact Kd.own_blk (Kd.R_ne HO_3.out BK159.out (by decide)) | (rw [zq]; exact Kd.own_blk (Kd.R_ne HO_3.out BK159.out (by decide))) | (show (Addr.add _ _).block ≠ _; rw [zq]; exact Kd.own_blk (Kd.R_ne HO_3.out BK159.out (by decide))) | (dsimp only; exact Kd.own_blk (Kd.R_ne HO_3.out BK159.out (by decide)))) _).trans (hHeld.2.2.2.2.2.2.2.2.2.2.2.2.2.2.1)))))))), ((zr (p := ⟨gb159, _, none⟩) (by first | exact Kd.own_blk (Kd.R_ne HO_3.out BK159.out (by decide)) | (rw [zq]; exact Kd.own_blk (Kd.R_ne HO_3.out BK159.out (by decide))) | (show (Addr.add _ _).block ≠ _; rw [zq]; exact Kd.own_blk (Kd.R_ne HO_3.out BK159.out (by decide))) | (dsimp only; exact Kd.own_blk (Kd.R_ne HO_3.out BK159.out (by decide)))) _).trans (((zr (p := ⟨gb159, _, none⟩) (by first | exact Kd.own_blk (Kd.R_ne HO_3.out BK159.out (by decide)) | (rw [zq]; exact Kd.own_blk (Kd.R_ne HO_3.out BK159.out (by decide))) | (show (Addr.add _ _).block ≠ _; rw [zq]; exact Kd.own_blk (Kd.R_ne HO_3.out BK159.out (by decide))) | (dsimp only; exact Kd.own_blk (Kd.R_ne HO_3.out BK159.out (by decide)))) _).trans (((zr (p := ⟨gb159, _, none⟩) (by first | exact Kd.own_blk (Kd.R_ne HO_3.out BK159.out (by decide)) | (rw [zq]; exact Kd.own_blk (Kd.R_ne HO_3.out BK159.out (by decide))) | (show (Addr.add _ _).block ≠ _; rw [zq]; exact Kd.own_blk (Kd.R_ne HO_3.out BK159.out (by decide))) | (dsimp only; exact Kd.own_blk (Kd.R_ne HO_3.out BK159.out (by decide)))) _).trans (((zr (p := ⟨gb159, _, none⟩) (by first | exact Kd.own_blk (Kd.R_ne HO_3.out BK159.out (by decide)) | (rw [zq]; exact Kd.own_blk (Kd.R_ne HO_3.out BK159.out (by decide))) | (show (Addr.add _ _).block ≠ _; rw [zq]; exact Kd.own_blk (Kd.R_ne HO_3.out BK159.out (by decide))) | (dsimp only; exact Kd.own_blk (Kd.R_ne HO_3.out BK159.out (by decide)))) _).trans (hHeld.2.2.2.2.2.2.2.2.2.2.2.2.2.2.2.1)))))))), ((zr (p := ⟨gb159, _, none⟩) (by first | exact Kd.own_blk (Kd.R_ne HO_3.out BK159.out (by decide)) | (rw [zq]; exact Kd.own_blk (Kd.R_ne HO_3.out BK159.out (by decide))) | (show (Addr.add _ _).block ≠ _; rw [zq]; exact Kd.own_blk (Kd.R_ne HO_3.out BK159.out (by decide))) | (dsimp only; exact Kd.own_blk (Kd.R_ne HO_3.out BK159.out (by decide)))) _).trans (((zr (p := ⟨gb159, _, none⟩) (by first | exact Kd.own_blk (Kd.R_ne HO_3.out BK159.out (by decide)) | (rw [zq]; exact Kd.own_blk (Kd.R_ne HO_3.out BK159.out (by decide))) | (show (Addr.add _ _).block ≠ _; rw [zq]; exact Kd.own_blk (Kd.R_ne HO_3.out BK159.out (by decide))) | (dsimp only; exact Kd.own_blk (Kd.R_ne HO_3.out BK159.out (by decide)))) _).trans (((zr (p := ⟨gb159, _, none⟩) (by first | exact Kd.own_blk (Kd.R_ne HO_3.out BK159.out (by decide)) | (rw [zq]; exact Kd.own_blk (Kd.R_ne HO_3.out BK159.out (by decide))) | (show (Addr.add _ _).block ≠ _; rw [zq]; exact Kd.own_blk (Kd.R_ne HO_3.out BK159.out (by decide))) | (dsimp only; exact Kd.own_blk (Kd.R_ne HO_3.out BK159.out (by decide)))) _).trans (((zr (p := ⟨gb159, _, none⟩) (by first | exact Kd.own_blk (Kd.R_ne HO_3.out BK159.out (by decide)) | (rw [zq]; exact Kd.own_blk (Kd.R_ne HO_3.out BK159.out (by decide))) | (show (Addr.add _ _).block ≠ _; rw [zq]; exact Kd.own_blk (Kd.R_ne HO_3.out BK159.out (by decide))) | (dsimp only; exact Kd.own_blk (Kd.R_ne HO_3.out BK159.out (by decide)))) _).trans (hHeld.2.2.2.2.2.2.2.2.2.2.2.2.2.2.2.2.1)))))))), ((zr (p := ⟨gb159, _, none⟩) (by first | exact Kd.own_blk (Kd.R_ne HO_3.out BK159.out (by decide)) | (rw [zq]; exact Kd.own_blk (Kd.R_ne HO_3.out BK159.out (by decide))) | (show (Addr.add _ _).block ≠ _; rw [zq]; exact Kd.own_blk (Kd.R_ne HO_3.out BK159.out (by decide))) | (dsimp only; exact Kd.own_blk (Kd.R_ne HO_3.out BK159.out (by decide)))) _).trans (((zr (p := ⟨gb159, _, none⟩) (by first | exact Kd.own_blk (Kd.R_ne HO_3.out BK159.out (by decide)) | (rw [zq]; exact Kd.own_blk (Kd.R_ne HO_3.out BK159.out (by decide))) | (show (Addr.add _ _).block ≠ _; rw [zq]; exact Kd.own_blk (Kd.R_ne HO_3.out BK159.out (by decide))) | (dsimp only; exact Kd.own_blk (Kd.R_ne HO_3.out BK159.out (by decide)))) _).trans (((zr (p := ⟨gb159, _, none⟩) (by first | exact Kd.own_blk (Kd.R_ne HO_3.out BK159.out (by decide)) | (rw [zq]; exact Kd.own_blk (Kd.R_ne HO_3.out BK159.out (by decide))) | (show (Addr.add _ _).block ≠ _; rw [zq]; exact Kd.own_blk (Kd.R_ne HO_3.out BK159.out (by decide))) | (dsimp only; exact Kd.own_blk (Kd.R_ne HO_3.out BK159.out (by decide)))) _).trans (((zr (p := ⟨gb159, _, none⟩) (by first | exact Kd.own_blk (Kd.R_ne HO_3.out BK159.out (by decide)) | (rw [zq]; exact Kd.own_blk (Kd.R_ne HO_3.out BK159.out (by decide))) | (show (Addr.add _ _).block ≠ _; rw [zq]; exact Kd.own_blk (Kd.R_ne HO_3.out BK159.out (by decide))) | (dsimp only; exact Kd.own_blk (Kd.R_ne HO_3.out BK159.out (by decide)))) _).trans (hHeld.2.2.2.2.2.2.2.2.2.2.2.2.2.2.2.2.2))))))))⟩ (fun hHeld => ?_)
       clear hK K
       refine zfa (i := 13) (N := some 9) (v := ?_) (a' := ?_) #[true, true, true, true, true, true, true, true, true, true, true, true, true, true] rfl rfl (zda HT_.out (by kernel_rfl)) (fun _ _ _ h => h) (Or.inl ⟨by rfl, ?_⟩) ?_ ?_
       rotate_left
       ·intro w'
        go_simp
        with_reducible rfl
       rotate_left
       ·simp only [Act.put, List.setIfInBounds_toArray, List.set_cons_zero, List.set_cons_succ, zz, zy]
        rfl
       refine zae (zfc HT_.out (by kernel_rfl)) ?_
       have H := HS_.out
       clear HS_
       by_cases c20 : inQ x3_2 (⟨t154, t155, t156, t157⟩ : S27) = true
       ·skip
        have H1 : (impl_Puzzle_search.l1 k2 x3_2 x5_1 t148 (t148.length : Int) (wrap64 (x32_2 + 1)) l0_0 a0_1 a0_2 a0_3 a0_4 a0_5) = some r := by rw [if_pos c20] at H; exact H
        clear H
        have H := H1
        clear H1
        have H' := za.mk H
        clear H
        have hnb35 := NB159_142.out
        have hnc35 := NB142_159.out
        have hnb36 := NB159_143.out
        have hnc36 := NB143_159.out
        have hnb37 := NB159_152.out
        have hnc37 := NB152_159.out
        obtain ⟨hcz38_0, hcz38_1, hcz38_2, hcz38_3⟩ := xc4 BK159
        obtain ⟨hfz38_0, hfz38_1, hfz38_2, hfz38_3⟩ := xf4 BK159
        have hnb39 := NB143_142.out
        have hnc39 := NB142_143.out
        go_wp2_with (first | ((with_reducible refine zu (N := 49) rfl ?_); refine look_ rfl (.tmp 47) (.tmp 48) rfl (b := gb143) rfl (FM.out _ _ (by (repeat (refine zka ?_ NB143_159.out _)); exact BK143.out)) (k := (⟨t154, t155, t156, t157⟩ : S27)) rfl HWF.out ?_; rw [c20]) | go_in)
        go_roundg k2
        case measure => have := HK1.out; have := HK2.out; omega
        case rel => exact ⟨(x3_2), (wrap64 (x32_2 + 1)), es2, mc2, (by first | rfl | (simp; done) | (simp [*]; done)), H', ⟨by have := HK1.out; have := HK2.out; omega⟩, ⟨by (with_reducible repeat (first | apply Kd.R_alloc | apply Kd.R_drewN | apply Kd.R_drew)); exact Kd.R_mono (Kd.R_far (p := ⟨gb159, 3, none⟩) (Kd.R_far (p := ⟨gb159, 2, none⟩) (Kd.R_far (p := ⟨gb159, 1, none⟩) (Kd.R_far (p := ⟨gb159, 0, none⟩) (Kd.R_types HO_3.out BK159.out (by decide)) (fun _ hk => hk.2) (.int .i16 t154)) (fun _ hk => hk.2) (.int .i16 t155)) (fun _ hk => hk.2) (.int .i16 t156)) (fun _ hk => hk.2) (.int .i16 t157)) (fun _ hk => trivial)⟩, ⟨by (with_reducible repeat (first | apply Kd.R_alloc | apply Kd.R_drewN | apply Kd.R_drew)); exact Kd.R_mono (Kd.R_far (p := ⟨gb159, 3, none⟩) (Kd.R_far (p := ⟨gb159, 2, none⟩) (Kd.R_far (p := ⟨gb159, 1, none⟩) (Kd.R_far (p := ⟨gb159, 0, none⟩) (Kd.R_types HO_30.out BK159.out (by decide)) (fun _ hk => hk.2) (.int .i16 t154)) (fun _ hk => hk.2) (.int .i16 t155)) (fun _ hk => hk.2) (.int .i16 t156)) (fun _ hk => hk.2) (.int .i16 t157)) (fun _ hk => trivial)⟩, ⟨by (with_reducible repeat (first | refine ze ?_ _ | refine zf ?_ | refine zc ?_ _)); refine zm ?_ NB142_159.out _; (with_reducible repeat (first | refine ze ?_ _ | refine zf ?_ | refine zc ?_ _)); refine zm ?_ NB142_159.out _; (with_reducible repeat (first | refine ze ?_ _ | refine zf ?_ | refine zc ?_ _)); refine zm ?_ NB142_159.out _; (with_reducible repeat (first | refine ze ?_ _ | refine zf ?_ | refine zc ?_ _)); refine zm ?_ NB142_159.out _; (with_reducible repeat (first | refine ze ?_ _ | refine zf ?_ | refine zc ?_ _)); exact BK142.out⟩, ⟨by (with_reducible repeat (first | refine ze ?_ _ | refine zf ?_ | refine zc ?_ _)); refine zka ?_ NB143_159.out _; (with_reducible repeat (first | refine ze ?_ _ | refine zf ?_ | refine zc ?_ _)); refine zka ?_ NB143_159.out _; (with_reducible repeat (first | refine ze ?_ _ | refine zf ?_ | refine zc ?_ _)); refine zka ?_ NB143_159.out _; (with_reducible repeat (first | refine ze ?_ _ | refine zf ?_ | refine zc ?_ _)); refine zka ?_ NB143_159.out _; (with_reducible repeat (first | refine ze ?_ _ | refine zf ?_ | refine zc ?_ _)); exact BK143.out⟩, FM, ⟨sB⟩⟩
       replace c20 := Bool.eq_false_iff.mpr c20
       have H1 : (if x3_2.length < 4398046511104 then (impl_Puzzle_search.l1 k2 (x3_2 ++ [(⟨(⟨t154, t155, t156, t157⟩ : S27), x5_1, (⟨(zi t148 x32_2).f0, (zi t148 x32_2).f1, (zi t148 x32_2).f2⟩ : S80), wrap64 (((zl x3_2 x5_1).f3) + 1)⟩ : S82)]) x5_1 t148 (t148.length : Int) (wrap64 (x32_2 + 1)) l0_0 a0_1 a0_2 a0_3 a0_4 a0_5) else (none)) = some r := by rw [if_neg (by rw [c20]; exact Bool.false_ne_true)] at H; exact H
       clear H
       have H := H1
       clear H1
       by_cases c41 : x3_2.length < 4398046511104
       rotate_left
       ·rw [if_neg c41] at H
        exact absurd H (by simp)
       rw [if_pos c41] at H
       have LMc41 := za.mk c41
       clear c41
       obtain ⟨y161, hy161⟩ : ∃ y_ : List (S82), y_ = (x3_2 ++ [(⟨(⟨t154, t155, t156, t157⟩ : S27), x5_1, (⟨(zi t148 x32_2).f0, (zi t148 x32_2).f1, (zi t148 x32_2).f2⟩ : S80), wrap64 (((zl x3_2 x5_1).f3) + 1)⟩ : S82)]) := ⟨_, rfl⟩
       replace H : (impl_Puzzle_search.l1 k2 y161 x5_1 t148 (t148.length : Int) (wrap64 (x32_2 + 1)) l0_0 a0_1 a0_2 a0_3 a0_4 a0_5) = some r := by first | (rw [hy161]; with_reducible exact H) | (have H2_ := (Option.bind_some _ _).symm.trans H; rw [hy161]; with_reducible exact H2_) | (have H2_ := (Option.bind_some _ _).symm.trans H; with_reducible exact H2_) | with_reducible exact H | (rw [hy161]; exact H) | exact H
       have Ny161 := za.mk hy161
       clear hy161
       have H' := za.mk H
       clear H
       have hnb56 := NB159_142.out
       have hnc56 := NB142_159.out
       have hnb57 := NB159_143.out
       have hnc57 := NB143_159.out
       have hnb58 := NB159_152.out
       have hnc58 := NB152_159.out
       obtain ⟨hcz59_0, hcz59_1, hcz59_2, hcz59_3⟩ := xc4 BK159
       obtain ⟨hfz59_0, hfz59_1, hfz59_2, hfz59_3⟩ := xf4 BK159
       have hnb60 := NB143_142.out
       have hnc60 := NB142_143.out
       have n0_ : za (Kd.R k82 82 ((((w30.setCell ⟨gb159, 0, none⟩ (.int .i16 t154)).setCell ⟨gb159, 1, none⟩ (.int .i16 t155)).setCell ⟨gb159, 2, none⟩ (.int .i16 t156)).setCell ⟨gb159, 3, none⟩ (.int .i16 t157)) w.heap.size (fun _ => True) (.slice (some ad153) x3_2.length co27) x3_2) := ⟨by (with_reducible repeat (first | apply Kd.R_alloc | apply Kd.R_drewN | apply Kd.R_drew)); exact Kd.R_mono (Kd.R_far (p := ⟨gb159, 3, none⟩) (Kd.R_far (p := ⟨gb159, 2, none⟩) (Kd.R_far (p := ⟨gb159, 1, none⟩) (Kd.R_far (p := ⟨gb159, 0, none⟩) (Kd.R_types HO_3.out BK159.out (by decide)) (fun _ hk => hk.2) (.int .i16 t154)) (fun _ hk => hk.2) (.int .i16 t155)) (fun _ hk => hk.2) (.int .i16 t156)) (fun _ hk => hk.2) (.int .i16 t157)) (fun _ hk => trivial)⟩
       have n1_ : za (Kd.R k80 80 ((((w30.setCell ⟨gb159, 0, none⟩ (.int .i16 t154)).setCell ⟨gb159, 1, none⟩ (.int .i16 t155)).setCell ⟨gb159, 2, none⟩ (.int .i16 t156)).setCell ⟨gb159, 3, none⟩ (.int .i16 t157)) w.heap.size (fun k_ => k_ ≠ gb152) (.slice (some ad151) t148.length co13) t148) := ⟨by (with_reducible repeat (first | apply Kd.R_alloc | apply Kd.R_drewN | apply Kd.R_drew)); exact Kd.R_mono (Kd.R_far (p := ⟨gb159, 3, none⟩) (Kd.R_far (p := ⟨gb159, 2, none⟩) (Kd.R_far (p := ⟨gb159, 1, none⟩) (Kd.R_far (p := ⟨gb159, 0, none⟩) (Kd.R_types HO_30.out BK159.out (by decide)) (fun _ hk => hk.2) (.int .i16 t154)) (fun _ hk => hk.2) (.int .i16 t155)) (fun _ hk => hk.2) (.int .i16 t156)) (fun _ hk => hk.2) (.int .i16 t157)) (fun _ hk => hk.1)⟩
       have n2_ : za (((((w30.setCell ⟨gb159, 0, none⟩ (.int .i16 t154)).setCell ⟨gb159, 1, none⟩ (.int .i16 t155)).setCell ⟨gb159, 2, none⟩ (.int .i16 t156)).setCell ⟨gb159, 3, none⟩ (.int .i16 t157)).heap[gb142]? = some (.cells #[.slice A0_0 l0_0.length c0_0, .int .i16 a0_1, .int .i16 a0_2, .int .i16 a0_3, .int .i16 a0_4, .bool a0_5] 29 (0, 0))) := ⟨by (with_reducible repeat (first | refine ze ?_ _ | refine zf ?_ | refine zc ?_ _)); refine zm ?_ NB142_159.out _; (with_reducible repeat (first | refine ze ?_ _ | refine zf ?_ | refine zc ?_ _)); refine zm ?_ NB142_159.out _; (with_reducible repeat (first | refine ze ?_ _ | refine zf ?_ | refine zc ?_ _)); refine zm ?_ NB142_159.out _; (with_reducible repeat (first | refine ze ?_ _ | refine zf ?_ | refine zc ?_ _)); refine zm ?_ NB142_159.out _; (with_reducible repeat (first | refine ze ?_ _ | refine zf ?_ | refine zc ?_ _)); exact BK142.out⟩
       have n3_ : za (((((w30.setCell ⟨gb159, 0, none⟩ (.int .i16 t154)).setCell ⟨gb159, 1, none⟩ (.int .i16 t155)).setCell ⟨gb159, 2, none⟩ (.int .i16 t156)).setCell ⟨gb159, 3, none⟩ (.int .i16 t157)).heap[gb143]? = some (.map es2 mc2)) := ⟨by (with_reducible repeat (first | refine ze ?_ _ | refine zf ?_ | refine zc ?_ _)); refine zka ?_ NB143_159.out _; (with_reducible repeat (first | refine ze ?_ _ | refine zf ?_ | refine zc ?_ _)); refine zka ?_ NB143_159.out _; (with_reducible repeat (first | refine ze ?_ _ | refine zf ?_ | refine zc ?_ _)); refine zka ?_ NB143_159.out _; (with_reducible repeat (first | refine ze ?_ _ | refine zf ?_ | refine zc ?_ _)); refine zka ?_ NB143_159.out _; (with_reducible repeat (first | refine ze ?_ _ | refine zf ?_ | refine zc ?_ _)); exact BK143.out⟩
       have n4_ : za (((((w30.setCell ⟨gb159, 0, none⟩ (.int .i16 t154)).setCell ⟨gb159, 1, none⟩ (.int .i16 t155)).setCell ⟨gb159, 2, none⟩ (.int .i16 t156)).setCell ⟨gb159, 3, none⟩ (.int .i16 t157)).heap[gb152]? = some (.cells #[.int .i8 ((zi t148 x32_2).f0), .int .i8 ((zi t148 x32_2).f1), .int .i8 ((zi t148 x32_2).f2)] 80 (0, 0))) := ⟨by (with_reducible repeat (first | refine ze ?_ _ | refine zf ?_ | refine zc ?_ _)); refine zm ?_ NB152_159.out _; (with_reducible repeat (first | refine ze ?_ _ | refine zf ?_ | refine zc ?_ _)); refine zm ?_ NB152_159.out _; (with_reducible repeat (first | refine ze ?_ _ | refine zf ?_ | refine zc ?_ _)); refine zm ?_ NB152_159.out _; (with_reducible repeat (first | refine ze ?_ _ | refine zf ?_ | refine zc ?_ _)); refine zm ?_ NB152_159.out _; (with_reducible repeat (first | refine ze ?_ _ | refine zf ?_ | refine zc ?_ _)); exact BK152.out⟩
       have n5_ : za (((((w30.setCell ⟨gb159, 0, none⟩ (.int .i16 t154)).setCell ⟨gb159, 1, none⟩ (.int .i16 t155)).setCell ⟨gb159, 2, none⟩ (.int .i16 t156)).setCell ⟨gb159, 3, none⟩ (.int .i16 t157)).heap[gb159]? = some (.cells #[.int .i16 t154, .int .i16 t155, .int .i16 t156, .int .i16 t157] 27 (0, 0))) := ⟨by (with_reducible repeat (first | refine ze ?_ _ | refine zf ?_ | refine zc ?_ _)); refine zx (cs := #[.int .i16 t154, .int .i16 t155, .int .i16 t156, .int .i16 0]) ?_ 3 _ rfl; (with_reducible repeat (first | refine ze ?_ _ | refine zf ?_ | refine zc ?_ _)); refine zx (cs := #[.int .i16 t154, .int .i16 t155, .int .i16 0, .int .i16 0]) ?_ 2 _ rfl; (with_reducible repeat (first | refine ze ?_ _ | refine zf ?_ | refine zc ?_ _)); refine zx (cs := #[.int .i16 t154, .int .i16 0, .int .i16 0, .int .i16 0]) ?_ 1 _ rfl; (with_reducible repeat (first | refine ze ?_ _ | refine zf ?_ | refine zc ?_ _)); refine zx (cs := #[.int .i16 0, .int .i16 0, .int .i16 0, .int .i16 0]) ?_ 0 _ rfl; (with_reducible repeat (first | refine ze ?_ _ | refine zf ?_ | refine zc ?_ _)); exact BK159.out⟩
       have n6_ : za (Below w.heap.size w ((((w30.setCell ⟨gb159, 0, none⟩ (.int .i16 t154)).setCell ⟨gb159, 1, none⟩ (.int .i16 t155)).setCell ⟨gb159, 2, none⟩ (.int .i16 t156)).setCell ⟨gb159, 3, none⟩ (.int .i16 t157))) := ⟨sB⟩
       (try clear HO_3)
       (try clear HO_30)
       (try clear BK142)
       (try clear BK143)
       (try clear BK152)
       (try clear BK159)
       (try clear HB)
       generalize ((((w30.setCell ⟨gb159, 0, none⟩ (.int .i16 t154)).setCell ⟨gb159, 1, none⟩ (.int .i16 t155)).setCell ⟨gb159, 2, none⟩ (.int .i16 t156)).setCell ⟨gb159, 3, none⟩ (.int .i16 t157)) = w62p at n0_ n1_ n2_ n3_ n4_ n5_ n6_ ⊢
       have HO_3 := n0_
       have HO_30 := n1_
       have BK142 := n2_
       have BK143 := n3_
       have BK152 := n4_
       have BK159 := n5_
       have HB := n6_
       clear n0_ n1_ n2_ n3_ n4_ n5_ n6_
       have hcy0 : w62p.cell? ⟨gb159, 0, none⟩ = some (.int .i16 t154) := (zb BK159.out 0).trans rfl
       have hcy1 : w62p.cell? ⟨gb159, 1, none⟩ = some (.int .i16 t155) := (zb BK159.out 1).trans rfl
       have hcy2 : w62p.cell? ⟨gb159, 2, none⟩ = some (.int .i16 t156) := (zb BK159.out 2).trans rfl
       have hcy3 : w62p.cell? ⟨gb159, 3, none⟩ = some (.int .i16 t157) := (zb BK159.out 3).trans rfl
       go_wp2_with (first | ((with_reducible refine zu (N := 49) rfl ?_); refine look_ rfl (.tmp 47) (.tmp 48) rfl (b := gb143) rfl (FM.out _ _ BK143.out) (k := (⟨t154, t155, t156, t157⟩ : S27)) rfl HWF.out ?_; rw [c20]) | (refine put_ rfl (.tmp 51) (.tmp 52) _ rfl (b := gb143) rfl (FM.out _ _ BK143.out) (by have := LMc41.out; unfold maxLen; omega) (e := (⟨(⟨t154, t155, t156, t157⟩ : S27), x5_1, (⟨(zi t148 x32_2).f0, (zi t148 x32_2).f1, (zi t148 x32_2).f2⟩ : S80), wrap64 (((zl x3_2 x5_1).f3) + 1)⟩ : S82)) rfl HWF.out rfl ?_; intro w62 hIM hgr) | go_in)
       rw [← Ny161.out] at hIM
       have n0_ := za.mk (R_map HO_3.out BK143.out hgr)
       have n1_ := za.mk (R_map HO_30.out BK143.out hgr)
       have n2_ := za.mk (zga BK142.out hgr (zqd NB142_143.out))
       have n4_ := za.mk (zga BK152.out hgr (zqd NB152_143.out))
       have n5_ := za.mk (zga BK159.out hgr (zqd NB159_143.out))
       have n6_ := za.mk (HB.out.grown hgr (zaa HB.out) (fun j hj => by cases hj; exact GE143.out))
       clear HO_3 HO_30 BK142 BK143 BK152 BK159 HB FM hcy0 hcy1 hcy2 hcy3
       obtain ⟨es3, mc3, hM_, hF_⟩ := isM_open hIM
       have HO_3 := n0_
       have HO_30 := n1_
       have BK142 := n2_
       have BK143 : za (w62.heap[gb143]? = some (.map es3 mc3)) := ⟨hM_⟩
       have FM := za.mk hF_
       have BK152 := n4_
       have BK159 := n5_
       have HB := n6_
       clear n0_ n1_ n2_ n4_ n5_ n6_ hM_ hF_ hIM hgr
       have n0_ := za.mk (Kd.R_drew HO_3.out)
       have n1_ := za.mk (Kd.R_drew HO_30.out)
       have n2_ := za.mk (zf BK142.out)
       have n3_ := za.mk (zf BK143.out)
       have n4_ := za.mk (zf BK152.out)
       have n5_ := za.mk (zf BK159.out)
       have n6_ := za.mk (zv HB.out)
       clear HO_3
       clear HO_30
       clear BK142
       clear BK143
       clear BK152
       clear BK159
       clear HB
       have HO_3 := n0_
       have HO_30 := n1_
       have BK142 := n2_
       have BK143 := n3_
       have BK152 := n4_
       have BK159 := n5_
       have HB := n6_
       clear n0_ n1_ n2_ n3_ n4_ n5_ n6_
       have p160 : 0 ≤ (x5_1 : Int) := of_decide_eq_true (by first | (with_reducible assumption) | assumption)
       have q160 : x5_1 < (x3_2.length : Int) := of_decide_eq_true (by first | (with_reducible assumption) | assumption)
       obtain ⟨ad160, e160, hx160_0, hx160_1, hx160_2, hx160_3, hx160_4, hx160_5, hx160_6, hx160_7, hx160_8⟩ := at_T82 (Kd.R_reads' HO_3.out).2.2 x5_1 p160 q160
       obtain rfl : ad153 = ad160 := (by injection e160)
       replace p160 := eq_true p160
       replace q160 := eq_true q160
       refine zlc (n := 14) (S := fun w' => w'.cell? ⟨gb159, 0, none⟩ = some (.int .i16 t154) ∧ w'.cell? ⟨gb159, 1, none⟩ = some (.int .i16 t155) ∧ w'.cell? ⟨gb159, 2, none⟩ = some (.int .i16 t156) ∧ w'.cell? ⟨gb159, 3, none⟩ = some (.int .i16 t157) ∧ w'.cell? ⟨gb152, 0, none⟩ = some (.int .i8 ((zi t148 x32_2).f0)) ∧ w'.cell? ⟨gb152, 1, none⟩ = some (.int .i8 ((zi t148 x32_2).f1)) ∧ w'.cell? ⟨gb152, 2, none⟩ = some (.int .i8 ((zi t148 x32_2).f2)) ∧ w'.cell? (ad153.add ((x5_1).toNat * 9)) = some (.int .i16 ((zl x3_2 x5_1).f0.f0)) ∧ w'.cell? ⟨(ad153.add ((x5_1).toNat * 9)).block, (ad153.add ((x5_1).toNat * 9)).off + 1, none⟩ = some (.int .i16 ((zl x3_2 x5_1).f0.f1)) ∧ w'.cell? ⟨(ad153.add ((x5_1).toNat * 9)).block, (ad153.add ((x5_1).toNat * 9)).off + 2, none⟩ = some (.int .i16 ((zl x3_2 x5_1).f0.f2)) ∧ w'.cell? ⟨(ad153.add ((x5_1).toNat * 9)).block, (ad153.add ((x5_1).toNat * 9)).off + 3, none⟩ = some (.int .i16 ((zl x3_2 x5_1).f0.f3)) ∧ w'.cell? ⟨(ad153.add ((x5_1).toNat * 9)).block, (ad153.add ((x5_1).toNat * 9)).off + 4, none⟩ = some (.int .i64 ((zl x3_2 x5_1).f1)) ∧ w'.cell? ⟨(ad153.add ((x5_1).toNat * 9)).block, (ad153.add ((x5_1).toNat * 9)).off + 5, none⟩ = some (.int .i8 ((zl x3_2 x5_1).f2.f0)) ∧ w'.cell? ⟨(ad153.add ((x5_1).toNat * 9)).block, (ad153.add ((x5_1).toNat * 9)).off + 6, none⟩ = some (.int .i8 ((zl x3_2 x5_1).f2.f1)) ∧ w'.cell? ⟨(ad153.add ((x5_1).toNat * 9)).block, (ad153.add ((x5_1).toNat * 9)).off + 7, none⟩ = some (.int .i8 ((zl x3_2 x5_1).f2.f2)) ∧ w'.cell? ⟨(ad153.add ((x5_1).toNat * 9)).block, (ad153.add ((x5_1).toNat * 9)).off + 8, none⟩ = some (.int .i64 ((zl x3_2 x5_1).f3))) (ds := [11, 12]) #[false, false, false, false, false, false, false, false, false, false, false, false, false, false] (by kernel_rfl) rfl rfl ⟨(zb BK159.out 0).trans rfl, (zb BK159.out 1).trans rfl, (zb BK159.out 2).trans rfl, (zb BK159.out 3).trans rfl, (zb BK152.out 0).trans rfl, (zb BK152.out 1).trans rfl, (zb BK152.out 2).trans rfl, hx160_0, hx160_1, hx160_2, hx160_3, hx160_4, hx160_5, hx160_6, hx160_7, hx160_8⟩ (fun hHeld => ?_); refine zpb impl_Puzzle_search.tab11 impl_Puzzle_search.bits11 (fun HT_ HW_ => ?_)
       generalize w62.drew = w63 at HO_3 HO_30 BK142 BK143 BK152 BK159 HB hx160_0 hx160_1 hx160_2 hx160_3 hx160_4 hx160_5 hx160_6 hx160_7 hx160_8 hHeld ⊢
       refine zfa (i := 0) (N := some 53) (v := ?_) (a' := ?_) #[true, false, false, false, false, false, false, false, false, false, false, false, false, false] rfl rfl (zda HT_.out (by kernel_rfl)) (fun _ _ _ h => h) (Or.inl ⟨by rfl, ?_⟩) ?_ ?_
       rotate_left
       ·intro w'
        go_simp
        with_reducible rfl
       rotate_left
       ·simp only [Act.put, List.setIfInBounds_toArray, List.set_cons_zero, List.set_cons_succ, zz, zy]
        rfl
       refine zfa (i := 2) (N := some 55) (v := ?_) (a' := ?_) #[true, false, true, false, false, false, false, false, false, false, false, false, false, false] rfl rfl (zda HT_.out (by kernel_rfl)) (fun _ _ _ h => h) (Or.inl ⟨by rfl, ?_⟩) ?_ ?_
       rotate_left
       ·intro w'
        go_simp
        with_reducible rfl
       rotate_left
       ·simp only [Act.put, List.setIfInBounds_toArray, List.set_cons_zero, List.set_cons_succ, zz, zy]
        rfl
       refine zfa (i := 4) (N := some 57) (v := ?_) (a' := ?_) #[true, false, true, false, true, false, false, false, false, false, false, false, false, false] rfl rfl (zda HT_.out (by kernel_rfl)) (fun _ _ _ h => h) (Or.inl ⟨by rfl, ?_⟩) ?_ ?_
       rotate_left
       ·intro w'
        go_simp
        with_reducible rfl
       rotate_left
       ·simp only [Act.put, List.setIfInBounds_toArray, List.set_cons_zero, List.set_cons_succ, zz, zy]
        rfl
       refine zfa (i := 5) (N := some 58) (v := ?_) (a' := ?_) #[true, false, true, false, true, true, false, false, false, false, false, false, false, false] rfl rfl (zda HT_.out (by kernel_rfl)) (fun _ _ _ h => h) (Or.inl ⟨by rfl, ?_⟩) ?_ ?_
       rotate_left
       ·intro w'
        go_simp
        with_reducible rfl
       rotate_left
       ·simp only [Act.put, List.setIfInBounds_toArray, List.set_cons_zero, List.set_cons_succ, zz, zy]
        rfl
       refine zfa (i := 6) (N := some 59) (v := ?_) (a' := ?_) #[true, false, true, false, true, true, true, false, false, false, false, false, false, false] rfl rfl (zda HT_.out (by kernel_rfl)) (fun _ _ _ h => h) (Or.inl ⟨by rfl, ?_⟩) ?_ ?_
       rotate_left
       ·intro w'
        go_simp
        with_reducible rfl
       rotate_left
       ·simp only [Act.put, List.setIfInBounds_toArray, List.set_cons_zero, List.set_cons_succ, zz, zy]
        rfl
       refine zfa (i := 7) (N := some 60) (v := ?_) (a' := ?_) #[true, false, true, false, true, true, true, true, false, false, false, false, false, false] rfl rfl (zda HT_.out (by kernel_rfl)) (fun _ _ _ h => h) (Or.inl ⟨by rfl, ?_⟩) ?_ ?_
       rotate_left
       ·intro w'
        go_simp
        with_reducible rfl
       rotate_left
       ·simp only [Act.put, List.setIfInBounds_toArray, List.set_cons_zero, List.set_cons_succ, zz, zy]
        rfl
       refine take_ (i := 1) (N := some 54) (v := ?_) (a' := ?_) #[true, true, true, false, true, true, true, true, false, false, false, false, false, false] rfl rfl (zwa HT_.out HW_.out (by kernel_rfl)) (fun _ _ _ h => h) (Or.inl ⟨by rfl, ?_⟩) hHeld ?_ ?_
       rotate_left
       ·rintro w' ⟨s0, s1, s2, s3, s4, s5, s6, s7, s8, s9, s10, s11, s12, s13, s14, s15⟩
        go_simp
        with_reducible rfl
       rotate_left
       ·simp only [Act.put, List.setIfInBounds_toArray, List.set_cons_zero, List.set_cons_succ, zz, zy]
        rfl
       refine take_ (i := 3) (N := some 56) (v := ?_) (a' := ?_) #[true, true, true, true, true, true, true, true, false, false, false, false, false, false] rfl rfl (zwa HT_.out HW_.out (by kernel_rfl)) (fun _ _ _ h => h) (Or.inl ⟨by rfl, ?_⟩) hHeld ?_ ?_
       rotate_left
       ·rintro w' ⟨s0, s1, s2, s3, s4, s5, s6, s7, s8, s9, s10, s11, s12, s13, s14, s15⟩
        go_simp
        with_reducible rfl
       rotate_left
       ·simp only [Act.put, List.setIfInBounds_toArray, List.set_cons_zero, List.set_cons_succ, zz, zy]
        rfl
       refine take_ (i := 8) (N := some 61) (v := ?_) (a' := ?_) #[true, true, true, true, true, true, true, true, true, false, false, false, false, false] rfl rfl (zwa HT_.out HW_.out (by kernel_rfl)) (fun _ _ _ h => h) (Or.inl ⟨by rfl, ?_⟩) hHeld ?_ ?_
       rotate_left
       ·rintro w' ⟨s0, s1, s2, s3, s4, s5, s6, s7, s8, s9, s10, s11, s12, s13, s14, s15⟩
        go_simp
        with_reducible rfl
       rotate_left
       ·simp only [Act.put, List.setIfInBounds_toArray, List.set_cons_zero, List.set_cons_succ, zz, zy]
        rfl
       refine zfa (i := 9) (N := some 62) (v := ?_) (a' := ?_) #[true, true, true, true, true, true, true, true, true, true, false, false, false, false] rfl rfl (zda HT_.out (by kernel_rfl)) (fun _ _ _ h => h) (Or.inl ⟨by rfl, ?_⟩) ?_ ?_
       rotate_left
       ·intro w'
        go_simp
        with_reducible rfl
       rotate_left
       ·simp only [Act.put, List.setIfInBounds_toArray, List.set_cons_zero, List.set_cons_succ, zz, zy]
        rfl
       refine zfa (i := 10) (N := some 63) (v := ?_) (a' := ?_) #[true, true, true, true, true, true, true, true, true, true, true, false, false, false] rfl rfl (zda HT_.out (by kernel_rfl)) (fun _ _ _ h => h) (Or.inl ⟨by rfl, ?_⟩) ?_ ?_
       rotate_left
       ·intro w'
        go_simp
        with_reducible rfl
       rotate_left
       ·simp only [Act.put, List.setIfInBounds_toArray, List.set_cons_zero, List.set_cons_succ, zz, zy]
        rfl
       refine last_ (i := 11) (N := some 64) #[true, true, true, true, true, true, true, true, true, true, true, true, false, false] rfl rfl (ztb HT_.out (by kernel_rfl)) (by decide) (fun K hK => ?_)
       refine value_ (w1 := ?_) (v := ?_) (by rfl) rfl ?_ ?_
       rotate_left 2
       ·go_simp
        constructor
        ·rfl
        rfl
       refine hK.out _ _ ?_
       clear hK K
       refine zma (a' := ?_) ?_ ?_
       rotate_left
       ·show Act.put _ (some 64) _ = _
        simp only [Act.put, List.setIfInBounds_toArray, List.set_cons_zero, List.set_cons_succ, zz, zy]
        rfl
       refine last_ (i := 12) (N := some 65) #[true, true, true, true, true, true, true, true, true, true, true, true, true, false] rfl rfl (ztb HT_.out (by kernel_rfl)) (by decide) (fun K hK => ?_)
       refine Kd.R_append_step k82 (w0 := w) w.heap.size (by rfl) (.tmp 53) (.tmp 64) 76 82 (.agg #[(.int .i16 0), (.int .i16 0), (.int .i16 0), (.int .i16 0), (.int .i64 0), (.int .i8 0), (.int .i8 0), (.int .i8 0), (.int .i64 0)]) 32 rfl Try.underlying76 info82 rfl (by decide) (by omega) (.slice (some ad153) x3_2.length co27) x3_2 (⟨(⟨t154, t155, t156, t157⟩ : S27), x5_1, (⟨(zi t148 x32_2).f0, (zi t148 x32_2).f1, (zi t148 x32_2).f2⟩ : S80), wrap64 (((zl x3_2 x5_1).f3) + 1)⟩ : S82) [.int .i16 t154, .int .i16 t155, .int .i16 t156, .int .i16 t157, .int .i64 x5_1, .int .i8 ((zi t148 x32_2).f0), .int .i8 ((zi t148 x32_2).f1), .int .i8 ((zi t148 x32_2).f2), .int .i64 (wrap64 (((zl x3_2 x5_1).f3) + 1))] (fun _ => True) (fun _ => False) rfl rfl ?aP (fun _ hk => hk.elim) ?aF ?aO ?aB ?aS ?aL ?_
       (case aP => exact k82_mkM _ _ _ (⟨(⟨t154, t155, t156, t157⟩ : S27), x5_1, (⟨(zi t148 x32_2).f0, (zi t148 x32_2).f1, (zi t148 x32_2).f2⟩ : S80), wrap64 (((zl x3_2 x5_1).f3) + 1)⟩ : S82))
       (case aB => exact sB)
       (case aF => exact (fun _ _ => trivial))
       (case aO => exact (uR HO_3))
       (case aS => exact (zaa sB))
       (case aL => have := LMc41.out; omega)
       intro v162 w64 ho hb hg hat
       rw [← Ny161.out] at ho
       have n0_ := za.mk (Kd.R_over' (uR HO_30) (Kd.R_typed (uR HO_3)) (by decide) hg)
       have n1_ := za.mk (zga (g := gb142) (o := .cells #[.slice A0_0 l0_0.length c0_0, .int .i16 a0_1, .int .i16 a0_2, .int .i16 a0_3, .int .i16 a0_4, .bool a0_5] 29 (0, 0)) (uK BK142) hg (Kd.R_ne HO_3.out BK142.out (by decide)))
       have n2_ := za.mk (zga (g := gb143) (o := .map es3 mc3) (uK BK143) hg (R_neM HO_3.out BK143.out))
       have n3_ := za.mk (zga (g := gb152) (o := .cells #[.int .i8 ((zi t148 x32_2).f0), .int .i8 ((zi t148 x32_2).f1), .int .i8 ((zi t148 x32_2).f2)] 80 (0, 0)) (uK BK152) hg (Kd.R_ne HO_3.out BK152.out (by decide)))
       have n4_ := za.mk (zga (g := gb159) (o := .cells #[.int .i16 t154, .int .i16 t155, .int .i16 t156, .int .i16 t157] 27 (0, 0)) (uK BK159) hg (Kd.R_ne HO_3.out BK159.out (by decide)))
       have n5_ := za.mk hb
       have n6_ := za.mk ho
       clear HO_30
       clear BK142
       clear BK143
       clear BK152
       clear BK159
       clear HB
       clear HO_3
       have HO_30 := n0_
       have BK142 := n1_
       have BK143 := n2_
       have BK152 := n3_
       have BK159 := n4_
       have HB := n5_
       have HO163 := n6_
       clear n0_ n1_ n2_ n3_ n4_ n5_ n6_
       clear ho hb hg hat
       refine hK.out _ _ ?_
       clear hK K
       refine zma (a' := ?_) ?_ ?_
       rotate_left
       ·show Act.put _ (some 65) _ = _
        simp only [Act.put, List.setIfInBounds_toArray, List.set_cons_zero, List.set_cons_succ, zz, zy]
        rfl
       refine zfa (i := 13) (N := some 3) (v := ?_) (a' := ?_) #[true, true, true, true, true, true, true, true, true, true, true, true, true, true] rfl rfl (zda HT_.out (by kernel_rfl)) (fun _ _ _ h => h) (Or.inl ⟨by rfl, ?_⟩) ?_ ?_
       rotate_left
       ·intro w'
        go_simp
        with_reducible rfl
       rotate_left
       ·simp only [Act.put, List.setIfInBounds_toArray, List.set_cons_zero, List.set_cons_succ, zz, zy]
        rfl
       refine zae (zfc HT_.out (by kernel_rfl)) ?_
       try go_wp2
       go_roundg k2
       case measure => have := HK1.out; have := HK2.out; omega
       case rel => exact ⟨(y161), (wrap64 (x32_2 + 1)), es3, mc3, (by first | rfl | (simp; done) | (simp [*]; done)), H', ⟨by have := HK1.out; have := HK2.out; omega⟩, ⟨uR HO163⟩, ⟨uR' (Kd.R_mono HO_30.out (fun _ hk => trivial))⟩, ⟨uK BK142⟩, ⟨uK BK143⟩, FM, ⟨sB⟩⟩
      rw [if_neg c14] at H
      have c14b0 : decide (x32_2 < (t148.length : Int)) = false := decide_eq_false c14
      clear c14
      have H' := za.mk H
      clear H
      go_wp2
      go_roundg k2
      case measure => have := HK1.out; have := HK2.out; omega
      case rel => exact ⟨(x3_2), (wrap64 (x5_1 + 1)), es2, mc2, (by first | rfl | (simp; done) | (simp [*]; done)), H', ⟨by have := HK1.out; have := HK2.out; omega⟩, ⟨uR HO_3⟩, ⟨uK BK142⟩, ⟨uK BK143⟩, FM, ⟨sB⟩⟩
   rw [if_neg c7] at H
   have c7b0 : decide (x5_1 < (x3_1.length : Int)) = false := decide_eq_false c7
   clear c7
   obtain rfl := Option.some.inj H
   obtain ⟨Ao65, co65, eo65⟩ := Kd.R_slice HO_3.out
   subst eo65
   go_wp2
   go_ret
   exact ⟨_, by first | rfl | (simp [zj, zk] <;> rfl) | (simp [*, zj, zk] <;> rfl), by (with_reducible repeat (first | apply Kd.R_alloc | apply Kd.R_drewN | apply Kd.R_drew)); exact HO_3.out, sB⟩
end Go.Proofs.Yteciomagemjjaaa.J
