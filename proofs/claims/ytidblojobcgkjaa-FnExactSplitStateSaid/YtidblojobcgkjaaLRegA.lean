-- Written by wip/tools/myprint.py, a program of this session, by way of the kit's print.
import Derived.Test.YtidblojobcgkjaaMx0
import Derived.Test.YtidblojobcgkjaaMx4
import Derived.Test.YtidblojobcgkjaaMx5
import Derived.Test.YtidblojobcgkjaaMx8
import Derived.Test.YtidblojobcgkjaaMx9
namespace Go.Proofs.Ytidblojobcgkjaa.M
open Go.RowKit Go.Proofs.YtidblojobcgkjaaW.PrintWords Go.Proofs.YtidblojobcgkjaaW.PrintLast Go.Proofs.YtidblojobcgkjaaW.PrintMore
attribute [local go_sem] max2_int min2_int max_two min_two zpa zoa max_four min_four   -- for this text's walks alone
set_option linter.unusedVariables false
set_option linter.unusedSimpArgs false

/-! ### laws_FnExactSplitState: function 3 -/
def laws_FnExactSplitState.f (k : Nat) (a0 : Int) (a1_0 : Int) (a1_1 : Int) (a1_2 : Int) (a1_3 : Int) (a2_0 : Int) (a2_1 : Int) (a2_2 : Int) (a2_3 : Int) : Option (Bool) := (laws_toState.f k a1_0 a1_1 a1_2 a1_3).bind fun bt188 => ((laws_toState.f k a2_0 a2_1 a2_2 a2_3).bind fun bt192 => ((spec_SplitState.f k a0 bt188.1 bt188.2.1 bt188.2.2.1 bt188.2.2.2 bt192.1 bt192.2.1 bt192.2.2.1 bt192.2.2.2).bind fun bt196 => ((laws_toState.f k a1_0 a1_1 a1_2 a1_3).bind fun bt207 => ((laws_toState.f k a2_0 a2_1 a2_2 a2_3).bind fun bt211 => ((impl_SplitState.f k a0 bt207.1 bt207.2.1 bt207.2.2.1 bt207.2.2.2 bt211.1 bt211.2.1 bt211.2.2.1 bt211.2.2.2).bind fun bt215 => ((laws_eqState.f k bt215.1 bt215.2.1 bt215.2.2.1 bt215.2.2.2.1 bt196.1 bt196.2.1 bt196.2.2.1 bt196.2.2.2.1).bind fun t226 => (if t226 = true then ((laws_eqState.f k bt215.2.2.2.2.1 bt215.2.2.2.2.2.1 bt215.2.2.2.2.2.2.1 bt215.2.2.2.2.2.2.2.1 bt196.2.2.2.2.1 bt196.2.2.2.2.2.1 bt196.2.2.2.2.2.2.1 bt196.2.2.2.2.2.2.2.1).bind fun t227 => (if t227 = true then (if bt215.2.2.2.2.2.2.2.2 = bt196.2.2.2.2.2.2.2.2 then (some true) else (some false)) else (some false))) else (some false))))))))
theorem laws_FnExactSplitState.mono : ∀ a0 a1 a2 a3 a4 a5 a6 a7 a8 k, LeO (laws_FnExactSplitState.f k a0 a1 a2 a3 a4 a5 a6 a7 a8) (laws_FnExactSplitState.f (k + 1) a0 a1 a2 a3 a4 a5 a6 a7 a8) := by
 intro a0 a1 a2 a3 a4 a5 a6 a7 a8 k
 unfold laws_FnExactSplitState.f
 repeat' first
   | (with_reducible exact impl_SplitState.mono _ _ _ _ _ _ _ _ _ _)
   | (with_reducible exact laws_eqState.mono _ _ _ _ _ _ _ _ _)
   | (with_reducible exact laws_toState.mono _ _ _ _ _)
   | (with_reducible exact spec_SplitState.mono _ _ _ _ _ _ _ _ _ _)
   | (with_reducible exact LeO.refl _)
   | (with_reducible exact LeO.none _)
   | (with_reducible refine LeO.ite ?_ ?_)
   | (with_reducible refine LeO.bind ?_ (fun _ => ?_))
   | exact impl_SplitState.mono _ _ _ _ _ _ _ _ _ _
   | exact laws_eqState.mono _ _ _ _ _ _ _ _ _
   | exact laws_toState.mono _ _ _ _ _
   | exact spec_SplitState.mono _ _ _ _ _ _ _ _ _ _
   | exact LeO.none _
   | refine LeO.ite ?_ ?_
   | refine LeO.bind ?_ (fun _ => ?_)
def laws_FnExactSplitState.T1 : Bool × List (List Nat × List Nat) := (true, [([], []), ([], []), ([1], [1]), ([], []), ([3, 2], [3]), ([0, 2, 4, 4], [0, 2, 4]), ([5], [5]), ([6], [6]), ([6], [6]), ([6], [6]), ([], []), ([], []), ([10, 7, 5, 0, 1, 2, 3, 4, 5, 6, 7, 10, 11], [7, 10]), ([11, 8, 12, 0, 1, 2, 3, 4, 5, 6, 7, 8, 10, 11, 12], [8, 11]), ([9, 13, 0, 1, 2, 3, 4, 5, 6, 7, 8, 9, 10, 11, 12, 13], [9])])
def laws_FnExactSplitState.B1 : List Nat := [0, 0, 2, 0, 14, 31, 63, 127, 127, 127, 0, 0, 3327, 7679, 16383]
theorem laws_FnExactSplitState.tab1 : rtab .any (opsOf Try.f3 1) = laws_FnExactSplitState.T1 := by kernel_rfl
theorem laws_FnExactSplitState.bits1 : waitsOk laws_FnExactSplitState.T1.2 laws_FnExactSplitState.B1 = true := by kernel_rfl
def laws_FnExactSplitState.T2 : Bool × List (List Nat × List Nat) := (true, [([], []), ([], []), ([1], [1]), ([], []), ([3, 2], [3]), ([0, 2, 4, 4], [0, 2, 4]), ([5], [5]), ([6], [6]), ([6], [6]), ([6], [6]), ([], []), ([], []), ([10, 7, 5, 0, 1, 2, 3, 4, 5, 6, 7, 10, 11], [7, 10]), ([11, 8, 12, 0, 1, 2, 3, 4, 5, 6, 7, 8, 10, 11, 12], [8, 11]), ([9, 13, 0, 1, 2, 3, 4, 5, 6, 7, 8, 9, 10, 11, 12, 13], [9])])
def laws_FnExactSplitState.B2 : List Nat := [0, 0, 2, 0, 14, 31, 63, 127, 127, 127, 0, 0, 3327, 7679, 16383]
theorem laws_FnExactSplitState.tab2 : rtab .any (opsOf Try.f3 2) = laws_FnExactSplitState.T2 := by kernel_rfl
theorem laws_FnExactSplitState.bits2 : waitsOk laws_FnExactSplitState.T2.2 laws_FnExactSplitState.B2 = true := by kernel_rfl
set_option maxHeartbeats 8000000 in
set_option maxRecDepth 100000 in
theorem laws_FnExactSplitState.reg1 (k : Nat) (a0 a1_0 a1_1 a1_2 a1_3 a2_0 a2_1 a2_2 a2_3 t188 t189 t190 t191 t192 t193 t194 t195 t196 t197 t198 t199 t200 t201 t202 t203 t204 : Int) (w w16 : World) (gb186 gb187 : Nat) (A4 : zh (laws_toState.f k a1_0 a1_1 a1_2 a1_3 = some (t188, t189, t190, t191))) (A5 : zh (laws_toState.f k a2_0 a2_1 a2_2 a2_3 = some (t192, t193, t194, t195))) (A6 : zh (spec_SplitState.f k a0 t188 t189 t190 t191 t192 t193 t194 t195 = some (t196, t197, t198, t199, t200, t201, t202, t203, t204))) (BK186 : zh (w16.drew.heap[gb186]? = some (.cells #[.int .i64 a1_0, .int .i64 a1_1, .int .i64 a1_2, .int .i64 a1_3] 22 (0, 0)))) (BK187 : zh (w16.drew.heap[gb187]? = some (.cells #[.int .i64 a2_0, .int .i64 a2_1, .int .i64 a2_2, .int .i64 a2_3] 22 (0, 0)))) (GW186 : zh (w.heap.size ≤ gb186)) (GE186 : zh (w.heap.size ≤ gb186)) (GW187 : zh (w.heap.size ≤ gb187)) (GE187 : zh (w.heap.size ≤ gb187)) (NB186_187 : zh (gb186 ≠ gb187)) (NB187_186 : zh (gb187 ≠ gb186)) (HB : zh (Below w.heap.size w w16.drew)) {K : Act → World → Prop}
  (hEnd : ∀ (gb205 gb206 : Nat) (w' : World), zh (w'.heap[gb186]? = some (.cells #[.int .i64 a1_0, .int .i64 a1_1, .int .i64 a1_2, .int .i64 a1_3] 22 (0, 0))) → zh (w'.heap[gb187]? = some (.cells #[.int .i64 a2_0, .int .i64 a2_1, .int .i64 a2_2, .int .i64 a2_3] 22 (0, 0))) → zh (w'.heap[gb205]? = some (.cells #[.int .i64 t196, .int .i64 t197, .int .i64 t198, .int .i64 t199] 23 (0, 0))) → zh (w'.heap[gb206]? = some (.cells #[.int .i64 t200, .int .i64 t201, .int .i64 t202, .int .i64 t203] 23 (0, 0))) → zh (w.heap.size ≤ gb205) → zh (w.heap.size ≤ gb205) → zh (w.heap.size ≤ gb206) → zh (w.heap.size ≤ gb206) → zh (gb186 ≠ gb205) → zh (gb186 ≠ gb206) → zh (gb187 ≠ gb205) → zh (gb187 ≠ gb206) → zh (gb205 ≠ gb186) → zh (gb205 ≠ gb187) → zh (gb205 ≠ gb206) → zh (gb206 ≠ gb186) → zh (gb206 ≠ gb187) → zh (gb206 ≠ gb205) → zh (Below w.heap.size w w') → K ⟨#[.int .i64 a0, .agg #[.int .i64 a1_0, .int .i64 a1_1, .int .i64 a1_2, .int .i64 a1_3], .agg #[.int .i64 a2_0, .int .i64 a2_1, .int .i64 a2_2, .int .i64 a2_3], undef, .pointer (some ⟨gb186, 0, none⟩), .pointer (some ⟨gb187, 0, none⟩), .bool false, .pointer (some ⟨gb205, 0, none⟩), .pointer (some ⟨gb206, 0, none⟩), .int .i64 t204, undef, undef, undef, .tuple #[.agg #[.int .i64 t196, .int .i64 t197, .int .i64 t198, .int .i64 t199], .agg #[.int .i64 t200, .int .i64 t201, .int .i64 t202, .int .i64 t203], .int .i64 t204], .int .i64 a0, .agg #[.int .i64 a1_0, .int .i64 a1_1, .int .i64 a1_2, .int .i64 a1_3], .agg #[.int .i64 t188, .int .i64 t189, .int .i64 t190, .int .i64 t191], .agg #[.int .i64 a2_0, .int .i64 a2_1, .int .i64 a2_2, .int .i64 a2_3], .agg #[.int .i64 t192, .int .i64 t193, .int .i64 t194, .int .i64 t195], .tuple #[.agg #[.int .i64 t196, .int .i64 t197, .int .i64 t198, .int .i64 t199], .agg #[.int .i64 t200, .int .i64 t201, .int .i64 t202, .int .i64 t203], .int .i64 t204], .agg #[.int .i64 t196, .int .i64 t197, .int .i64 t198, .int .i64 t199], .agg #[.int .i64 t200, .int .i64 t201, .int .i64 t202, .int .i64 t203], .int .i64 t204, undef, undef, undef, undef, undef, undef, undef, undef, undef, undef, undef, undef, undef, undef, undef, undef, undef, undef, undef, undef, undef, undef, undef, undef, undef], []⟩ w') :
  Code.wp Try.prog (Code.region 1 (opsOf Try.f3 1) true) (Exit.then K (bodyPost Try.prog Try.f3 fun e w' => e = .returned (.bool true) ∧ Below w.heap.size w w')) ⟨#[.int .i64 a0, .agg #[.int .i64 a1_0, .int .i64 a1_1, .int .i64 a1_2, .int .i64 a1_3], .agg #[.int .i64 a2_0, .int .i64 a2_1, .int .i64 a2_2, .int .i64 a2_3], undef, .pointer (some ⟨gb186, 0, none⟩), .pointer (some ⟨gb187, 0, none⟩), .bool false, undef, undef, undef, undef, undef, undef, undef, undef, undef, undef, undef, undef, undef, undef, undef, undef, undef, undef, undef, undef, undef, undef, undef, undef, undef, undef, undef, undef, undef, undef, undef, undef, undef, undef, undef, undef, undef, undef, undef, undef, undef], []⟩ w16 := by
 have hu22 := Try.underlying22
 have hu23 := Try.underlying23
 conv => arg 2; arg 2; whnf
 refine zla (n := 15) (S := fun w' => w'.cell? ⟨gb186, 0, none⟩ = some (.int .i64 a1_0) ∧ w'.cell? ⟨gb186, 1, none⟩ = some (.int .i64 a1_1) ∧ w'.cell? ⟨gb186, 2, none⟩ = some (.int .i64 a1_2) ∧ w'.cell? ⟨gb186, 3, none⟩ = some (.int .i64 a1_3) ∧ w'.cell? ⟨gb187, 0, none⟩ = some (.int .i64 a2_0) ∧ w'.cell? ⟨gb187, 1, none⟩ = some (.int .i64 a2_1) ∧ w'.cell? ⟨gb187, 2, none⟩ = some (.int .i64 a2_2) ∧ w'.cell? ⟨gb187, 3, none⟩ = some (.int .i64 a2_3)) (ds := []) #[false, false, false, false, false, false, false, false, false, false, false, false, false, false, false] (by kernel_rfl) rfl rfl ⟨(zi BK186.out 0).trans rfl, (zi BK186.out 1).trans rfl, (zi BK186.out 2).trans rfl, (zi BK186.out 3).trans rfl, (zi BK187.out 0).trans rfl, (zi BK187.out 1).trans rfl, (zi BK187.out 2).trans rfl, (zi BK187.out 3).trans rfl⟩ (fun hHeld => ?_); refine zfa laws_FnExactSplitState.tab1 laws_FnExactSplitState.bits1 (fun HT_ HW_ => ?_)
 generalize w16.drew = w17 at BK186 BK187 HB hHeld ⊢
 refine zx (i := 0) (N := some 14) (v := ?_) (a' := ?_) #[true, false, false, false, false, false, false, false, false, false, false, false, false, false, false] rfl rfl (zv HT_.out (by kernel_rfl)) (fun _ _ _ h => h) (Or.inl ⟨by rfl, ?_⟩) ?_ ?_
 rotate_left
 ·intro w'
  go_simp
  with_reducible rfl
 rotate_left
 ·simp only [Act.put, List.setIfInBounds_toArray, List.set_cons_zero, List.set_cons_succ, zu, zt]
  rfl
 refine zga (i := 1) (N := some 15) (v := ?_) (a' := ?_) #[true, true, false, false, false, false, false, false, false, false, false, false, false, false, false] rfl rfl (zz HT_.out HW_.out (by kernel_rfl)) (fun _ _ _ h => h) (Or.inl ⟨by rfl, ?_⟩) hHeld ?_ ?_
 rotate_left
 ·rintro w' ⟨s0, s1, s2, s3, s4, s5, s6, s7⟩
  go_simp
  with_reducible rfl
 rotate_left
 ·simp only [Act.put, List.setIfInBounds_toArray, List.set_cons_zero, List.set_cons_succ, zu, zt]
  rfl
 refine zga (i := 3) (N := some 17) (v := ?_) (a' := ?_) #[true, true, false, true, false, false, false, false, false, false, false, false, false, false, false] rfl rfl (zz HT_.out HW_.out (by kernel_rfl)) (fun _ _ _ h => h) (Or.inl ⟨by rfl, ?_⟩) hHeld ?_ ?_
 rotate_left
 ·rintro w' ⟨s0, s1, s2, s3, s4, s5, s6, s7⟩
  go_simp
  with_reducible rfl
 rotate_left
 ·simp only [Act.put, List.setIfInBounds_toArray, List.set_cons_zero, List.set_cons_succ, zu, zt]
  rfl
 refine join_ (σ := Nat × Nat) 3 #[true, true, true, true, true, true, true, true, true, true, true, true, false, false, false] (fun s_ => [(16, .agg #[.int .i64 t188, .int .i64 t189, .int .i64 t190, .int .i64 t191]), (18, .agg #[.int .i64 t192, .int .i64 t193, .int .i64 t194, .int .i64 t195]), (19, .tuple #[.agg #[.int .i64 t196, .int .i64 t197, .int .i64 t198, .int .i64 t199], .agg #[.int .i64 t200, .int .i64 t201, .int .i64 t202, .int .i64 t203], .int .i64 t204]), (7, .pointer (some ⟨s_.1, 0, none⟩)), (8, .pointer (some ⟨s_.2, 0, none⟩)), (13, .tuple #[.agg #[.int .i64 t196, .int .i64 t197, .int .i64 t198, .int .i64 t199], .agg #[.int .i64 t200, .int .i64 t201, .int .i64 t202, .int .i64 t203], .int .i64 t204]), (20, .agg #[.int .i64 t196, .int .i64 t197, .int .i64 t198, .int .i64 t199]), (21, .agg #[.int .i64 t200, .int .i64 t201, .int .i64 t202, .int .i64 t203]), (22, .int .i64 t204)]) (fun s_ w' => (w'.cell? ⟨gb186, 0, none⟩ = some (.int .i64 a1_0) ∧ w'.cell? ⟨gb186, 1, none⟩ = some (.int .i64 a1_1) ∧ w'.cell? ⟨gb186, 2, none⟩ = some (.int .i64 a1_2) ∧ w'.cell? ⟨gb186, 3, none⟩ = some (.int .i64 a1_3) ∧ w'.cell? ⟨gb187, 0, none⟩ = some (.int .i64 a2_0) ∧ w'.cell? ⟨gb187, 1, none⟩ = some (.int .i64 a2_1) ∧ w'.cell? ⟨gb187, 2, none⟩ = some (.int .i64 a2_2) ∧ w'.cell? ⟨gb187, 3, none⟩ = some (.int .i64 a2_3)) ∧ (w'.heap[gb186]? = some (.cells #[.int .i64 a1_0, .int .i64 a1_1, .int .i64 a1_2, .int .i64 a1_3] 22 (0, 0))) ∧ (w'.heap[gb187]? = some (.cells #[.int .i64 a2_0, .int .i64 a2_1, .int .i64 a2_2, .int .i64 a2_3] 22 (0, 0))) ∧ (w'.heap[s_.1]? = some (.cells #[.int .i64 0, .int .i64 0, .int .i64 0, .int .i64 0] 23 (0, 0))) ∧ (w'.heap[s_.2]? = some (.cells #[.int .i64 0, .int .i64 0, .int .i64 0, .int .i64 0] 23 (0, 0))) ∧ (w.heap.size ≤ s_.1) ∧ (w.heap.size ≤ s_.1) ∧ (gb186 ≠ s_.1) ∧ (s_.1 ≠ gb186) ∧ (gb187 ≠ s_.1) ∧ (s_.1 ≠ gb187) ∧ (s_.2 ≠ s_.1) ∧ (s_.1 ≠ s_.2) ∧ (w.heap.size ≤ s_.2) ∧ (w.heap.size ≤ s_.2) ∧ (gb186 ≠ s_.2) ∧ (s_.2 ≠ gb186) ∧ (gb187 ≠ s_.2) ∧ (s_.2 ≠ gb187) ∧ (Below w.heap.size w w')) ?_ ?_
 rotate_left
 ·intro hJ2_4_5_10_11
  refine join_ (σ := Nat) 4 #[true, true, true, true, true, true, true, true, true, true, true, false, false, false, false] (fun s_ => [(16, .agg #[.int .i64 t188, .int .i64 t189, .int .i64 t190, .int .i64 t191]), (18, .agg #[.int .i64 t192, .int .i64 t193, .int .i64 t194, .int .i64 t195]), (19, .tuple #[.agg #[.int .i64 t196, .int .i64 t197, .int .i64 t198, .int .i64 t199], .agg #[.int .i64 t200, .int .i64 t201, .int .i64 t202, .int .i64 t203], .int .i64 t204]), (7, .pointer (some ⟨s_, 0, none⟩)), (13, .tuple #[.agg #[.int .i64 t196, .int .i64 t197, .int .i64 t198, .int .i64 t199], .agg #[.int .i64 t200, .int .i64 t201, .int .i64 t202, .int .i64 t203], .int .i64 t204]), (20, .agg #[.int .i64 t196, .int .i64 t197, .int .i64 t198, .int .i64 t199]), (21, .agg #[.int .i64 t200, .int .i64 t201, .int .i64 t202, .int .i64 t203]), (22, .int .i64 t204)]) (fun s_ w' => (w'.cell? ⟨gb186, 0, none⟩ = some (.int .i64 a1_0) ∧ w'.cell? ⟨gb186, 1, none⟩ = some (.int .i64 a1_1) ∧ w'.cell? ⟨gb186, 2, none⟩ = some (.int .i64 a1_2) ∧ w'.cell? ⟨gb186, 3, none⟩ = some (.int .i64 a1_3) ∧ w'.cell? ⟨gb187, 0, none⟩ = some (.int .i64 a2_0) ∧ w'.cell? ⟨gb187, 1, none⟩ = some (.int .i64 a2_1) ∧ w'.cell? ⟨gb187, 2, none⟩ = some (.int .i64 a2_2) ∧ w'.cell? ⟨gb187, 3, none⟩ = some (.int .i64 a2_3)) ∧ (w'.heap[gb186]? = some (.cells #[.int .i64 a1_0, .int .i64 a1_1, .int .i64 a1_2, .int .i64 a1_3] 22 (0, 0))) ∧ (w'.heap[gb187]? = some (.cells #[.int .i64 a2_0, .int .i64 a2_1, .int .i64 a2_2, .int .i64 a2_3] 22 (0, 0))) ∧ (w'.heap[s_]? = some (.cells #[.int .i64 0, .int .i64 0, .int .i64 0, .int .i64 0] 23 (0, 0))) ∧ (w.heap.size ≤ s_) ∧ (w.heap.size ≤ s_) ∧ (gb186 ≠ s_) ∧ (s_ ≠ gb186) ∧ (gb187 ≠ s_) ∧ (s_ ≠ gb187) ∧ (Below w.heap.size w w')) ?_ ?_
  rotate_left
  ·intro hJ2_4_5_10
   refine join_ (σ := Nat) 4 #[true, true, true, true, true, true, true, true, true, true, false, true, false, false, false] (fun s_ => [(16, .agg #[.int .i64 t188, .int .i64 t189, .int .i64 t190, .int .i64 t191]), (18, .agg #[.int .i64 t192, .int .i64 t193, .int .i64 t194, .int .i64 t195]), (19, .tuple #[.agg #[.int .i64 t196, .int .i64 t197, .int .i64 t198, .int .i64 t199], .agg #[.int .i64 t200, .int .i64 t201, .int .i64 t202, .int .i64 t203], .int .i64 t204]), (8, .pointer (some ⟨s_, 0, none⟩)), (13, .tuple #[.agg #[.int .i64 t196, .int .i64 t197, .int .i64 t198, .int .i64 t199], .agg #[.int .i64 t200, .int .i64 t201, .int .i64 t202, .int .i64 t203], .int .i64 t204]), (20, .agg #[.int .i64 t196, .int .i64 t197, .int .i64 t198, .int .i64 t199]), (21, .agg #[.int .i64 t200, .int .i64 t201, .int .i64 t202, .int .i64 t203]), (22, .int .i64 t204)]) (fun s_ w' => (w'.cell? ⟨gb186, 0, none⟩ = some (.int .i64 a1_0) ∧ w'.cell? ⟨gb186, 1, none⟩ = some (.int .i64 a1_1) ∧ w'.cell? ⟨gb186, 2, none⟩ = some (.int .i64 a1_2) ∧ w'.cell? ⟨gb186, 3, none⟩ = some (.int .i64 a1_3) ∧ w'.cell? ⟨gb187, 0, none⟩ = some (.int .i64 a2_0) ∧ w'.cell? ⟨gb187, 1, none⟩ = some (.int .i64 a2_1) ∧ w'.cell? ⟨gb187, 2, none⟩ = some (.int .i64 a2_2) ∧ w'.cell? ⟨gb187, 3, none⟩ = some (.int .i64 a2_3)) ∧ (w'.heap[gb186]? = some (.cells #[.int .i64 a1_0, .int .i64 a1_1, .int .i64 a1_2, .int .i64 a1_3] 22 (0, 0))) ∧ (w'.heap[gb187]? = some (.cells #[.int .i64 a2_0, .int .i64 a2_1, .int .i64 a2_2, .int .i64 a2_3] 22 (0, 0))) ∧ (w'.heap[s_]? = some (.cells #[.int .i64 0, .int .i64 0, .int .i64 0, .int .i64 0] 23 (0, 0))) ∧ (w.heap.size ≤ s_) ∧ (w.heap.size ≤ s_) ∧ (gb186 ≠ s_) ∧ (s_ ≠ gb186) ∧ (gb187 ≠ s_) ∧ (s_ ≠ gb187) ∧ (Below w.heap.size w w')) ?_ ?_
   rotate_left
   ·intro hJ2_4_5_11
    refine join_ (σ := Nat × Nat) 8 #[true, true, true, true, true, false, false, false, false, false, true, true, false, false, false] (fun s_ => [(16, .agg #[.int .i64 t188, .int .i64 t189, .int .i64 t190, .int .i64 t191]), (18, .agg #[.int .i64 t192, .int .i64 t193, .int .i64 t194, .int .i64 t195]), (7, .pointer (some ⟨s_.1, 0, none⟩)), (8, .pointer (some ⟨s_.2, 0, none⟩))]) (fun s_ w' => (w'.cell? ⟨gb186, 0, none⟩ = some (.int .i64 a1_0) ∧ w'.cell? ⟨gb186, 1, none⟩ = some (.int .i64 a1_1) ∧ w'.cell? ⟨gb186, 2, none⟩ = some (.int .i64 a1_2) ∧ w'.cell? ⟨gb186, 3, none⟩ = some (.int .i64 a1_3) ∧ w'.cell? ⟨gb187, 0, none⟩ = some (.int .i64 a2_0) ∧ w'.cell? ⟨gb187, 1, none⟩ = some (.int .i64 a2_1) ∧ w'.cell? ⟨gb187, 2, none⟩ = some (.int .i64 a2_2) ∧ w'.cell? ⟨gb187, 3, none⟩ = some (.int .i64 a2_3)) ∧ (w'.heap[gb186]? = some (.cells #[.int .i64 a1_0, .int .i64 a1_1, .int .i64 a1_2, .int .i64 a1_3] 22 (0, 0))) ∧ (w'.heap[gb187]? = some (.cells #[.int .i64 a2_0, .int .i64 a2_1, .int .i64 a2_2, .int .i64 a2_3] 22 (0, 0))) ∧ (w'.heap[s_.1]? = some (.cells #[.int .i64 0, .int .i64 0, .int .i64 0, .int .i64 0] 23 (0, 0))) ∧ (w'.heap[s_.2]? = some (.cells #[.int .i64 0, .int .i64 0, .int .i64 0, .int .i64 0] 23 (0, 0))) ∧ (w.heap.size ≤ s_.1) ∧ (w.heap.size ≤ s_.1) ∧ (gb186 ≠ s_.1) ∧ (s_.1 ≠ gb186) ∧ (gb187 ≠ s_.1) ∧ (s_.1 ≠ gb187) ∧ (s_.2 ≠ s_.1) ∧ (s_.1 ≠ s_.2) ∧ (w.heap.size ≤ s_.2) ∧ (w.heap.size ≤ s_.2) ∧ (gb186 ≠ s_.2) ∧ (s_.2 ≠ gb186) ∧ (gb187 ≠ s_.2) ∧ (s_.2 ≠ gb187) ∧ (Below w.heap.size w w')) ?_ ?_
    rotate_left
    ·intro hJ2_4_10_11
     refine join_ (σ := Unit) 5 #[true, true, true, true, true, true, true, true, true, true, false, false, false, false, false] (fun s_ => [(16, .agg #[.int .i64 t188, .int .i64 t189, .int .i64 t190, .int .i64 t191]), (18, .agg #[.int .i64 t192, .int .i64 t193, .int .i64 t194, .int .i64 t195]), (19, .tuple #[.agg #[.int .i64 t196, .int .i64 t197, .int .i64 t198, .int .i64 t199], .agg #[.int .i64 t200, .int .i64 t201, .int .i64 t202, .int .i64 t203], .int .i64 t204]), (13, .tuple #[.agg #[.int .i64 t196, .int .i64 t197, .int .i64 t198, .int .i64 t199], .agg #[.int .i64 t200, .int .i64 t201, .int .i64 t202, .int .i64 t203], .int .i64 t204]), (20, .agg #[.int .i64 t196, .int .i64 t197, .int .i64 t198, .int .i64 t199]), (21, .agg #[.int .i64 t200, .int .i64 t201, .int .i64 t202, .int .i64 t203]), (22, .int .i64 t204)]) (fun s_ w' => (w'.cell? ⟨gb186, 0, none⟩ = some (.int .i64 a1_0) ∧ w'.cell? ⟨gb186, 1, none⟩ = some (.int .i64 a1_1) ∧ w'.cell? ⟨gb186, 2, none⟩ = some (.int .i64 a1_2) ∧ w'.cell? ⟨gb186, 3, none⟩ = some (.int .i64 a1_3) ∧ w'.cell? ⟨gb187, 0, none⟩ = some (.int .i64 a2_0) ∧ w'.cell? ⟨gb187, 1, none⟩ = some (.int .i64 a2_1) ∧ w'.cell? ⟨gb187, 2, none⟩ = some (.int .i64 a2_2) ∧ w'.cell? ⟨gb187, 3, none⟩ = some (.int .i64 a2_3)) ∧ (w'.heap[gb186]? = some (.cells #[.int .i64 a1_0, .int .i64 a1_1, .int .i64 a1_2, .int .i64 a1_3] 22 (0, 0))) ∧ (w'.heap[gb187]? = some (.cells #[.int .i64 a2_0, .int .i64 a2_1, .int .i64 a2_2, .int .i64 a2_3] 22 (0, 0))) ∧ (Below w.heap.size w w')) ?_ ?_
     rotate_left
     ·intro hJ2_4_5
      refine join_ (σ := Nat) 9 #[true, true, true, true, true, false, false, false, false, false, true, false, false, false, false] (fun s_ => [(16, .agg #[.int .i64 t188, .int .i64 t189, .int .i64 t190, .int .i64 t191]), (18, .agg #[.int .i64 t192, .int .i64 t193, .int .i64 t194, .int .i64 t195]), (7, .pointer (some ⟨s_, 0, none⟩))]) (fun s_ w' => (w'.cell? ⟨gb186, 0, none⟩ = some (.int .i64 a1_0) ∧ w'.cell? ⟨gb186, 1, none⟩ = some (.int .i64 a1_1) ∧ w'.cell? ⟨gb186, 2, none⟩ = some (.int .i64 a1_2) ∧ w'.cell? ⟨gb186, 3, none⟩ = some (.int .i64 a1_3) ∧ w'.cell? ⟨gb187, 0, none⟩ = some (.int .i64 a2_0) ∧ w'.cell? ⟨gb187, 1, none⟩ = some (.int .i64 a2_1) ∧ w'.cell? ⟨gb187, 2, none⟩ = some (.int .i64 a2_2) ∧ w'.cell? ⟨gb187, 3, none⟩ = some (.int .i64 a2_3)) ∧ (w'.heap[gb186]? = some (.cells #[.int .i64 a1_0, .int .i64 a1_1, .int .i64 a1_2, .int .i64 a1_3] 22 (0, 0))) ∧ (w'.heap[gb187]? = some (.cells #[.int .i64 a2_0, .int .i64 a2_1, .int .i64 a2_2, .int .i64 a2_3] 22 (0, 0))) ∧ (w'.heap[s_]? = some (.cells #[.int .i64 0, .int .i64 0, .int .i64 0, .int .i64 0] 23 (0, 0))) ∧ (w.heap.size ≤ s_) ∧ (w.heap.size ≤ s_) ∧ (gb186 ≠ s_) ∧ (s_ ≠ gb186) ∧ (gb187 ≠ s_) ∧ (s_ ≠ gb187) ∧ (Below w.heap.size w w')) ?_ ?_
      rotate_left
      ·intro hJ2_4_10
       refine join_ (σ := Nat) 9 #[true, true, true, true, true, false, false, false, false, false, false, true, false, false, false] (fun s_ => [(16, .agg #[.int .i64 t188, .int .i64 t189, .int .i64 t190, .int .i64 t191]), (18, .agg #[.int .i64 t192, .int .i64 t193, .int .i64 t194, .int .i64 t195]), (8, .pointer (some ⟨s_, 0, none⟩))]) (fun s_ w' => (w'.cell? ⟨gb186, 0, none⟩ = some (.int .i64 a1_0) ∧ w'.cell? ⟨gb186, 1, none⟩ = some (.int .i64 a1_1) ∧ w'.cell? ⟨gb186, 2, none⟩ = some (.int .i64 a1_2) ∧ w'.cell? ⟨gb186, 3, none⟩ = some (.int .i64 a1_3) ∧ w'.cell? ⟨gb187, 0, none⟩ = some (.int .i64 a2_0) ∧ w'.cell? ⟨gb187, 1, none⟩ = some (.int .i64 a2_1) ∧ w'.cell? ⟨gb187, 2, none⟩ = some (.int .i64 a2_2) ∧ w'.cell? ⟨gb187, 3, none⟩ = some (.int .i64 a2_3)) ∧ (w'.heap[gb186]? = some (.cells #[.int .i64 a1_0, .int .i64 a1_1, .int .i64 a1_2, .int .i64 a1_3] 22 (0, 0))) ∧ (w'.heap[gb187]? = some (.cells #[.int .i64 a2_0, .int .i64 a2_1, .int .i64 a2_2, .int .i64 a2_3] 22 (0, 0))) ∧ (w'.heap[s_]? = some (.cells #[.int .i64 0, .int .i64 0, .int .i64 0, .int .i64 0] 23 (0, 0))) ∧ (w.heap.size ≤ s_) ∧ (w.heap.size ≤ s_) ∧ (gb186 ≠ s_) ∧ (s_ ≠ gb186) ∧ (gb187 ≠ s_) ∧ (s_ ≠ gb187) ∧ (Below w.heap.size w w')) ?_ ?_
       rotate_left
       ·intro hJ2_4_11
        refine join_ (σ := Nat × Nat) 9 #[true, true, true, true, false, false, false, false, false, false, true, true, false, false, false] (fun s_ => [(16, .agg #[.int .i64 t188, .int .i64 t189, .int .i64 t190, .int .i64 t191]), (7, .pointer (some ⟨s_.1, 0, none⟩)), (8, .pointer (some ⟨s_.2, 0, none⟩))]) (fun s_ w' => (w'.cell? ⟨gb186, 0, none⟩ = some (.int .i64 a1_0) ∧ w'.cell? ⟨gb186, 1, none⟩ = some (.int .i64 a1_1) ∧ w'.cell? ⟨gb186, 2, none⟩ = some (.int .i64 a1_2) ∧ w'.cell? ⟨gb186, 3, none⟩ = some (.int .i64 a1_3) ∧ w'.cell? ⟨gb187, 0, none⟩ = some (.int .i64 a2_0) ∧ w'.cell? ⟨gb187, 1, none⟩ = some (.int .i64 a2_1) ∧ w'.cell? ⟨gb187, 2, none⟩ = some (.int .i64 a2_2) ∧ w'.cell? ⟨gb187, 3, none⟩ = some (.int .i64 a2_3)) ∧ (w'.heap[gb186]? = some (.cells #[.int .i64 a1_0, .int .i64 a1_1, .int .i64 a1_2, .int .i64 a1_3] 22 (0, 0))) ∧ (w'.heap[gb187]? = some (.cells #[.int .i64 a2_0, .int .i64 a2_1, .int .i64 a2_2, .int .i64 a2_3] 22 (0, 0))) ∧ (w'.heap[s_.1]? = some (.cells #[.int .i64 0, .int .i64 0, .int .i64 0, .int .i64 0] 23 (0, 0))) ∧ (w'.heap[s_.2]? = some (.cells #[.int .i64 0, .int .i64 0, .int .i64 0, .int .i64 0] 23 (0, 0))) ∧ (w.heap.size ≤ s_.1) ∧ (w.heap.size ≤ s_.1) ∧ (gb186 ≠ s_.1) ∧ (s_.1 ≠ gb186) ∧ (gb187 ≠ s_.1) ∧ (s_.1 ≠ gb187) ∧ (s_.2 ≠ s_.1) ∧ (s_.1 ≠ s_.2) ∧ (w.heap.size ≤ s_.2) ∧ (w.heap.size ≤ s_.2) ∧ (gb186 ≠ s_.2) ∧ (s_.2 ≠ gb186) ∧ (gb187 ≠ s_.2) ∧ (s_.2 ≠ gb187) ∧ (Below w.heap.size w w')) ?_ ?_
        rotate_left
        ·intro hJ2_10_11
         refine join_ (σ := Unit) 10 #[true, true, true, true, true, false, false, false, false, false, false, false, false, false, false] (fun s_ => [(16, .agg #[.int .i64 t188, .int .i64 t189, .int .i64 t190, .int .i64 t191]), (18, .agg #[.int .i64 t192, .int .i64 t193, .int .i64 t194, .int .i64 t195])]) (fun s_ w' => (w'.cell? ⟨gb186, 0, none⟩ = some (.int .i64 a1_0) ∧ w'.cell? ⟨gb186, 1, none⟩ = some (.int .i64 a1_1) ∧ w'.cell? ⟨gb186, 2, none⟩ = some (.int .i64 a1_2) ∧ w'.cell? ⟨gb186, 3, none⟩ = some (.int .i64 a1_3) ∧ w'.cell? ⟨gb187, 0, none⟩ = some (.int .i64 a2_0) ∧ w'.cell? ⟨gb187, 1, none⟩ = some (.int .i64 a2_1) ∧ w'.cell? ⟨gb187, 2, none⟩ = some (.int .i64 a2_2) ∧ w'.cell? ⟨gb187, 3, none⟩ = some (.int .i64 a2_3)) ∧ (w'.heap[gb186]? = some (.cells #[.int .i64 a1_0, .int .i64 a1_1, .int .i64 a1_2, .int .i64 a1_3] 22 (0, 0))) ∧ (w'.heap[gb187]? = some (.cells #[.int .i64 a2_0, .int .i64 a2_1, .int .i64 a2_2, .int .i64 a2_3] 22 (0, 0))) ∧ (Below w.heap.size w w')) ?_ ?_
         rotate_left
         ·intro hJ2_4
          refine join_ (σ := Nat) 10 #[true, true, true, true, false, false, false, false, false, false, true, false, false, false, false] (fun s_ => [(16, .agg #[.int .i64 t188, .int .i64 t189, .int .i64 t190, .int .i64 t191]), (7, .pointer (some ⟨s_, 0, none⟩))]) (fun s_ w' => (w'.cell? ⟨gb186, 0, none⟩ = some (.int .i64 a1_0) ∧ w'.cell? ⟨gb186, 1, none⟩ = some (.int .i64 a1_1) ∧ w'.cell? ⟨gb186, 2, none⟩ = some (.int .i64 a1_2) ∧ w'.cell? ⟨gb186, 3, none⟩ = some (.int .i64 a1_3) ∧ w'.cell? ⟨gb187, 0, none⟩ = some (.int .i64 a2_0) ∧ w'.cell? ⟨gb187, 1, none⟩ = some (.int .i64 a2_1) ∧ w'.cell? ⟨gb187, 2, none⟩ = some (.int .i64 a2_2) ∧ w'.cell? ⟨gb187, 3, none⟩ = some (.int .i64 a2_3)) ∧ (w'.heap[gb186]? = some (.cells #[.int .i64 a1_0, .int .i64 a1_1, .int .i64 a1_2, .int .i64 a1_3] 22 (0, 0))) ∧ (w'.heap[gb187]? = some (.cells #[.int .i64 a2_0, .int .i64 a2_1, .int .i64 a2_2, .int .i64 a2_3] 22 (0, 0))) ∧ (w'.heap[s_]? = some (.cells #[.int .i64 0, .int .i64 0, .int .i64 0, .int .i64 0] 23 (0, 0))) ∧ (w.heap.size ≤ s_) ∧ (w.heap.size ≤ s_) ∧ (gb186 ≠ s_) ∧ (s_ ≠ gb186) ∧ (gb187 ≠ s_) ∧ (s_ ≠ gb187) ∧ (Below w.heap.size w w')) ?_ ?_
          rotate_left
          ·intro hJ2_10
           refine join_ (σ := Nat) 10 #[true, true, true, true, false, false, false, false, false, false, false, true, false, false, false] (fun s_ => [(16, .agg #[.int .i64 t188, .int .i64 t189, .int .i64 t190, .int .i64 t191]), (8, .pointer (some ⟨s_, 0, none⟩))]) (fun s_ w' => (w'.cell? ⟨gb186, 0, none⟩ = some (.int .i64 a1_0) ∧ w'.cell? ⟨gb186, 1, none⟩ = some (.int .i64 a1_1) ∧ w'.cell? ⟨gb186, 2, none⟩ = some (.int .i64 a1_2) ∧ w'.cell? ⟨gb186, 3, none⟩ = some (.int .i64 a1_3) ∧ w'.cell? ⟨gb187, 0, none⟩ = some (.int .i64 a2_0) ∧ w'.cell? ⟨gb187, 1, none⟩ = some (.int .i64 a2_1) ∧ w'.cell? ⟨gb187, 2, none⟩ = some (.int .i64 a2_2) ∧ w'.cell? ⟨gb187, 3, none⟩ = some (.int .i64 a2_3)) ∧ (w'.heap[gb186]? = some (.cells #[.int .i64 a1_0, .int .i64 a1_1, .int .i64 a1_2, .int .i64 a1_3] 22 (0, 0))) ∧ (w'.heap[gb187]? = some (.cells #[.int .i64 a2_0, .int .i64 a2_1, .int .i64 a2_2, .int .i64 a2_3] 22 (0, 0))) ∧ (w'.heap[s_]? = some (.cells #[.int .i64 0, .int .i64 0, .int .i64 0, .int .i64 0] 23 (0, 0))) ∧ (w.heap.size ≤ s_) ∧ (w.heap.size ≤ s_) ∧ (gb186 ≠ s_) ∧ (s_ ≠ gb186) ∧ (gb187 ≠ s_) ∧ (s_ ≠ gb187) ∧ (Below w.heap.size w w')) ?_ ?_
           rotate_left
           ·intro hJ2_11
            refine join_ (σ := Nat × Nat) 10 #[true, true, false, true, false, false, false, false, false, false, true, true, false, false, false] (fun s_ => [(7, .pointer (some ⟨s_.1, 0, none⟩)), (8, .pointer (some ⟨s_.2, 0, none⟩))]) (fun s_ w' => (w'.cell? ⟨gb186, 0, none⟩ = some (.int .i64 a1_0) ∧ w'.cell? ⟨gb186, 1, none⟩ = some (.int .i64 a1_1) ∧ w'.cell? ⟨gb186, 2, none⟩ = some (.int .i64 a1_2) ∧ w'.cell? ⟨gb186, 3, none⟩ = some (.int .i64 a1_3) ∧ w'.cell? ⟨gb187, 0, none⟩ = some (.int .i64 a2_0) ∧ w'.cell? ⟨gb187, 1, none⟩ = some (.int .i64 a2_1) ∧ w'.cell? ⟨gb187, 2, none⟩ = some (.int .i64 a2_2) ∧ w'.cell? ⟨gb187, 3, none⟩ = some (.int .i64 a2_3)) ∧ (w'.heap[gb186]? = some (.cells #[.int .i64 a1_0, .int .i64 a1_1, .int .i64 a1_2, .int .i64 a1_3] 22 (0, 0))) ∧ (w'.heap[gb187]? = some (.cells #[.int .i64 a2_0, .int .i64 a2_1, .int .i64 a2_2, .int .i64 a2_3] 22 (0, 0))) ∧ (w'.heap[s_.1]? = some (.cells #[.int .i64 0, .int .i64 0, .int .i64 0, .int .i64 0] 23 (0, 0))) ∧ (w'.heap[s_.2]? = some (.cells #[.int .i64 0, .int .i64 0, .int .i64 0, .int .i64 0] 23 (0, 0))) ∧ (w.heap.size ≤ s_.1) ∧ (w.heap.size ≤ s_.1) ∧ (gb186 ≠ s_.1) ∧ (s_.1 ≠ gb186) ∧ (gb187 ≠ s_.1) ∧ (s_.1 ≠ gb187) ∧ (s_.2 ≠ s_.1) ∧ (s_.1 ≠ s_.2) ∧ (w.heap.size ≤ s_.2) ∧ (w.heap.size ≤ s_.2) ∧ (gb186 ≠ s_.2) ∧ (s_.2 ≠ gb186) ∧ (gb187 ≠ s_.2) ∧ (s_.2 ≠ gb187) ∧ (Below w.heap.size w w')) ?_ ?_
            rotate_left
            ·intro hJ10_11
             refine join_ (σ := Unit) 11 #[true, true, true, true, false, false, false, false, false, false, false, false, false, false, false] (fun s_ => [(16, .agg #[.int .i64 t188, .int .i64 t189, .int .i64 t190, .int .i64 t191])]) (fun s_ w' => (w'.cell? ⟨gb186, 0, none⟩ = some (.int .i64 a1_0) ∧ w'.cell? ⟨gb186, 1, none⟩ = some (.int .i64 a1_1) ∧ w'.cell? ⟨gb186, 2, none⟩ = some (.int .i64 a1_2) ∧ w'.cell? ⟨gb186, 3, none⟩ = some (.int .i64 a1_3) ∧ w'.cell? ⟨gb187, 0, none⟩ = some (.int .i64 a2_0) ∧ w'.cell? ⟨gb187, 1, none⟩ = some (.int .i64 a2_1) ∧ w'.cell? ⟨gb187, 2, none⟩ = some (.int .i64 a2_2) ∧ w'.cell? ⟨gb187, 3, none⟩ = some (.int .i64 a2_3)) ∧ (w'.heap[gb186]? = some (.cells #[.int .i64 a1_0, .int .i64 a1_1, .int .i64 a1_2, .int .i64 a1_3] 22 (0, 0))) ∧ (w'.heap[gb187]? = some (.cells #[.int .i64 a2_0, .int .i64 a2_1, .int .i64 a2_2, .int .i64 a2_3] 22 (0, 0))) ∧ (Below w.heap.size w w')) ?_ ?_
             rotate_left
             ·intro hJ2
              refine join_ (σ := Nat) 11 #[true, true, false, true, false, false, false, false, false, false, true, false, false, false, false] (fun s_ => [(7, .pointer (some ⟨s_, 0, none⟩))]) (fun s_ w' => (w'.cell? ⟨gb186, 0, none⟩ = some (.int .i64 a1_0) ∧ w'.cell? ⟨gb186, 1, none⟩ = some (.int .i64 a1_1) ∧ w'.cell? ⟨gb186, 2, none⟩ = some (.int .i64 a1_2) ∧ w'.cell? ⟨gb186, 3, none⟩ = some (.int .i64 a1_3) ∧ w'.cell? ⟨gb187, 0, none⟩ = some (.int .i64 a2_0) ∧ w'.cell? ⟨gb187, 1, none⟩ = some (.int .i64 a2_1) ∧ w'.cell? ⟨gb187, 2, none⟩ = some (.int .i64 a2_2) ∧ w'.cell? ⟨gb187, 3, none⟩ = some (.int .i64 a2_3)) ∧ (w'.heap[gb186]? = some (.cells #[.int .i64 a1_0, .int .i64 a1_1, .int .i64 a1_2, .int .i64 a1_3] 22 (0, 0))) ∧ (w'.heap[gb187]? = some (.cells #[.int .i64 a2_0, .int .i64 a2_1, .int .i64 a2_2, .int .i64 a2_3] 22 (0, 0))) ∧ (w'.heap[s_]? = some (.cells #[.int .i64 0, .int .i64 0, .int .i64 0, .int .i64 0] 23 (0, 0))) ∧ (w.heap.size ≤ s_) ∧ (w.heap.size ≤ s_) ∧ (gb186 ≠ s_) ∧ (s_ ≠ gb186) ∧ (gb187 ≠ s_) ∧ (s_ ≠ gb187) ∧ (Below w.heap.size w w')) ?_ ?_
              rotate_left
              ·intro hJ10
               refine join_ (σ := Nat) 11 #[true, true, false, true, false, false, false, false, false, false, false, true, false, false, false] (fun s_ => [(8, .pointer (some ⟨s_, 0, none⟩))]) (fun s_ w' => (w'.cell? ⟨gb186, 0, none⟩ = some (.int .i64 a1_0) ∧ w'.cell? ⟨gb186, 1, none⟩ = some (.int .i64 a1_1) ∧ w'.cell? ⟨gb186, 2, none⟩ = some (.int .i64 a1_2) ∧ w'.cell? ⟨gb186, 3, none⟩ = some (.int .i64 a1_3) ∧ w'.cell? ⟨gb187, 0, none⟩ = some (.int .i64 a2_0) ∧ w'.cell? ⟨gb187, 1, none⟩ = some (.int .i64 a2_1) ∧ w'.cell? ⟨gb187, 2, none⟩ = some (.int .i64 a2_2) ∧ w'.cell? ⟨gb187, 3, none⟩ = some (.int .i64 a2_3)) ∧ (w'.heap[gb186]? = some (.cells #[.int .i64 a1_0, .int .i64 a1_1, .int .i64 a1_2, .int .i64 a1_3] 22 (0, 0))) ∧ (w'.heap[gb187]? = some (.cells #[.int .i64 a2_0, .int .i64 a2_1, .int .i64 a2_2, .int .i64 a2_3] 22 (0, 0))) ∧ (w'.heap[s_]? = some (.cells #[.int .i64 0, .int .i64 0, .int .i64 0, .int .i64 0] 23 (0, 0))) ∧ (w.heap.size ≤ s_) ∧ (w.heap.size ≤ s_) ∧ (gb186 ≠ s_) ∧ (s_ ≠ gb186) ∧ (gb187 ≠ s_) ∧ (s_ ≠ gb187) ∧ (Below w.heap.size w w')) ?_ ?_
               rotate_left
               ·intro hJ11
                refine three_ (i := 2) (j := 10) (k := 11) (Ni := some 16) (Nj := some 7) (Nk := some 8) #[true, true, true, true, false, false, false, false, false, false, false, false, false, false, false] #[true, true, false, true, false, false, false, false, false, false, true, false, false, false, false] #[true, true, false, true, false, false, false, false, false, false, false, true, false, false, false] rfl rfl rfl rfl rfl rfl (three_of HT_.out (by kernel_rfl)) (by decide) (by decide) (by decide) (fun K hK => ?_) (fun K hK => ?_) (fun K hK => ?_)
                ·skip
                 refine goes_ Try.func6 (by kernel_rfl) rfl #[.agg #[.int .i64 a1_0, .int .i64 a1_1, .int .i64 a1_2, .int .i64 a1_3]] (by rfl) rfl rfl (by (try simp only [List.map_toArray, List.map_cons, List.map_nil]); first | done | rfl | (simp only [List.length_drop, List.length_take]; rfl)) ?_
                 with_reducible refine (laws_toState.calls k a1_0 a1_1 a1_2 a1_3 t188 t189 t190 t191 _ A4.out).mono ?_
                 rintro e w18 ⟨rfl, hb⟩
                 refine ⟨_, rfl, ?_⟩
                 have n0_ := zh.mk (zo (g := gb186) (o := .cells #[.int .i64 a1_0, .int .i64 a1_1, .int .i64 a1_2, .int .i64 a1_3] 22 (0, 0)) (by (with_reducible repeat (first | refine ze ?_ _ | refine zf ?_ | refine za ?_ _)); exact BK186.out) hb)
                 have n1_ := zh.mk (zo (g := gb187) (o := .cells #[.int .i64 a2_0, .int .i64 a2_1, .int .i64 a2_2, .int .i64 a2_3] 22 (0, 0)) (by (with_reducible repeat (first | refine ze ?_ _ | refine zf ?_ | refine za ?_ _)); exact BK187.out) hb)
                 have n2_ := zh.mk (zs (by repeat (first | (with_reducible first | exact HB.out | apply zl | apply zj | apply zk | refine zg ?_ GE186.out | refine zg ?_ GE187.out) | exact HB.out)) hb)
                 clear BK186
                 clear BK187
                 clear HB
                 have BK186 := n0_
                 have BK187 := n1_
                 have HB := n2_
                 clear n0_ n1_ n2_
                 (try clear hb)
                 (try clear hb2)
                 (try clear hk)
                 (try clear hi)
                 refine hK.out _ _ ⟨(zi BK186.out 0).trans rfl, (zi BK186.out 1).trans rfl, (zi BK186.out 2).trans rfl, (zi BK186.out 3).trans rfl, (zi BK187.out 0).trans rfl, (zi BK187.out 1).trans rfl, (zi BK187.out 2).trans rfl, (zi BK187.out 3).trans rfl⟩ (fun hHeld => ?_)
                 clear hK K
                 refine zca (a' := ?_) ?_ ?_
                 rotate_left
                 ·show Act.put _ (some 16) _ = _
                  simp only [Act.put, List.setIfInBounds_toArray, List.set_cons_zero, List.set_cons_succ, zu, zt]
                  rfl
                 exact zca (by first | (simp only [zy, Act.put, List.setIfInBounds_toArray, List.set_cons_zero, List.set_cons_succ]; done) | (simp only [zy, Act.put, List.setIfInBounds_toArray, List.set_cons_zero, List.set_cons_succ]; rfl)) (hJ2 () _ ⟨hHeld, (by (with_reducible repeat (first | refine ze ?_ _ | refine zf ?_ | refine za ?_ _)); exact BK186.out), (by (with_reducible repeat (first | refine ze ?_ _ | refine zf ?_ | refine za ?_ _)); exact BK187.out), (by repeat (first | (with_reducible first | exact HB.out | apply zl | apply zj | apply zk | refine zg ?_ GE186.out | refine zg ?_ GE187.out) | exact HB.out))⟩)
                ·skip
                 refine zha ?hg (N := 7) ?hd (cs := #[.int .i64 0, .int .i64 0, .int .i64 0, .int .i64 0]) (t := 23) ?hr ?_; (case hd => rfl); (case hg => rfl); (case hr => first | (go_simp; done) | (go_simp; rfl))
                 intro gb205 hg w18 hbox hb
                 have n0_ := zh.mk (zo (g := gb186) (o := .cells #[.int .i64 a1_0, .int .i64 a1_1, .int .i64 a1_2, .int .i64 a1_3] 22 (0, 0)) (by (with_reducible repeat (first | refine ze ?_ _ | refine zf ?_ | refine za ?_ _)); exact BK186.out) hb)
                 have n1_ := zh.mk (zo (g := gb187) (o := .cells #[.int .i64 a2_0, .int .i64 a2_1, .int .i64 a2_2, .int .i64 a2_3] 22 (0, 0)) (by (with_reducible repeat (first | refine ze ?_ _ | refine zf ?_ | refine za ?_ _)); exact BK187.out) hb)
                 have n2_ := zh.mk (zs (by repeat (first | (with_reducible first | exact HB.out | apply zl | apply zj | apply zk | refine zg ?_ GE186.out | refine zg ?_ GE187.out) | exact HB.out)) hb)
                 have n3_ := zh.mk (hbox)
                 have n4_ := zh.mk ((by rw [hg]; exact (zq (by repeat (first | (with_reducible first | exact HB.out | apply zl | apply zj | apply zk | refine zg ?_ GE186.out | refine zg ?_ GE187.out) | exact HB.out))) : w.heap.size ≤ gb205))
                 have n5_ := zh.mk ((by rw [hg]; exact (zq (by repeat (first | (with_reducible first | exact HB.out | apply zl | apply zj | apply zk | refine zg ?_ GE186.out | refine zg ?_ GE187.out) | exact HB.out))) : w.heap.size ≤ gb205))
                 have n6_ := zh.mk ((by rw [hg]; exact Nat.ne_of_lt (zr (g := gb186) (o := .cells #[.int .i64 a1_0, .int .i64 a1_1, .int .i64 a1_2, .int .i64 a1_3] 22 (0, 0)) (by (with_reducible repeat (first | refine ze ?_ _ | refine zf ?_ | refine za ?_ _)); exact BK186.out)) : gb186 ≠ gb205))
                 have n7_ := zh.mk ((by rw [hg]; exact Nat.ne_of_gt (zr (g := gb186) (o := .cells #[.int .i64 a1_0, .int .i64 a1_1, .int .i64 a1_2, .int .i64 a1_3] 22 (0, 0)) (by (with_reducible repeat (first | refine ze ?_ _ | refine zf ?_ | refine za ?_ _)); exact BK186.out)) : gb205 ≠ gb186))
                 have n8_ := zh.mk ((by rw [hg]; exact Nat.ne_of_lt (zr (g := gb187) (o := .cells #[.int .i64 a2_0, .int .i64 a2_1, .int .i64 a2_2, .int .i64 a2_3] 22 (0, 0)) (by (with_reducible repeat (first | refine ze ?_ _ | refine zf ?_ | refine za ?_ _)); exact BK187.out)) : gb187 ≠ gb205))
                 have n9_ := zh.mk ((by rw [hg]; exact Nat.ne_of_gt (zr (g := gb187) (o := .cells #[.int .i64 a2_0, .int .i64 a2_1, .int .i64 a2_2, .int .i64 a2_3] 22 (0, 0)) (by (with_reducible repeat (first | refine ze ?_ _ | refine zf ?_ | refine za ?_ _)); exact BK187.out)) : gb205 ≠ gb187))
                 clear BK186
                 clear BK187
                 clear HB
                 have BK186 := n0_
                 have BK187 := n1_
                 have HB := n2_
                 have BK205 := n3_
                 have GW205 := n4_
                 have GE205 := n5_
                 have NB186_205 := n6_
                 have NB205_186 := n7_
                 have NB187_205 := n8_
                 have NB205_187 := n9_
                 clear n0_ n1_ n2_ n3_ n4_ n5_ n6_ n7_ n8_ n9_
                 clear hb hbox hg
                 refine hK.out _ _ ⟨(zi BK186.out 0).trans rfl, (zi BK186.out 1).trans rfl, (zi BK186.out 2).trans rfl, (zi BK186.out 3).trans rfl, (zi BK187.out 0).trans rfl, (zi BK187.out 1).trans rfl, (zi BK187.out 2).trans rfl, (zi BK187.out 3).trans rfl⟩ (fun hHeld => ?_)
                 clear hK K
                 refine zca (a' := ?_) ?_ ?_
                 rotate_left
                 ·show Act.put _ (some 7) _ = _
                  simp only [Act.put, List.setIfInBounds_toArray, List.set_cons_zero, List.set_cons_succ, zu, zt]
                  rfl
                 exact zca (by first | (simp only [zy, Act.put, List.setIfInBounds_toArray, List.set_cons_zero, List.set_cons_succ]; done) | (simp only [zy, Act.put, List.setIfInBounds_toArray, List.set_cons_zero, List.set_cons_succ]; rfl)) (hJ10 (gb205) _ ⟨hHeld, (by (with_reducible repeat (first | refine ze ?_ _ | refine zf ?_ | refine za ?_ _)); exact BK186.out), (by (with_reducible repeat (first | refine ze ?_ _ | refine zf ?_ | refine za ?_ _)); exact BK187.out), (by (with_reducible repeat (first | refine ze ?_ _ | refine zf ?_ | refine za ?_ _)); exact BK205.out), GW205.out, GE205.out, NB186_205.out, NB205_186.out, NB187_205.out, NB205_187.out, (by repeat (first | (with_reducible first | exact HB.out | apply zl | apply zj | apply zk | refine zg ?_ GE186.out | refine zg ?_ GE187.out | refine zg ?_ GE205.out) | exact HB.out))⟩)
                ·skip
                 refine zha ?hg (N := 8) ?hd (cs := #[.int .i64 0, .int .i64 0, .int .i64 0, .int .i64 0]) (t := 23) ?hr ?_; (case hd => rfl); (case hg => rfl); (case hr => first | (go_simp; done) | (go_simp; rfl))
                 intro gb206 hg w18 hbox hb
                 have n0_ := zh.mk (zo (g := gb186) (o := .cells #[.int .i64 a1_0, .int .i64 a1_1, .int .i64 a1_2, .int .i64 a1_3] 22 (0, 0)) (by (with_reducible repeat (first | refine ze ?_ _ | refine zf ?_ | refine za ?_ _)); exact BK186.out) hb)
                 have n1_ := zh.mk (zo (g := gb187) (o := .cells #[.int .i64 a2_0, .int .i64 a2_1, .int .i64 a2_2, .int .i64 a2_3] 22 (0, 0)) (by (with_reducible repeat (first | refine ze ?_ _ | refine zf ?_ | refine za ?_ _)); exact BK187.out) hb)
                 have n2_ := zh.mk (zs (by repeat (first | (with_reducible first | exact HB.out | apply zl | apply zj | apply zk | refine zg ?_ GE186.out | refine zg ?_ GE187.out) | exact HB.out)) hb)
                 have n3_ := zh.mk (hbox)
                 have n4_ := zh.mk ((by rw [hg]; exact (zq (by repeat (first | (with_reducible first | exact HB.out | apply zl | apply zj | apply zk | refine zg ?_ GE186.out | refine zg ?_ GE187.out) | exact HB.out))) : w.heap.size ≤ gb206))
                 have n5_ := zh.mk ((by rw [hg]; exact (zq (by repeat (first | (with_reducible first | exact HB.out | apply zl | apply zj | apply zk | refine zg ?_ GE186.out | refine zg ?_ GE187.out) | exact HB.out))) : w.heap.size ≤ gb206))
                 have n6_ := zh.mk ((by rw [hg]; exact Nat.ne_of_lt (zr (g := gb186) (o := .cells #[.int .i64 a1_0, .int .i64 a1_1, .int .i64 a1_2, .int .i64 a1_3] 22 (0, 0)) (by (with_reducible repeat (first | refine ze ?_ _ | refine zf ?_ | refine za ?_ _)); exact BK186.out)) : gb186 ≠ gb206))
                 have n7_ := zh.mk ((by rw [hg]; exact Nat.ne_of_gt (zr (g := gb186) (o := .cells #[.int .i64 a1_0, .int .i64 a1_1, .int .i64 a1_2, .int .i64 a1_3] 22 (0, 0)) (by (with_reducible repeat (first | refine ze ?_ _ | refine zf ?_ | refine za ?_ _)); exact BK186.out)) : gb206 ≠ gb186))
                 have n8_ := zh.mk ((by rw [hg]; exact Nat.ne_of_lt (zr (g := gb187) (o := .cells #[.int .i64 a2_0, .int .i64 a2_1, .int .i64 a2_2, .int .i64 a2_3] 22 (0, 0)) (by (with_reducible repeat (first | refine ze ?_ _ | refine zf ?_ | refine za ?_ _)); exact BK187.out)) : gb187 ≠ gb206))
                 have n9_ := zh.mk ((by rw [hg]; exact Nat.ne_of_gt (zr (g := gb187) (o := .cells #[.int .i64 a2_0, .int .i64 a2_1, .int .i64 a2_2, .int .i64 a2_3] 22 (0, 0)) (by (with_reducible repeat (first | refine ze ?_ _ | refine zf ?_ | refine za ?_ _)); exact BK187.out)) : gb206 ≠ gb187))
                 clear BK186
                 clear BK187
                 clear HB
                 have BK186 := n0_
                 have BK187 := n1_
                 have HB := n2_
                 have BK206 := n3_
                 have GW206 := n4_
                 have GE206 := n5_
                 have NB186_206 := n6_
                 have NB206_186 := n7_
                 have NB187_206 := n8_
                 have NB206_187 := n9_
                 clear n0_ n1_ n2_ n3_ n4_ n5_ n6_ n7_ n8_ n9_
                 clear hb hbox hg
                 refine hK.out _ _ ⟨(zi BK186.out 0).trans rfl, (zi BK186.out 1).trans rfl, (zi BK186.out 2).trans rfl, (zi BK186.out 3).trans rfl, (zi BK187.out 0).trans rfl, (zi BK187.out 1).trans rfl, (zi BK187.out 2).trans rfl, (zi BK187.out 3).trans rfl⟩ (fun hHeld => ?_)
                 clear hK K
                 refine zca (a' := ?_) ?_ ?_
                 rotate_left
                 ·show Act.put _ (some 8) _ = _
                  simp only [Act.put, List.setIfInBounds_toArray, List.set_cons_zero, List.set_cons_succ, zu, zt]
                  rfl
                 exact zca (by first | (simp only [zy, Act.put, List.setIfInBounds_toArray, List.set_cons_zero, List.set_cons_succ]; done) | (simp only [zy, Act.put, List.setIfInBounds_toArray, List.set_cons_zero, List.set_cons_succ]; rfl)) (hJ11 (gb206) _ ⟨hHeld, (by (with_reducible repeat (first | refine ze ?_ _ | refine zf ?_ | refine za ?_ _)); exact BK186.out), (by (with_reducible repeat (first | refine ze ?_ _ | refine zf ?_ | refine za ?_ _)); exact BK187.out), (by (with_reducible repeat (first | refine ze ?_ _ | refine zf ?_ | refine za ?_ _)); exact BK206.out), GW206.out, GE206.out, NB186_206.out, NB206_186.out, NB187_206.out, NB206_187.out, (by repeat (first | (with_reducible first | exact HB.out | apply zl | apply zj | apply zk | refine zg ?_ GE186.out | refine zg ?_ GE187.out | refine zg ?_ GE206.out) | exact HB.out))⟩)
               ·skip
                rintro gb206 w19 ⟨hS_, h0_, h1_, h2_, h3_, h4_, h5_, h6_, h7_, h8_, h9_⟩
                have n0_ : zh (w19.heap[gb186]? = some (.cells #[.int .i64 a1_0, .int .i64 a1_1, .int .i64 a1_2, .int .i64 a1_3] 22 (0, 0))) := ⟨h0_⟩
                have n1_ : zh (w19.heap[gb187]? = some (.cells #[.int .i64 a2_0, .int .i64 a2_1, .int .i64 a2_2, .int .i64 a2_3] 22 (0, 0))) := ⟨h1_⟩
                have n2_ : zh (w19.heap[gb206]? = some (.cells #[.int .i64 0, .int .i64 0, .int .i64 0, .int .i64 0] 23 (0, 0))) := ⟨h2_⟩
                have n3_ : zh (w.heap.size ≤ gb206) := ⟨h3_⟩
                have n4_ : zh (w.heap.size ≤ gb206) := ⟨h4_⟩
                have n5_ : zh (gb186 ≠ gb206) := ⟨h5_⟩
                have n6_ : zh (gb206 ≠ gb186) := ⟨h6_⟩
                have n7_ : zh (gb187 ≠ gb206) := ⟨h7_⟩
                have n8_ : zh (gb206 ≠ gb187) := ⟨h8_⟩
                have n9_ : zh (Below w.heap.size w w19) := ⟨h9_⟩
                clear BK186
                clear BK187
                clear HB
                clear h0_ h1_ h2_ h3_ h4_ h5_ h6_ h7_ h8_ h9_
                have BK186 := n0_
                have BK187 := n1_
                have BK206 := n2_
                have GW206 := n3_
                have GE206 := n4_
                have NB186_206 := n5_
                have NB206_186 := n6_
                have NB187_206 := n7_
                have NB206_187 := n8_
                have HB := n9_
                clear n0_ n1_ n2_ n3_ n4_ n5_ n6_ n7_ n8_ n9_
                have hHeld : w19.cell? ⟨gb186, 0, none⟩ = some (.int .i64 a1_0) ∧ w19.cell? ⟨gb186, 1, none⟩ = some (.int .i64 a1_1) ∧ w19.cell? ⟨gb186, 2, none⟩ = some (.int .i64 a1_2) ∧ w19.cell? ⟨gb186, 3, none⟩ = some (.int .i64 a1_3) ∧ w19.cell? ⟨gb187, 0, none⟩ = some (.int .i64 a2_0) ∧ w19.cell? ⟨gb187, 1, none⟩ = some (.int .i64 a2_1) ∧ w19.cell? ⟨gb187, 2, none⟩ = some (.int .i64 a2_2) ∧ w19.cell? ⟨gb187, 3, none⟩ = some (.int .i64 a2_3) := hS_
                refine zca (a' := ?_) ?_ ?_
                rotate_left
                ·simp only [zy, Act.put, List.setIfInBounds_toArray, List.set_cons_zero, List.set_cons_succ]
                 rfl
                refine two_ (i := 2) (j := 10) (Ni := some 16) (Nj := some 7) #[true, true, true, true, false, false, false, false, false, false, false, true, false, false, false] #[true, true, false, true, false, false, false, false, false, false, true, true, false, false, false] rfl rfl rfl rfl (two_of HT_.out (by kernel_rfl)) (by decide) (by decide) (fun K hK => ?_) (fun K hK => ?_)
                ·skip
                 refine goes_ Try.func6 (by kernel_rfl) rfl #[.agg #[.int .i64 a1_0, .int .i64 a1_1, .int .i64 a1_2, .int .i64 a1_3]] (by rfl) rfl rfl (by (try simp only [List.map_toArray, List.map_cons, List.map_nil]); first | done | rfl | (simp only [List.length_drop, List.length_take]; rfl)) ?_
                 with_reducible refine (laws_toState.calls k a1_0 a1_1 a1_2 a1_3 t188 t189 t190 t191 _ A4.out).mono ?_
                 rintro e w20 ⟨rfl, hb⟩
                 refine ⟨_, rfl, ?_⟩
                 have n0_ := zh.mk (zo (g := gb186) (o := .cells #[.int .i64 a1_0, .int .i64 a1_1, .int .i64 a1_2, .int .i64 a1_3] 22 (0, 0)) (by (with_reducible repeat (first | refine ze ?_ _ | refine zf ?_ | refine za ?_ _)); exact BK186.out) hb)
                 have n1_ := zh.mk (zo (g := gb187) (o := .cells #[.int .i64 a2_0, .int .i64 a2_1, .int .i64 a2_2, .int .i64 a2_3] 22 (0, 0)) (by (with_reducible repeat (first | refine ze ?_ _ | refine zf ?_ | refine za ?_ _)); exact BK187.out) hb)
                 have n2_ := zh.mk (zo (g := gb206) (o := .cells #[.int .i64 0, .int .i64 0, .int .i64 0, .int .i64 0] 23 (0, 0)) (by (with_reducible repeat (first | refine ze ?_ _ | refine zf ?_ | refine za ?_ _)); exact BK206.out) hb)
                 have n3_ := zh.mk (zs (by repeat (first | (with_reducible first | exact HB.out | apply zl | apply zj | apply zk | refine zg ?_ GE186.out | refine zg ?_ GE187.out | refine zg ?_ GE206.out) | exact HB.out)) hb)
                 clear BK186
                 clear BK187
                 clear BK206
                 clear HB
                 have BK186 := n0_
                 have BK187 := n1_
                 have BK206 := n2_
                 have HB := n3_
                 clear n0_ n1_ n2_ n3_
                 (try clear hb)
                 (try clear hb2)
                 (try clear hk)
                 (try clear hi)
                 refine hK.out _ _ ⟨(zi BK186.out 0).trans rfl, (zi BK186.out 1).trans rfl, (zi BK186.out 2).trans rfl, (zi BK186.out 3).trans rfl, (zi BK187.out 0).trans rfl, (zi BK187.out 1).trans rfl, (zi BK187.out 2).trans rfl, (zi BK187.out 3).trans rfl⟩ (fun hHeld => ?_)
                 clear hK K
                 refine zca (a' := ?_) ?_ ?_
                 rotate_left
                 ·show Act.put _ (some 16) _ = _
                  simp only [Act.put, List.setIfInBounds_toArray, List.set_cons_zero, List.set_cons_succ, zu, zt]
                  rfl
                 exact zca (by first | (simp only [zy, Act.put, List.setIfInBounds_toArray, List.set_cons_zero, List.set_cons_succ]; done) | (simp only [zy, Act.put, List.setIfInBounds_toArray, List.set_cons_zero, List.set_cons_succ]; rfl)) (hJ2_11 (gb206) _ ⟨hHeld, (by (with_reducible repeat (first | refine ze ?_ _ | refine zf ?_ | refine za ?_ _)); exact BK186.out), (by (with_reducible repeat (first | refine ze ?_ _ | refine zf ?_ | refine za ?_ _)); exact BK187.out), (by (with_reducible repeat (first | refine ze ?_ _ | refine zf ?_ | refine za ?_ _)); exact BK206.out), GW206.out, GE206.out, NB186_206.out, NB206_186.out, NB187_206.out, NB206_187.out, (by repeat (first | (with_reducible first | exact HB.out | apply zl | apply zj | apply zk | refine zg ?_ GE186.out | refine zg ?_ GE187.out | refine zg ?_ GE206.out) | exact HB.out))⟩)
                ·skip
                 refine zha ?hg (N := 7) ?hd (cs := #[.int .i64 0, .int .i64 0, .int .i64 0, .int .i64 0]) (t := 23) ?hr ?_; (case hd => rfl); (case hg => rfl); (case hr => first | (go_simp; done) | (go_simp; rfl))
                 intro gb205 hg w20 hbox hb
                 have n0_ := zh.mk (zo (g := gb186) (o := .cells #[.int .i64 a1_0, .int .i64 a1_1, .int .i64 a1_2, .int .i64 a1_3] 22 (0, 0)) (by (with_reducible repeat (first | refine ze ?_ _ | refine zf ?_ | refine za ?_ _)); exact BK186.out) hb)
                 have n1_ := zh.mk (zo (g := gb187) (o := .cells #[.int .i64 a2_0, .int .i64 a2_1, .int .i64 a2_2, .int .i64 a2_3] 22 (0, 0)) (by (with_reducible repeat (first | refine ze ?_ _ | refine zf ?_ | refine za ?_ _)); exact BK187.out) hb)
                 have n2_ := zh.mk (zo (g := gb206) (o := .cells #[.int .i64 0, .int .i64 0, .int .i64 0, .int .i64 0] 23 (0, 0)) (by (with_reducible repeat (first | refine ze ?_ _ | refine zf ?_ | refine za ?_ _)); exact BK206.out) hb)
                 have n3_ := zh.mk (zs (by repeat (first | (with_reducible first | exact HB.out | apply zl | apply zj | apply zk | refine zg ?_ GE186.out | refine zg ?_ GE187.out | refine zg ?_ GE206.out) | exact HB.out)) hb)
                 have n4_ := zh.mk (hbox)
                 have n5_ := zh.mk ((by rw [hg]; exact (zq (by repeat (first | (with_reducible first | exact HB.out | apply zl | apply zj | apply zk | refine zg ?_ GE186.out | refine zg ?_ GE187.out | refine zg ?_ GE206.out) | exact HB.out))) : w.heap.size ≤ gb205))
                 have n6_ := zh.mk ((by rw [hg]; exact (zq (by repeat (first | (with_reducible first | exact HB.out | apply zl | apply zj | apply zk | refine zg ?_ GE186.out | refine zg ?_ GE187.out | refine zg ?_ GE206.out) | exact HB.out))) : w.heap.size ≤ gb205))
                 have n7_ := zh.mk ((by rw [hg]; exact Nat.ne_of_lt (zr (g := gb186) (o := .cells #[.int .i64 a1_0, .int .i64 a1_1, .int .i64 a1_2, .int .i64 a1_3] 22 (0, 0)) (by (with_reducible repeat (first | refine ze ?_ _ | refine zf ?_ | refine za ?_ _)); exact BK186.out)) : gb186 ≠ gb205))
                 have n8_ := zh.mk ((by rw [hg]; exact Nat.ne_of_gt (zr (g := gb186) (o := .cells #[.int .i64 a1_0, .int .i64 a1_1, .int .i64 a1_2, .int .i64 a1_3] 22 (0, 0)) (by (with_reducible repeat (first | refine ze ?_ _ | refine zf ?_ | refine za ?_ _)); exact BK186.out)) : gb205 ≠ gb186))
                 have n9_ := zh.mk ((by rw [hg]; exact Nat.ne_of_lt (zr (g := gb187) (o := .cells #[.int .i64 a2_0, .int .i64 a2_1, .int .i64 a2_2, .int .i64 a2_3] 22 (0, 0)) (by (with_reducible repeat (first | refine ze ?_ _ | refine zf ?_ | refine za ?_ _)); exact BK187.out)) : gb187 ≠ gb205))
                 have n10_ := zh.mk ((by rw [hg]; exact Nat.ne_of_gt (zr (g := gb187) (o := .cells #[.int .i64 a2_0, .int .i64 a2_1, .int .i64 a2_2, .int .i64 a2_3] 22 (0, 0)) (by (with_reducible repeat (first | refine ze ?_ _ | refine zf ?_ | refine za ?_ _)); exact BK187.out)) : gb205 ≠ gb187))
                 have n11_ := zh.mk ((by rw [hg]; exact Nat.ne_of_lt (zr (g := gb206) (o := .cells #[.int .i64 0, .int .i64 0, .int .i64 0, .int .i64 0] 23 (0, 0)) (by (with_reducible repeat (first | refine ze ?_ _ | refine zf ?_ | refine za ?_ _)); exact BK206.out)) : gb206 ≠ gb205))
                 have n12_ := zh.mk ((by rw [hg]; exact Nat.ne_of_gt (zr (g := gb206) (o := .cells #[.int .i64 0, .int .i64 0, .int .i64 0, .int .i64 0] 23 (0, 0)) (by (with_reducible repeat (first | refine ze ?_ _ | refine zf ?_ | refine za ?_ _)); exact BK206.out)) : gb205 ≠ gb206))
                 clear BK186
                 clear BK187
                 clear BK206
                 clear HB
                 have BK186 := n0_
                 have BK187 := n1_
                 have BK206 := n2_
                 have HB := n3_
                 have BK205 := n4_
                 have GW205 := n5_
                 have GE205 := n6_
                 have NB186_205 := n7_
                 have NB205_186 := n8_
                 have NB187_205 := n9_
                 have NB205_187 := n10_
                 have NB206_205 := n11_
                 have NB205_206 := n12_
                 clear n0_ n1_ n2_ n3_ n4_ n5_ n6_ n7_ n8_ n9_ n10_ n11_ n12_
                 clear hb hbox hg
                 refine hK.out _ _ ⟨(zi BK186.out 0).trans rfl, (zi BK186.out 1).trans rfl, (zi BK186.out 2).trans rfl, (zi BK186.out 3).trans rfl, (zi BK187.out 0).trans rfl, (zi BK187.out 1).trans rfl, (zi BK187.out 2).trans rfl, (zi BK187.out 3).trans rfl⟩ (fun hHeld => ?_)
                 clear hK K
                 refine zca (a' := ?_) ?_ ?_
                 rotate_left
                 ·show Act.put _ (some 7) _ = _
                  simp only [Act.put, List.setIfInBounds_toArray, List.set_cons_zero, List.set_cons_succ, zu, zt]
                  rfl
                 exact zca (by first | (simp only [zy, Act.put, List.setIfInBounds_toArray, List.set_cons_zero, List.set_cons_succ]; done) | (simp only [zy, Act.put, List.setIfInBounds_toArray, List.set_cons_zero, List.set_cons_succ]; rfl)) (hJ10_11 (gb205, gb206) _ ⟨hHeld, (by (with_reducible repeat (first | refine ze ?_ _ | refine zf ?_ | refine za ?_ _)); exact BK186.out), (by (with_reducible repeat (first | refine ze ?_ _ | refine zf ?_ | refine za ?_ _)); exact BK187.out), (by (with_reducible repeat (first | refine ze ?_ _ | refine zf ?_ | refine za ?_ _)); exact BK205.out), (by (with_reducible repeat (first | refine ze ?_ _ | refine zf ?_ | refine za ?_ _)); exact BK206.out), GW205.out, GE205.out, NB186_205.out, NB205_186.out, NB187_205.out, NB205_187.out, NB206_205.out, NB205_206.out, GW206.out, GE206.out, NB186_206.out, NB206_186.out, NB187_206.out, NB206_187.out, (by repeat (first | (with_reducible first | exact HB.out | apply zl | apply zj | apply zk | refine zg ?_ GE186.out | refine zg ?_ GE187.out | refine zg ?_ GE206.out | refine zg ?_ GE205.out) | exact HB.out))⟩)
              ·skip
               rintro gb205 w19 ⟨hS_, h0_, h1_, h2_, h3_, h4_, h5_, h6_, h7_, h8_, h9_⟩
               have n0_ : zh (w19.heap[gb186]? = some (.cells #[.int .i64 a1_0, .int .i64 a1_1, .int .i64 a1_2, .int .i64 a1_3] 22 (0, 0))) := ⟨h0_⟩
               have n1_ : zh (w19.heap[gb187]? = some (.cells #[.int .i64 a2_0, .int .i64 a2_1, .int .i64 a2_2, .int .i64 a2_3] 22 (0, 0))) := ⟨h1_⟩
               have n2_ : zh (w19.heap[gb205]? = some (.cells #[.int .i64 0, .int .i64 0, .int .i64 0, .int .i64 0] 23 (0, 0))) := ⟨h2_⟩
               have n3_ : zh (w.heap.size ≤ gb205) := ⟨h3_⟩
               have n4_ : zh (w.heap.size ≤ gb205) := ⟨h4_⟩
               have n5_ : zh (gb186 ≠ gb205) := ⟨h5_⟩
               have n6_ : zh (gb205 ≠ gb186) := ⟨h6_⟩
               have n7_ : zh (gb187 ≠ gb205) := ⟨h7_⟩
               have n8_ : zh (gb205 ≠ gb187) := ⟨h8_⟩
               have n9_ : zh (Below w.heap.size w w19) := ⟨h9_⟩
               clear BK186
               clear BK187
               clear HB
               clear h0_ h1_ h2_ h3_ h4_ h5_ h6_ h7_ h8_ h9_
               have BK186 := n0_
               have BK187 := n1_
               have BK205 := n2_
               have GW205 := n3_
               have GE205 := n4_
               have NB186_205 := n5_
               have NB205_186 := n6_
               have NB187_205 := n7_
               have NB205_187 := n8_
               have HB := n9_
               clear n0_ n1_ n2_ n3_ n4_ n5_ n6_ n7_ n8_ n9_
               have hHeld : w19.cell? ⟨gb186, 0, none⟩ = some (.int .i64 a1_0) ∧ w19.cell? ⟨gb186, 1, none⟩ = some (.int .i64 a1_1) ∧ w19.cell? ⟨gb186, 2, none⟩ = some (.int .i64 a1_2) ∧ w19.cell? ⟨gb186, 3, none⟩ = some (.int .i64 a1_3) ∧ w19.cell? ⟨gb187, 0, none⟩ = some (.int .i64 a2_0) ∧ w19.cell? ⟨gb187, 1, none⟩ = some (.int .i64 a2_1) ∧ w19.cell? ⟨gb187, 2, none⟩ = some (.int .i64 a2_2) ∧ w19.cell? ⟨gb187, 3, none⟩ = some (.int .i64 a2_3) := hS_
               refine zca (a' := ?_) ?_ ?_
               rotate_left
               ·simp only [zy, Act.put, List.setIfInBounds_toArray, List.set_cons_zero, List.set_cons_succ]
                rfl
               refine two_ (i := 2) (j := 11) (Ni := some 16) (Nj := some 8) #[true, true, true, true, false, false, false, false, false, false, true, false, false, false, false] #[true, true, false, true, false, false, false, false, false, false, true, true, false, false, false] rfl rfl rfl rfl (two_of HT_.out (by kernel_rfl)) (by decide) (by decide) (fun K hK => ?_) (fun K hK => ?_)
               ·skip
                refine goes_ Try.func6 (by kernel_rfl) rfl #[.agg #[.int .i64 a1_0, .int .i64 a1_1, .int .i64 a1_2, .int .i64 a1_3]] (by rfl) rfl rfl (by (try simp only [List.map_toArray, List.map_cons, List.map_nil]); first | done | rfl | (simp only [List.length_drop, List.length_take]; rfl)) ?_
                with_reducible refine (laws_toState.calls k a1_0 a1_1 a1_2 a1_3 t188 t189 t190 t191 _ A4.out).mono ?_
                rintro e w20 ⟨rfl, hb⟩
                refine ⟨_, rfl, ?_⟩
                have n0_ := zh.mk (zo (g := gb186) (o := .cells #[.int .i64 a1_0, .int .i64 a1_1, .int .i64 a1_2, .int .i64 a1_3] 22 (0, 0)) (by (with_reducible repeat (first | refine ze ?_ _ | refine zf ?_ | refine za ?_ _)); exact BK186.out) hb)
                have n1_ := zh.mk (zo (g := gb187) (o := .cells #[.int .i64 a2_0, .int .i64 a2_1, .int .i64 a2_2, .int .i64 a2_3] 22 (0, 0)) (by (with_reducible repeat (first | refine ze ?_ _ | refine zf ?_ | refine za ?_ _)); exact BK187.out) hb)
                have n2_ := zh.mk (zo (g := gb205) (o := .cells #[.int .i64 0, .int .i64 0, .int .i64 0, .int .i64 0] 23 (0, 0)) (by (with_reducible repeat (first | refine ze ?_ _ | refine zf ?_ | refine za ?_ _)); exact BK205.out) hb)
                have n3_ := zh.mk (zs (by repeat (first | (with_reducible first | exact HB.out | apply zl | apply zj | apply zk | refine zg ?_ GE186.out | refine zg ?_ GE187.out | refine zg ?_ GE205.out) | exact HB.out)) hb)
                clear BK186
                clear BK187
                clear BK205
                clear HB
                have BK186 := n0_
                have BK187 := n1_
                have BK205 := n2_
                have HB := n3_
                clear n0_ n1_ n2_ n3_
                (try clear hb)
                (try clear hb2)
                (try clear hk)
                (try clear hi)
                refine hK.out _ _ ⟨(zi BK186.out 0).trans rfl, (zi BK186.out 1).trans rfl, (zi BK186.out 2).trans rfl, (zi BK186.out 3).trans rfl, (zi BK187.out 0).trans rfl, (zi BK187.out 1).trans rfl, (zi BK187.out 2).trans rfl, (zi BK187.out 3).trans rfl⟩ (fun hHeld => ?_)
                clear hK K
                refine zca (a' := ?_) ?_ ?_
                rotate_left
                ·show Act.put _ (some 16) _ = _
                 simp only [Act.put, List.setIfInBounds_toArray, List.set_cons_zero, List.set_cons_succ, zu, zt]
                 rfl
                exact zca (by first | (simp only [zy, Act.put, List.setIfInBounds_toArray, List.set_cons_zero, List.set_cons_succ]; done) | (simp only [zy, Act.put, List.setIfInBounds_toArray, List.set_cons_zero, List.set_cons_succ]; rfl)) (hJ2_10 (gb205) _ ⟨hHeld, (by (with_reducible repeat (first | refine ze ?_ _ | refine zf ?_ | refine za ?_ _)); exact BK186.out), (by (with_reducible repeat (first | refine ze ?_ _ | refine zf ?_ | refine za ?_ _)); exact BK187.out), (by (with_reducible repeat (first | refine ze ?_ _ | refine zf ?_ | refine za ?_ _)); exact BK205.out), GW205.out, GE205.out, NB186_205.out, NB205_186.out, NB187_205.out, NB205_187.out, (by repeat (first | (with_reducible first | exact HB.out | apply zl | apply zj | apply zk | refine zg ?_ GE186.out | refine zg ?_ GE187.out | refine zg ?_ GE205.out) | exact HB.out))⟩)
               ·skip
                refine zha ?hg (N := 8) ?hd (cs := #[.int .i64 0, .int .i64 0, .int .i64 0, .int .i64 0]) (t := 23) ?hr ?_; (case hd => rfl); (case hg => rfl); (case hr => first | (go_simp; done) | (go_simp; rfl))
                intro gb206 hg w20 hbox hb
                have n0_ := zh.mk (zo (g := gb186) (o := .cells #[.int .i64 a1_0, .int .i64 a1_1, .int .i64 a1_2, .int .i64 a1_3] 22 (0, 0)) (by (with_reducible repeat (first | refine ze ?_ _ | refine zf ?_ | refine za ?_ _)); exact BK186.out) hb)
                have n1_ := zh.mk (zo (g := gb187) (o := .cells #[.int .i64 a2_0, .int .i64 a2_1, .int .i64 a2_2, .int .i64 a2_3] 22 (0, 0)) (by (with_reducible repeat (first | refine ze ?_ _ | refine zf ?_ | refine za ?_ _)); exact BK187.out) hb)
                have n2_ := zh.mk (zo (g := gb205) (o := .cells #[.int .i64 0, .int .i64 0, .int .i64 0, .int .i64 0] 23 (0, 0)) (by (with_reducible repeat (first | refine ze ?_ _ | refine zf ?_ | refine za ?_ _)); exact BK205.out) hb)
                have n3_ := zh.mk (zs (by repeat (first | (with_reducible first | exact HB.out | apply zl | apply zj | apply zk | refine zg ?_ GE186.out | refine zg ?_ GE187.out | refine zg ?_ GE205.out) | exact HB.out)) hb)
                have n4_ := zh.mk (hbox)
                have n5_ := zh.mk ((by rw [hg]; exact (zq (by repeat (first | (with_reducible first | exact HB.out | apply zl | apply zj | apply zk | refine zg ?_ GE186.out | refine zg ?_ GE187.out | refine zg ?_ GE205.out) | exact HB.out))) : w.heap.size ≤ gb206))
                have n6_ := zh.mk ((by rw [hg]; exact (zq (by repeat (first | (with_reducible first | exact HB.out | apply zl | apply zj | apply zk | refine zg ?_ GE186.out | refine zg ?_ GE187.out | refine zg ?_ GE205.out) | exact HB.out))) : w.heap.size ≤ gb206))
                have n7_ := zh.mk ((by rw [hg]; exact Nat.ne_of_lt (zr (g := gb186) (o := .cells #[.int .i64 a1_0, .int .i64 a1_1, .int .i64 a1_2, .int .i64 a1_3] 22 (0, 0)) (by (with_reducible repeat (first | refine ze ?_ _ | refine zf ?_ | refine za ?_ _)); exact BK186.out)) : gb186 ≠ gb206))
                have n8_ := zh.mk ((by rw [hg]; exact Nat.ne_of_gt (zr (g := gb186) (o := .cells #[.int .i64 a1_0, .int .i64 a1_1, .int .i64 a1_2, .int .i64 a1_3] 22 (0, 0)) (by (with_reducible repeat (first | refine ze ?_ _ | refine zf ?_ | refine za ?_ _)); exact BK186.out)) : gb206 ≠ gb186))
                have n9_ := zh.mk ((by rw [hg]; exact Nat.ne_of_lt (zr (g := gb187) (o := .cells #[.int .i64 a2_0, .int .i64 a2_1, .int .i64 a2_2, .int .i64 a2_3] 22 (0, 0)) (by (with_reducible repeat (first | refine ze ?_ _ | refine zf ?_ | refine za ?_ _)); exact BK187.out)) : gb187 ≠ gb206))
                have n10_ := zh.mk ((by rw [hg]; exact Nat.ne_of_gt (zr (g := gb187) (o := .cells #[.int .i64 a2_0, .int .i64 a2_1, .int .i64 a2_2, .int .i64 a2_3] 22 (0, 0)) (by (with_reducible repeat (first | refine ze ?_ _ | refine zf ?_ | refine za ?_ _)); exact BK187.out)) : gb206 ≠ gb187))
                have n11_ := zh.mk ((by rw [hg]; exact Nat.ne_of_lt (zr (g := gb205) (o := .cells #[.int .i64 0, .int .i64 0, .int .i64 0, .int .i64 0] 23 (0, 0)) (by (with_reducible repeat (first | refine ze ?_ _ | refine zf ?_ | refine za ?_ _)); exact BK205.out)) : gb205 ≠ gb206))
                have n12_ := zh.mk ((by rw [hg]; exact Nat.ne_of_gt (zr (g := gb205) (o := .cells #[.int .i64 0, .int .i64 0, .int .i64 0, .int .i64 0] 23 (0, 0)) (by (with_reducible repeat (first | refine ze ?_ _ | refine zf ?_ | refine za ?_ _)); exact BK205.out)) : gb206 ≠ gb205))
                clear BK186
                clear BK187
                clear BK205
                clear HB
                have BK186 := n0_
                have BK187 := n1_
                have BK205 := n2_
                have HB := n3_
                have BK206 := n4_
                have GW206 := n5_
                have GE206 := n6_
                have NB186_206 := n7_
                have NB206_186 := n8_
                have NB187_206 := n9_
                have NB206_187 := n10_
                have NB205_206 := n11_
                have NB206_205 := n12_
                clear n0_ n1_ n2_ n3_ n4_ n5_ n6_ n7_ n8_ n9_ n10_ n11_ n12_
                clear hb hbox hg
                refine hK.out _ _ ⟨(zi BK186.out 0).trans rfl, (zi BK186.out 1).trans rfl, (zi BK186.out 2).trans rfl, (zi BK186.out 3).trans rfl, (zi BK187.out 0).trans rfl, (zi BK187.out 1).trans rfl, (zi BK187.out 2).trans rfl, (zi BK187.out 3).trans rfl⟩ (fun hHeld => ?_)
                clear hK K
                refine zca (a' := ?_) ?_ ?_
                rotate_left
                ·show Act.put _ (some 8) _ = _
                 simp only [Act.put, List.setIfInBounds_toArray, List.set_cons_zero, List.set_cons_succ, zu, zt]
                 rfl
                exact zca (by first | (simp only [zy, Act.put, List.setIfInBounds_toArray, List.set_cons_zero, List.set_cons_succ]; done) | (simp only [zy, Act.put, List.setIfInBounds_toArray, List.set_cons_zero, List.set_cons_succ]; rfl)) (hJ10_11 (gb205, gb206) _ ⟨hHeld, (by (with_reducible repeat (first | refine ze ?_ _ | refine zf ?_ | refine za ?_ _)); exact BK186.out), (by (with_reducible repeat (first | refine ze ?_ _ | refine zf ?_ | refine za ?_ _)); exact BK187.out), (by (with_reducible repeat (first | refine ze ?_ _ | refine zf ?_ | refine za ?_ _)); exact BK205.out), (by (with_reducible repeat (first | refine ze ?_ _ | refine zf ?_ | refine za ?_ _)); exact BK206.out), GW205.out, GE205.out, NB186_205.out, NB205_186.out, NB187_205.out, NB205_187.out, NB206_205.out, NB205_206.out, GW206.out, GE206.out, NB186_206.out, NB206_186.out, NB187_206.out, NB206_187.out, (by repeat (first | (with_reducible first | exact HB.out | apply zl | apply zj | apply zk | refine zg ?_ GE186.out | refine zg ?_ GE187.out | refine zg ?_ GE205.out | refine zg ?_ GE206.out) | exact HB.out))⟩)
             ·skip
              rintro _ w19 ⟨hS_, h0_, h1_, h2_⟩
              have n0_ : zh (w19.heap[gb186]? = some (.cells #[.int .i64 a1_0, .int .i64 a1_1, .int .i64 a1_2, .int .i64 a1_3] 22 (0, 0))) := ⟨h0_⟩
              have n1_ : zh (w19.heap[gb187]? = some (.cells #[.int .i64 a2_0, .int .i64 a2_1, .int .i64 a2_2, .int .i64 a2_3] 22 (0, 0))) := ⟨h1_⟩
              have n2_ : zh (Below w.heap.size w w19) := ⟨h2_⟩
              clear BK186
              clear BK187
              clear HB
              clear h0_ h1_ h2_
              have BK186 := n0_
              have BK187 := n1_
              have HB := n2_
              clear n0_ n1_ n2_
              have hHeld : w19.cell? ⟨gb186, 0, none⟩ = some (.int .i64 a1_0) ∧ w19.cell? ⟨gb186, 1, none⟩ = some (.int .i64 a1_1) ∧ w19.cell? ⟨gb186, 2, none⟩ = some (.int .i64 a1_2) ∧ w19.cell? ⟨gb186, 3, none⟩ = some (.int .i64 a1_3) ∧ w19.cell? ⟨gb187, 0, none⟩ = some (.int .i64 a2_0) ∧ w19.cell? ⟨gb187, 1, none⟩ = some (.int .i64 a2_1) ∧ w19.cell? ⟨gb187, 2, none⟩ = some (.int .i64 a2_2) ∧ w19.cell? ⟨gb187, 3, none⟩ = some (.int .i64 a2_3) := hS_
              refine zca (a' := ?_) ?_ ?_
              rotate_left
              ·simp only [zy, Act.put, List.setIfInBounds_toArray, List.set_cons_zero, List.set_cons_succ]
               rfl
              refine three_ (i := 4) (j := 10) (k := 11) (Ni := some 18) (Nj := some 7) (Nk := some 8) #[true, true, true, true, true, false, false, false, false, false, false, false, false, false, false] #[true, true, true, true, false, false, false, false, false, false, true, false, false, false, false] #[true, true, true, true, false, false, false, false, false, false, false, true, false, false, false] rfl rfl rfl rfl rfl rfl (three_of HT_.out (by kernel_rfl)) (by decide) (by decide) (by decide) (fun K hK => ?_) (fun K hK => ?_) (fun K hK => ?_)
              ·skip
               refine goes_ Try.func6 (by kernel_rfl) rfl #[.agg #[.int .i64 a2_0, .int .i64 a2_1, .int .i64 a2_2, .int .i64 a2_3]] (by rfl) rfl rfl (by (try simp only [List.map_toArray, List.map_cons, List.map_nil]); first | done | rfl | (simp only [List.length_drop, List.length_take]; rfl)) ?_
               with_reducible refine (laws_toState.calls k a2_0 a2_1 a2_2 a2_3 t192 t193 t194 t195 _ A5.out).mono ?_
               rintro e w20 ⟨rfl, hb⟩
               refine ⟨_, rfl, ?_⟩
               have n0_ := zh.mk (zo (g := gb186) (o := .cells #[.int .i64 a1_0, .int .i64 a1_1, .int .i64 a1_2, .int .i64 a1_3] 22 (0, 0)) (by (with_reducible repeat (first | refine ze ?_ _ | refine zf ?_ | refine za ?_ _)); exact BK186.out) hb)
               have n1_ := zh.mk (zo (g := gb187) (o := .cells #[.int .i64 a2_0, .int .i64 a2_1, .int .i64 a2_2, .int .i64 a2_3] 22 (0, 0)) (by (with_reducible repeat (first | refine ze ?_ _ | refine zf ?_ | refine za ?_ _)); exact BK187.out) hb)
               have n2_ := zh.mk (zs (by repeat (first | (with_reducible first | exact HB.out | apply zl | apply zj | apply zk | refine zg ?_ GE186.out | refine zg ?_ GE187.out) | exact HB.out)) hb)
               clear BK186
               clear BK187
               clear HB
               have BK186 := n0_
               have BK187 := n1_
               have HB := n2_
               clear n0_ n1_ n2_
               (try clear hb)
               (try clear hb2)
               (try clear hk)
               (try clear hi)
               refine hK.out _ _ ⟨(zi BK186.out 0).trans rfl, (zi BK186.out 1).trans rfl, (zi BK186.out 2).trans rfl, (zi BK186.out 3).trans rfl, (zi BK187.out 0).trans rfl, (zi BK187.out 1).trans rfl, (zi BK187.out 2).trans rfl, (zi BK187.out 3).trans rfl⟩ (fun hHeld => ?_)
               clear hK K
               refine zca (a' := ?_) ?_ ?_
               rotate_left
               ·show Act.put _ (some 18) _ = _
                simp only [Act.put, List.setIfInBounds_toArray, List.set_cons_zero, List.set_cons_succ, zu, zt]
                rfl
               exact zca (by first | (simp only [zy, Act.put, List.setIfInBounds_toArray, List.set_cons_zero, List.set_cons_succ]; done) | (simp only [zy, Act.put, List.setIfInBounds_toArray, List.set_cons_zero, List.set_cons_succ]; rfl)) (hJ2_4 () _ ⟨hHeld, (by (with_reducible repeat (first | refine ze ?_ _ | refine zf ?_ | refine za ?_ _)); exact BK186.out), (by (with_reducible repeat (first | refine ze ?_ _ | refine zf ?_ | refine za ?_ _)); exact BK187.out), (by repeat (first | (with_reducible first | exact HB.out | apply zl | apply zj | apply zk | refine zg ?_ GE186.out | refine zg ?_ GE187.out) | exact HB.out))⟩)
              ·skip
               refine zha ?hg (N := 7) ?hd (cs := #[.int .i64 0, .int .i64 0, .int .i64 0, .int .i64 0]) (t := 23) ?hr ?_; (case hd => rfl); (case hg => rfl); (case hr => first | (go_simp; done) | (go_simp; rfl))
               intro gb205 hg w20 hbox hb
               have n0_ := zh.mk (zo (g := gb186) (o := .cells #[.int .i64 a1_0, .int .i64 a1_1, .int .i64 a1_2, .int .i64 a1_3] 22 (0, 0)) (by (with_reducible repeat (first | refine ze ?_ _ | refine zf ?_ | refine za ?_ _)); exact BK186.out) hb)
               have n1_ := zh.mk (zo (g := gb187) (o := .cells #[.int .i64 a2_0, .int .i64 a2_1, .int .i64 a2_2, .int .i64 a2_3] 22 (0, 0)) (by (with_reducible repeat (first | refine ze ?_ _ | refine zf ?_ | refine za ?_ _)); exact BK187.out) hb)
               have n2_ := zh.mk (zs (by repeat (first | (with_reducible first | exact HB.out | apply zl | apply zj | apply zk | refine zg ?_ GE186.out | refine zg ?_ GE187.out) | exact HB.out)) hb)
               have n3_ := zh.mk (hbox)
               have n4_ := zh.mk ((by rw [hg]; exact (zq (by repeat (first | (with_reducible first | exact HB.out | apply zl | apply zj | apply zk | refine zg ?_ GE186.out | refine zg ?_ GE187.out) | exact HB.out))) : w.heap.size ≤ gb205))
               have n5_ := zh.mk ((by rw [hg]; exact (zq (by repeat (first | (with_reducible first | exact HB.out | apply zl | apply zj | apply zk | refine zg ?_ GE186.out | refine zg ?_ GE187.out) | exact HB.out))) : w.heap.size ≤ gb205))
               have n6_ := zh.mk ((by rw [hg]; exact Nat.ne_of_lt (zr (g := gb186) (o := .cells #[.int .i64 a1_0, .int .i64 a1_1, .int .i64 a1_2, .int .i64 a1_3] 22 (0, 0)) (by (with_reducible repeat (first | refine ze ?_ _ | refine zf ?_ | refine za ?_ _)); exact BK186.out)) : gb186 ≠ gb205))
               have n7_ := zh.mk ((by rw [hg]; exact Nat.ne_of_gt (zr (g := gb186) (o := .cells #[.int .i64 a1_0, .int .i64 a1_1, .int .i64 a1_2, .int .i64 a1_3] 22 (0, 0)) (by (with_reducible repeat (first | refine ze ?_ _ | refine zf ?_ | refine za ?_ _)); exact BK186.out)) : gb205 ≠ gb186))
               have n8_ := zh.mk ((by rw [hg]; exact Nat.ne_of_lt (zr (g := gb187) (o := .cells #[.int .i64 a2_0, .int .i64 a2_1, .int .i64 a2_2, .int .i64 a2_3] 22 (0, 0)) (by (with_reducible repeat (first | refine ze ?_ _ | refine zf ?_ | refine za ?_ _)); exact BK187.out)) : gb187 ≠ gb205))
               have n9_ := zh.mk ((by rw [hg]; exact Nat.ne_of_gt (zr (g := gb187) (o := .cells #[.int .i64 a2_0, .int .i64 a2_1, .int .i64 a2_2, .int .i64 a2_3] 22 (0, 0)) (by (with_reducible repeat (first | refine ze ?_ _ | refine zf ?_ | refine za ?_ _)); exact BK187.out)) : gb205 ≠ gb187))
               clear BK186
               clear BK187
               clear HB
               have BK186 := n0_
               have BK187 := n1_
               have HB := n2_
               have BK205 := n3_
               have GW205 := n4_
               have GE205 := n5_
               have NB186_205 := n6_
               have NB205_186 := n7_
               have NB187_205 := n8_
               have NB205_187 := n9_
               clear n0_ n1_ n2_ n3_ n4_ n5_ n6_ n7_ n8_ n9_
               clear hb hbox hg
               refine hK.out _ _ ⟨(zi BK186.out 0).trans rfl, (zi BK186.out 1).trans rfl, (zi BK186.out 2).trans rfl, (zi BK186.out 3).trans rfl, (zi BK187.out 0).trans rfl, (zi BK187.out 1).trans rfl, (zi BK187.out 2).trans rfl, (zi BK187.out 3).trans rfl⟩ (fun hHeld => ?_)
               clear hK K
               refine zca (a' := ?_) ?_ ?_
               rotate_left
               ·show Act.put _ (some 7) _ = _
                simp only [Act.put, List.setIfInBounds_toArray, List.set_cons_zero, List.set_cons_succ, zu, zt]
                rfl
               exact zca (by first | (simp only [zy, Act.put, List.setIfInBounds_toArray, List.set_cons_zero, List.set_cons_succ]; done) | (simp only [zy, Act.put, List.setIfInBounds_toArray, List.set_cons_zero, List.set_cons_succ]; rfl)) (hJ2_10 (gb205) _ ⟨hHeld, (by (with_reducible repeat (first | refine ze ?_ _ | refine zf ?_ | refine za ?_ _)); exact BK186.out), (by (with_reducible repeat (first | refine ze ?_ _ | refine zf ?_ | refine za ?_ _)); exact BK187.out), (by (with_reducible repeat (first | refine ze ?_ _ | refine zf ?_ | refine za ?_ _)); exact BK205.out), GW205.out, GE205.out, NB186_205.out, NB205_186.out, NB187_205.out, NB205_187.out, (by repeat (first | (with_reducible first | exact HB.out | apply zl | apply zj | apply zk | refine zg ?_ GE186.out | refine zg ?_ GE187.out | refine zg ?_ GE205.out) | exact HB.out))⟩)
              ·skip
               refine zha ?hg (N := 8) ?hd (cs := #[.int .i64 0, .int .i64 0, .int .i64 0, .int .i64 0]) (t := 23) ?hr ?_; (case hd => rfl); (case hg => rfl); (case hr => first | (go_simp; done) | (go_simp; rfl))
               intro gb206 hg w20 hbox hb
               have n0_ := zh.mk (zo (g := gb186) (o := .cells #[.int .i64 a1_0, .int .i64 a1_1, .int .i64 a1_2, .int .i64 a1_3] 22 (0, 0)) (by (with_reducible repeat (first | refine ze ?_ _ | refine zf ?_ | refine za ?_ _)); exact BK186.out) hb)
               have n1_ := zh.mk (zo (g := gb187) (o := .cells #[.int .i64 a2_0, .int .i64 a2_1, .int .i64 a2_2, .int .i64 a2_3] 22 (0, 0)) (by (with_reducible repeat (first | refine ze ?_ _ | refine zf ?_ | refine za ?_ _)); exact BK187.out) hb)
               have n2_ := zh.mk (zs (by repeat (first | (with_reducible first | exact HB.out | apply zl | apply zj | apply zk | refine zg ?_ GE186.out | refine zg ?_ GE187.out) | exact HB.out)) hb)
               have n3_ := zh.mk (hbox)
               have n4_ := zh.mk ((by rw [hg]; exact (zq (by repeat (first | (with_reducible first | exact HB.out | apply zl | apply zj | apply zk | refine zg ?_ GE186.out | refine zg ?_ GE187.out) | exact HB.out))) : w.heap.size ≤ gb206))
               have n5_ := zh.mk ((by rw [hg]; exact (zq (by repeat (first | (with_reducible first | exact HB.out | apply zl | apply zj | apply zk | refine zg ?_ GE186.out | refine zg ?_ GE187.out) | exact HB.out))) : w.heap.size ≤ gb206))
               have n6_ := zh.mk ((by rw [hg]; exact Nat.ne_of_lt (zr (g := gb186) (o := .cells #[.int .i64 a1_0, .int .i64 a1_1, .int .i64 a1_2, .int .i64 a1_3] 22 (0, 0)) (by (with_reducible repeat (first | refine ze ?_ _ | refine zf ?_ | refine za ?_ _)); exact BK186.out)) : gb186 ≠ gb206))
               have n7_ := zh.mk ((by rw [hg]; exact Nat.ne_of_gt (zr (g := gb186) (o := .cells #[.int .i64 a1_0, .int .i64 a1_1, .int .i64 a1_2, .int .i64 a1_3] 22 (0, 0)) (by (with_reducible repeat (first | refine ze ?_ _ | refine zf ?_ | refine za ?_ _)); exact BK186.out)) : gb206 ≠ gb186))
               have n8_ := zh.mk ((by rw [hg]; exact Nat.ne_of_lt (zr (g := gb187) (o := .cells #[.int .i64 a2_0, .int .i64 a2_1, .int .i64 a2_2, .int .i64 a2_3] 22 (0, 0)) (by (with_reducible repeat (first | refine ze ?_ _ | refine zf ?_ | refine za ?_ _)); exact BK187.out)) : gb187 ≠ gb206))
               have n9_ := zh.mk ((by rw [hg]; exact Nat.ne_of_gt (zr (g := gb187) (o := .cells #[.int .i64 a2_0, .int .i64 a2_1, .int .i64 a2_2, .int .i64 a2_3] 22 (0, 0)) (by (with_reducible repeat (first | refine ze ?_ _ | refine zf ?_ | refine za ?_ _)); exact BK187.out)) : gb206 ≠ gb187))
               clear BK186
               clear BK187
               clear HB
               have BK186 := n0_
               have BK187 := n1_
               have HB := n2_
               have BK206 := n3_
               have GW206 := n4_
               have GE206 := n5_
               have NB186_206 := n6_
               have NB206_186 := n7_
               have NB187_206 := n8_
               have NB206_187 := n9_
               clear n0_ n1_ n2_ n3_ n4_ n5_ n6_ n7_ n8_ n9_
               clear hb hbox hg
               refine hK.out _ _ ⟨(zi BK186.out 0).trans rfl, (zi BK186.out 1).trans rfl, (zi BK186.out 2).trans rfl, (zi BK186.out 3).trans rfl, (zi BK187.out 0).trans rfl, (zi BK187.out 1).trans rfl, (zi BK187.out 2).trans rfl, (zi BK187.out 3).trans rfl⟩ (fun hHeld => ?_)
               clear hK K
               refine zca (a' := ?_) ?_ ?_
               rotate_left
               ·show Act.put _ (some 8) _ = _
                simp only [Act.put, List.setIfInBounds_toArray, List.set_cons_zero, List.set_cons_succ, zu, zt]
                rfl
               exact zca (by first | (simp only [zy, Act.put, List.setIfInBounds_toArray, List.set_cons_zero, List.set_cons_succ]; done) | (simp only [zy, Act.put, List.setIfInBounds_toArray, List.set_cons_zero, List.set_cons_succ]; rfl)) (hJ2_11 (gb206) _ ⟨hHeld, (by (with_reducible repeat (first | refine ze ?_ _ | refine zf ?_ | refine za ?_ _)); exact BK186.out), (by (with_reducible repeat (first | refine ze ?_ _ | refine zf ?_ | refine za ?_ _)); exact BK187.out), (by (with_reducible repeat (first | refine ze ?_ _ | refine zf ?_ | refine za ?_ _)); exact BK206.out), GW206.out, GE206.out, NB186_206.out, NB206_186.out, NB187_206.out, NB206_187.out, (by repeat (first | (with_reducible first | exact HB.out | apply zl | apply zj | apply zk | refine zg ?_ GE186.out | refine zg ?_ GE187.out | refine zg ?_ GE206.out) | exact HB.out))⟩)
            ·skip
             rintro ⟨gb205, gb206⟩ w20 ⟨hS_, h0_, h1_, h2_, h3_, h4_, h5_, h6_, h7_, h8_, h9_, h10_, h11_, h12_, h13_, h14_, h15_, h16_, h17_, h18_⟩
             have n0_ : zh (w20.heap[gb186]? = some (.cells #[.int .i64 a1_0, .int .i64 a1_1, .int .i64 a1_2, .int .i64 a1_3] 22 (0, 0))) := ⟨h0_⟩
             have n1_ : zh (w20.heap[gb187]? = some (.cells #[.int .i64 a2_0, .int .i64 a2_1, .int .i64 a2_2, .int .i64 a2_3] 22 (0, 0))) := ⟨h1_⟩
             have n2_ : zh (w20.heap[gb205]? = some (.cells #[.int .i64 0, .int .i64 0, .int .i64 0, .int .i64 0] 23 (0, 0))) := ⟨h2_⟩
             have n3_ : zh (w20.heap[gb206]? = some (.cells #[.int .i64 0, .int .i64 0, .int .i64 0, .int .i64 0] 23 (0, 0))) := ⟨h3_⟩
             have n4_ : zh (w.heap.size ≤ gb205) := ⟨h4_⟩
             have n5_ : zh (w.heap.size ≤ gb205) := ⟨h5_⟩
             have n6_ : zh (gb186 ≠ gb205) := ⟨h6_⟩
             have n7_ : zh (gb205 ≠ gb186) := ⟨h7_⟩
             have n8_ : zh (gb187 ≠ gb205) := ⟨h8_⟩
             have n9_ : zh (gb205 ≠ gb187) := ⟨h9_⟩
             have n10_ : zh (gb206 ≠ gb205) := ⟨h10_⟩
             have n11_ : zh (gb205 ≠ gb206) := ⟨h11_⟩
             have n12_ : zh (w.heap.size ≤ gb206) := ⟨h12_⟩
             have n13_ : zh (w.heap.size ≤ gb206) := ⟨h13_⟩
             have n14_ : zh (gb186 ≠ gb206) := ⟨h14_⟩
             have n15_ : zh (gb206 ≠ gb186) := ⟨h15_⟩
             have n16_ : zh (gb187 ≠ gb206) := ⟨h16_⟩
             have n17_ : zh (gb206 ≠ gb187) := ⟨h17_⟩
             have n18_ : zh (Below w.heap.size w w20) := ⟨h18_⟩
             clear BK186
             clear BK187
             clear HB
             clear h0_ h1_ h2_ h3_ h4_ h5_ h6_ h7_ h8_ h9_ h10_ h11_ h12_ h13_ h14_ h15_ h16_ h17_ h18_
             have BK186 := n0_
             have BK187 := n1_
             have BK205 := n2_
             have BK206 := n3_
             have GW205 := n4_
             have GE205 := n5_
             have NB186_205 := n6_
             have NB205_186 := n7_
             have NB187_205 := n8_
             have NB205_187 := n9_
             have NB206_205 := n10_
             have NB205_206 := n11_
             have GW206 := n12_
             have GE206 := n13_
             have NB186_206 := n14_
             have NB206_186 := n15_
             have NB187_206 := n16_
             have NB206_187 := n17_
             have HB := n18_
             clear n0_ n1_ n2_ n3_ n4_ n5_ n6_ n7_ n8_ n9_ n10_ n11_ n12_ n13_ n14_ n15_ n16_ n17_ n18_
             have hHeld : w20.cell? ⟨gb186, 0, none⟩ = some (.int .i64 a1_0) ∧ w20.cell? ⟨gb186, 1, none⟩ = some (.int .i64 a1_1) ∧ w20.cell? ⟨gb186, 2, none⟩ = some (.int .i64 a1_2) ∧ w20.cell? ⟨gb186, 3, none⟩ = some (.int .i64 a1_3) ∧ w20.cell? ⟨gb187, 0, none⟩ = some (.int .i64 a2_0) ∧ w20.cell? ⟨gb187, 1, none⟩ = some (.int .i64 a2_1) ∧ w20.cell? ⟨gb187, 2, none⟩ = some (.int .i64 a2_2) ∧ w20.cell? ⟨gb187, 3, none⟩ = some (.int .i64 a2_3) := hS_
             refine zca (a' := ?_) ?_ ?_
             rotate_left
             ·simp only [zy, Act.put, List.setIfInBounds_toArray, List.set_cons_zero, List.set_cons_succ]
              rfl
             refine one_ (i := 2) (N := some 16) #[true, true, true, true, false, false, false, false, false, false, true, true, false, false, false] rfl rfl (zia HT_.out (by kernel_rfl)) (by decide) (fun K hK => ?_)
             refine goes_ Try.func6 (by kernel_rfl) rfl #[.agg #[.int .i64 a1_0, .int .i64 a1_1, .int .i64 a1_2, .int .i64 a1_3]] (by rfl) rfl rfl (by (try simp only [List.map_toArray, List.map_cons, List.map_nil]); first | done | rfl | (simp only [List.length_drop, List.length_take]; rfl)) ?_
             with_reducible refine (laws_toState.calls k a1_0 a1_1 a1_2 a1_3 t188 t189 t190 t191 _ A4.out).mono ?_
             rintro e w21 ⟨rfl, hb⟩
             refine ⟨_, rfl, ?_⟩
             have n0_ := zh.mk (zo (g := gb186) (o := .cells #[.int .i64 a1_0, .int .i64 a1_1, .int .i64 a1_2, .int .i64 a1_3] 22 (0, 0)) (by (with_reducible repeat (first | refine ze ?_ _ | refine zf ?_ | refine za ?_ _)); exact BK186.out) hb)
             have n1_ := zh.mk (zo (g := gb187) (o := .cells #[.int .i64 a2_0, .int .i64 a2_1, .int .i64 a2_2, .int .i64 a2_3] 22 (0, 0)) (by (with_reducible repeat (first | refine ze ?_ _ | refine zf ?_ | refine za ?_ _)); exact BK187.out) hb)
             have n2_ := zh.mk (zo (g := gb205) (o := .cells #[.int .i64 0, .int .i64 0, .int .i64 0, .int .i64 0] 23 (0, 0)) (by (with_reducible repeat (first | refine ze ?_ _ | refine zf ?_ | refine za ?_ _)); exact BK205.out) hb)
             have n3_ := zh.mk (zo (g := gb206) (o := .cells #[.int .i64 0, .int .i64 0, .int .i64 0, .int .i64 0] 23 (0, 0)) (by (with_reducible repeat (first | refine ze ?_ _ | refine zf ?_ | refine za ?_ _)); exact BK206.out) hb)
             have n4_ := zh.mk (zs (by repeat (first | (with_reducible first | exact HB.out | apply zl | apply zj | apply zk | refine zg ?_ GE186.out | refine zg ?_ GE187.out | refine zg ?_ GE205.out | refine zg ?_ GE206.out) | exact HB.out)) hb)
             clear BK186
             clear BK187
             clear BK205
             clear BK206
             clear HB
             have BK186 := n0_
             have BK187 := n1_
             have BK205 := n2_
             have BK206 := n3_
             have HB := n4_
             clear n0_ n1_ n2_ n3_ n4_
             (try clear hb)
             (try clear hb2)
             (try clear hk)
             (try clear hi)
             refine hK.out _ _ ⟨(zi BK186.out 0).trans rfl, (zi BK186.out 1).trans rfl, (zi BK186.out 2).trans rfl, (zi BK186.out 3).trans rfl, (zi BK187.out 0).trans rfl, (zi BK187.out 1).trans rfl, (zi BK187.out 2).trans rfl, (zi BK187.out 3).trans rfl⟩ (fun hHeld => ?_)
             clear hK K
             refine zca (a' := ?_) ?_ ?_
             rotate_left
             ·show Act.put _ (some 16) _ = _
              simp only [Act.put, List.setIfInBounds_toArray, List.set_cons_zero, List.set_cons_succ, zu, zt]
              rfl
             exact zca (by first | (simp only [zy, Act.put, List.setIfInBounds_toArray, List.set_cons_zero, List.set_cons_succ]; done) | (simp only [zy, Act.put, List.setIfInBounds_toArray, List.set_cons_zero, List.set_cons_succ]; rfl)) (hJ2_10_11 (gb205, gb206) _ ⟨hHeld, (by (with_reducible repeat (first | refine ze ?_ _ | refine zf ?_ | refine za ?_ _)); exact BK186.out), (by (with_reducible repeat (first | refine ze ?_ _ | refine zf ?_ | refine za ?_ _)); exact BK187.out), (by (with_reducible repeat (first | refine ze ?_ _ | refine zf ?_ | refine za ?_ _)); exact BK205.out), (by (with_reducible repeat (first | refine ze ?_ _ | refine zf ?_ | refine za ?_ _)); exact BK206.out), GW205.out, GE205.out, NB186_205.out, NB205_186.out, NB187_205.out, NB205_187.out, NB206_205.out, NB205_206.out, GW206.out, GE206.out, NB186_206.out, NB206_186.out, NB187_206.out, NB206_187.out, (by repeat (first | (with_reducible first | exact HB.out | apply zl | apply zj | apply zk | refine zg ?_ GE186.out | refine zg ?_ GE187.out | refine zg ?_ GE205.out | refine zg ?_ GE206.out) | exact HB.out))⟩)
           ·skip
            rintro gb206 w20 ⟨hS_, h0_, h1_, h2_, h3_, h4_, h5_, h6_, h7_, h8_, h9_⟩
            have n0_ : zh (w20.heap[gb186]? = some (.cells #[.int .i64 a1_0, .int .i64 a1_1, .int .i64 a1_2, .int .i64 a1_3] 22 (0, 0))) := ⟨h0_⟩
            have n1_ : zh (w20.heap[gb187]? = some (.cells #[.int .i64 a2_0, .int .i64 a2_1, .int .i64 a2_2, .int .i64 a2_3] 22 (0, 0))) := ⟨h1_⟩
            have n2_ : zh (w20.heap[gb206]? = some (.cells #[.int .i64 0, .int .i64 0, .int .i64 0, .int .i64 0] 23 (0, 0))) := ⟨h2_⟩
            have n3_ : zh (w.heap.size ≤ gb206) := ⟨h3_⟩
            have n4_ : zh (w.heap.size ≤ gb206) := ⟨h4_⟩
            have n5_ : zh (gb186 ≠ gb206) := ⟨h5_⟩
            have n6_ : zh (gb206 ≠ gb186) := ⟨h6_⟩
            have n7_ : zh (gb187 ≠ gb206) := ⟨h7_⟩
            have n8_ : zh (gb206 ≠ gb187) := ⟨h8_⟩
            have n9_ : zh (Below w.heap.size w w20) := ⟨h9_⟩
            clear BK186
            clear BK187
            clear HB
            clear h0_ h1_ h2_ h3_ h4_ h5_ h6_ h7_ h8_ h9_
            have BK186 := n0_
            have BK187 := n1_
            have BK206 := n2_
            have GW206 := n3_
            have GE206 := n4_
            have NB186_206 := n5_
            have NB206_186 := n6_
            have NB187_206 := n7_
            have NB206_187 := n8_
            have HB := n9_
            clear n0_ n1_ n2_ n3_ n4_ n5_ n6_ n7_ n8_ n9_
            have hHeld : w20.cell? ⟨gb186, 0, none⟩ = some (.int .i64 a1_0) ∧ w20.cell? ⟨gb186, 1, none⟩ = some (.int .i64 a1_1) ∧ w20.cell? ⟨gb186, 2, none⟩ = some (.int .i64 a1_2) ∧ w20.cell? ⟨gb186, 3, none⟩ = some (.int .i64 a1_3) ∧ w20.cell? ⟨gb187, 0, none⟩ = some (.int .i64 a2_0) ∧ w20.cell? ⟨gb187, 1, none⟩ = some (.int .i64 a2_1) ∧ w20.cell? ⟨gb187, 2, none⟩ = some (.int .i64 a2_2) ∧ w20.cell? ⟨gb187, 3, none⟩ = some (.int .i64 a2_3) := hS_
            refine zca (a' := ?_) ?_ ?_
            rotate_left
            ·simp only [zy, Act.put, List.setIfInBounds_toArray, List.set_cons_zero, List.set_cons_succ]
             rfl
            refine two_ (i := 4) (j := 10) (Ni := some 18) (Nj := some 7) #[true, true, true, true, true, false, false, false, false, false, false, true, false, false, false] #[true, true, true, true, false, false, false, false, false, false, true, true, false, false, false] rfl rfl rfl rfl (two_of HT_.out (by kernel_rfl)) (by decide) (by decide) (fun K hK => ?_) (fun K hK => ?_)
            ·skip
             refine goes_ Try.func6 (by kernel_rfl) rfl #[.agg #[.int .i64 a2_0, .int .i64 a2_1, .int .i64 a2_2, .int .i64 a2_3]] (by rfl) rfl rfl (by (try simp only [List.map_toArray, List.map_cons, List.map_nil]); first | done | rfl | (simp only [List.length_drop, List.length_take]; rfl)) ?_
             with_reducible refine (laws_toState.calls k a2_0 a2_1 a2_2 a2_3 t192 t193 t194 t195 _ A5.out).mono ?_
             rintro e w21 ⟨rfl, hb⟩
             refine ⟨_, rfl, ?_⟩
             have n0_ := zh.mk (zo (g := gb186) (o := .cells #[.int .i64 a1_0, .int .i64 a1_1, .int .i64 a1_2, .int .i64 a1_3] 22 (0, 0)) (by (with_reducible repeat (first | refine ze ?_ _ | refine zf ?_ | refine za ?_ _)); exact BK186.out) hb)
             have n1_ := zh.mk (zo (g := gb187) (o := .cells #[.int .i64 a2_0, .int .i64 a2_1, .int .i64 a2_2, .int .i64 a2_3] 22 (0, 0)) (by (with_reducible repeat (first | refine ze ?_ _ | refine zf ?_ | refine za ?_ _)); exact BK187.out) hb)
             have n2_ := zh.mk (zo (g := gb206) (o := .cells #[.int .i64 0, .int .i64 0, .int .i64 0, .int .i64 0] 23 (0, 0)) (by (with_reducible repeat (first | refine ze ?_ _ | refine zf ?_ | refine za ?_ _)); exact BK206.out) hb)
             have n3_ := zh.mk (zs (by repeat (first | (with_reducible first | exact HB.out | apply zl | apply zj | apply zk | refine zg ?_ GE186.out | refine zg ?_ GE187.out | refine zg ?_ GE206.out) | exact HB.out)) hb)
             clear BK186
             clear BK187
             clear BK206
             clear HB
             have BK186 := n0_
             have BK187 := n1_
             have BK206 := n2_
             have HB := n3_
             clear n0_ n1_ n2_ n3_
             (try clear hb)
             (try clear hb2)
             (try clear hk)
             (try clear hi)
             refine hK.out _ _ ⟨(zi BK186.out 0).trans rfl, (zi BK186.out 1).trans rfl, (zi BK186.out 2).trans rfl, (zi BK186.out 3).trans rfl, (zi BK187.out 0).trans rfl, (zi BK187.out 1).trans rfl, (zi BK187.out 2).trans rfl, (zi BK187.out 3).trans rfl⟩ (fun hHeld => ?_)
             clear hK K
             refine zca (a' := ?_) ?_ ?_
             rotate_left
             ·show Act.put _ (some 18) _ = _
              simp only [Act.put, List.setIfInBounds_toArray, List.set_cons_zero, List.set_cons_succ, zu, zt]
              rfl
             exact zca (by first | (simp only [zy, Act.put, List.setIfInBounds_toArray, List.set_cons_zero, List.set_cons_succ]; done) | (simp only [zy, Act.put, List.setIfInBounds_toArray, List.set_cons_zero, List.set_cons_succ]; rfl)) (hJ2_4_11 (gb206) _ ⟨hHeld, (by (with_reducible repeat (first | refine ze ?_ _ | refine zf ?_ | refine za ?_ _)); exact BK186.out), (by (with_reducible repeat (first | refine ze ?_ _ | refine zf ?_ | refine za ?_ _)); exact BK187.out), (by (with_reducible repeat (first | refine ze ?_ _ | refine zf ?_ | refine za ?_ _)); exact BK206.out), GW206.out, GE206.out, NB186_206.out, NB206_186.out, NB187_206.out, NB206_187.out, (by repeat (first | (with_reducible first | exact HB.out | apply zl | apply zj | apply zk | refine zg ?_ GE186.out | refine zg ?_ GE187.out | refine zg ?_ GE206.out) | exact HB.out))⟩)
            ·skip
             refine zha ?hg (N := 7) ?hd (cs := #[.int .i64 0, .int .i64 0, .int .i64 0, .int .i64 0]) (t := 23) ?hr ?_; (case hd => rfl); (case hg => rfl); (case hr => first | (go_simp; done) | (go_simp; rfl))
             intro gb205 hg w21 hbox hb
             have n0_ := zh.mk (zo (g := gb186) (o := .cells #[.int .i64 a1_0, .int .i64 a1_1, .int .i64 a1_2, .int .i64 a1_3] 22 (0, 0)) (by (with_reducible repeat (first | refine ze ?_ _ | refine zf ?_ | refine za ?_ _)); exact BK186.out) hb)
             have n1_ := zh.mk (zo (g := gb187) (o := .cells #[.int .i64 a2_0, .int .i64 a2_1, .int .i64 a2_2, .int .i64 a2_3] 22 (0, 0)) (by (with_reducible repeat (first | refine ze ?_ _ | refine zf ?_ | refine za ?_ _)); exact BK187.out) hb)
             have n2_ := zh.mk (zo (g := gb206) (o := .cells #[.int .i64 0, .int .i64 0, .int .i64 0, .int .i64 0] 23 (0, 0)) (by (with_reducible repeat (first | refine ze ?_ _ | refine zf ?_ | refine za ?_ _)); exact BK206.out) hb)
             have n3_ := zh.mk (zs (by repeat (first | (with_reducible first | exact HB.out | apply zl | apply zj | apply zk | refine zg ?_ GE186.out | refine zg ?_ GE187.out | refine zg ?_ GE206.out) | exact HB.out)) hb)
             have n4_ := zh.mk (hbox)
             have n5_ := zh.mk ((by rw [hg]; exact (zq (by repeat (first | (with_reducible first | exact HB.out | apply zl | apply zj | apply zk | refine zg ?_ GE186.out | refine zg ?_ GE187.out | refine zg ?_ GE206.out) | exact HB.out))) : w.heap.size ≤ gb205))
             have n6_ := zh.mk ((by rw [hg]; exact (zq (by repeat (first | (with_reducible first | exact HB.out | apply zl | apply zj | apply zk | refine zg ?_ GE186.out | refine zg ?_ GE187.out | refine zg ?_ GE206.out) | exact HB.out))) : w.heap.size ≤ gb205))
             have n7_ := zh.mk ((by rw [hg]; exact Nat.ne_of_lt (zr (g := gb186) (o := .cells #[.int .i64 a1_0, .int .i64 a1_1, .int .i64 a1_2, .int .i64 a1_3] 22 (0, 0)) (by (with_reducible repeat (first | refine ze ?_ _ | refine zf ?_ | refine za ?_ _)); exact BK186.out)) : gb186 ≠ gb205))
             have n8_ := zh.mk ((by rw [hg]; exact Nat.ne_of_gt (zr (g := gb186) (o := .cells #[.int .i64 a1_0, .int .i64 a1_1, .int .i64 a1_2, .int .i64 a1_3] 22 (0, 0)) (by (with_reducible repeat (first | refine ze ?_ _ | refine zf ?_ | refine za ?_ _)); exact BK186.out)) : gb205 ≠ gb186))
             have n9_ := zh.mk ((by rw [hg]; exact Nat.ne_of_lt (zr (g := gb187) (o := .cells #[.int .i64 a2_0, .int .i64 a2_1, .int .i64 a2_2, .int .i64 a2_3] 22 (0, 0)) (by (with_reducible repeat (first | refine ze ?_ _ | refine zf ?_ | refine za ?_ _)); exact BK187.out)) : gb187 ≠ gb205))
             have n10_ := zh.mk ((by rw [hg]; exact Nat.ne_of_gt (zr (g := gb187) (o := .cells #[.int .i64 a2_0, .int .i64 a2_1, .int .i64 a2_2, .int .i64 a2_3] 22 (0, 0)) (by (with_reducible repeat (first | refine ze ?_ _ | refine zf ?_ | refine za ?_ _)); exact BK187.out)) : gb205 ≠ gb187))
             have n11_ := zh.mk ((by rw [hg]; exact Nat.ne_of_lt (zr (g := gb206) (o := .cells #[.int .i64 0, .int .i64 0, .int .i64 0, .int .i64 0] 23 (0, 0)) (by (with_reducible repeat (first | refine ze ?_ _ | refine zf ?_ | refine za ?_ _)); exact BK206.out)) : gb206 ≠ gb205))
             have n12_ := zh.mk ((by rw [hg]; exact Nat.ne_of_gt (zr (g := gb206) (o := .cells #[.int .i64 0, .int .i64 0, .int .i64 0, .int .i64 0] 23 (0, 0)) (by (with_reducible repeat (first | refine ze ?_ _ | refine zf ?_ | refine za ?_ _)); exact BK206.out)) : gb205 ≠ gb206))
             clear BK186
             clear BK187
             clear BK206
             clear HB
             have BK186 := n0_
             have BK187 := n1_
             have BK206 := n2_
             have HB := n3_
             have BK205 := n4_
             have GW205 := n5_
             have GE205 := n6_
             have NB186_205 := n7_
             have NB205_186 := n8_
             have NB187_205 := n9_
             have NB205_187 := n10_
             have NB206_205 := n11_
             have NB205_206 := n12_
             clear n0_ n1_ n2_ n3_ n4_ n5_ n6_ n7_ n8_ n9_ n10_ n11_ n12_
             clear hb hbox hg
             refine hK.out _ _ ⟨(zi BK186.out 0).trans rfl, (zi BK186.out 1).trans rfl, (zi BK186.out 2).trans rfl, (zi BK186.out 3).trans rfl, (zi BK187.out 0).trans rfl, (zi BK187.out 1).trans rfl, (zi BK187.out 2).trans rfl, (zi BK187.out 3).trans rfl⟩ (fun hHeld => ?_)
             clear hK K
             refine zca (a' := ?_) ?_ ?_
             rotate_left
             ·show Act.put _ (some 7) _ = _
              simp only [Act.put, List.setIfInBounds_toArray, List.set_cons_zero, List.set_cons_succ, zu, zt]
              rfl
             exact zca (by first | (simp only [zy, Act.put, List.setIfInBounds_toArray, List.set_cons_zero, List.set_cons_succ]; done) | (simp only [zy, Act.put, List.setIfInBounds_toArray, List.set_cons_zero, List.set_cons_succ]; rfl)) (hJ2_10_11 (gb205, gb206) _ ⟨hHeld, (by (with_reducible repeat (first | refine ze ?_ _ | refine zf ?_ | refine za ?_ _)); exact BK186.out), (by (with_reducible repeat (first | refine ze ?_ _ | refine zf ?_ | refine za ?_ _)); exact BK187.out), (by (with_reducible repeat (first | refine ze ?_ _ | refine zf ?_ | refine za ?_ _)); exact BK205.out), (by (with_reducible repeat (first | refine ze ?_ _ | refine zf ?_ | refine za ?_ _)); exact BK206.out), GW205.out, GE205.out, NB186_205.out, NB205_186.out, NB187_205.out, NB205_187.out, NB206_205.out, NB205_206.out, GW206.out, GE206.out, NB186_206.out, NB206_186.out, NB187_206.out, NB206_187.out, (by repeat (first | (with_reducible first | exact HB.out | apply zl | apply zj | apply zk | refine zg ?_ GE186.out | refine zg ?_ GE187.out | refine zg ?_ GE206.out | refine zg ?_ GE205.out) | exact HB.out))⟩)
          ·skip
           rintro gb205 w20 ⟨hS_, h0_, h1_, h2_, h3_, h4_, h5_, h6_, h7_, h8_, h9_⟩
           have n0_ : zh (w20.heap[gb186]? = some (.cells #[.int .i64 a1_0, .int .i64 a1_1, .int .i64 a1_2, .int .i64 a1_3] 22 (0, 0))) := ⟨h0_⟩
           have n1_ : zh (w20.heap[gb187]? = some (.cells #[.int .i64 a2_0, .int .i64 a2_1, .int .i64 a2_2, .int .i64 a2_3] 22 (0, 0))) := ⟨h1_⟩
           have n2_ : zh (w20.heap[gb205]? = some (.cells #[.int .i64 0, .int .i64 0, .int .i64 0, .int .i64 0] 23 (0, 0))) := ⟨h2_⟩
           have n3_ : zh (w.heap.size ≤ gb205) := ⟨h3_⟩
           have n4_ : zh (w.heap.size ≤ gb205) := ⟨h4_⟩
           have n5_ : zh (gb186 ≠ gb205) := ⟨h5_⟩
           have n6_ : zh (gb205 ≠ gb186) := ⟨h6_⟩
           have n7_ : zh (gb187 ≠ gb205) := ⟨h7_⟩
           have n8_ : zh (gb205 ≠ gb187) := ⟨h8_⟩
           have n9_ : zh (Below w.heap.size w w20) := ⟨h9_⟩
           clear BK186
           clear BK187
           clear HB
           clear h0_ h1_ h2_ h3_ h4_ h5_ h6_ h7_ h8_ h9_
           have BK186 := n0_
           have BK187 := n1_
           have BK205 := n2_
           have GW205 := n3_
           have GE205 := n4_
           have NB186_205 := n5_
           have NB205_186 := n6_
           have NB187_205 := n7_
           have NB205_187 := n8_
           have HB := n9_
           clear n0_ n1_ n2_ n3_ n4_ n5_ n6_ n7_ n8_ n9_
           have hHeld : w20.cell? ⟨gb186, 0, none⟩ = some (.int .i64 a1_0) ∧ w20.cell? ⟨gb186, 1, none⟩ = some (.int .i64 a1_1) ∧ w20.cell? ⟨gb186, 2, none⟩ = some (.int .i64 a1_2) ∧ w20.cell? ⟨gb186, 3, none⟩ = some (.int .i64 a1_3) ∧ w20.cell? ⟨gb187, 0, none⟩ = some (.int .i64 a2_0) ∧ w20.cell? ⟨gb187, 1, none⟩ = some (.int .i64 a2_1) ∧ w20.cell? ⟨gb187, 2, none⟩ = some (.int .i64 a2_2) ∧ w20.cell? ⟨gb187, 3, none⟩ = some (.int .i64 a2_3) := hS_
           refine zca (a' := ?_) ?_ ?_
           rotate_left
           ·simp only [zy, Act.put, List.setIfInBounds_toArray, List.set_cons_zero, List.set_cons_succ]
            rfl
           refine two_ (i := 4) (j := 11) (Ni := some 18) (Nj := some 8) #[true, true, true, true, true, false, false, false, false, false, true, false, false, false, false] #[true, true, true, true, false, false, false, false, false, false, true, true, false, false, false] rfl rfl rfl rfl (two_of HT_.out (by kernel_rfl)) (by decide) (by decide) (fun K hK => ?_) (fun K hK => ?_)
           ·skip
            refine goes_ Try.func6 (by kernel_rfl) rfl #[.agg #[.int .i64 a2_0, .int .i64 a2_1, .int .i64 a2_2, .int .i64 a2_3]] (by rfl) rfl rfl (by (try simp only [List.map_toArray, List.map_cons, List.map_nil]); first | done | rfl | (simp only [List.length_drop, List.length_take]; rfl)) ?_
            with_reducible refine (laws_toState.calls k a2_0 a2_1 a2_2 a2_3 t192 t193 t194 t195 _ A5.out).mono ?_
            rintro e w21 ⟨rfl, hb⟩
            refine ⟨_, rfl, ?_⟩
            have n0_ := zh.mk (zo (g := gb186) (o := .cells #[.int .i64 a1_0, .int .i64 a1_1, .int .i64 a1_2, .int .i64 a1_3] 22 (0, 0)) (by (with_reducible repeat (first | refine ze ?_ _ | refine zf ?_ | refine za ?_ _)); exact BK186.out) hb)
            have n1_ := zh.mk (zo (g := gb187) (o := .cells #[.int .i64 a2_0, .int .i64 a2_1, .int .i64 a2_2, .int .i64 a2_3] 22 (0, 0)) (by (with_reducible repeat (first | refine ze ?_ _ | refine zf ?_ | refine za ?_ _)); exact BK187.out) hb)
            have n2_ := zh.mk (zo (g := gb205) (o := .cells #[.int .i64 0, .int .i64 0, .int .i64 0, .int .i64 0] 23 (0, 0)) (by (with_reducible repeat (first | refine ze ?_ _ | refine zf ?_ | refine za ?_ _)); exact BK205.out) hb)
            have n3_ := zh.mk (zs (by repeat (first | (with_reducible first | exact HB.out | apply zl | apply zj | apply zk | refine zg ?_ GE186.out | refine zg ?_ GE187.out | refine zg ?_ GE205.out) | exact HB.out)) hb)
            clear BK186
            clear BK187
            clear BK205
            clear HB
            have BK186 := n0_
            have BK187 := n1_
            have BK205 := n2_
            have HB := n3_
            clear n0_ n1_ n2_ n3_
            (try clear hb)
            (try clear hb2)
            (try clear hk)
            (try clear hi)
            refine hK.out _ _ ⟨(zi BK186.out 0).trans rfl, (zi BK186.out 1).trans rfl, (zi BK186.out 2).trans rfl, (zi BK186.out 3).trans rfl, (zi BK187.out 0).trans rfl, (zi BK187.out 1).trans rfl, (zi BK187.out 2).trans rfl, (zi BK187.out 3).trans rfl⟩ (fun hHeld => ?_)
            clear hK K
            refine zca (a' := ?_) ?_ ?_
            rotate_left
            ·show Act.put _ (some 18) _ = _
             simp only [Act.put, List.setIfInBounds_toArray, List.set_cons_zero, List.set_cons_succ, zu, zt]
             rfl
            exact zca (by first | (simp only [zy, Act.put, List.setIfInBounds_toArray, List.set_cons_zero, List.set_cons_succ]; done) | (simp only [zy, Act.put, List.setIfInBounds_toArray, List.set_cons_zero, List.set_cons_succ]; rfl)) (hJ2_4_10 (gb205) _ ⟨hHeld, (by (with_reducible repeat (first | refine ze ?_ _ | refine zf ?_ | refine za ?_ _)); exact BK186.out), (by (with_reducible repeat (first | refine ze ?_ _ | refine zf ?_ | refine za ?_ _)); exact BK187.out), (by (with_reducible repeat (first | refine ze ?_ _ | refine zf ?_ | refine za ?_ _)); exact BK205.out), GW205.out, GE205.out, NB186_205.out, NB205_186.out, NB187_205.out, NB205_187.out, (by repeat (first | (with_reducible first | exact HB.out | apply zl | apply zj | apply zk | refine zg ?_ GE186.out | refine zg ?_ GE187.out | refine zg ?_ GE205.out) | exact HB.out))⟩)
           ·skip
            refine zha ?hg (N := 8) ?hd (cs := #[.int .i64 0, .int .i64 0, .int .i64 0, .int .i64 0]) (t := 23) ?hr ?_; (case hd => rfl); (case hg => rfl); (case hr => first | (go_simp; done) | (go_simp; rfl))
            intro gb206 hg w21 hbox hb
            have n0_ := zh.mk (zo (g := gb186) (o := .cells #[.int .i64 a1_0, .int .i64 a1_1, .int .i64 a1_2, .int .i64 a1_3] 22 (0, 0)) (by (with_reducible repeat (first | refine ze ?_ _ | refine zf ?_ | refine za ?_ _)); exact BK186.out) hb)
            have n1_ := zh.mk (zo (g := gb187) (o := .cells #[.int .i64 a2_0, .int .i64 a2_1, .int .i64 a2_2, .int .i64 a2_3] 22 (0, 0)) (by (with_reducible repeat (first | refine ze ?_ _ | refine zf ?_ | refine za ?_ _)); exact BK187.out) hb)
            have n2_ := zh.mk (zo (g := gb205) (o := .cells #[.int .i64 0, .int .i64 0, .int .i64 0, .int .i64 0] 23 (0, 0)) (by (with_reducible repeat (first | refine ze ?_ _ | refine zf ?_ | refine za ?_ _)); exact BK205.out) hb)
            have n3_ := zh.mk (zs (by repeat (first | (with_reducible first | exact HB.out | apply zl | apply zj | apply zk | refine zg ?_ GE186.out | refine zg ?_ GE187.out | refine zg ?_ GE205.out) | exact HB.out)) hb)
            have n4_ := zh.mk (hbox)
            have n5_ := zh.mk ((by rw [hg]; exact (zq (by repeat (first | (with_reducible first | exact HB.out | apply zl | apply zj | apply zk | refine zg ?_ GE186.out | refine zg ?_ GE187.out | refine zg ?_ GE205.out) | exact HB.out))) : w.heap.size ≤ gb206))
            have n6_ := zh.mk ((by rw [hg]; exact (zq (by repeat (first | (with_reducible first | exact HB.out | apply zl | apply zj | apply zk | refine zg ?_ GE186.out | refine zg ?_ GE187.out | refine zg ?_ GE205.out) | exact HB.out))) : w.heap.size ≤ gb206))
            have n7_ := zh.mk ((by rw [hg]; exact Nat.ne_of_lt (zr (g := gb186) (o := .cells #[.int .i64 a1_0, .int .i64 a1_1, .int .i64 a1_2, .int .i64 a1_3] 22 (0, 0)) (by (with_reducible repeat (first | refine ze ?_ _ | refine zf ?_ | refine za ?_ _)); exact BK186.out)) : gb186 ≠ gb206))
            have n8_ := zh.mk ((by rw [hg]; exact Nat.ne_of_gt (zr (g := gb186) (o := .cells #[.int .i64 a1_0, .int .i64 a1_1, .int .i64 a1_2, .int .i64 a1_3] 22 (0, 0)) (by (with_reducible repeat (first | refine ze ?_ _ | refine zf ?_ | refine za ?_ _)); exact BK186.out)) : gb206 ≠ gb186))
            have n9_ := zh.mk ((by rw [hg]; exact Nat.ne_of_lt (zr (g := gb187) (o := .cells #[.int .i64 a2_0, .int .i64 a2_1, .int .i64 a2_2, .int .i64 a2_3] 22 (0, 0)) (by (with_reducible repeat (first | refine ze ?_ _ | refine zf ?_ | refine za ?_ _)); exact BK187.out)) : gb187 ≠ gb206))
            have n10_ := zh.mk ((by rw [hg]; exact Nat.ne_of_gt (zr (g := gb187) (o := .cells #[.int .i64 a2_0, .int .i64 a2_1, .int .i64 a2_2, .int .i64 a2_3] 22 (0, 0)) (by (with_reducible repeat (first | refine ze ?_ _ | refine zf ?_ | refine za ?_ _)); exact BK187.out)) : gb206 ≠ gb187))
            have n11_ := zh.mk ((by rw [hg]; exact Nat.ne_of_lt (zr (g := gb205) (o := .cells #[.int .i64 0, .int .i64 0, .int .i64 0, .int .i64 0] 23 (0, 0)) (by (with_reducible repeat (first | refine ze ?_ _ | refine zf ?_ | refine za ?_ _)); exact BK205.out)) : gb205 ≠ gb206))
            have n12_ := zh.mk ((by rw [hg]; exact Nat.ne_of_gt (zr (g := gb205) (o := .cells #[.int .i64 0, .int .i64 0, .int .i64 0, .int .i64 0] 23 (0, 0)) (by (with_reducible repeat (first | refine ze ?_ _ | refine zf ?_ | refine za ?_ _)); exact BK205.out)) : gb206 ≠ gb205))
            clear BK186
            clear BK187
            clear BK205
            clear HB
            have BK186 := n0_
            have BK187 := n1_
            have BK205 := n2_
            have HB := n3_
            have BK206 := n4_
            have GW206 := n5_
            have GE206 := n6_
            have NB186_206 := n7_
            have NB206_186 := n8_
            have NB187_206 := n9_
            have NB206_187 := n10_
            have NB205_206 := n11_
            have NB206_205 := n12_
            clear n0_ n1_ n2_ n3_ n4_ n5_ n6_ n7_ n8_ n9_ n10_ n11_ n12_
            clear hb hbox hg
            refine hK.out _ _ ⟨(zi BK186.out 0).trans rfl, (zi BK186.out 1).trans rfl, (zi BK186.out 2).trans rfl, (zi BK186.out 3).trans rfl, (zi BK187.out 0).trans rfl, (zi BK187.out 1).trans rfl, (zi BK187.out 2).trans rfl, (zi BK187.out 3).trans rfl⟩ (fun hHeld => ?_)
            clear hK K
            refine zca (a' := ?_) ?_ ?_
            rotate_left
            ·show Act.put _ (some 8) _ = _
             simp only [Act.put, List.setIfInBounds_toArray, List.set_cons_zero, List.set_cons_succ, zu, zt]
             rfl
            exact zca (by first | (simp only [zy, Act.put, List.setIfInBounds_toArray, List.set_cons_zero, List.set_cons_succ]; done) | (simp only [zy, Act.put, List.setIfInBounds_toArray, List.set_cons_zero, List.set_cons_succ]; rfl)) (hJ2_10_11 (gb205, gb206) _ ⟨hHeld, (by (with_reducible repeat (first | refine ze ?_ _ | refine zf ?_ | refine za ?_ _)); exact BK186.out), (by (with_reducible repeat (first | refine ze ?_ _ | refine zf ?_ | refine za ?_ _)); exact BK187.out), (by (with_reducible repeat (first | refine ze ?_ _ | refine zf ?_ | refine za ?_ _)); exact BK205.out), (by (with_reducible repeat (first | refine ze ?_ _ | refine zf ?_ | refine za ?_ _)); exact BK206.out), GW205.out, GE205.out, NB186_205.out, NB205_186.out, NB187_205.out, NB205_187.out, NB206_205.out, NB205_206.out, GW206.out, GE206.out, NB186_206.out, NB206_186.out, NB187_206.out, NB206_187.out, (by repeat (first | (with_reducible first | exact HB.out | apply zl | apply zj | apply zk | refine zg ?_ GE186.out | refine zg ?_ GE187.out | refine zg ?_ GE205.out | refine zg ?_ GE206.out) | exact HB.out))⟩)
         ·skip
          rintro _ w20 ⟨hS_, h0_, h1_, h2_⟩
          have n0_ : zh (w20.heap[gb186]? = some (.cells #[.int .i64 a1_0, .int .i64 a1_1, .int .i64 a1_2, .int .i64 a1_3] 22 (0, 0))) := ⟨h0_⟩
          have n1_ : zh (w20.heap[gb187]? = some (.cells #[.int .i64 a2_0, .int .i64 a2_1, .int .i64 a2_2, .int .i64 a2_3] 22 (0, 0))) := ⟨h1_⟩
          have n2_ : zh (Below w.heap.size w w20) := ⟨h2_⟩
          clear BK186
          clear BK187
          clear HB
          clear h0_ h1_ h2_
          have BK186 := n0_
          have BK187 := n1_
          have HB := n2_
          clear n0_ n1_ n2_
          have hHeld : w20.cell? ⟨gb186, 0, none⟩ = some (.int .i64 a1_0) ∧ w20.cell? ⟨gb186, 1, none⟩ = some (.int .i64 a1_1) ∧ w20.cell? ⟨gb186, 2, none⟩ = some (.int .i64 a1_2) ∧ w20.cell? ⟨gb186, 3, none⟩ = some (.int .i64 a1_3) ∧ w20.cell? ⟨gb187, 0, none⟩ = some (.int .i64 a2_0) ∧ w20.cell? ⟨gb187, 1, none⟩ = some (.int .i64 a2_1) ∧ w20.cell? ⟨gb187, 2, none⟩ = some (.int .i64 a2_2) ∧ w20.cell? ⟨gb187, 3, none⟩ = some (.int .i64 a2_3) := hS_
          refine zca (a' := ?_) ?_ ?_
          rotate_left
          ·simp only [zy, Act.put, List.setIfInBounds_toArray, List.set_cons_zero, List.set_cons_succ]
           rfl
          refine three_ (i := 5) (j := 10) (k := 11) (Ni := some 19) (Nj := some 7) (Nk := some 8) #[true, true, true, true, true, true, false, false, false, false, false, false, false, false, false] #[true, true, true, true, true, false, false, false, false, false, true, false, false, false, false] #[true, true, true, true, true, false, false, false, false, false, false, true, false, false, false] rfl rfl rfl rfl rfl rfl (three_of HT_.out (by kernel_rfl)) (by decide) (by decide) (by decide) (fun K hK => ?_) (fun K hK => ?_) (fun K hK => ?_)
          ·skip
           refine goes_ Try.func5 (by kernel_rfl) rfl #[.int .i64 a0, .agg #[.int .i64 t188, .int .i64 t189, .int .i64 t190, .int .i64 t191], .agg #[.int .i64 t192, .int .i64 t193, .int .i64 t194, .int .i64 t195]] (by rfl) rfl rfl (by (try simp only [List.map_toArray, List.map_cons, List.map_nil]); first | done | rfl | (simp only [List.length_drop, List.length_take]; rfl)) ?_
           with_reducible refine (spec_SplitState.calls k a0 t188 t189 t190 t191 t192 t193 t194 t195 t196 t197 t198 t199 t200 t201 t202 t203 t204 _ A6.out).mono ?_
           rintro e w21 ⟨rfl, hb⟩
           refine ⟨_, rfl, ?_⟩
           have n0_ := zh.mk (zo (g := gb186) (o := .cells #[.int .i64 a1_0, .int .i64 a1_1, .int .i64 a1_2, .int .i64 a1_3] 22 (0, 0)) (by (with_reducible repeat (first | refine ze ?_ _ | refine zf ?_ | refine za ?_ _)); exact BK186.out) hb)
           have n1_ := zh.mk (zo (g := gb187) (o := .cells #[.int .i64 a2_0, .int .i64 a2_1, .int .i64 a2_2, .int .i64 a2_3] 22 (0, 0)) (by (with_reducible repeat (first | refine ze ?_ _ | refine zf ?_ | refine za ?_ _)); exact BK187.out) hb)
           have n2_ := zh.mk (zs (by repeat (first | (with_reducible first | exact HB.out | apply zl | apply zj | apply zk | refine zg ?_ GE186.out | refine zg ?_ GE187.out) | exact HB.out)) hb)
           clear BK186
           clear BK187
           clear HB
           have BK186 := n0_
           have BK187 := n1_
           have HB := n2_
           clear n0_ n1_ n2_
           (try clear hb)
           (try clear hb2)
           (try clear hk)
           (try clear hi)
           refine hK.out _ _ ⟨(zi BK186.out 0).trans rfl, (zi BK186.out 1).trans rfl, (zi BK186.out 2).trans rfl, (zi BK186.out 3).trans rfl, (zi BK187.out 0).trans rfl, (zi BK187.out 1).trans rfl, (zi BK187.out 2).trans rfl, (zi BK187.out 3).trans rfl⟩ (fun hHeld => ?_)
           clear hK K
           refine zca (a' := ?_) ?_ ?_
           rotate_left
           ·show Act.put _ (some 19) _ = _
            simp only [Act.put, List.setIfInBounds_toArray, List.set_cons_zero, List.set_cons_succ, zu, zt]
            rfl
           refine zx (i := 6) (N := some 13) (v := ?_) (a' := ?_) #[true, true, true, true, true, true, true, false, false, false, false, false, false, false, false] rfl rfl (zv HT_.out (by kernel_rfl)) (fun _ _ _ h => h) (Or.inl ⟨by rfl, ?_⟩) ?_ ?_
           rotate_left
           ·intro w'
            go_simp
            with_reducible rfl
           rotate_left
           ·simp only [Act.put, List.setIfInBounds_toArray, List.set_cons_zero, List.set_cons_succ, zu, zt]
            rfl
           refine zx (i := 7) (N := some 20) (v := ?_) (a' := ?_) #[true, true, true, true, true, true, true, true, false, false, false, false, false, false, false] rfl rfl (zv HT_.out (by kernel_rfl)) (fun _ _ _ h => h) (Or.inl ⟨by rfl, ?_⟩) ?_ ?_
           rotate_left
           ·intro w'
            go_simp
            with_reducible rfl
           rotate_left
           ·simp only [Act.put, List.setIfInBounds_toArray, List.set_cons_zero, List.set_cons_succ, zu, zt]
            rfl
           refine zx (i := 8) (N := some 21) (v := ?_) (a' := ?_) #[true, true, true, true, true, true, true, true, true, false, false, false, false, false, false] rfl rfl (zv HT_.out (by kernel_rfl)) (fun _ _ _ h => h) (Or.inl ⟨by rfl, ?_⟩) ?_ ?_
           rotate_left
           ·intro w'
            go_simp
            with_reducible rfl
           rotate_left
           ·simp only [Act.put, List.setIfInBounds_toArray, List.set_cons_zero, List.set_cons_succ, zu, zt]
            rfl
           refine zx (i := 9) (N := some 22) (v := ?_) (a' := ?_) #[true, true, true, true, true, true, true, true, true, true, false, false, false, false, false] rfl rfl (zv HT_.out (by kernel_rfl)) (fun _ _ _ h => h) (Or.inl ⟨by rfl, ?_⟩) ?_ ?_
           rotate_left
           ·intro w'
            go_simp
            with_reducible rfl
           rotate_left
           ·simp only [Act.put, List.setIfInBounds_toArray, List.set_cons_zero, List.set_cons_succ, zu, zt]
            rfl
           exact zca (by first | (simp only [zy, Act.put, List.setIfInBounds_toArray, List.set_cons_zero, List.set_cons_succ]; done) | (simp only [zy, Act.put, List.setIfInBounds_toArray, List.set_cons_zero, List.set_cons_succ]; rfl)) (hJ2_4_5 () _ ⟨hHeld, (by (with_reducible repeat (first | refine ze ?_ _ | refine zf ?_ | refine za ?_ _)); exact BK186.out), (by (with_reducible repeat (first | refine ze ?_ _ | refine zf ?_ | refine za ?_ _)); exact BK187.out), (by repeat (first | (with_reducible first | exact HB.out | apply zl | apply zj | apply zk | refine zg ?_ GE186.out | refine zg ?_ GE187.out) | exact HB.out))⟩)
          ·skip
           refine zha ?hg (N := 7) ?hd (cs := #[.int .i64 0, .int .i64 0, .int .i64 0, .int .i64 0]) (t := 23) ?hr ?_; (case hd => rfl); (case hg => rfl); (case hr => first | (go_simp; done) | (go_simp; rfl))
           intro gb205 hg w21 hbox hb
           have n0_ := zh.mk (zo (g := gb186) (o := .cells #[.int .i64 a1_0, .int .i64 a1_1, .int .i64 a1_2, .int .i64 a1_3] 22 (0, 0)) (by (with_reducible repeat (first | refine ze ?_ _ | refine zf ?_ | refine za ?_ _)); exact BK186.out) hb)
           have n1_ := zh.mk (zo (g := gb187) (o := .cells #[.int .i64 a2_0, .int .i64 a2_1, .int .i64 a2_2, .int .i64 a2_3] 22 (0, 0)) (by (with_reducible repeat (first | refine ze ?_ _ | refine zf ?_ | refine za ?_ _)); exact BK187.out) hb)
           have n2_ := zh.mk (zs (by repeat (first | (with_reducible first | exact HB.out | apply zl | apply zj | apply zk | refine zg ?_ GE186.out | refine zg ?_ GE187.out) | exact HB.out)) hb)
           have n3_ := zh.mk (hbox)
           have n4_ := zh.mk ((by rw [hg]; exact (zq (by repeat (first | (with_reducible first | exact HB.out | apply zl | apply zj | apply zk | refine zg ?_ GE186.out | refine zg ?_ GE187.out) | exact HB.out))) : w.heap.size ≤ gb205))
           have n5_ := zh.mk ((by rw [hg]; exact (zq (by repeat (first | (with_reducible first | exact HB.out | apply zl | apply zj | apply zk | refine zg ?_ GE186.out | refine zg ?_ GE187.out) | exact HB.out))) : w.heap.size ≤ gb205))
           have n6_ := zh.mk ((by rw [hg]; exact Nat.ne_of_lt (zr (g := gb186) (o := .cells #[.int .i64 a1_0, .int .i64 a1_1, .int .i64 a1_2, .int .i64 a1_3] 22 (0, 0)) (by (with_reducible repeat (first | refine ze ?_ _ | refine zf ?_ | refine za ?_ _)); exact BK186.out)) : gb186 ≠ gb205))
           have n7_ := zh.mk ((by rw [hg]; exact Nat.ne_of_gt (zr (g := gb186) (o := .cells #[.int .i64 a1_0, .int .i64 a1_1, .int .i64 a1_2, .int .i64 a1_3] 22 (0, 0)) (by (with_reducible repeat (first | refine ze ?_ _ | refine zf ?_ | refine za ?_ _)); exact BK186.out)) : gb205 ≠ gb186))
           have n8_ := zh.mk ((by rw [hg]; exact Nat.ne_of_lt (zr (g := gb187) (o := .cells #[.int .i64 a2_0, .int .i64 a2_1, .int .i64 a2_2, .int .i64 a2_3] 22 (0, 0)) (by (with_reducible repeat (first | refine ze ?_ _ | refine zf ?_ | refine za ?_ _)); exact BK187.out)) : gb187 ≠ gb205))
           have n9_ := zh.mk ((by rw [hg]; exact Nat.ne_of_gt (zr (g := gb187) (o := .cells #[.int .i64 a2_0, .int .i64 a2_1, .int .i64 a2_2, .int .i64 a2_3] 22 (0, 0)) (by (with_reducible repeat (first | refine ze ?_ _ | refine zf ?_ | refine za ?_ _)); exact BK187.out)) : gb205 ≠ gb187))
           clear BK186
           clear BK187
           clear HB
           have BK186 := n0_
           have BK187 := n1_
           have HB := n2_
           have BK205 := n3_
           have GW205 := n4_
           have GE205 := n5_
           have NB186_205 := n6_
           have NB205_186 := n7_
           have NB187_205 := n8_
           have NB205_187 := n9_
           clear n0_ n1_ n2_ n3_ n4_ n5_ n6_ n7_ n8_ n9_
           clear hb hbox hg
           refine hK.out _ _ ⟨(zi BK186.out 0).trans rfl, (zi BK186.out 1).trans rfl, (zi BK186.out 2).trans rfl, (zi BK186.out 3).trans rfl, (zi BK187.out 0).trans rfl, (zi BK187.out 1).trans rfl, (zi BK187.out 2).trans rfl, (zi BK187.out 3).trans rfl⟩ (fun hHeld => ?_)
           clear hK K
           refine zca (a' := ?_) ?_ ?_
           rotate_left
           ·show Act.put _ (some 7) _ = _
            simp only [Act.put, List.setIfInBounds_toArray, List.set_cons_zero, List.set_cons_succ, zu, zt]
            rfl
           exact zca (by first | (simp only [zy, Act.put, List.setIfInBounds_toArray, List.set_cons_zero, List.set_cons_succ]; done) | (simp only [zy, Act.put, List.setIfInBounds_toArray, List.set_cons_zero, List.set_cons_succ]; rfl)) (hJ2_4_10 (gb205) _ ⟨hHeld, (by (with_reducible repeat (first | refine ze ?_ _ | refine zf ?_ | refine za ?_ _)); exact BK186.out), (by (with_reducible repeat (first | refine ze ?_ _ | refine zf ?_ | refine za ?_ _)); exact BK187.out), (by (with_reducible repeat (first | refine ze ?_ _ | refine zf ?_ | refine za ?_ _)); exact BK205.out), GW205.out, GE205.out, NB186_205.out, NB205_186.out, NB187_205.out, NB205_187.out, (by repeat (first | (with_reducible first | exact HB.out | apply zl | apply zj | apply zk | refine zg ?_ GE186.out | refine zg ?_ GE187.out | refine zg ?_ GE205.out) | exact HB.out))⟩)
          ·skip
           refine zha ?hg (N := 8) ?hd (cs := #[.int .i64 0, .int .i64 0, .int .i64 0, .int .i64 0]) (t := 23) ?hr ?_; (case hd => rfl); (case hg => rfl); (case hr => first | (go_simp; done) | (go_simp; rfl))
           intro gb206 hg w21 hbox hb
           have n0_ := zh.mk (zo (g := gb186) (o := .cells #[.int .i64 a1_0, .int .i64 a1_1, .int .i64 a1_2, .int .i64 a1_3] 22 (0, 0)) (by (with_reducible repeat (first | refine ze ?_ _ | refine zf ?_ | refine za ?_ _)); exact BK186.out) hb)
           have n1_ := zh.mk (zo (g := gb187) (o := .cells #[.int .i64 a2_0, .int .i64 a2_1, .int .i64 a2_2, .int .i64 a2_3] 22 (0, 0)) (by (with_reducible repeat (first | refine ze ?_ _ | refine zf ?_ | refine za ?_ _)); exact BK187.out) hb)
           have n2_ := zh.mk (zs (by repeat (first | (with_reducible first | exact HB.out | apply zl | apply zj | apply zk | refine zg ?_ GE186.out | refine zg ?_ GE187.out) | exact HB.out)) hb)
           have n3_ := zh.mk (hbox)
           have n4_ := zh.mk ((by rw [hg]; exact (zq (by repeat (first | (with_reducible first | exact HB.out | apply zl | apply zj | apply zk | refine zg ?_ GE186.out | refine zg ?_ GE187.out) | exact HB.out))) : w.heap.size ≤ gb206))
           have n5_ := zh.mk ((by rw [hg]; exact (zq (by repeat (first | (with_reducible first | exact HB.out | apply zl | apply zj | apply zk | refine zg ?_ GE186.out | refine zg ?_ GE187.out) | exact HB.out))) : w.heap.size ≤ gb206))
           have n6_ := zh.mk ((by rw [hg]; exact Nat.ne_of_lt (zr (g := gb186) (o := .cells #[.int .i64 a1_0, .int .i64 a1_1, .int .i64 a1_2, .int .i64 a1_3] 22 (0, 0)) (by (with_reducible repeat (first | refine ze ?_ _ | refine zf ?_ | refine za ?_ _)); exact BK186.out)) : gb186 ≠ gb206))
           have n7_ := zh.mk ((by rw [hg]; exact Nat.ne_of_gt (zr (g := gb186) (o := .cells #[.int .i64 a1_0, .int .i64 a1_1, .int .i64 a1_2, .int .i64 a1_3] 22 (0, 0)) (by (with_reducible repeat (first | refine ze ?_ _ | refine zf ?_ | refine za ?_ _)); exact BK186.out)) : gb206 ≠ gb186))
           have n8_ := zh.mk ((by rw [hg]; exact Nat.ne_of_lt (zr (g := gb187) (o := .cells #[.int .i64 a2_0, .int .i64 a2_1, .int .i64 a2_2, .int .i64 a2_3] 22 (0, 0)) (by (with_reducible repeat (first | refine ze ?_ _ | refine zf ?_ | refine za ?_ _)); exact BK187.out)) : gb187 ≠ gb206))
           have n9_ := zh.mk ((by rw [hg]; exact Nat.ne_of_gt (zr (g := gb187) (o := .cells #[.int .i64 a2_0, .int .i64 a2_1, .int .i64 a2_2, .int .i64 a2_3] 22 (0, 0)) (by (with_reducible repeat (first | refine ze ?_ _ | refine zf ?_ | refine za ?_ _)); exact BK187.out)) : gb206 ≠ gb187))
           clear BK186
           clear BK187
           clear HB
           have BK186 := n0_
           have BK187 := n1_
           have HB := n2_
           have BK206 := n3_
           have GW206 := n4_
           have GE206 := n5_
           have NB186_206 := n6_
           have NB206_186 := n7_
           have NB187_206 := n8_
           have NB206_187 := n9_
           clear n0_ n1_ n2_ n3_ n4_ n5_ n6_ n7_ n8_ n9_
           clear hb hbox hg
           refine hK.out _ _ ⟨(zi BK186.out 0).trans rfl, (zi BK186.out 1).trans rfl, (zi BK186.out 2).trans rfl, (zi BK186.out 3).trans rfl, (zi BK187.out 0).trans rfl, (zi BK187.out 1).trans rfl, (zi BK187.out 2).trans rfl, (zi BK187.out 3).trans rfl⟩ (fun hHeld => ?_)
           clear hK K
           refine zca (a' := ?_) ?_ ?_
           rotate_left
           ·show Act.put _ (some 8) _ = _
            simp only [Act.put, List.setIfInBounds_toArray, List.set_cons_zero, List.set_cons_succ, zu, zt]
            rfl
           exact zca (by first | (simp only [zy, Act.put, List.setIfInBounds_toArray, List.set_cons_zero, List.set_cons_succ]; done) | (simp only [zy, Act.put, List.setIfInBounds_toArray, List.set_cons_zero, List.set_cons_succ]; rfl)) (hJ2_4_11 (gb206) _ ⟨hHeld, (by (with_reducible repeat (first | refine ze ?_ _ | refine zf ?_ | refine za ?_ _)); exact BK186.out), (by (with_reducible repeat (first | refine ze ?_ _ | refine zf ?_ | refine za ?_ _)); exact BK187.out), (by (with_reducible repeat (first | refine ze ?_ _ | refine zf ?_ | refine za ?_ _)); exact BK206.out), GW206.out, GE206.out, NB186_206.out, NB206_186.out, NB187_206.out, NB206_187.out, (by repeat (first | (with_reducible first | exact HB.out | apply zl | apply zj | apply zk | refine zg ?_ GE186.out | refine zg ?_ GE187.out | refine zg ?_ GE206.out) | exact HB.out))⟩)
        ·skip
         rintro ⟨gb205, gb206⟩ w21 ⟨hS_, h0_, h1_, h2_, h3_, h4_, h5_, h6_, h7_, h8_, h9_, h10_, h11_, h12_, h13_, h14_, h15_, h16_, h17_, h18_⟩
         have n0_ : zh (w21.heap[gb186]? = some (.cells #[.int .i64 a1_0, .int .i64 a1_1, .int .i64 a1_2, .int .i64 a1_3] 22 (0, 0))) := ⟨h0_⟩
         have n1_ : zh (w21.heap[gb187]? = some (.cells #[.int .i64 a2_0, .int .i64 a2_1, .int .i64 a2_2, .int .i64 a2_3] 22 (0, 0))) := ⟨h1_⟩
         have n2_ : zh (w21.heap[gb205]? = some (.cells #[.int .i64 0, .int .i64 0, .int .i64 0, .int .i64 0] 23 (0, 0))) := ⟨h2_⟩
         have n3_ : zh (w21.heap[gb206]? = some (.cells #[.int .i64 0, .int .i64 0, .int .i64 0, .int .i64 0] 23 (0, 0))) := ⟨h3_⟩
         have n4_ : zh (w.heap.size ≤ gb205) := ⟨h4_⟩
         have n5_ : zh (w.heap.size ≤ gb205) := ⟨h5_⟩
         have n6_ : zh (gb186 ≠ gb205) := ⟨h6_⟩
         have n7_ : zh (gb205 ≠ gb186) := ⟨h7_⟩
         have n8_ : zh (gb187 ≠ gb205) := ⟨h8_⟩
         have n9_ : zh (gb205 ≠ gb187) := ⟨h9_⟩
         have n10_ : zh (gb206 ≠ gb205) := ⟨h10_⟩
         have n11_ : zh (gb205 ≠ gb206) := ⟨h11_⟩
         have n12_ : zh (w.heap.size ≤ gb206) := ⟨h12_⟩
         have n13_ : zh (w.heap.size ≤ gb206) := ⟨h13_⟩
         have n14_ : zh (gb186 ≠ gb206) := ⟨h14_⟩
         have n15_ : zh (gb206 ≠ gb186) := ⟨h15_⟩
         have n16_ : zh (gb187 ≠ gb206) := ⟨h16_⟩
         have n17_ : zh (gb206 ≠ gb187) := ⟨h17_⟩
         have n18_ : zh (Below w.heap.size w w21) := ⟨h18_⟩
         clear BK186
         clear BK187
         clear HB
         clear h0_ h1_ h2_ h3_ h4_ h5_ h6_ h7_ h8_ h9_ h10_ h11_ h12_ h13_ h14_ h15_ h16_ h17_ h18_
         have BK186 := n0_
         have BK187 := n1_
         have BK205 := n2_
         have BK206 := n3_
         have GW205 := n4_
         have GE205 := n5_
         have NB186_205 := n6_
         have NB205_186 := n7_
         have NB187_205 := n8_
         have NB205_187 := n9_
         have NB206_205 := n10_
         have NB205_206 := n11_
         have GW206 := n12_
         have GE206 := n13_
         have NB186_206 := n14_
         have NB206_186 := n15_
         have NB187_206 := n16_
         have NB206_187 := n17_
         have HB := n18_
         clear n0_ n1_ n2_ n3_ n4_ n5_ n6_ n7_ n8_ n9_ n10_ n11_ n12_ n13_ n14_ n15_ n16_ n17_ n18_
         have hHeld : w21.cell? ⟨gb186, 0, none⟩ = some (.int .i64 a1_0) ∧ w21.cell? ⟨gb186, 1, none⟩ = some (.int .i64 a1_1) ∧ w21.cell? ⟨gb186, 2, none⟩ = some (.int .i64 a1_2) ∧ w21.cell? ⟨gb186, 3, none⟩ = some (.int .i64 a1_3) ∧ w21.cell? ⟨gb187, 0, none⟩ = some (.int .i64 a2_0) ∧ w21.cell? ⟨gb187, 1, none⟩ = some (.int .i64 a2_1) ∧ w21.cell? ⟨gb187, 2, none⟩ = some (.int .i64 a2_2) ∧ w21.cell? ⟨gb187, 3, none⟩ = some (.int .i64 a2_3) := hS_
         refine zca (a' := ?_) ?_ ?_
         rotate_left
         ·simp only [zy, Act.put, List.setIfInBounds_toArray, List.set_cons_zero, List.set_cons_succ]
          rfl
         refine one_ (i := 4) (N := some 18) #[true, true, true, true, true, false, false, false, false, false, true, true, false, false, false] rfl rfl (zia HT_.out (by kernel_rfl)) (by decide) (fun K hK => ?_)
         refine goes_ Try.func6 (by kernel_rfl) rfl #[.agg #[.int .i64 a2_0, .int .i64 a2_1, .int .i64 a2_2, .int .i64 a2_3]] (by rfl) rfl rfl (by (try simp only [List.map_toArray, List.map_cons, List.map_nil]); first | done | rfl | (simp only [List.length_drop, List.length_take]; rfl)) ?_
         with_reducible refine (laws_toState.calls k a2_0 a2_1 a2_2 a2_3 t192 t193 t194 t195 _ A5.out).mono ?_
         rintro e w22 ⟨rfl, hb⟩
         refine ⟨_, rfl, ?_⟩
         have n0_ := zh.mk (zo (g := gb186) (o := .cells #[.int .i64 a1_0, .int .i64 a1_1, .int .i64 a1_2, .int .i64 a1_3] 22 (0, 0)) (by (with_reducible repeat (first | refine ze ?_ _ | refine zf ?_ | refine za ?_ _)); exact BK186.out) hb)
         have n1_ := zh.mk (zo (g := gb187) (o := .cells #[.int .i64 a2_0, .int .i64 a2_1, .int .i64 a2_2, .int .i64 a2_3] 22 (0, 0)) (by (with_reducible repeat (first | refine ze ?_ _ | refine zf ?_ | refine za ?_ _)); exact BK187.out) hb)
         have n2_ := zh.mk (zo (g := gb205) (o := .cells #[.int .i64 0, .int .i64 0, .int .i64 0, .int .i64 0] 23 (0, 0)) (by (with_reducible repeat (first | refine ze ?_ _ | refine zf ?_ | refine za ?_ _)); exact BK205.out) hb)
         have n3_ := zh.mk (zo (g := gb206) (o := .cells #[.int .i64 0, .int .i64 0, .int .i64 0, .int .i64 0] 23 (0, 0)) (by (with_reducible repeat (first | refine ze ?_ _ | refine zf ?_ | refine za ?_ _)); exact BK206.out) hb)
         have n4_ := zh.mk (zs (by repeat (first | (with_reducible first | exact HB.out | apply zl | apply zj | apply zk | refine zg ?_ GE186.out | refine zg ?_ GE187.out | refine zg ?_ GE205.out | refine zg ?_ GE206.out) | exact HB.out)) hb)
         clear BK186
         clear BK187
         clear BK205
         clear BK206
         clear HB
         have BK186 := n0_
         have BK187 := n1_
         have BK205 := n2_
         have BK206 := n3_
         have HB := n4_
         clear n0_ n1_ n2_ n3_ n4_
         (try clear hb)
         (try clear hb2)
         (try clear hk)
         (try clear hi)
         refine hK.out _ _ ⟨(zi BK186.out 0).trans rfl, (zi BK186.out 1).trans rfl, (zi BK186.out 2).trans rfl, (zi BK186.out 3).trans rfl, (zi BK187.out 0).trans rfl, (zi BK187.out 1).trans rfl, (zi BK187.out 2).trans rfl, (zi BK187.out 3).trans rfl⟩ (fun hHeld => ?_)
         clear hK K
         refine zca (a' := ?_) ?_ ?_
         rotate_left
         ·show Act.put _ (some 18) _ = _
          simp only [Act.put, List.setIfInBounds_toArray, List.set_cons_zero, List.set_cons_succ, zu, zt]
          rfl
         exact zca (by first | (simp only [zy, Act.put, List.setIfInBounds_toArray, List.set_cons_zero, List.set_cons_succ]; done) | (simp only [zy, Act.put, List.setIfInBounds_toArray, List.set_cons_zero, List.set_cons_succ]; rfl)) (hJ2_4_10_11 (gb205, gb206) _ ⟨hHeld, (by (with_reducible repeat (first | refine ze ?_ _ | refine zf ?_ | refine za ?_ _)); exact BK186.out), (by (with_reducible repeat (first | refine ze ?_ _ | refine zf ?_ | refine za ?_ _)); exact BK187.out), (by (with_reducible repeat (first | refine ze ?_ _ | refine zf ?_ | refine za ?_ _)); exact BK205.out), (by (with_reducible repeat (first | refine ze ?_ _ | refine zf ?_ | refine za ?_ _)); exact BK206.out), GW205.out, GE205.out, NB186_205.out, NB205_186.out, NB187_205.out, NB205_187.out, NB206_205.out, NB205_206.out, GW206.out, GE206.out, NB186_206.out, NB206_186.out, NB187_206.out, NB206_187.out, (by repeat (first | (with_reducible first | exact HB.out | apply zl | apply zj | apply zk | refine zg ?_ GE186.out | refine zg ?_ GE187.out | refine zg ?_ GE205.out | refine zg ?_ GE206.out) | exact HB.out))⟩)
       ·skip
        rintro gb206 w21 ⟨hS_, h0_, h1_, h2_, h3_, h4_, h5_, h6_, h7_, h8_, h9_⟩
        have n0_ : zh (w21.heap[gb186]? = some (.cells #[.int .i64 a1_0, .int .i64 a1_1, .int .i64 a1_2, .int .i64 a1_3] 22 (0, 0))) := ⟨h0_⟩
        have n1_ : zh (w21.heap[gb187]? = some (.cells #[.int .i64 a2_0, .int .i64 a2_1, .int .i64 a2_2, .int .i64 a2_3] 22 (0, 0))) := ⟨h1_⟩
        have n2_ : zh (w21.heap[gb206]? = some (.cells #[.int .i64 0, .int .i64 0, .int .i64 0, .int .i64 0] 23 (0, 0))) := ⟨h2_⟩
        have n3_ : zh (w.heap.size ≤ gb206) := ⟨h3_⟩
        have n4_ : zh (w.heap.size ≤ gb206) := ⟨h4_⟩
        have n5_ : zh (gb186 ≠ gb206) := ⟨h5_⟩
        have n6_ : zh (gb206 ≠ gb186) := ⟨h6_⟩
        have n7_ : zh (gb187 ≠ gb206) := ⟨h7_⟩
        have n8_ : zh (gb206 ≠ gb187) := ⟨h8_⟩
        have n9_ : zh (Below w.heap.size w w21) := ⟨h9_⟩
        clear BK186
        clear BK187
        clear HB
        clear h0_ h1_ h2_ h3_ h4_ h5_ h6_ h7_ h8_ h9_
        have BK186 := n0_
        have BK187 := n1_
        have BK206 := n2_
        have GW206 := n3_
        have GE206 := n4_
        have NB186_206 := n5_
        have NB206_186 := n6_
        have NB187_206 := n7_
        have NB206_187 := n8_
        have HB := n9_
        clear n0_ n1_ n2_ n3_ n4_ n5_ n6_ n7_ n8_ n9_
        have hHeld : w21.cell? ⟨gb186, 0, none⟩ = some (.int .i64 a1_0) ∧ w21.cell? ⟨gb186, 1, none⟩ = some (.int .i64 a1_1) ∧ w21.cell? ⟨gb186, 2, none⟩ = some (.int .i64 a1_2) ∧ w21.cell? ⟨gb186, 3, none⟩ = some (.int .i64 a1_3) ∧ w21.cell? ⟨gb187, 0, none⟩ = some (.int .i64 a2_0) ∧ w21.cell? ⟨gb187, 1, none⟩ = some (.int .i64 a2_1) ∧ w21.cell? ⟨gb187, 2, none⟩ = some (.int .i64 a2_2) ∧ w21.cell? ⟨gb187, 3, none⟩ = some (.int .i64 a2_3) := hS_
        refine zca (a' := ?_) ?_ ?_
        rotate_left
        ·simp only [zy, Act.put, List.setIfInBounds_toArray, List.set_cons_zero, List.set_cons_succ]
         rfl
        refine two_ (i := 5) (j := 10) (Ni := some 19) (Nj := some 7) #[true, true, true, true, true, true, false, false, false, false, false, true, false, false, false] #[true, true, true, true, true, false, false, false, false, false, true, true, false, false, false] rfl rfl rfl rfl (two_of HT_.out (by kernel_rfl)) (by decide) (by decide) (fun K hK => ?_) (fun K hK => ?_)
        ·skip
         refine goes_ Try.func5 (by kernel_rfl) rfl #[.int .i64 a0, .agg #[.int .i64 t188, .int .i64 t189, .int .i64 t190, .int .i64 t191], .agg #[.int .i64 t192, .int .i64 t193, .int .i64 t194, .int .i64 t195]] (by rfl) rfl rfl (by (try simp only [List.map_toArray, List.map_cons, List.map_nil]); first | done | rfl | (simp only [List.length_drop, List.length_take]; rfl)) ?_
         with_reducible refine (spec_SplitState.calls k a0 t188 t189 t190 t191 t192 t193 t194 t195 t196 t197 t198 t199 t200 t201 t202 t203 t204 _ A6.out).mono ?_
         rintro e w22 ⟨rfl, hb⟩
         refine ⟨_, rfl, ?_⟩
         have n0_ := zh.mk (zo (g := gb186) (o := .cells #[.int .i64 a1_0, .int .i64 a1_1, .int .i64 a1_2, .int .i64 a1_3] 22 (0, 0)) (by (with_reducible repeat (first | refine ze ?_ _ | refine zf ?_ | refine za ?_ _)); exact BK186.out) hb)
         have n1_ := zh.mk (zo (g := gb187) (o := .cells #[.int .i64 a2_0, .int .i64 a2_1, .int .i64 a2_2, .int .i64 a2_3] 22 (0, 0)) (by (with_reducible repeat (first | refine ze ?_ _ | refine zf ?_ | refine za ?_ _)); exact BK187.out) hb)
         have n2_ := zh.mk (zo (g := gb206) (o := .cells #[.int .i64 0, .int .i64 0, .int .i64 0, .int .i64 0] 23 (0, 0)) (by (with_reducible repeat (first | refine ze ?_ _ | refine zf ?_ | refine za ?_ _)); exact BK206.out) hb)
         have n3_ := zh.mk (zs (by repeat (first | (with_reducible first | exact HB.out | apply zl | apply zj | apply zk | refine zg ?_ GE186.out | refine zg ?_ GE187.out | refine zg ?_ GE206.out) | exact HB.out)) hb)
         clear BK186
         clear BK187
         clear BK206
         clear HB
         have BK186 := n0_
         have BK187 := n1_
         have BK206 := n2_
         have HB := n3_
         clear n0_ n1_ n2_ n3_
         (try clear hb)
         (try clear hb2)
         (try clear hk)
         (try clear hi)
         refine hK.out _ _ ⟨(zi BK186.out 0).trans rfl, (zi BK186.out 1).trans rfl, (zi BK186.out 2).trans rfl, (zi BK186.out 3).trans rfl, (zi BK187.out 0).trans rfl, (zi BK187.out 1).trans rfl, (zi BK187.out 2).trans rfl, (zi BK187.out 3).trans rfl⟩ (fun hHeld => ?_)
         clear hK K
         refine zca (a' := ?_) ?_ ?_
         rotate_left
         ·show Act.put _ (some 19) _ = _
          simp only [Act.put, List.setIfInBounds_toArray, List.set_cons_zero, List.set_cons_succ, zu, zt]
          rfl
         refine zx (i := 6) (N := some 13) (v := ?_) (a' := ?_) #[true, true, true, true, true, true, true, false, false, false, false, true, false, false, false] rfl rfl (zv HT_.out (by kernel_rfl)) (fun _ _ _ h => h) (Or.inl ⟨by rfl, ?_⟩) ?_ ?_
         rotate_left
         ·intro w'
          go_simp
          with_reducible rfl
         rotate_left
         ·simp only [Act.put, List.setIfInBounds_toArray, List.set_cons_zero, List.set_cons_succ, zu, zt]
          rfl
         refine zx (i := 7) (N := some 20) (v := ?_) (a' := ?_) #[true, true, true, true, true, true, true, true, false, false, false, true, false, false, false] rfl rfl (zv HT_.out (by kernel_rfl)) (fun _ _ _ h => h) (Or.inl ⟨by rfl, ?_⟩) ?_ ?_
         rotate_left
         ·intro w'
          go_simp
          with_reducible rfl
         rotate_left
         ·simp only [Act.put, List.setIfInBounds_toArray, List.set_cons_zero, List.set_cons_succ, zu, zt]
          rfl
         refine zx (i := 8) (N := some 21) (v := ?_) (a' := ?_) #[true, true, true, true, true, true, true, true, true, false, false, true, false, false, false] rfl rfl (zv HT_.out (by kernel_rfl)) (fun _ _ _ h => h) (Or.inl ⟨by rfl, ?_⟩) ?_ ?_
         rotate_left
         ·intro w'
          go_simp
          with_reducible rfl
         rotate_left
         ·simp only [Act.put, List.setIfInBounds_toArray, List.set_cons_zero, List.set_cons_succ, zu, zt]
          rfl
         refine zx (i := 9) (N := some 22) (v := ?_) (a' := ?_) #[true, true, true, true, true, true, true, true, true, true, false, true, false, false, false] rfl rfl (zv HT_.out (by kernel_rfl)) (fun _ _ _ h => h) (Or.inl ⟨by rfl, ?_⟩) ?_ ?_
         rotate_left
         ·intro w'
          go_simp
          with_reducible rfl
         rotate_left
         ·simp only [Act.put, List.setIfInBounds_toArray, List.set_cons_zero, List.set_cons_succ, zu, zt]
          rfl
         exact zca (by first | (simp only [zy, Act.put, List.setIfInBounds_toArray, List.set_cons_zero, List.set_cons_succ]; done) | (simp only [zy, Act.put, List.setIfInBounds_toArray, List.set_cons_zero, List.set_cons_succ]; rfl)) (hJ2_4_5_11 (gb206) _ ⟨hHeld, (by (with_reducible repeat (first | refine ze ?_ _ | refine zf ?_ | refine za ?_ _)); exact BK186.out), (by (with_reducible repeat (first | refine ze ?_ _ | refine zf ?_ | refine za ?_ _)); exact BK187.out), (by (with_reducible repeat (first | refine ze ?_ _ | refine zf ?_ | refine za ?_ _)); exact BK206.out), GW206.out, GE206.out, NB186_206.out, NB206_186.out, NB187_206.out, NB206_187.out, (by repeat (first | (with_reducible first | exact HB.out | apply zl | apply zj | apply zk | refine zg ?_ GE186.out | refine zg ?_ GE187.out | refine zg ?_ GE206.out) | exact HB.out))⟩)
        ·skip
         refine zha ?hg (N := 7) ?hd (cs := #[.int .i64 0, .int .i64 0, .int .i64 0, .int .i64 0]) (t := 23) ?hr ?_; (case hd => rfl); (case hg => rfl); (case hr => first | (go_simp; done) | (go_simp; rfl))
         intro gb205 hg w22 hbox hb
         have n0_ := zh.mk (zo (g := gb186) (o := .cells #[.int .i64 a1_0, .int .i64 a1_1, .int .i64 a1_2, .int .i64 a1_3] 22 (0, 0)) (by (with_reducible repeat (first | refine ze ?_ _ | refine zf ?_ | refine za ?_ _)); exact BK186.out) hb)
         have n1_ := zh.mk (zo (g := gb187) (o := .cells #[.int .i64 a2_0, .int .i64 a2_1, .int .i64 a2_2, .int .i64 a2_3] 22 (0, 0)) (by (with_reducible repeat (first | refine ze ?_ _ | refine zf ?_ | refine za ?_ _)); exact BK187.out) hb)
         have n2_ := zh.mk (zo (g := gb206) (o := .cells #[.int .i64 0, .int .i64 0, .int .i64 0, .int .i64 0] 23 (0, 0)) (by (with_reducible repeat (first | refine ze ?_ _ | refine zf ?_ | refine za ?_ _)); exact BK206.out) hb)
         have n3_ := zh.mk (zs (by repeat (first | (with_reducible first | exact HB.out | apply zl | apply zj | apply zk | refine zg ?_ GE186.out | refine zg ?_ GE187.out | refine zg ?_ GE206.out) | exact HB.out)) hb)
         have n4_ := zh.mk (hbox)
         have n5_ := zh.mk ((by rw [hg]; exact (zq (by repeat (first | (with_reducible first | exact HB.out | apply zl | apply zj | apply zk | refine zg ?_ GE186.out | refine zg ?_ GE187.out | refine zg ?_ GE206.out) | exact HB.out))) : w.heap.size ≤ gb205))
         have n6_ := zh.mk ((by rw [hg]; exact (zq (by repeat (first | (with_reducible first | exact HB.out | apply zl | apply zj | apply zk | refine zg ?_ GE186.out | refine zg ?_ GE187.out | refine zg ?_ GE206.out) | exact HB.out))) : w.heap.size ≤ gb205))
         have n7_ := zh.mk ((by rw [hg]; exact Nat.ne_of_lt (zr (g := gb186) (o := .cells #[.int .i64 a1_0, .int .i64 a1_1, .int .i64 a1_2, .int .i64 a1_3] 22 (0, 0)) (by (with_reducible repeat (first | refine ze ?_ _ | refine zf ?_ | refine za ?_ _)); exact BK186.out)) : gb186 ≠ gb205))
         have n8_ := zh.mk ((by rw [hg]; exact Nat.ne_of_gt (zr (g := gb186) (o := .cells #[.int .i64 a1_0, .int .i64 a1_1, .int .i64 a1_2, .int .i64 a1_3] 22 (0, 0)) (by (with_reducible repeat (first | refine ze ?_ _ | refine zf ?_ | refine za ?_ _)); exact BK186.out)) : gb205 ≠ gb186))
         have n9_ := zh.mk ((by rw [hg]; exact Nat.ne_of_lt (zr (g := gb187) (o := .cells #[.int .i64 a2_0, .int .i64 a2_1, .int .i64 a2_2, .int .i64 a2_3] 22 (0, 0)) (by (with_reducible repeat (first | refine ze ?_ _ | refine zf ?_ | refine za ?_ _)); exact BK187.out)) : gb187 ≠ gb205))
         have n10_ := zh.mk ((by rw [hg]; exact Nat.ne_of_gt (zr (g := gb187) (o := .cells #[.int .i64 a2_0, .int .i64 a2_1, .int .i64 a2_2, .int .i64 a2_3] 22 (0, 0)) (by (with_reducible repeat (first | refine ze ?_ _ | refine zf ?_ | refine za ?_ _)); exact BK187.out)) : gb205 ≠ gb187))
         have n11_ := zh.mk ((by rw [hg]; exact Nat.ne_of_lt (zr (g := gb206) (o := .cells #[.int .i64 0, .int .i64 0, .int .i64 0, .int .i64 0] 23 (0, 0)) (by (with_reducible repeat (first | refine ze ?_ _ | refine zf ?_ | refine za ?_ _)); exact BK206.out)) : gb206 ≠ gb205))
         have n12_ := zh.mk ((by rw [hg]; exact Nat.ne_of_gt (zr (g := gb206) (o := .cells #[.int .i64 0, .int .i64 0, .int .i64 0, .int .i64 0] 23 (0, 0)) (by (with_reducible repeat (first | refine ze ?_ _ | refine zf ?_ | refine za ?_ _)); exact BK206.out)) : gb205 ≠ gb206))
         clear BK186
         clear BK187
         clear BK206
         clear HB
         have BK186 := n0_
         have BK187 := n1_
         have BK206 := n2_
         have HB := n3_
         have BK205 := n4_
         have GW205 := n5_
         have GE205 := n6_
         have NB186_205 := n7_
         have NB205_186 := n8_
         have NB187_205 := n9_
         have NB205_187 := n10_
         have NB206_205 := n11_
         have NB205_206 := n12_
         clear n0_ n1_ n2_ n3_ n4_ n5_ n6_ n7_ n8_ n9_ n10_ n11_ n12_
         clear hb hbox hg
         refine hK.out _ _ ⟨(zi BK186.out 0).trans rfl, (zi BK186.out 1).trans rfl, (zi BK186.out 2).trans rfl, (zi BK186.out 3).trans rfl, (zi BK187.out 0).trans rfl, (zi BK187.out 1).trans rfl, (zi BK187.out 2).trans rfl, (zi BK187.out 3).trans rfl⟩ (fun hHeld => ?_)
         clear hK K
         refine zca (a' := ?_) ?_ ?_
         rotate_left
         ·show Act.put _ (some 7) _ = _
          simp only [Act.put, List.setIfInBounds_toArray, List.set_cons_zero, List.set_cons_succ, zu, zt]
          rfl
         exact zca (by first | (simp only [zy, Act.put, List.setIfInBounds_toArray, List.set_cons_zero, List.set_cons_succ]; done) | (simp only [zy, Act.put, List.setIfInBounds_toArray, List.set_cons_zero, List.set_cons_succ]; rfl)) (hJ2_4_10_11 (gb205, gb206) _ ⟨hHeld, (by (with_reducible repeat (first | refine ze ?_ _ | refine zf ?_ | refine za ?_ _)); exact BK186.out), (by (with_reducible repeat (first | refine ze ?_ _ | refine zf ?_ | refine za ?_ _)); exact BK187.out), (by (with_reducible repeat (first | refine ze ?_ _ | refine zf ?_ | refine za ?_ _)); exact BK205.out), (by (with_reducible repeat (first | refine ze ?_ _ | refine zf ?_ | refine za ?_ _)); exact BK206.out), GW205.out, GE205.out, NB186_205.out, NB205_186.out, NB187_205.out, NB205_187.out, NB206_205.out, NB205_206.out, GW206.out, GE206.out, NB186_206.out, NB206_186.out, NB187_206.out, NB206_187.out, (by repeat (first | (with_reducible first | exact HB.out | apply zl | apply zj | apply zk | refine zg ?_ GE186.out | refine zg ?_ GE187.out | refine zg ?_ GE206.out | refine zg ?_ GE205.out) | exact HB.out))⟩)
      ·skip
       rintro gb205 w21 ⟨hS_, h0_, h1_, h2_, h3_, h4_, h5_, h6_, h7_, h8_, h9_⟩
       have n0_ : zh (w21.heap[gb186]? = some (.cells #[.int .i64 a1_0, .int .i64 a1_1, .int .i64 a1_2, .int .i64 a1_3] 22 (0, 0))) := ⟨h0_⟩
       have n1_ : zh (w21.heap[gb187]? = some (.cells #[.int .i64 a2_0, .int .i64 a2_1, .int .i64 a2_2, .int .i64 a2_3] 22 (0, 0))) := ⟨h1_⟩
       have n2_ : zh (w21.heap[gb205]? = some (.cells #[.int .i64 0, .int .i64 0, .int .i64 0, .int .i64 0] 23 (0, 0))) := ⟨h2_⟩
       have n3_ : zh (w.heap.size ≤ gb205) := ⟨h3_⟩
       have n4_ : zh (w.heap.size ≤ gb205) := ⟨h4_⟩
       have n5_ : zh (gb186 ≠ gb205) := ⟨h5_⟩
       have n6_ : zh (gb205 ≠ gb186) := ⟨h6_⟩
       have n7_ : zh (gb187 ≠ gb205) := ⟨h7_⟩
       have n8_ : zh (gb205 ≠ gb187) := ⟨h8_⟩
       have n9_ : zh (Below w.heap.size w w21) := ⟨h9_⟩
       clear BK186
       clear BK187
       clear HB
       clear h0_ h1_ h2_ h3_ h4_ h5_ h6_ h7_ h8_ h9_
       have BK186 := n0_
       have BK187 := n1_
       have BK205 := n2_
       have GW205 := n3_
       have GE205 := n4_
       have NB186_205 := n5_
       have NB205_186 := n6_
       have NB187_205 := n7_
       have NB205_187 := n8_
       have HB := n9_
       clear n0_ n1_ n2_ n3_ n4_ n5_ n6_ n7_ n8_ n9_
       have hHeld : w21.cell? ⟨gb186, 0, none⟩ = some (.int .i64 a1_0) ∧ w21.cell? ⟨gb186, 1, none⟩ = some (.int .i64 a1_1) ∧ w21.cell? ⟨gb186, 2, none⟩ = some (.int .i64 a1_2) ∧ w21.cell? ⟨gb186, 3, none⟩ = some (.int .i64 a1_3) ∧ w21.cell? ⟨gb187, 0, none⟩ = some (.int .i64 a2_0) ∧ w21.cell? ⟨gb187, 1, none⟩ = some (.int .i64 a2_1) ∧ w21.cell? ⟨gb187, 2, none⟩ = some (.int .i64 a2_2) ∧ w21.cell? ⟨gb187, 3, none⟩ = some (.int .i64 a2_3) := hS_
       refine zca (a' := ?_) ?_ ?_
       rotate_left
       ·simp only [zy, Act.put, List.setIfInBounds_toArray, List.set_cons_zero, List.set_cons_succ]
        rfl
       refine two_ (i := 5) (j := 11) (Ni := some 19) (Nj := some 8) #[true, true, true, true, true, true, false, false, false, false, true, false, false, false, false] #[true, true, true, true, true, false, false, false, false, false, true, true, false, false, false] rfl rfl rfl rfl (two_of HT_.out (by kernel_rfl)) (by decide) (by decide) (fun K hK => ?_) (fun K hK => ?_)
       ·skip
        refine goes_ Try.func5 (by kernel_rfl) rfl #[.int .i64 a0, .agg #[.int .i64 t188, .int .i64 t189, .int .i64 t190, .int .i64 t191], .agg #[.int .i64 t192, .int .i64 t193, .int .i64 t194, .int .i64 t195]] (by rfl) rfl rfl (by (try simp only [List.map_toArray, List.map_cons, List.map_nil]); first | done | rfl | (simp only [List.length_drop, List.length_take]; rfl)) ?_
        with_reducible refine (spec_SplitState.calls k a0 t188 t189 t190 t191 t192 t193 t194 t195 t196 t197 t198 t199 t200 t201 t202 t203 t204 _ A6.out).mono ?_
        rintro e w22 ⟨rfl, hb⟩
        refine ⟨_, rfl, ?_⟩
        have n0_ := zh.mk (zo (g := gb186) (o := .cells #[.int .i64 a1_0, .int .i64 a1_1, .int .i64 a1_2, .int .i64 a1_3] 22 (0, 0)) (by (with_reducible repeat (first | refine ze ?_ _ | refine zf ?_ | refine za ?_ _)); exact BK186.out) hb)
        have n1_ := zh.mk (zo (g := gb187) (o := .cells #[.int .i64 a2_0, .int .i64 a2_1, .int .i64 a2_2, .int .i64 a2_3] 22 (0, 0)) (by (with_reducible repeat (first | refine ze ?_ _ | refine zf ?_ | refine za ?_ _)); exact BK187.out) hb)
        have n2_ := zh.mk (zo (g := gb205) (o := .cells #[.int .i64 0, .int .i64 0, .int .i64 0, .int .i64 0] 23 (0, 0)) (by (with_reducible repeat (first | refine ze ?_ _ | refine zf ?_ | refine za ?_ _)); exact BK205.out) hb)
        have n3_ := zh.mk (zs (by repeat (first | (with_reducible first | exact HB.out | apply zl | apply zj | apply zk | refine zg ?_ GE186.out | refine zg ?_ GE187.out | refine zg ?_ GE205.out) | exact HB.out)) hb)
        clear BK186
        clear BK187
        clear BK205
        clear HB
        have BK186 := n0_
        have BK187 := n1_
        have BK205 := n2_
        have HB := n3_
        clear n0_ n1_ n2_ n3_
        (try clear hb)
        (try clear hb2)
        (try clear hk)
        (try clear hi)
        refine hK.out _ _ ⟨(zi BK186.out 0).trans rfl, (zi BK186.out 1).trans rfl, (zi BK186.out 2).trans rfl, (zi BK186.out 3).trans rfl, (zi BK187.out 0).trans rfl, (zi BK187.out 1).trans rfl, (zi BK187.out 2).trans rfl, (zi BK187.out 3).trans rfl⟩ (fun hHeld => ?_)
        clear hK K
        refine zca (a' := ?_) ?_ ?_
        rotate_left
        ·show Act.put _ (some 19) _ = _
         simp only [Act.put, List.setIfInBounds_toArray, List.set_cons_zero, List.set_cons_succ, zu, zt]
         rfl
        refine zx (i := 6) (N := some 13) (v := ?_) (a' := ?_) #[true, true, true, true, true, true, true, false, false, false, true, false, false, false, false] rfl rfl (zv HT_.out (by kernel_rfl)) (fun _ _ _ h => h) (Or.inl ⟨by rfl, ?_⟩) ?_ ?_
        rotate_left
        ·intro w'
         go_simp
         with_reducible rfl
        rotate_left
        ·simp only [Act.put, List.setIfInBounds_toArray, List.set_cons_zero, List.set_cons_succ, zu, zt]
         rfl
        refine zx (i := 7) (N := some 20) (v := ?_) (a' := ?_) #[true, true, true, true, true, true, true, true, false, false, true, false, false, false, false] rfl rfl (zv HT_.out (by kernel_rfl)) (fun _ _ _ h => h) (Or.inl ⟨by rfl, ?_⟩) ?_ ?_
        rotate_left
        ·intro w'
         go_simp
         with_reducible rfl
        rotate_left
        ·simp only [Act.put, List.setIfInBounds_toArray, List.set_cons_zero, List.set_cons_succ, zu, zt]
         rfl
        refine zx (i := 8) (N := some 21) (v := ?_) (a' := ?_) #[true, true, true, true, true, true, true, true, true, false, true, false, false, false, false] rfl rfl (zv HT_.out (by kernel_rfl)) (fun _ _ _ h => h) (Or.inl ⟨by rfl, ?_⟩) ?_ ?_
        rotate_left
        ·intro w'
         go_simp
         with_reducible rfl
        rotate_left
        ·simp only [Act.put, List.setIfInBounds_toArray, List.set_cons_zero, List.set_cons_succ, zu, zt]
         rfl
        refine zx (i := 9) (N := some 22) (v := ?_) (a' := ?_) #[true, true, true, true, true, true, true, true, true, true, true, false, false, false, false] rfl rfl (zv HT_.out (by kernel_rfl)) (fun _ _ _ h => h) (Or.inl ⟨by rfl, ?_⟩) ?_ ?_
        rotate_left
        ·intro w'
         go_simp
         with_reducible rfl
        rotate_left
        ·simp only [Act.put, List.setIfInBounds_toArray, List.set_cons_zero, List.set_cons_succ, zu, zt]
         rfl
        exact zca (by first | (simp only [zy, Act.put, List.setIfInBounds_toArray, List.set_cons_zero, List.set_cons_succ]; done) | (simp only [zy, Act.put, List.setIfInBounds_toArray, List.set_cons_zero, List.set_cons_succ]; rfl)) (hJ2_4_5_10 (gb205) _ ⟨hHeld, (by (with_reducible repeat (first | refine ze ?_ _ | refine zf ?_ | refine za ?_ _)); exact BK186.out), (by (with_reducible repeat (first | refine ze ?_ _ | refine zf ?_ | refine za ?_ _)); exact BK187.out), (by (with_reducible repeat (first | refine ze ?_ _ | refine zf ?_ | refine za ?_ _)); exact BK205.out), GW205.out, GE205.out, NB186_205.out, NB205_186.out, NB187_205.out, NB205_187.out, (by repeat (first | (with_reducible first | exact HB.out | apply zl | apply zj | apply zk | refine zg ?_ GE186.out | refine zg ?_ GE187.out | refine zg ?_ GE205.out) | exact HB.out))⟩)
       ·skip
        refine zha ?hg (N := 8) ?hd (cs := #[.int .i64 0, .int .i64 0, .int .i64 0, .int .i64 0]) (t := 23) ?hr ?_; (case hd => rfl); (case hg => rfl); (case hr => first | (go_simp; done) | (go_simp; rfl))
        intro gb206 hg w22 hbox hb
        have n0_ := zh.mk (zo (g := gb186) (o := .cells #[.int .i64 a1_0, .int .i64 a1_1, .int .i64 a1_2, .int .i64 a1_3] 22 (0, 0)) (by (with_reducible repeat (first | refine ze ?_ _ | refine zf ?_ | refine za ?_ _)); exact BK186.out) hb)
        have n1_ := zh.mk (zo (g := gb187) (o := .cells #[.int .i64 a2_0, .int .i64 a2_1, .int .i64 a2_2, .int .i64 a2_3] 22 (0, 0)) (by (with_reducible repeat (first | refine ze ?_ _ | refine zf ?_ | refine za ?_ _)); exact BK187.out) hb)
        have n2_ := zh.mk (zo (g := gb205) (o := .cells #[.int .i64 0, .int .i64 0, .int .i64 0, .int .i64 0] 23 (0, 0)) (by (with_reducible repeat (first | refine ze ?_ _ | refine zf ?_ | refine za ?_ _)); exact BK205.out) hb)
        have n3_ := zh.mk (zs (by repeat (first | (with_reducible first | exact HB.out | apply zl | apply zj | apply zk | refine zg ?_ GE186.out | refine zg ?_ GE187.out | refine zg ?_ GE205.out) | exact HB.out)) hb)
        have n4_ := zh.mk (hbox)
        have n5_ := zh.mk ((by rw [hg]; exact (zq (by repeat (first | (with_reducible first | exact HB.out | apply zl | apply zj | apply zk | refine zg ?_ GE186.out | refine zg ?_ GE187.out | refine zg ?_ GE205.out) | exact HB.out))) : w.heap.size ≤ gb206))
        have n6_ := zh.mk ((by rw [hg]; exact (zq (by repeat (first | (with_reducible first | exact HB.out | apply zl | apply zj | apply zk | refine zg ?_ GE186.out | refine zg ?_ GE187.out | refine zg ?_ GE205.out) | exact HB.out))) : w.heap.size ≤ gb206))
        have n7_ := zh.mk ((by rw [hg]; exact Nat.ne_of_lt (zr (g := gb186) (o := .cells #[.int .i64 a1_0, .int .i64 a1_1, .int .i64 a1_2, .int .i64 a1_3] 22 (0, 0)) (by (with_reducible repeat (first | refine ze ?_ _ | refine zf ?_ | refine za ?_ _)); exact BK186.out)) : gb186 ≠ gb206))
        have n8_ := zh.mk ((by rw [hg]; exact Nat.ne_of_gt (zr (g := gb186) (o := .cells #[.int .i64 a1_0, .int .i64 a1_1, .int .i64 a1_2, .int .i64 a1_3] 22 (0, 0)) (by (with_reducible repeat (first | refine ze ?_ _ | refine zf ?_ | refine za ?_ _)); exact BK186.out)) : gb206 ≠ gb186))
        have n9_ := zh.mk ((by rw [hg]; exact Nat.ne_of_lt (zr (g := gb187) (o := .cells #[.int .i64 a2_0, .int .i64 a2_1, .int .i64 a2_2, .int .i64 a2_3] 22 (0, 0)) (by (with_reducible repeat (first | refine ze ?_ _ | refine zf ?_ | refine za ?_ _)); exact BK187.out)) : gb187 ≠ gb206))
        have n10_ := zh.mk ((by rw [hg]; exact Nat.ne_of_gt (zr (g := gb187) (o := .cells #[.int .i64 a2_0, .int .i64 a2_1, .int .i64 a2_2, .int .i64 a2_3] 22 (0, 0)) (by (with_reducible repeat (first | refine ze ?_ _ | refine zf ?_ | refine za ?_ _)); exact BK187.out)) : gb206 ≠ gb187))
        have n11_ := zh.mk ((by rw [hg]; exact Nat.ne_of_lt (zr (g := gb205) (o := .cells #[.int .i64 0, .int .i64 0, .int .i64 0, .int .i64 0] 23 (0, 0)) (by (with_reducible repeat (first | refine ze ?_ _ | refine zf ?_ | refine za ?_ _)); exact BK205.out)) : gb205 ≠ gb206))
        have n12_ := zh.mk ((by rw [hg]; exact Nat.ne_of_gt (zr (g := gb205) (o := .cells #[.int .i64 0, .int .i64 0, .int .i64 0, .int .i64 0] 23 (0, 0)) (by (with_reducible repeat (first | refine ze ?_ _ | refine zf ?_ | refine za ?_ _)); exact BK205.out)) : gb206 ≠ gb205))
        clear BK186
        clear BK187
        clear BK205
        clear HB
        have BK186 := n0_
        have BK187 := n1_
        have BK205 := n2_
        have HB := n3_
        have BK206 := n4_
        have GW206 := n5_
        have GE206 := n6_
        have NB186_206 := n7_
        have NB206_186 := n8_
        have NB187_206 := n9_
        have NB206_187 := n10_
        have NB205_206 := n11_
        have NB206_205 := n12_
        clear n0_ n1_ n2_ n3_ n4_ n5_ n6_ n7_ n8_ n9_ n10_ n11_ n12_
        clear hb hbox hg
        refine hK.out _ _ ⟨(zi BK186.out 0).trans rfl, (zi BK186.out 1).trans rfl, (zi BK186.out 2).trans rfl, (zi BK186.out 3).trans rfl, (zi BK187.out 0).trans rfl, (zi BK187.out 1).trans rfl, (zi BK187.out 2).trans rfl, (zi BK187.out 3).trans rfl⟩ (fun hHeld => ?_)
        clear hK K
        refine zca (a' := ?_) ?_ ?_
        rotate_left
        ·show Act.put _ (some 8) _ = _
         simp only [Act.put, List.setIfInBounds_toArray, List.set_cons_zero, List.set_cons_succ, zu, zt]
         rfl
        exact zca (by first | (simp only [zy, Act.put, List.setIfInBounds_toArray, List.set_cons_zero, List.set_cons_succ]; done) | (simp only [zy, Act.put, List.setIfInBounds_toArray, List.set_cons_zero, List.set_cons_succ]; rfl)) (hJ2_4_10_11 (gb205, gb206) _ ⟨hHeld, (by (with_reducible repeat (first | refine ze ?_ _ | refine zf ?_ | refine za ?_ _)); exact BK186.out), (by (with_reducible repeat (first | refine ze ?_ _ | refine zf ?_ | refine za ?_ _)); exact BK187.out), (by (with_reducible repeat (first | refine ze ?_ _ | refine zf ?_ | refine za ?_ _)); exact BK205.out), (by (with_reducible repeat (first | refine ze ?_ _ | refine zf ?_ | refine za ?_ _)); exact BK206.out), GW205.out, GE205.out, NB186_205.out, NB205_186.out, NB187_205.out, NB205_187.out, NB206_205.out, NB205_206.out, GW206.out, GE206.out, NB186_206.out, NB206_186.out, NB187_206.out, NB206_187.out, (by repeat (first | (with_reducible first | exact HB.out | apply zl | apply zj | apply zk | refine zg ?_ GE186.out | refine zg ?_ GE187.out | refine zg ?_ GE205.out | refine zg ?_ GE206.out) | exact HB.out))⟩)
     ·skip
      rintro _ w21 ⟨hS_, h0_, h1_, h2_⟩
      have n0_ : zh (w21.heap[gb186]? = some (.cells #[.int .i64 a1_0, .int .i64 a1_1, .int .i64 a1_2, .int .i64 a1_3] 22 (0, 0))) := ⟨h0_⟩
      have n1_ : zh (w21.heap[gb187]? = some (.cells #[.int .i64 a2_0, .int .i64 a2_1, .int .i64 a2_2, .int .i64 a2_3] 22 (0, 0))) := ⟨h1_⟩
      have n2_ : zh (Below w.heap.size w w21) := ⟨h2_⟩
      clear BK186
      clear BK187
      clear HB
      clear h0_ h1_ h2_
      have BK186 := n0_
      have BK187 := n1_
      have HB := n2_
      clear n0_ n1_ n2_
      have hHeld : w21.cell? ⟨gb186, 0, none⟩ = some (.int .i64 a1_0) ∧ w21.cell? ⟨gb186, 1, none⟩ = some (.int .i64 a1_1) ∧ w21.cell? ⟨gb186, 2, none⟩ = some (.int .i64 a1_2) ∧ w21.cell? ⟨gb186, 3, none⟩ = some (.int .i64 a1_3) ∧ w21.cell? ⟨gb187, 0, none⟩ = some (.int .i64 a2_0) ∧ w21.cell? ⟨gb187, 1, none⟩ = some (.int .i64 a2_1) ∧ w21.cell? ⟨gb187, 2, none⟩ = some (.int .i64 a2_2) ∧ w21.cell? ⟨gb187, 3, none⟩ = some (.int .i64 a2_3) := hS_
      refine zca (a' := ?_) ?_ ?_
      rotate_left
      ·simp only [zy, Act.put, List.setIfInBounds_toArray, List.set_cons_zero, List.set_cons_succ]
       rfl
      refine two_ (i := 10) (j := 11) (Ni := some 7) (Nj := some 8) #[true, true, true, true, true, true, true, true, true, true, true, false, false, false, false] #[true, true, true, true, true, true, true, true, true, true, false, true, false, false, false] rfl rfl rfl rfl (two_of HT_.out (by kernel_rfl)) (by decide) (by decide) (fun K hK => ?_) (fun K hK => ?_)
      ·skip
       refine zha ?hg (N := 7) ?hd (cs := #[.int .i64 0, .int .i64 0, .int .i64 0, .int .i64 0]) (t := 23) ?hr ?_; (case hd => rfl); (case hg => rfl); (case hr => first | (go_simp; done) | (go_simp; rfl))
       intro gb205 hg w22 hbox hb
       have n0_ := zh.mk (zo (g := gb186) (o := .cells #[.int .i64 a1_0, .int .i64 a1_1, .int .i64 a1_2, .int .i64 a1_3] 22 (0, 0)) (by (with_reducible repeat (first | refine ze ?_ _ | refine zf ?_ | refine za ?_ _)); exact BK186.out) hb)
       have n1_ := zh.mk (zo (g := gb187) (o := .cells #[.int .i64 a2_0, .int .i64 a2_1, .int .i64 a2_2, .int .i64 a2_3] 22 (0, 0)) (by (with_reducible repeat (first | refine ze ?_ _ | refine zf ?_ | refine za ?_ _)); exact BK187.out) hb)
       have n2_ := zh.mk (zs (by repeat (first | (with_reducible first | exact HB.out | apply zl | apply zj | apply zk | refine zg ?_ GE186.out | refine zg ?_ GE187.out) | exact HB.out)) hb)
       have n3_ := zh.mk (hbox)
       have n4_ := zh.mk ((by rw [hg]; exact (zq (by repeat (first | (with_reducible first | exact HB.out | apply zl | apply zj | apply zk | refine zg ?_ GE186.out | refine zg ?_ GE187.out) | exact HB.out))) : w.heap.size ≤ gb205))
       have n5_ := zh.mk ((by rw [hg]; exact (zq (by repeat (first | (with_reducible first | exact HB.out | apply zl | apply zj | apply zk | refine zg ?_ GE186.out | refine zg ?_ GE187.out) | exact HB.out))) : w.heap.size ≤ gb205))
       have n6_ := zh.mk ((by rw [hg]; exact Nat.ne_of_lt (zr (g := gb186) (o := .cells #[.int .i64 a1_0, .int .i64 a1_1, .int .i64 a1_2, .int .i64 a1_3] 22 (0, 0)) (by (with_reducible repeat (first | refine ze ?_ _ | refine zf ?_ | refine za ?_ _)); exact BK186.out)) : gb186 ≠ gb205))
       have n7_ := zh.mk ((by rw [hg]; exact Nat.ne_of_gt (zr (g := gb186) (o := .cells #[.int .i64 a1_0, .int .i64 a1_1, .int .i64 a1_2, .int .i64 a1_3] 22 (0, 0)) (by (with_reducible repeat (first | refine ze ?_ _ | refine zf ?_ | refine za ?_ _)); exact BK186.out)) : gb205 ≠ gb186))
       have n8_ := zh.mk ((by rw [hg]; exact Nat.ne_of_lt (zr (g := gb187) (o := .cells #[.int .i64 a2_0, .int .i64 a2_1, .int .i64 a2_2, .int .i64 a2_3] 22 (0, 0)) (by (with_reducible repeat (first | refine ze ?_ _ | refine zf ?_ | refine za ?_ _)); exact BK187.out)) : gb187 ≠ gb205))
       have n9_ := zh.mk ((by rw [hg]; exact Nat.ne_of_gt (zr (g := gb187) (o := .cells #[.int .i64 a2_0, .int .i64 a2_1, .int .i64 a2_2, .int .i64 a2_3] 22 (0, 0)) (by (with_reducible repeat (first | refine ze ?_ _ | refine zf ?_ | refine za ?_ _)); exact BK187.out)) : gb205 ≠ gb187))
       clear BK186
       clear BK187
       clear HB
       have BK186 := n0_
       have BK187 := n1_
       have HB := n2_
       have BK205 := n3_
       have GW205 := n4_
       have GE205 := n5_
       have NB186_205 := n6_
       have NB205_186 := n7_
       have NB187_205 := n8_
       have NB205_187 := n9_
       clear n0_ n1_ n2_ n3_ n4_ n5_ n6_ n7_ n8_ n9_
       clear hb hbox hg
       refine hK.out _ _ ⟨(zi BK186.out 0).trans rfl, (zi BK186.out 1).trans rfl, (zi BK186.out 2).trans rfl, (zi BK186.out 3).trans rfl, (zi BK187.out 0).trans rfl, (zi BK187.out 1).trans rfl, (zi BK187.out 2).trans rfl, (zi BK187.out 3).trans rfl⟩ (fun hHeld => ?_)
       clear hK K
       refine zca (a' := ?_) ?_ ?_
       rotate_left
       ·show Act.put _ (some 7) _ = _
        simp only [Act.put, List.setIfInBounds_toArray, List.set_cons_zero, List.set_cons_succ, zu, zt]
        rfl
       exact zca (by first | (simp only [zy, Act.put, List.setIfInBounds_toArray, List.set_cons_zero, List.set_cons_succ]; done) | (simp only [zy, Act.put, List.setIfInBounds_toArray, List.set_cons_zero, List.set_cons_succ]; rfl)) (hJ2_4_5_10 (gb205) _ ⟨hHeld, (by (with_reducible repeat (first | refine ze ?_ _ | refine zf ?_ | refine za ?_ _)); exact BK186.out), (by (with_reducible repeat (first | refine ze ?_ _ | refine zf ?_ | refine za ?_ _)); exact BK187.out), (by (with_reducible repeat (first | refine ze ?_ _ | refine zf ?_ | refine za ?_ _)); exact BK205.out), GW205.out, GE205.out, NB186_205.out, NB205_186.out, NB187_205.out, NB205_187.out, (by repeat (first | (with_reducible first | exact HB.out | apply zl | apply zj | apply zk | refine zg ?_ GE186.out | refine zg ?_ GE187.out | refine zg ?_ GE205.out) | exact HB.out))⟩)
      ·skip
       refine zha ?hg (N := 8) ?hd (cs := #[.int .i64 0, .int .i64 0, .int .i64 0, .int .i64 0]) (t := 23) ?hr ?_; (case hd => rfl); (case hg => rfl); (case hr => first | (go_simp; done) | (go_simp; rfl))
       intro gb206 hg w22 hbox hb
       have n0_ := zh.mk (zo (g := gb186) (o := .cells #[.int .i64 a1_0, .int .i64 a1_1, .int .i64 a1_2, .int .i64 a1_3] 22 (0, 0)) (by (with_reducible repeat (first | refine ze ?_ _ | refine zf ?_ | refine za ?_ _)); exact BK186.out) hb)
       have n1_ := zh.mk (zo (g := gb187) (o := .cells #[.int .i64 a2_0, .int .i64 a2_1, .int .i64 a2_2, .int .i64 a2_3] 22 (0, 0)) (by (with_reducible repeat (first | refine ze ?_ _ | refine zf ?_ | refine za ?_ _)); exact BK187.out) hb)
       have n2_ := zh.mk (zs (by repeat (first | (with_reducible first | exact HB.out | apply zl | apply zj | apply zk | refine zg ?_ GE186.out | refine zg ?_ GE187.out) | exact HB.out)) hb)
       have n3_ := zh.mk (hbox)
       have n4_ := zh.mk ((by rw [hg]; exact (zq (by repeat (first | (with_reducible first | exact HB.out | apply zl | apply zj | apply zk | refine zg ?_ GE186.out | refine zg ?_ GE187.out) | exact HB.out))) : w.heap.size ≤ gb206))
       have n5_ := zh.mk ((by rw [hg]; exact (zq (by repeat (first | (with_reducible first | exact HB.out | apply zl | apply zj | apply zk | refine zg ?_ GE186.out | refine zg ?_ GE187.out) | exact HB.out))) : w.heap.size ≤ gb206))
       have n6_ := zh.mk ((by rw [hg]; exact Nat.ne_of_lt (zr (g := gb186) (o := .cells #[.int .i64 a1_0, .int .i64 a1_1, .int .i64 a1_2, .int .i64 a1_3] 22 (0, 0)) (by (with_reducible repeat (first | refine ze ?_ _ | refine zf ?_ | refine za ?_ _)); exact BK186.out)) : gb186 ≠ gb206))
       have n7_ := zh.mk ((by rw [hg]; exact Nat.ne_of_gt (zr (g := gb186) (o := .cells #[.int .i64 a1_0, .int .i64 a1_1, .int .i64 a1_2, .int .i64 a1_3] 22 (0, 0)) (by (with_reducible repeat (first | refine ze ?_ _ | refine zf ?_ | refine za ?_ _)); exact BK186.out)) : gb206 ≠ gb186))
       have n8_ := zh.mk ((by rw [hg]; exact Nat.ne_of_lt (zr (g := gb187) (o := .cells #[.int .i64 a2_0, .int .i64 a2_1, .int .i64 a2_2, .int .i64 a2_3] 22 (0, 0)) (by (with_reducible repeat (first | refine ze ?_ _ | refine zf ?_ | refine za ?_ _)); exact BK187.out)) : gb187 ≠ gb206))
       have n9_ := zh.mk ((by rw [hg]; exact Nat.ne_of_gt (zr (g := gb187) (o := .cells #[.int .i64 a2_0, .int .i64 a2_1, .int .i64 a2_2, .int .i64 a2_3] 22 (0, 0)) (by (with_reducible repeat (first | refine ze ?_ _ | refine zf ?_ | refine za ?_ _)); exact BK187.out)) : gb206 ≠ gb187))
       clear BK186
       clear BK187
       clear HB
       have BK186 := n0_
       have BK187 := n1_
       have HB := n2_
       have BK206 := n3_
       have GW206 := n4_
       have GE206 := n5_
       have NB186_206 := n6_
       have NB206_186 := n7_
       have NB187_206 := n8_
       have NB206_187 := n9_
       clear n0_ n1_ n2_ n3_ n4_ n5_ n6_ n7_ n8_ n9_
       clear hb hbox hg
       refine hK.out _ _ ⟨(zi BK186.out 0).trans rfl, (zi BK186.out 1).trans rfl, (zi BK186.out 2).trans rfl, (zi BK186.out 3).trans rfl, (zi BK187.out 0).trans rfl, (zi BK187.out 1).trans rfl, (zi BK187.out 2).trans rfl, (zi BK187.out 3).trans rfl⟩ (fun hHeld => ?_)
       clear hK K
       refine zca (a' := ?_) ?_ ?_
       rotate_left
       ·show Act.put _ (some 8) _ = _
        simp only [Act.put, List.setIfInBounds_toArray, List.set_cons_zero, List.set_cons_succ, zu, zt]
        rfl
       exact zca (by first | (simp only [zy, Act.put, List.setIfInBounds_toArray, List.set_cons_zero, List.set_cons_succ]; done) | (simp only [zy, Act.put, List.setIfInBounds_toArray, List.set_cons_zero, List.set_cons_succ]; rfl)) (hJ2_4_5_11 (gb206) _ ⟨hHeld, (by (with_reducible repeat (first | refine ze ?_ _ | refine zf ?_ | refine za ?_ _)); exact BK186.out), (by (with_reducible repeat (first | refine ze ?_ _ | refine zf ?_ | refine za ?_ _)); exact BK187.out), (by (with_reducible repeat (first | refine ze ?_ _ | refine zf ?_ | refine za ?_ _)); exact BK206.out), GW206.out, GE206.out, NB186_206.out, NB206_186.out, NB187_206.out, NB206_187.out, (by repeat (first | (with_reducible first | exact HB.out | apply zl | apply zj | apply zk | refine zg ?_ GE186.out | refine zg ?_ GE187.out | refine zg ?_ GE206.out) | exact HB.out))⟩)
    ·skip
     rintro ⟨gb205, gb206⟩ w22 ⟨hS_, h0_, h1_, h2_, h3_, h4_, h5_, h6_, h7_, h8_, h9_, h10_, h11_, h12_, h13_, h14_, h15_, h16_, h17_, h18_⟩
     have n0_ : zh (w22.heap[gb186]? = some (.cells #[.int .i64 a1_0, .int .i64 a1_1, .int .i64 a1_2, .int .i64 a1_3] 22 (0, 0))) := ⟨h0_⟩
     have n1_ : zh (w22.heap[gb187]? = some (.cells #[.int .i64 a2_0, .int .i64 a2_1, .int .i64 a2_2, .int .i64 a2_3] 22 (0, 0))) := ⟨h1_⟩
     have n2_ : zh (w22.heap[gb205]? = some (.cells #[.int .i64 0, .int .i64 0, .int .i64 0, .int .i64 0] 23 (0, 0))) := ⟨h2_⟩
     have n3_ : zh (w22.heap[gb206]? = some (.cells #[.int .i64 0, .int .i64 0, .int .i64 0, .int .i64 0] 23 (0, 0))) := ⟨h3_⟩
     have n4_ : zh (w.heap.size ≤ gb205) := ⟨h4_⟩
     have n5_ : zh (w.heap.size ≤ gb205) := ⟨h5_⟩
     have n6_ : zh (gb186 ≠ gb205) := ⟨h6_⟩
     have n7_ : zh (gb205 ≠ gb186) := ⟨h7_⟩
     have n8_ : zh (gb187 ≠ gb205) := ⟨h8_⟩
     have n9_ : zh (gb205 ≠ gb187) := ⟨h9_⟩
     have n10_ : zh (gb206 ≠ gb205) := ⟨h10_⟩
     have n11_ : zh (gb205 ≠ gb206) := ⟨h11_⟩
     have n12_ : zh (w.heap.size ≤ gb206) := ⟨h12_⟩
     have n13_ : zh (w.heap.size ≤ gb206) := ⟨h13_⟩
     have n14_ : zh (gb186 ≠ gb206) := ⟨h14_⟩
     have n15_ : zh (gb206 ≠ gb186) := ⟨h15_⟩
     have n16_ : zh (gb187 ≠ gb206) := ⟨h16_⟩
     have n17_ : zh (gb206 ≠ gb187) := ⟨h17_⟩
     have n18_ : zh (Below w.heap.size w w22) := ⟨h18_⟩
     clear BK186
     clear BK187
     clear HB
     clear h0_ h1_ h2_ h3_ h4_ h5_ h6_ h7_ h8_ h9_ h10_ h11_ h12_ h13_ h14_ h15_ h16_ h17_ h18_
     have BK186 := n0_
     have BK187 := n1_
     have BK205 := n2_
     have BK206 := n3_
     have GW205 := n4_
     have GE205 := n5_
     have NB186_205 := n6_
     have NB205_186 := n7_
     have NB187_205 := n8_
     have NB205_187 := n9_
     have NB206_205 := n10_
     have NB205_206 := n11_
     have GW206 := n12_
     have GE206 := n13_
     have NB186_206 := n14_
     have NB206_186 := n15_
     have NB187_206 := n16_
     have NB206_187 := n17_
     have HB := n18_
     clear n0_ n1_ n2_ n3_ n4_ n5_ n6_ n7_ n8_ n9_ n10_ n11_ n12_ n13_ n14_ n15_ n16_ n17_ n18_
     have hHeld : w22.cell? ⟨gb186, 0, none⟩ = some (.int .i64 a1_0) ∧ w22.cell? ⟨gb186, 1, none⟩ = some (.int .i64 a1_1) ∧ w22.cell? ⟨gb186, 2, none⟩ = some (.int .i64 a1_2) ∧ w22.cell? ⟨gb186, 3, none⟩ = some (.int .i64 a1_3) ∧ w22.cell? ⟨gb187, 0, none⟩ = some (.int .i64 a2_0) ∧ w22.cell? ⟨gb187, 1, none⟩ = some (.int .i64 a2_1) ∧ w22.cell? ⟨gb187, 2, none⟩ = some (.int .i64 a2_2) ∧ w22.cell? ⟨gb187, 3, none⟩ = some (.int .i64 a2_3) := hS_
     refine zca (a' := ?_) ?_ ?_
     rotate_left
     ·simp only [zy, Act.put, List.setIfInBounds_toArray, List.set_cons_zero, List.set_cons_succ]
      rfl
     refine one_ (i := 5) (N := some 19) #[true, true, true, true, true, true, false, false, false, false, true, true, false, false, false] rfl rfl (zia HT_.out (by kernel_rfl)) (by decide) (fun K hK => ?_)
     refine goes_ Try.func5 (by kernel_rfl) rfl #[.int .i64 a0, .agg #[.int .i64 t188, .int .i64 t189, .int .i64 t190, .int .i64 t191], .agg #[.int .i64 t192, .int .i64 t193, .int .i64 t194, .int .i64 t195]] (by rfl) rfl rfl (by (try simp only [List.map_toArray, List.map_cons, List.map_nil]); first | done | rfl | (simp only [List.length_drop, List.length_take]; rfl)) ?_
     with_reducible refine (spec_SplitState.calls k a0 t188 t189 t190 t191 t192 t193 t194 t195 t196 t197 t198 t199 t200 t201 t202 t203 t204 _ A6.out).mono ?_
     rintro e w23 ⟨rfl, hb⟩
     refine ⟨_, rfl, ?_⟩
     have n0_ := zh.mk (zo (g := gb186) (o := .cells #[.int .i64 a1_0, .int .i64 a1_1, .int .i64 a1_2, .int .i64 a1_3] 22 (0, 0)) (by (with_reducible repeat (first | refine ze ?_ _ | refine zf ?_ | refine za ?_ _)); exact BK186.out) hb)
     have n1_ := zh.mk (zo (g := gb187) (o := .cells #[.int .i64 a2_0, .int .i64 a2_1, .int .i64 a2_2, .int .i64 a2_3] 22 (0, 0)) (by (with_reducible repeat (first | refine ze ?_ _ | refine zf ?_ | refine za ?_ _)); exact BK187.out) hb)
     have n2_ := zh.mk (zo (g := gb205) (o := .cells #[.int .i64 0, .int .i64 0, .int .i64 0, .int .i64 0] 23 (0, 0)) (by (with_reducible repeat (first | refine ze ?_ _ | refine zf ?_ | refine za ?_ _)); exact BK205.out) hb)
     have n3_ := zh.mk (zo (g := gb206) (o := .cells #[.int .i64 0, .int .i64 0, .int .i64 0, .int .i64 0] 23 (0, 0)) (by (with_reducible repeat (first | refine ze ?_ _ | refine zf ?_ | refine za ?_ _)); exact BK206.out) hb)
     have n4_ := zh.mk (zs (by repeat (first | (with_reducible first | exact HB.out | apply zl | apply zj | apply zk | refine zg ?_ GE186.out | refine zg ?_ GE187.out | refine zg ?_ GE205.out | refine zg ?_ GE206.out) | exact HB.out)) hb)
     clear BK186
     clear BK187
     clear BK205
     clear BK206
     clear HB
     have BK186 := n0_
     have BK187 := n1_
     have BK205 := n2_
     have BK206 := n3_
     have HB := n4_
     clear n0_ n1_ n2_ n3_ n4_
     (try clear hb)
     (try clear hb2)
     (try clear hk)
     (try clear hi)
     refine hK.out _ _ ⟨(zi BK186.out 0).trans rfl, (zi BK186.out 1).trans rfl, (zi BK186.out 2).trans rfl, (zi BK186.out 3).trans rfl, (zi BK187.out 0).trans rfl, (zi BK187.out 1).trans rfl, (zi BK187.out 2).trans rfl, (zi BK187.out 3).trans rfl⟩ (fun hHeld => ?_)
     clear hK K
     refine zca (a' := ?_) ?_ ?_
     rotate_left
     ·show Act.put _ (some 19) _ = _
      simp only [Act.put, List.setIfInBounds_toArray, List.set_cons_zero, List.set_cons_succ, zu, zt]
      rfl
     refine zx (i := 6) (N := some 13) (v := ?_) (a' := ?_) #[true, true, true, true, true, true, true, false, false, false, true, true, false, false, false] rfl rfl (zv HT_.out (by kernel_rfl)) (fun _ _ _ h => h) (Or.inl ⟨by rfl, ?_⟩) ?_ ?_
     rotate_left
     ·intro w'
      go_simp
      with_reducible rfl
     rotate_left
     ·simp only [Act.put, List.setIfInBounds_toArray, List.set_cons_zero, List.set_cons_succ, zu, zt]
      rfl
     refine zx (i := 7) (N := some 20) (v := ?_) (a' := ?_) #[true, true, true, true, true, true, true, true, false, false, true, true, false, false, false] rfl rfl (zv HT_.out (by kernel_rfl)) (fun _ _ _ h => h) (Or.inl ⟨by rfl, ?_⟩) ?_ ?_
     rotate_left
     ·intro w'
      go_simp
      with_reducible rfl
     rotate_left
     ·simp only [Act.put, List.setIfInBounds_toArray, List.set_cons_zero, List.set_cons_succ, zu, zt]
      rfl
     refine zx (i := 8) (N := some 21) (v := ?_) (a' := ?_) #[true, true, true, true, true, true, true, true, true, false, true, true, false, false, false] rfl rfl (zv HT_.out (by kernel_rfl)) (fun _ _ _ h => h) (Or.inl ⟨by rfl, ?_⟩) ?_ ?_
     rotate_left
     ·intro w'
      go_simp
      with_reducible rfl
     rotate_left
     ·simp only [Act.put, List.setIfInBounds_toArray, List.set_cons_zero, List.set_cons_succ, zu, zt]
      rfl
     refine zx (i := 9) (N := some 22) (v := ?_) (a' := ?_) #[true, true, true, true, true, true, true, true, true, true, true, true, false, false, false] rfl rfl (zv HT_.out (by kernel_rfl)) (fun _ _ _ h => h) (Or.inl ⟨by rfl, ?_⟩) ?_ ?_
     rotate_left
     ·intro w'
      go_simp
      with_reducible rfl
     rotate_left
     ·simp only [Act.put, List.setIfInBounds_toArray, List.set_cons_zero, List.set_cons_succ, zu, zt]
      rfl
     exact zca (by first | (simp only [zy, Act.put, List.setIfInBounds_toArray, List.set_cons_zero, List.set_cons_succ]; done) | (simp only [zy, Act.put, List.setIfInBounds_toArray, List.set_cons_zero, List.set_cons_succ]; rfl)) (hJ2_4_5_10_11 (gb205, gb206) _ ⟨hHeld, (by (with_reducible repeat (first | refine ze ?_ _ | refine zf ?_ | refine za ?_ _)); exact BK186.out), (by (with_reducible repeat (first | refine ze ?_ _ | refine zf ?_ | refine za ?_ _)); exact BK187.out), (by (with_reducible repeat (first | refine ze ?_ _ | refine zf ?_ | refine za ?_ _)); exact BK205.out), (by (with_reducible repeat (first | refine ze ?_ _ | refine zf ?_ | refine za ?_ _)); exact BK206.out), GW205.out, GE205.out, NB186_205.out, NB205_186.out, NB187_205.out, NB205_187.out, NB206_205.out, NB205_206.out, GW206.out, GE206.out, NB186_206.out, NB206_186.out, NB187_206.out, NB206_187.out, (by repeat (first | (with_reducible first | exact HB.out | apply zl | apply zj | apply zk | refine zg ?_ GE186.out | refine zg ?_ GE187.out | refine zg ?_ GE205.out | refine zg ?_ GE206.out) | exact HB.out))⟩)
   ·skip
    rintro gb206 w22 ⟨hS_, h0_, h1_, h2_, h3_, h4_, h5_, h6_, h7_, h8_, h9_⟩
    have n0_ : zh (w22.heap[gb186]? = some (.cells #[.int .i64 a1_0, .int .i64 a1_1, .int .i64 a1_2, .int .i64 a1_3] 22 (0, 0))) := ⟨h0_⟩
    have n1_ : zh (w22.heap[gb187]? = some (.cells #[.int .i64 a2_0, .int .i64 a2_1, .int .i64 a2_2, .int .i64 a2_3] 22 (0, 0))) := ⟨h1_⟩
    have n2_ : zh (w22.heap[gb206]? = some (.cells #[.int .i64 0, .int .i64 0, .int .i64 0, .int .i64 0] 23 (0, 0))) := ⟨h2_⟩
    have n3_ : zh (w.heap.size ≤ gb206) := ⟨h3_⟩
    have n4_ : zh (w.heap.size ≤ gb206) := ⟨h4_⟩
    have n5_ : zh (gb186 ≠ gb206) := ⟨h5_⟩
    have n6_ : zh (gb206 ≠ gb186) := ⟨h6_⟩
    have n7_ : zh (gb187 ≠ gb206) := ⟨h7_⟩
    have n8_ : zh (gb206 ≠ gb187) := ⟨h8_⟩
    have n9_ : zh (Below w.heap.size w w22) := ⟨h9_⟩
    clear BK186
    clear BK187
    clear HB
    clear h0_ h1_ h2_ h3_ h4_ h5_ h6_ h7_ h8_ h9_
    have BK186 := n0_
    have BK187 := n1_
    have BK206 := n2_
    have GW206 := n3_
    have GE206 := n4_
    have NB186_206 := n5_
    have NB206_186 := n6_
    have NB187_206 := n7_
    have NB206_187 := n8_
    have HB := n9_
    clear n0_ n1_ n2_ n3_ n4_ n5_ n6_ n7_ n8_ n9_
    have hHeld : w22.cell? ⟨gb186, 0, none⟩ = some (.int .i64 a1_0) ∧ w22.cell? ⟨gb186, 1, none⟩ = some (.int .i64 a1_1) ∧ w22.cell? ⟨gb186, 2, none⟩ = some (.int .i64 a1_2) ∧ w22.cell? ⟨gb186, 3, none⟩ = some (.int .i64 a1_3) ∧ w22.cell? ⟨gb187, 0, none⟩ = some (.int .i64 a2_0) ∧ w22.cell? ⟨gb187, 1, none⟩ = some (.int .i64 a2_1) ∧ w22.cell? ⟨gb187, 2, none⟩ = some (.int .i64 a2_2) ∧ w22.cell? ⟨gb187, 3, none⟩ = some (.int .i64 a2_3) := hS_
    refine zca (a' := ?_) ?_ ?_
    rotate_left
    ·simp only [zy, Act.put, List.setIfInBounds_toArray, List.set_cons_zero, List.set_cons_succ]
     rfl
    refine one_ (i := 10) (N := some 7) #[true, true, true, true, true, true, true, true, true, true, true, true, false, false, false] rfl rfl (zia HT_.out (by kernel_rfl)) (by decide) (fun K hK => ?_)
    refine zha ?hg (N := 7) ?hd (cs := #[.int .i64 0, .int .i64 0, .int .i64 0, .int .i64 0]) (t := 23) ?hr ?_; (case hd => rfl); (case hg => rfl); (case hr => first | (go_simp; done) | (go_simp; rfl))
    intro gb205 hg w23 hbox hb
    have n0_ := zh.mk (zo (g := gb186) (o := .cells #[.int .i64 a1_0, .int .i64 a1_1, .int .i64 a1_2, .int .i64 a1_3] 22 (0, 0)) (by (with_reducible repeat (first | refine ze ?_ _ | refine zf ?_ | refine za ?_ _)); exact BK186.out) hb)
    have n1_ := zh.mk (zo (g := gb187) (o := .cells #[.int .i64 a2_0, .int .i64 a2_1, .int .i64 a2_2, .int .i64 a2_3] 22 (0, 0)) (by (with_reducible repeat (first | refine ze ?_ _ | refine zf ?_ | refine za ?_ _)); exact BK187.out) hb)
    have n2_ := zh.mk (zo (g := gb206) (o := .cells #[.int .i64 0, .int .i64 0, .int .i64 0, .int .i64 0] 23 (0, 0)) (by (with_reducible repeat (first | refine ze ?_ _ | refine zf ?_ | refine za ?_ _)); exact BK206.out) hb)
    have n3_ := zh.mk (zs (by repeat (first | (with_reducible first | exact HB.out | apply zl | apply zj | apply zk | refine zg ?_ GE186.out | refine zg ?_ GE187.out | refine zg ?_ GE206.out) | exact HB.out)) hb)
    have n4_ := zh.mk (hbox)
    have n5_ := zh.mk ((by rw [hg]; exact (zq (by repeat (first | (with_reducible first | exact HB.out | apply zl | apply zj | apply zk | refine zg ?_ GE186.out | refine zg ?_ GE187.out | refine zg ?_ GE206.out) | exact HB.out))) : w.heap.size ≤ gb205))
    have n6_ := zh.mk ((by rw [hg]; exact (zq (by repeat (first | (with_reducible first | exact HB.out | apply zl | apply zj | apply zk | refine zg ?_ GE186.out | refine zg ?_ GE187.out | refine zg ?_ GE206.out) | exact HB.out))) : w.heap.size ≤ gb205))
    have n7_ := zh.mk ((by rw [hg]; exact Nat.ne_of_lt (zr (g := gb186) (o := .cells #[.int .i64 a1_0, .int .i64 a1_1, .int .i64 a1_2, .int .i64 a1_3] 22 (0, 0)) (by (with_reducible repeat (first | refine ze ?_ _ | refine zf ?_ | refine za ?_ _)); exact BK186.out)) : gb186 ≠ gb205))
    have n8_ := zh.mk ((by rw [hg]; exact Nat.ne_of_gt (zr (g := gb186) (o := .cells #[.int .i64 a1_0, .int .i64 a1_1, .int .i64 a1_2, .int .i64 a1_3] 22 (0, 0)) (by (with_reducible repeat (first | refine ze ?_ _ | refine zf ?_ | refine za ?_ _)); exact BK186.out)) : gb205 ≠ gb186))
    have n9_ := zh.mk ((by rw [hg]; exact Nat.ne_of_lt (zr (g := gb187) (o := .cells #[.int .i64 a2_0, .int .i64 a2_1, .int .i64 a2_2, .int .i64 a2_3] 22 (0, 0)) (by (with_reducible repeat (first | refine ze ?_ _ | refine zf ?_ | refine za ?_ _)); exact BK187.out)) : gb187 ≠ gb205))
    have n10_ := zh.mk ((by rw [hg]; exact Nat.ne_of_gt (zr (g := gb187) (o := .cells #[.int .i64 a2_0, .int .i64 a2_1, .int .i64 a2_2, .int .i64 a2_3] 22 (0, 0)) (by (with_reducible repeat (first | refine ze ?_ _ | refine zf ?_ | refine za ?_ _)); exact BK187.out)) : gb205 ≠ gb187))
    have n11_ := zh.mk ((by rw [hg]; exact Nat.ne_of_lt (zr (g := gb206) (o := .cells #[.int .i64 0, .int .i64 0, .int .i64 0, .int .i64 0] 23 (0, 0)) (by (with_reducible repeat (first | refine ze ?_ _ | refine zf ?_ | refine za ?_ _)); exact BK206.out)) : gb206 ≠ gb205))
    have n12_ := zh.mk ((by rw [hg]; exact Nat.ne_of_gt (zr (g := gb206) (o := .cells #[.int .i64 0, .int .i64 0, .int .i64 0, .int .i64 0] 23 (0, 0)) (by (with_reducible repeat (first | refine ze ?_ _ | refine zf ?_ | refine za ?_ _)); exact BK206.out)) : gb205 ≠ gb206))
    clear BK186
    clear BK187
    clear BK206
    clear HB
    have BK186 := n0_
    have BK187 := n1_
    have BK206 := n2_
    have HB := n3_
    have BK205 := n4_
    have GW205 := n5_
    have GE205 := n6_
    have NB186_205 := n7_
    have NB205_186 := n8_
    have NB187_205 := n9_
    have NB205_187 := n10_
    have NB206_205 := n11_
    have NB205_206 := n12_
    clear n0_ n1_ n2_ n3_ n4_ n5_ n6_ n7_ n8_ n9_ n10_ n11_ n12_
    clear hb hbox hg
    refine hK.out _ _ ⟨(zi BK186.out 0).trans rfl, (zi BK186.out 1).trans rfl, (zi BK186.out 2).trans rfl, (zi BK186.out 3).trans rfl, (zi BK187.out 0).trans rfl, (zi BK187.out 1).trans rfl, (zi BK187.out 2).trans rfl, (zi BK187.out 3).trans rfl⟩ (fun hHeld => ?_)
    clear hK K
    refine zca (a' := ?_) ?_ ?_
    rotate_left
    ·show Act.put _ (some 7) _ = _
     simp only [Act.put, List.setIfInBounds_toArray, List.set_cons_zero, List.set_cons_succ, zu, zt]
     rfl
    exact zca (by first | (simp only [zy, Act.put, List.setIfInBounds_toArray, List.set_cons_zero, List.set_cons_succ]; done) | (simp only [zy, Act.put, List.setIfInBounds_toArray, List.set_cons_zero, List.set_cons_succ]; rfl)) (hJ2_4_5_10_11 (gb205, gb206) _ ⟨hHeld, (by (with_reducible repeat (first | refine ze ?_ _ | refine zf ?_ | refine za ?_ _)); exact BK186.out), (by (with_reducible repeat (first | refine ze ?_ _ | refine zf ?_ | refine za ?_ _)); exact BK187.out), (by (with_reducible repeat (first | refine ze ?_ _ | refine zf ?_ | refine za ?_ _)); exact BK205.out), (by (with_reducible repeat (first | refine ze ?_ _ | refine zf ?_ | refine za ?_ _)); exact BK206.out), GW205.out, GE205.out, NB186_205.out, NB205_186.out, NB187_205.out, NB205_187.out, NB206_205.out, NB205_206.out, GW206.out, GE206.out, NB186_206.out, NB206_186.out, NB187_206.out, NB206_187.out, (by repeat (first | (with_reducible first | exact HB.out | apply zl | apply zj | apply zk | refine zg ?_ GE186.out | refine zg ?_ GE187.out | refine zg ?_ GE206.out | refine zg ?_ GE205.out) | exact HB.out))⟩)
  ·skip
   rintro gb205 w22 ⟨hS_, h0_, h1_, h2_, h3_, h4_, h5_, h6_, h7_, h8_, h9_⟩
   have n0_ : zh (w22.heap[gb186]? = some (.cells #[.int .i64 a1_0, .int .i64 a1_1, .int .i64 a1_2, .int .i64 a1_3] 22 (0, 0))) := ⟨h0_⟩
   have n1_ : zh (w22.heap[gb187]? = some (.cells #[.int .i64 a2_0, .int .i64 a2_1, .int .i64 a2_2, .int .i64 a2_3] 22 (0, 0))) := ⟨h1_⟩
   have n2_ : zh (w22.heap[gb205]? = some (.cells #[.int .i64 0, .int .i64 0, .int .i64 0, .int .i64 0] 23 (0, 0))) := ⟨h2_⟩
   have n3_ : zh (w.heap.size ≤ gb205) := ⟨h3_⟩
   have n4_ : zh (w.heap.size ≤ gb205) := ⟨h4_⟩
   have n5_ : zh (gb186 ≠ gb205) := ⟨h5_⟩
   have n6_ : zh (gb205 ≠ gb186) := ⟨h6_⟩
   have n7_ : zh (gb187 ≠ gb205) := ⟨h7_⟩
   have n8_ : zh (gb205 ≠ gb187) := ⟨h8_⟩
   have n9_ : zh (Below w.heap.size w w22) := ⟨h9_⟩
   clear BK186
   clear BK187
   clear HB
   clear h0_ h1_ h2_ h3_ h4_ h5_ h6_ h7_ h8_ h9_
   have BK186 := n0_
   have BK187 := n1_
   have BK205 := n2_
   have GW205 := n3_
   have GE205 := n4_
   have NB186_205 := n5_
   have NB205_186 := n6_
   have NB187_205 := n7_
   have NB205_187 := n8_
   have HB := n9_
   clear n0_ n1_ n2_ n3_ n4_ n5_ n6_ n7_ n8_ n9_
   have hHeld : w22.cell? ⟨gb186, 0, none⟩ = some (.int .i64 a1_0) ∧ w22.cell? ⟨gb186, 1, none⟩ = some (.int .i64 a1_1) ∧ w22.cell? ⟨gb186, 2, none⟩ = some (.int .i64 a1_2) ∧ w22.cell? ⟨gb186, 3, none⟩ = some (.int .i64 a1_3) ∧ w22.cell? ⟨gb187, 0, none⟩ = some (.int .i64 a2_0) ∧ w22.cell? ⟨gb187, 1, none⟩ = some (.int .i64 a2_1) ∧ w22.cell? ⟨gb187, 2, none⟩ = some (.int .i64 a2_2) ∧ w22.cell? ⟨gb187, 3, none⟩ = some (.int .i64 a2_3) := hS_
   refine zca (a' := ?_) ?_ ?_
   rotate_left
   ·simp only [zy, Act.put, List.setIfInBounds_toArray, List.set_cons_zero, List.set_cons_succ]
    rfl
   refine one_ (i := 11) (N := some 8) #[true, true, true, true, true, true, true, true, true, true, true, true, false, false, false] rfl rfl (zia HT_.out (by kernel_rfl)) (by decide) (fun K hK => ?_)
   refine zha ?hg (N := 8) ?hd (cs := #[.int .i64 0, .int .i64 0, .int .i64 0, .int .i64 0]) (t := 23) ?hr ?_; (case hd => rfl); (case hg => rfl); (case hr => first | (go_simp; done) | (go_simp; rfl))
   intro gb206 hg w23 hbox hb
   have n0_ := zh.mk (zo (g := gb186) (o := .cells #[.int .i64 a1_0, .int .i64 a1_1, .int .i64 a1_2, .int .i64 a1_3] 22 (0, 0)) (by (with_reducible repeat (first | refine ze ?_ _ | refine zf ?_ | refine za ?_ _)); exact BK186.out) hb)
   have n1_ := zh.mk (zo (g := gb187) (o := .cells #[.int .i64 a2_0, .int .i64 a2_1, .int .i64 a2_2, .int .i64 a2_3] 22 (0, 0)) (by (with_reducible repeat (first | refine ze ?_ _ | refine zf ?_ | refine za ?_ _)); exact BK187.out) hb)
   have n2_ := zh.mk (zo (g := gb205) (o := .cells #[.int .i64 0, .int .i64 0, .int .i64 0, .int .i64 0] 23 (0, 0)) (by (with_reducible repeat (first | refine ze ?_ _ | refine zf ?_ | refine za ?_ _)); exact BK205.out) hb)
   have n3_ := zh.mk (zs (by repeat (first | (with_reducible first | exact HB.out | apply zl | apply zj | apply zk | refine zg ?_ GE186.out | refine zg ?_ GE187.out | refine zg ?_ GE205.out) | exact HB.out)) hb)
   have n4_ := zh.mk (hbox)
   have n5_ := zh.mk ((by rw [hg]; exact (zq (by repeat (first | (with_reducible first | exact HB.out | apply zl | apply zj | apply zk | refine zg ?_ GE186.out | refine zg ?_ GE187.out | refine zg ?_ GE205.out) | exact HB.out))) : w.heap.size ≤ gb206))
   have n6_ := zh.mk ((by rw [hg]; exact (zq (by repeat (first | (with_reducible first | exact HB.out | apply zl | apply zj | apply zk | refine zg ?_ GE186.out | refine zg ?_ GE187.out | refine zg ?_ GE205.out) | exact HB.out))) : w.heap.size ≤ gb206))
   have n7_ := zh.mk ((by rw [hg]; exact Nat.ne_of_lt (zr (g := gb186) (o := .cells #[.int .i64 a1_0, .int .i64 a1_1, .int .i64 a1_2, .int .i64 a1_3] 22 (0, 0)) (by (with_reducible repeat (first | refine ze ?_ _ | refine zf ?_ | refine za ?_ _)); exact BK186.out)) : gb186 ≠ gb206))
   have n8_ := zh.mk ((by rw [hg]; exact Nat.ne_of_gt (zr (g := gb186) (o := .cells #[.int .i64 a1_0, .int .i64 a1_1, .int .i64 a1_2, .int .i64 a1_3] 22 (0, 0)) (by (with_reducible repeat (first | refine ze ?_ _ | refine zf ?_ | refine za ?_ _)); exact BK186.out)) : gb206 ≠ gb186))
   have n9_ := zh.mk ((by rw [hg]; exact Nat.ne_of_lt (zr (g := gb187) (o := .cells #[.int .i64 a2_0, .int .i64 a2_1, .int .i64 a2_2, .int .i64 a2_3] 22 (0, 0)) (by (with_reducible repeat (first | refine ze ?_ _ | refine zf ?_ | refine za ?_ _)); exact BK187.out)) : gb187 ≠ gb206))
   have n10_ := zh.mk ((by rw [hg]; exact Nat.ne_of_gt (zr (g := gb187) (o := .cells #[.int .i64 a2_0, .int .i64 a2_1, .int .i64 a2_2, .int .i64 a2_3] 22 (0, 0)) (by (with_reducible repeat (first | refine ze ?_ _ | refine zf ?_ | refine za ?_ _)); exact BK187.out)) : gb206 ≠ gb187))
   have n11_ := zh.mk ((by rw [hg]; exact Nat.ne_of_lt (zr (g := gb205) (o := .cells #[.int .i64 0, .int .i64 0, .int .i64 0, .int .i64 0] 23 (0, 0)) (by (with_reducible repeat (first | refine ze ?_ _ | refine zf ?_ | refine za ?_ _)); exact BK205.out)) : gb205 ≠ gb206))
   have n12_ := zh.mk ((by rw [hg]; exact Nat.ne_of_gt (zr (g := gb205) (o := .cells #[.int .i64 0, .int .i64 0, .int .i64 0, .int .i64 0] 23 (0, 0)) (by (with_reducible repeat (first | refine ze ?_ _ | refine zf ?_ | refine za ?_ _)); exact BK205.out)) : gb206 ≠ gb205))
   clear BK186
   clear BK187
   clear BK205
   clear HB
   have BK186 := n0_
   have BK187 := n1_
   have BK205 := n2_
   have HB := n3_
   have BK206 := n4_
   have GW206 := n5_
   have GE206 := n6_
   have NB186_206 := n7_
   have NB206_186 := n8_
   have NB187_206 := n9_
   have NB206_187 := n10_
   have NB205_206 := n11_
   have NB206_205 := n12_
   clear n0_ n1_ n2_ n3_ n4_ n5_ n6_ n7_ n8_ n9_ n10_ n11_ n12_
   clear hb hbox hg
   refine hK.out _ _ ⟨(zi BK186.out 0).trans rfl, (zi BK186.out 1).trans rfl, (zi BK186.out 2).trans rfl, (zi BK186.out 3).trans rfl, (zi BK187.out 0).trans rfl, (zi BK187.out 1).trans rfl, (zi BK187.out 2).trans rfl, (zi BK187.out 3).trans rfl⟩ (fun hHeld => ?_)
   clear hK K
   refine zca (a' := ?_) ?_ ?_
   rotate_left
   ·show Act.put _ (some 8) _ = _
    simp only [Act.put, List.setIfInBounds_toArray, List.set_cons_zero, List.set_cons_succ, zu, zt]
    rfl
   exact zca (by first | (simp only [zy, Act.put, List.setIfInBounds_toArray, List.set_cons_zero, List.set_cons_succ]; done) | (simp only [zy, Act.put, List.setIfInBounds_toArray, List.set_cons_zero, List.set_cons_succ]; rfl)) (hJ2_4_5_10_11 (gb205, gb206) _ ⟨hHeld, (by (with_reducible repeat (first | refine ze ?_ _ | refine zf ?_ | refine za ?_ _)); exact BK186.out), (by (with_reducible repeat (first | refine ze ?_ _ | refine zf ?_ | refine za ?_ _)); exact BK187.out), (by (with_reducible repeat (first | refine ze ?_ _ | refine zf ?_ | refine za ?_ _)); exact BK205.out), (by (with_reducible repeat (first | refine ze ?_ _ | refine zf ?_ | refine za ?_ _)); exact BK206.out), GW205.out, GE205.out, NB186_205.out, NB205_186.out, NB187_205.out, NB205_187.out, NB206_205.out, NB205_206.out, GW206.out, GE206.out, NB186_206.out, NB206_186.out, NB187_206.out, NB206_187.out, (by repeat (first | (with_reducible first | exact HB.out | apply zl | apply zj | apply zk | refine zg ?_ GE186.out | refine zg ?_ GE187.out | refine zg ?_ GE205.out | refine zg ?_ GE206.out) | exact HB.out))⟩)
 rintro ⟨gb205, gb206⟩ w23 ⟨hS_, h0_, h1_, h2_, h3_, h4_, h5_, h6_, h7_, h8_, h9_, h10_, h11_, h12_, h13_, h14_, h15_, h16_, h17_, h18_⟩
 have n0_ : zh (w23.heap[gb186]? = some (.cells #[.int .i64 a1_0, .int .i64 a1_1, .int .i64 a1_2, .int .i64 a1_3] 22 (0, 0))) := ⟨h0_⟩
 have n1_ : zh (w23.heap[gb187]? = some (.cells #[.int .i64 a2_0, .int .i64 a2_1, .int .i64 a2_2, .int .i64 a2_3] 22 (0, 0))) := ⟨h1_⟩
 have n2_ : zh (w23.heap[gb205]? = some (.cells #[.int .i64 0, .int .i64 0, .int .i64 0, .int .i64 0] 23 (0, 0))) := ⟨h2_⟩
 have n3_ : zh (w23.heap[gb206]? = some (.cells #[.int .i64 0, .int .i64 0, .int .i64 0, .int .i64 0] 23 (0, 0))) := ⟨h3_⟩
 have n4_ : zh (w.heap.size ≤ gb205) := ⟨h4_⟩
 have n5_ : zh (w.heap.size ≤ gb205) := ⟨h5_⟩
 have n6_ : zh (gb186 ≠ gb205) := ⟨h6_⟩
 have n7_ : zh (gb205 ≠ gb186) := ⟨h7_⟩
 have n8_ : zh (gb187 ≠ gb205) := ⟨h8_⟩
 have n9_ : zh (gb205 ≠ gb187) := ⟨h9_⟩
 have n10_ : zh (gb206 ≠ gb205) := ⟨h10_⟩
 have n11_ : zh (gb205 ≠ gb206) := ⟨h11_⟩
 have n12_ : zh (w.heap.size ≤ gb206) := ⟨h12_⟩
 have n13_ : zh (w.heap.size ≤ gb206) := ⟨h13_⟩
 have n14_ : zh (gb186 ≠ gb206) := ⟨h14_⟩
 have n15_ : zh (gb206 ≠ gb186) := ⟨h15_⟩
 have n16_ : zh (gb187 ≠ gb206) := ⟨h16_⟩
 have n17_ : zh (gb206 ≠ gb187) := ⟨h17_⟩
 have n18_ : zh (Below w.heap.size w w23) := ⟨h18_⟩
 clear BK186
 clear BK187
 clear HB
 clear h0_ h1_ h2_ h3_ h4_ h5_ h6_ h7_ h8_ h9_ h10_ h11_ h12_ h13_ h14_ h15_ h16_ h17_ h18_
 have BK186 := n0_
 have BK187 := n1_
 have BK205 := n2_
 have BK206 := n3_
 have GW205 := n4_
 have GE205 := n5_
 have NB186_205 := n6_
 have NB205_186 := n7_
 have NB187_205 := n8_
 have NB205_187 := n9_
 have NB206_205 := n10_
 have NB205_206 := n11_
 have GW206 := n12_
 have GE206 := n13_
 have NB186_206 := n14_
 have NB206_186 := n15_
 have NB187_206 := n16_
 have NB206_187 := n17_
 have HB := n18_
 clear n0_ n1_ n2_ n3_ n4_ n5_ n6_ n7_ n8_ n9_ n10_ n11_ n12_ n13_ n14_ n15_ n16_ n17_ n18_
 have hHeld : w23.cell? ⟨gb186, 0, none⟩ = some (.int .i64 a1_0) ∧ w23.cell? ⟨gb186, 1, none⟩ = some (.int .i64 a1_1) ∧ w23.cell? ⟨gb186, 2, none⟩ = some (.int .i64 a1_2) ∧ w23.cell? ⟨gb186, 3, none⟩ = some (.int .i64 a1_3) ∧ w23.cell? ⟨gb187, 0, none⟩ = some (.int .i64 a2_0) ∧ w23.cell? ⟨gb187, 1, none⟩ = some (.int .i64 a2_1) ∧ w23.cell? ⟨gb187, 2, none⟩ = some (.int .i64 a2_2) ∧ w23.cell? ⟨gb187, 3, none⟩ = some (.int .i64 a2_3) := hS_
 refine zca (a' := ?_) ?_ ?_
 rotate_left
 ·simp only [zy, Act.put, List.setIfInBounds_toArray, List.set_cons_zero, List.set_cons_succ]
  rfl
 refine one_ (i := 12) (N := none) #[true, true, true, true, true, true, true, true, true, true, true, true, true, false, false] rfl rfl (zia HT_.out (by kernel_rfl)) (by decide) (fun K hK => ?_)
 have hs24 : w23.cell? ⟨gb205, 0, none⟩ = some (.int .i64 0) := (zi BK205.out 0).trans rfl
 have hfs24 := zm BK205.out 0
 have hns24_0 := NB186_205.out
 have hns24_1 := NB187_205.out
 have hns24_3 := NB206_205.out
 have hms24_0 := NB205_186.out
 have hms24_1 := NB205_187.out
 have hms24_3 := NB205_206.out
 have hs25 : w23.cell? ⟨gb205, 1, none⟩ = some (.int .i64 0) := (zi BK205.out 1).trans rfl
 have hfs25 := zm BK205.out 1
 have hns25_0 := NB186_205.out
 have hns25_1 := NB187_205.out
 have hns25_3 := NB206_205.out
 have hms25_0 := NB205_186.out
 have hms25_1 := NB205_187.out
 have hms25_3 := NB205_206.out
 have hs26 : w23.cell? ⟨gb205, 2, none⟩ = some (.int .i64 0) := (zi BK205.out 2).trans rfl
 have hfs26 := zm BK205.out 2
 have hns26_0 := NB186_205.out
 have hns26_1 := NB187_205.out
 have hns26_3 := NB206_205.out
 have hms26_0 := NB205_186.out
 have hms26_1 := NB205_187.out
 have hms26_3 := NB205_206.out
 have hs27 : w23.cell? ⟨gb205, 3, none⟩ = some (.int .i64 0) := (zi BK205.out 3).trans rfl
 have hfs27 := zm BK205.out 3
 have hns27_0 := NB186_205.out
 have hns27_1 := NB187_205.out
 have hns27_3 := NB206_205.out
 have hms27_0 := NB205_186.out
 have hms27_1 := NB205_187.out
 have hms27_3 := NB205_206.out
 refine zma (w1 := ?_) (by rfl) rfl ?_ ?_
 rotate_left
 ·go_simp
  rfl
 refine hK.out _ _ ⟨((zn (p := ⟨gb205, _, none⟩) NB186_205.out _).trans (((zn (p := ⟨gb205, _, none⟩) NB186_205.out _).trans (((zn (p := ⟨gb205, _, none⟩) NB186_205.out _).trans (((zn (p := ⟨gb205, _, none⟩) NB186_205.out _).trans (hHeld.1)))))))), ((zn (p := ⟨gb205, _, none⟩) NB186_205.out _).trans (((zn (p := ⟨gb205, _, none⟩) NB186_205.out _).trans (((zn (p := ⟨gb205, _, none⟩) NB186_205.out _).trans (((zn (p := ⟨gb205, _, none⟩) NB186_205.out _).trans (hHeld.2.1)))))))), ((zn (p := ⟨gb205, _, none⟩) NB186_205.out _).trans (((zn (p := ⟨gb205, _, none⟩) NB186_205.out _).trans (((zn (p := ⟨gb205, _, none⟩) NB186_205.out _).trans (((zn (p := ⟨gb205, _, none⟩) NB186_205.out _).trans (hHeld.2.2.1)))))))), ((zn (p := ⟨gb205, _, none⟩) NB186_205.out _).trans (((zn (p := ⟨gb205, _, none⟩) NB186_205.out _).trans (((zn (p := ⟨gb205, _, none⟩) NB186_205.out _).trans (((zn (p := ⟨gb205, _, none⟩) NB186_205.out _).trans (hHeld.2.2.2.1)))))))), ((zn (p := ⟨gb205, _, none⟩) NB187_205.out _).trans (((zn (p := ⟨gb205, _, none⟩) NB187_205.out _).trans (((zn (p := ⟨gb205, _, none⟩) NB187_205.out _).trans (((zn (p := ⟨gb205, _, none⟩) NB187_205.out _).trans (hHeld.2.2.2.2.1)))))))), ((zn (p := ⟨gb205, _, none⟩) NB187_205.out _).trans (((zn (p := ⟨gb205, _, none⟩) NB187_205.out _).trans (((zn (p := ⟨gb205, _, none⟩) NB187_205.out _).trans (((zn (p := ⟨gb205, _, none⟩) NB187_205.out _).trans (hHeld.2.2.2.2.2.1)))))))), ((zn (p := ⟨gb205, _, none⟩) NB187_205.out _).trans (((zn (p := ⟨gb205, _, none⟩) NB187_205.out _).trans (((zn (p := ⟨gb205, _, none⟩) NB187_205.out _).trans (((zn (p := ⟨gb205, _, none⟩) NB187_205.out _).trans (hHeld.2.2.2.2.2.2.1)))))))), ((zn (p := ⟨gb205, _, none⟩) NB187_205.out _).trans (((zn (p := ⟨gb205, _, none⟩) NB187_205.out _).trans (((zn (p := ⟨gb205, _, none⟩) NB187_205.out _).trans (((zn (p := ⟨gb205, _, none⟩) NB187_205.out _).trans (hHeld.2.2.2.2.2.2.2))))))))⟩ (fun hHeld => ?_)
 clear hK K
 refine one_ (i := 13) (N := none) #[true, true, true, true, true, true, true, true, true, true, true, true, true, true, false] rfl rfl (zia HT_.out (by kernel_rfl)) (by decide) (fun K hK => ?_)
 have hs28 : w23.cell? ⟨gb206, 0, none⟩ = some (.int .i64 0) := (zi BK206.out 0).trans rfl
 have hfs28 := zm BK206.out 0
 have hns28_0 := NB186_206.out
 have hns28_1 := NB187_206.out
 have hns28_2 := NB205_206.out
 have hms28_0 := NB206_186.out
 have hms28_1 := NB206_187.out
 have hms28_2 := NB206_205.out
 have hs29 : w23.cell? ⟨gb206, 1, none⟩ = some (.int .i64 0) := (zi BK206.out 1).trans rfl
 have hfs29 := zm BK206.out 1
 have hns29_0 := NB186_206.out
 have hns29_1 := NB187_206.out
 have hns29_2 := NB205_206.out
 have hms29_0 := NB206_186.out
 have hms29_1 := NB206_187.out
 have hms29_2 := NB206_205.out
 have hs30 : w23.cell? ⟨gb206, 2, none⟩ = some (.int .i64 0) := (zi BK206.out 2).trans rfl
 have hfs30 := zm BK206.out 2
 have hns30_0 := NB186_206.out
 have hns30_1 := NB187_206.out
 have hns30_2 := NB205_206.out
 have hms30_0 := NB206_186.out
 have hms30_1 := NB206_187.out
 have hms30_2 := NB206_205.out
 have hs31 : w23.cell? ⟨gb206, 3, none⟩ = some (.int .i64 0) := (zi BK206.out 3).trans rfl
 have hfs31 := zm BK206.out 3
 have hns31_0 := NB186_206.out
 have hns31_1 := NB187_206.out
 have hns31_2 := NB205_206.out
 have hms31_0 := NB206_186.out
 have hms31_1 := NB206_187.out
 have hms31_2 := NB206_205.out
 refine zma (w1 := ?_) (by rfl) rfl ?_ ?_
 rotate_left
 ·go_simp
  rfl
 refine hK.out _ _ ⟨((zn (p := ⟨gb206, _, none⟩) NB186_206.out _).trans (((zn (p := ⟨gb206, _, none⟩) NB186_206.out _).trans (((zn (p := ⟨gb206, _, none⟩) NB186_206.out _).trans (((zn (p := ⟨gb206, _, none⟩) NB186_206.out _).trans (hHeld.1)))))))), ((zn (p := ⟨gb206, _, none⟩) NB186_206.out _).trans (((zn (p := ⟨gb206, _, none⟩) NB186_206.out _).trans (((zn (p := ⟨gb206, _, none⟩) NB186_206.out _).trans (((zn (p := ⟨gb206, _, none⟩) NB186_206.out _).trans (hHeld.2.1)))))))), ((zn (p := ⟨gb206, _, none⟩) NB186_206.out _).trans (((zn (p := ⟨gb206, _, none⟩) NB186_206.out _).trans (((zn (p := ⟨gb206, _, none⟩) NB186_206.out _).trans (((zn (p := ⟨gb206, _, none⟩) NB186_206.out _).trans (hHeld.2.2.1)))))))), ((zn (p := ⟨gb206, _, none⟩) NB186_206.out _).trans (((zn (p := ⟨gb206, _, none⟩) NB186_206.out _).trans (((zn (p := ⟨gb206, _, none⟩) NB186_206.out _).trans (((zn (p := ⟨gb206, _, none⟩) NB186_206.out _).trans (hHeld.2.2.2.1)))))))), ((zn (p := ⟨gb206, _, none⟩) NB187_206.out _).trans (((zn (p := ⟨gb206, _, none⟩) NB187_206.out _).trans (((zn (p := ⟨gb206, _, none⟩) NB187_206.out _).trans (((zn (p := ⟨gb206, _, none⟩) NB187_206.out _).trans (hHeld.2.2.2.2.1)))))))), ((zn (p := ⟨gb206, _, none⟩) NB187_206.out _).trans (((zn (p := ⟨gb206, _, none⟩) NB187_206.out _).trans (((zn (p := ⟨gb206, _, none⟩) NB187_206.out _).trans (((zn (p := ⟨gb206, _, none⟩) NB187_206.out _).trans (hHeld.2.2.2.2.2.1)))))))), ((zn (p := ⟨gb206, _, none⟩) NB187_206.out _).trans (((zn (p := ⟨gb206, _, none⟩) NB187_206.out _).trans (((zn (p := ⟨gb206, _, none⟩) NB187_206.out _).trans (((zn (p := ⟨gb206, _, none⟩) NB187_206.out _).trans (hHeld.2.2.2.2.2.2.1)))))))), ((zn (p := ⟨gb206, _, none⟩) NB187_206.out _).trans (((zn (p := ⟨gb206, _, none⟩) NB187_206.out _).trans (((zn (p := ⟨gb206, _, none⟩) NB187_206.out _).trans (((zn (p := ⟨gb206, _, none⟩) NB187_206.out _).trans (hHeld.2.2.2.2.2.2.2))))))))⟩ (fun hHeld => ?_)
 clear hK K
 refine zx (i := 14) (N := some 9) (v := ?_) (a' := ?_) #[true, true, true, true, true, true, true, true, true, true, true, true, true, true, true] rfl rfl (zv HT_.out (by kernel_rfl)) (fun _ _ _ h => h) (Or.inl ⟨by rfl, ?_⟩) ?_ ?_
 rotate_left
 ·intro w'
  go_simp
  with_reducible rfl
 rotate_left
 ·simp only [Act.put, List.setIfInBounds_toArray, List.set_cons_zero, List.set_cons_succ, zu, zt]
  rfl
 refine zqa (zja HT_.out (by kernel_rfl)) ?_
 show K _ _
 have n0_ : zh (((((((((w23.setCell ⟨gb205, 0, none⟩ (.int .i64 t196)).setCell ⟨gb205, 1, none⟩ (.int .i64 t197)).setCell ⟨gb205, 2, none⟩ (.int .i64 t198)).setCell ⟨gb205, 3, none⟩ (.int .i64 t199)).setCell ⟨gb206, 0, none⟩ (.int .i64 t200)).setCell ⟨gb206, 1, none⟩ (.int .i64 t201)).setCell ⟨gb206, 2, none⟩ (.int .i64 t202)).setCell ⟨gb206, 3, none⟩ (.int .i64 t203)).heap[gb186]? = some (.cells #[.int .i64 a1_0, .int .i64 a1_1, .int .i64 a1_2, .int .i64 a1_3] 22 (0, 0))) := ⟨by (with_reducible repeat (first | refine ze ?_ _ | refine zf ?_ | refine za ?_ _)); refine zp ?_ NB186_206.out _; (with_reducible repeat (first | refine ze ?_ _ | refine zf ?_ | refine za ?_ _)); refine zp ?_ NB186_206.out _; (with_reducible repeat (first | refine ze ?_ _ | refine zf ?_ | refine za ?_ _)); refine zp ?_ NB186_206.out _; (with_reducible repeat (first | refine ze ?_ _ | refine zf ?_ | refine za ?_ _)); refine zp ?_ NB186_206.out _; (with_reducible repeat (first | refine ze ?_ _ | refine zf ?_ | refine za ?_ _)); refine zp ?_ NB186_205.out _; (with_reducible repeat (first | refine ze ?_ _ | refine zf ?_ | refine za ?_ _)); refine zp ?_ NB186_205.out _; (with_reducible repeat (first | refine ze ?_ _ | refine zf ?_ | refine za ?_ _)); refine zp ?_ NB186_205.out _; (with_reducible repeat (first | refine ze ?_ _ | refine zf ?_ | refine za ?_ _)); refine zp ?_ NB186_205.out _; (with_reducible repeat (first | refine ze ?_ _ | refine zf ?_ | refine za ?_ _)); exact BK186.out⟩
 have n1_ : zh (((((((((w23.setCell ⟨gb205, 0, none⟩ (.int .i64 t196)).setCell ⟨gb205, 1, none⟩ (.int .i64 t197)).setCell ⟨gb205, 2, none⟩ (.int .i64 t198)).setCell ⟨gb205, 3, none⟩ (.int .i64 t199)).setCell ⟨gb206, 0, none⟩ (.int .i64 t200)).setCell ⟨gb206, 1, none⟩ (.int .i64 t201)).setCell ⟨gb206, 2, none⟩ (.int .i64 t202)).setCell ⟨gb206, 3, none⟩ (.int .i64 t203)).heap[gb187]? = some (.cells #[.int .i64 a2_0, .int .i64 a2_1, .int .i64 a2_2, .int .i64 a2_3] 22 (0, 0))) := ⟨by (with_reducible repeat (first | refine ze ?_ _ | refine zf ?_ | refine za ?_ _)); refine zp ?_ NB187_206.out _; (with_reducible repeat (first | refine ze ?_ _ | refine zf ?_ | refine za ?_ _)); refine zp ?_ NB187_206.out _; (with_reducible repeat (first | refine ze ?_ _ | refine zf ?_ | refine za ?_ _)); refine zp ?_ NB187_206.out _; (with_reducible repeat (first | refine ze ?_ _ | refine zf ?_ | refine za ?_ _)); refine zp ?_ NB187_206.out _; (with_reducible repeat (first | refine ze ?_ _ | refine zf ?_ | refine za ?_ _)); refine zp ?_ NB187_205.out _; (with_reducible repeat (first | refine ze ?_ _ | refine zf ?_ | refine za ?_ _)); refine zp ?_ NB187_205.out _; (with_reducible repeat (first | refine ze ?_ _ | refine zf ?_ | refine za ?_ _)); refine zp ?_ NB187_205.out _; (with_reducible repeat (first | refine ze ?_ _ | refine zf ?_ | refine za ?_ _)); refine zp ?_ NB187_205.out _; (with_reducible repeat (first | refine ze ?_ _ | refine zf ?_ | refine za ?_ _)); exact BK187.out⟩
 have n2_ : zh (((((((((w23.setCell ⟨gb205, 0, none⟩ (.int .i64 t196)).setCell ⟨gb205, 1, none⟩ (.int .i64 t197)).setCell ⟨gb205, 2, none⟩ (.int .i64 t198)).setCell ⟨gb205, 3, none⟩ (.int .i64 t199)).setCell ⟨gb206, 0, none⟩ (.int .i64 t200)).setCell ⟨gb206, 1, none⟩ (.int .i64 t201)).setCell ⟨gb206, 2, none⟩ (.int .i64 t202)).setCell ⟨gb206, 3, none⟩ (.int .i64 t203)).heap[gb205]? = some (.cells #[.int .i64 t196, .int .i64 t197, .int .i64 t198, .int .i64 t199] 23 (0, 0))) := ⟨by (with_reducible repeat (first | refine ze ?_ _ | refine zf ?_ | refine za ?_ _)); refine zp ?_ NB205_206.out _; (with_reducible repeat (first | refine ze ?_ _ | refine zf ?_ | refine za ?_ _)); refine zp ?_ NB205_206.out _; (with_reducible repeat (first | refine ze ?_ _ | refine zf ?_ | refine za ?_ _)); refine zp ?_ NB205_206.out _; (with_reducible repeat (first | refine ze ?_ _ | refine zf ?_ | refine za ?_ _)); refine zp ?_ NB205_206.out _; (with_reducible repeat (first | refine ze ?_ _ | refine zf ?_ | refine za ?_ _)); refine zw (cs := #[.int .i64 t196, .int .i64 t197, .int .i64 t198, .int .i64 0]) ?_ 3 _ rfl; (with_reducible repeat (first | refine ze ?_ _ | refine zf ?_ | refine za ?_ _)); refine zw (cs := #[.int .i64 t196, .int .i64 t197, .int .i64 0, .int .i64 0]) ?_ 2 _ rfl; (with_reducible repeat (first | refine ze ?_ _ | refine zf ?_ | refine za ?_ _)); refine zw (cs := #[.int .i64 t196, .int .i64 0, .int .i64 0, .int .i64 0]) ?_ 1 _ rfl; (with_reducible repeat (first | refine ze ?_ _ | refine zf ?_ | refine za ?_ _)); refine zw (cs := #[.int .i64 0, .int .i64 0, .int .i64 0, .int .i64 0]) ?_ 0 _ rfl; (with_reducible repeat (first | refine ze ?_ _ | refine zf ?_ | refine za ?_ _)); exact BK205.out⟩
 have n3_ : zh (((((((((w23.setCell ⟨gb205, 0, none⟩ (.int .i64 t196)).setCell ⟨gb205, 1, none⟩ (.int .i64 t197)).setCell ⟨gb205, 2, none⟩ (.int .i64 t198)).setCell ⟨gb205, 3, none⟩ (.int .i64 t199)).setCell ⟨gb206, 0, none⟩ (.int .i64 t200)).setCell ⟨gb206, 1, none⟩ (.int .i64 t201)).setCell ⟨gb206, 2, none⟩ (.int .i64 t202)).setCell ⟨gb206, 3, none⟩ (.int .i64 t203)).heap[gb206]? = some (.cells #[.int .i64 t200, .int .i64 t201, .int .i64 t202, .int .i64 t203] 23 (0, 0))) := ⟨by (with_reducible repeat (first | refine ze ?_ _ | refine zf ?_ | refine za ?_ _)); refine zw (cs := #[.int .i64 t200, .int .i64 t201, .int .i64 t202, .int .i64 0]) ?_ 3 _ rfl; (with_reducible repeat (first | refine ze ?_ _ | refine zf ?_ | refine za ?_ _)); refine zw (cs := #[.int .i64 t200, .int .i64 t201, .int .i64 0, .int .i64 0]) ?_ 2 _ rfl; (with_reducible repeat (first | refine ze ?_ _ | refine zf ?_ | refine za ?_ _)); refine zw (cs := #[.int .i64 t200, .int .i64 0, .int .i64 0, .int .i64 0]) ?_ 1 _ rfl; (with_reducible repeat (first | refine ze ?_ _ | refine zf ?_ | refine za ?_ _)); refine zw (cs := #[.int .i64 0, .int .i64 0, .int .i64 0, .int .i64 0]) ?_ 0 _ rfl; (with_reducible repeat (first | refine ze ?_ _ | refine zf ?_ | refine za ?_ _)); refine zp ?_ NB206_205.out _; (with_reducible repeat (first | refine ze ?_ _ | refine zf ?_ | refine za ?_ _)); refine zp ?_ NB206_205.out _; (with_reducible repeat (first | refine ze ?_ _ | refine zf ?_ | refine za ?_ _)); refine zp ?_ NB206_205.out _; (with_reducible repeat (first | refine ze ?_ _ | refine zf ?_ | refine za ?_ _)); refine zp ?_ NB206_205.out _; (with_reducible repeat (first | refine ze ?_ _ | refine zf ?_ | refine za ?_ _)); exact BK206.out⟩
 have n4_ : zh (Below w.heap.size w ((((((((w23.setCell ⟨gb205, 0, none⟩ (.int .i64 t196)).setCell ⟨gb205, 1, none⟩ (.int .i64 t197)).setCell ⟨gb205, 2, none⟩ (.int .i64 t198)).setCell ⟨gb205, 3, none⟩ (.int .i64 t199)).setCell ⟨gb206, 0, none⟩ (.int .i64 t200)).setCell ⟨gb206, 1, none⟩ (.int .i64 t201)).setCell ⟨gb206, 2, none⟩ (.int .i64 t202)).setCell ⟨gb206, 3, none⟩ (.int .i64 t203))) := ⟨by repeat (first | (with_reducible first | exact HB.out | apply zl | apply zj | apply zk | refine zg ?_ GE186.out | refine zg ?_ GE187.out | refine zg ?_ GE205.out | refine zg ?_ GE206.out) | exact HB.out)⟩
 (try clear BK186)
 (try clear BK187)
 (try clear BK205)
 (try clear BK206)
 (try clear HB)
 generalize ((((((((w23.setCell ⟨gb205, 0, none⟩ (.int .i64 t196)).setCell ⟨gb205, 1, none⟩ (.int .i64 t197)).setCell ⟨gb205, 2, none⟩ (.int .i64 t198)).setCell ⟨gb205, 3, none⟩ (.int .i64 t199)).setCell ⟨gb206, 0, none⟩ (.int .i64 t200)).setCell ⟨gb206, 1, none⟩ (.int .i64 t201)).setCell ⟨gb206, 2, none⟩ (.int .i64 t202)).setCell ⟨gb206, 3, none⟩ (.int .i64 t203)) = w32 at n0_ n1_ n2_ n3_ n4_ ⊢
 have BK186 := n0_
 have BK187 := n1_
 have BK205 := n2_
 have BK206 := n3_
 have HB := n4_
 clear n0_ n1_ n2_ n3_ n4_
 exact hEnd gb205 gb206 _ BK186 BK187 BK205 BK206 GW205 GE205 GW206 GE206 NB186_205 NB186_206 NB187_205 NB187_206 NB205_186 NB205_187 NB205_206 NB206_186 NB206_187 NB206_205 HB
end Go.Proofs.Ytidblojobcgkjaa.M
