-- Written by wip/tools/myprint.py, a program of this session, by way of the kit's print.
import Derived.Test.YtidblojobcgkjaaMx0
import Derived.Test.YtidblojobcgkjaaMx4
import Derived.Test.YtidblojobcgkjaaMx5
import Derived.Test.YtidblojobcgkjaaMx8
import Derived.Test.YtidblojobcgkjaaMx9
import Derived.Test.YtidblojobcgkjaaLRegA
namespace Go.Proofs.Ytidblojobcgkjaa.M
open Go.RowKit Go.Proofs.YtidblojobcgkjaaW.PrintWords Go.Proofs.YtidblojobcgkjaaW.PrintLast Go.Proofs.YtidblojobcgkjaaW.PrintMore
attribute [local go_sem] max2_int min2_int max_two min_two zpa zoa max_four min_four   -- for this text's walks alone
set_option linter.unusedVariables false
set_option linter.unusedSimpArgs false

set_option maxHeartbeats 8000000 in
set_option maxRecDepth 100000 in
theorem laws_FnExactSplitState.reg2 (k : Nat) (a0 a1_0 a1_1 a1_2 a1_3 a2_0 a2_1 a2_2 a2_3 t188 t189 t190 t191 t192 t193 t194 t195 t196 t197 t198 t199 t200 t201 t202 t203 t204 t207 t208 t209 t210 t211 t212 t213 t214 t215 t216 t217 t218 t219 t220 t221 t222 t223 : Int) (w w32 : World) (g1 g2 g3 g4 : Nat) (A7 : zh (laws_toState.f k a1_0 a1_1 a1_2 a1_3 = some (t207, t208, t209, t210))) (A8 : zh (laws_toState.f k a2_0 a2_1 a2_2 a2_3 = some (t211, t212, t213, t214))) (A9 : zh (impl_SplitState.f k a0 t207 t208 t209 t210 t211 t212 t213 t214 = some (t215, t216, t217, t218, t219, t220, t221, t222, t223))) (BK1 : zh (w32.drew.heap[g1]? = some (.cells #[.int .i64 a1_0, .int .i64 a1_1, .int .i64 a1_2, .int .i64 a1_3] 22 (0, 0)))) (BK2 : zh (w32.drew.heap[g2]? = some (.cells #[.int .i64 a2_0, .int .i64 a2_1, .int .i64 a2_2, .int .i64 a2_3] 22 (0, 0)))) (BK3 : zh (w32.drew.heap[g3]? = some (.cells #[.int .i64 t196, .int .i64 t197, .int .i64 t198, .int .i64 t199] 23 (0, 0)))) (BK4 : zh (w32.drew.heap[g4]? = some (.cells #[.int .i64 t200, .int .i64 t201, .int .i64 t202, .int .i64 t203] 23 (0, 0)))) (GW1 : zh (w.heap.size ≤ g1)) (GE1 : zh (w.heap.size ≤ g1)) (GW2 : zh (w.heap.size ≤ g2)) (GE2 : zh (w.heap.size ≤ g2)) (GW3 : zh (w.heap.size ≤ g3)) (GE3 : zh (w.heap.size ≤ g3)) (GW4 : zh (w.heap.size ≤ g4)) (GE4 : zh (w.heap.size ≤ g4)) (N1_2 : zh (g1 ≠ g2)) (N1_3 : zh (g1 ≠ g3)) (N1_4 : zh (g1 ≠ g4)) (N2_1 : zh (g2 ≠ g1)) (N2_3 : zh (g2 ≠ g3)) (N2_4 : zh (g2 ≠ g4)) (N3_1 : zh (g3 ≠ g1)) (N3_2 : zh (g3 ≠ g2)) (N3_4 : zh (g3 ≠ g4)) (N4_1 : zh (g4 ≠ g1)) (N4_2 : zh (g4 ≠ g2)) (N4_3 : zh (g4 ≠ g3)) (HB : zh (Below w.heap.size w w32.drew)) {K : Act → World → Prop}
  (hEnd : ∀ (g5 g6 : Nat) (w' : World), zh (w'.heap[g1]? = some (.cells #[.int .i64 a1_0, .int .i64 a1_1, .int .i64 a1_2, .int .i64 a1_3] 22 (0, 0))) → zh (w'.heap[g2]? = some (.cells #[.int .i64 a2_0, .int .i64 a2_1, .int .i64 a2_2, .int .i64 a2_3] 22 (0, 0))) → zh (w'.heap[g3]? = some (.cells #[.int .i64 t196, .int .i64 t197, .int .i64 t198, .int .i64 t199] 23 (0, 0))) → zh (w'.heap[g4]? = some (.cells #[.int .i64 t200, .int .i64 t201, .int .i64 t202, .int .i64 t203] 23 (0, 0))) → zh (w'.heap[g5]? = some (.cells #[.int .i64 t215, .int .i64 t216, .int .i64 t217, .int .i64 t218] 23 (0, 0))) → zh (w'.heap[g6]? = some (.cells #[.int .i64 t219, .int .i64 t220, .int .i64 t221, .int .i64 t222] 23 (0, 0))) → zh (w.heap.size ≤ g5) → zh (w.heap.size ≤ g5) → zh (w.heap.size ≤ g6) → zh (w.heap.size ≤ g6) → zh (g1 ≠ g5) → zh (g1 ≠ g6) → zh (g2 ≠ g5) → zh (g2 ≠ g6) → zh (g3 ≠ g5) → zh (g3 ≠ g6) → zh (g4 ≠ g5) → zh (g4 ≠ g6) → zh (g5 ≠ g1) → zh (g5 ≠ g2) → zh (g5 ≠ g3) → zh (g5 ≠ g4) → zh (g5 ≠ g6) → zh (g6 ≠ g1) → zh (g6 ≠ g2) → zh (g6 ≠ g3) → zh (g6 ≠ g4) → zh (g6 ≠ g5) → zh (Below w.heap.size w w') → K ⟨#[.int .i64 a0, .agg #[.int .i64 a1_0, .int .i64 a1_1, .int .i64 a1_2, .int .i64 a1_3], .agg #[.int .i64 a2_0, .int .i64 a2_1, .int .i64 a2_2, .int .i64 a2_3], undef, .pointer (some ⟨g1, 0, none⟩), .pointer (some ⟨g2, 0, none⟩), .bool false, .pointer (some ⟨g3, 0, none⟩), .pointer (some ⟨g4, 0, none⟩), .int .i64 t204, .pointer (some ⟨g5, 0, none⟩), .pointer (some ⟨g6, 0, none⟩), .int .i64 t223, .tuple #[.agg #[.int .i64 t196, .int .i64 t197, .int .i64 t198, .int .i64 t199], .agg #[.int .i64 t200, .int .i64 t201, .int .i64 t202, .int .i64 t203], .int .i64 t204], .int .i64 a0, .agg #[.int .i64 a1_0, .int .i64 a1_1, .int .i64 a1_2, .int .i64 a1_3], .agg #[.int .i64 t188, .int .i64 t189, .int .i64 t190, .int .i64 t191], .agg #[.int .i64 a2_0, .int .i64 a2_1, .int .i64 a2_2, .int .i64 a2_3], .agg #[.int .i64 t192, .int .i64 t193, .int .i64 t194, .int .i64 t195], .tuple #[.agg #[.int .i64 t196, .int .i64 t197, .int .i64 t198, .int .i64 t199], .agg #[.int .i64 t200, .int .i64 t201, .int .i64 t202, .int .i64 t203], .int .i64 t204], .agg #[.int .i64 t196, .int .i64 t197, .int .i64 t198, .int .i64 t199], .agg #[.int .i64 t200, .int .i64 t201, .int .i64 t202, .int .i64 t203], .int .i64 t204, .tuple #[.agg #[.int .i64 t215, .int .i64 t216, .int .i64 t217, .int .i64 t218], .agg #[.int .i64 t219, .int .i64 t220, .int .i64 t221, .int .i64 t222], .int .i64 t223], .int .i64 a0, .agg #[.int .i64 a1_0, .int .i64 a1_1, .int .i64 a1_2, .int .i64 a1_3], .agg #[.int .i64 t207, .int .i64 t208, .int .i64 t209, .int .i64 t210], .agg #[.int .i64 a2_0, .int .i64 a2_1, .int .i64 a2_2, .int .i64 a2_3], .agg #[.int .i64 t211, .int .i64 t212, .int .i64 t213, .int .i64 t214], .tuple #[.agg #[.int .i64 t215, .int .i64 t216, .int .i64 t217, .int .i64 t218], .agg #[.int .i64 t219, .int .i64 t220, .int .i64 t221, .int .i64 t222], .int .i64 t223], .agg #[.int .i64 t215, .int .i64 t216, .int .i64 t217, .int .i64 t218], .agg #[.int .i64 t219, .int .i64 t220, .int .i64 t221, .int .i64 t222], .int .i64 t223, undef, undef, undef, undef, undef, undef, undef, undef, undef, undef, undef, undef, undef, undef, undef], []⟩ w') :
  Code.wp Try.prog (Code.region 2 (opsOf Try.f3 2) true) (Exit.then K (bodyPost Try.prog Try.f3 fun e w' => e = .returned (.bool true) ∧ Below w.heap.size w w')) ⟨#[.int .i64 a0, .agg #[.int .i64 a1_0, .int .i64 a1_1, .int .i64 a1_2, .int .i64 a1_3], .agg #[.int .i64 a2_0, .int .i64 a2_1, .int .i64 a2_2, .int .i64 a2_3], undef, .pointer (some ⟨g1, 0, none⟩), .pointer (some ⟨g2, 0, none⟩), .bool false, .pointer (some ⟨g3, 0, none⟩), .pointer (some ⟨g4, 0, none⟩), .int .i64 t204, undef, undef, undef, .tuple #[.agg #[.int .i64 t196, .int .i64 t197, .int .i64 t198, .int .i64 t199], .agg #[.int .i64 t200, .int .i64 t201, .int .i64 t202, .int .i64 t203], .int .i64 t204], .int .i64 a0, .agg #[.int .i64 a1_0, .int .i64 a1_1, .int .i64 a1_2, .int .i64 a1_3], .agg #[.int .i64 t188, .int .i64 t189, .int .i64 t190, .int .i64 t191], .agg #[.int .i64 a2_0, .int .i64 a2_1, .int .i64 a2_2, .int .i64 a2_3], .agg #[.int .i64 t192, .int .i64 t193, .int .i64 t194, .int .i64 t195], .tuple #[.agg #[.int .i64 t196, .int .i64 t197, .int .i64 t198, .int .i64 t199], .agg #[.int .i64 t200, .int .i64 t201, .int .i64 t202, .int .i64 t203], .int .i64 t204], .agg #[.int .i64 t196, .int .i64 t197, .int .i64 t198, .int .i64 t199], .agg #[.int .i64 t200, .int .i64 t201, .int .i64 t202, .int .i64 t203], .int .i64 t204, undef, undef, undef, undef, undef, undef, undef, undef, undef, undef, undef, undef, undef, undef, undef, undef, undef, undef, undef, undef, undef, undef, undef, undef, undef], []⟩ w32 := by
 have hu22 := Try.underlying22
 have hu23 := Try.underlying23
 conv => arg 2; arg 2; whnf
 refine zla (n := 15) (S := fun w' => w'.cell? ⟨g1, 0, none⟩ = some (.int .i64 a1_0) ∧ w'.cell? ⟨g1, 1, none⟩ = some (.int .i64 a1_1) ∧ w'.cell? ⟨g1, 2, none⟩ = some (.int .i64 a1_2) ∧ w'.cell? ⟨g1, 3, none⟩ = some (.int .i64 a1_3) ∧ w'.cell? ⟨g2, 0, none⟩ = some (.int .i64 a2_0) ∧ w'.cell? ⟨g2, 1, none⟩ = some (.int .i64 a2_1) ∧ w'.cell? ⟨g2, 2, none⟩ = some (.int .i64 a2_2) ∧ w'.cell? ⟨g2, 3, none⟩ = some (.int .i64 a2_3)) (ds := []) #[false, false, false, false, false, false, false, false, false, false, false, false, false, false, false] (by kernel_rfl) rfl rfl ⟨(zi BK1.out 0).trans rfl, (zi BK1.out 1).trans rfl, (zi BK1.out 2).trans rfl, (zi BK1.out 3).trans rfl, (zi BK2.out 0).trans rfl, (zi BK2.out 1).trans rfl, (zi BK2.out 2).trans rfl, (zi BK2.out 3).trans rfl⟩ (fun hHeld => ?_); refine zfa laws_FnExactSplitState.tab2 laws_FnExactSplitState.bits2 (fun HT_ HW_ => ?_)
 generalize w32.drew = w33 at BK1 BK2 BK3 BK4 HB hHeld ⊢
 refine zx (i := 0) (N := some 24) (v := ?_) (a' := ?_) #[true, false, false, false, false, false, false, false, false, false, false, false, false, false, false] rfl rfl (zv HT_.out (by kernel_rfl)) (fun _ _ _ h => h) (Or.inl ⟨by rfl, ?_⟩) ?_ ?_
 rotate_left
 ·intro w'
  go_simp
  with_reducible rfl
 rotate_left
 ·simp only [Act.put, List.setIfInBounds_toArray, List.set_cons_zero, List.set_cons_succ, zu, zt]
  rfl
 refine zga (i := 1) (N := some 25) (v := ?_) (a' := ?_) #[true, true, false, false, false, false, false, false, false, false, false, false, false, false, false] rfl rfl (zz HT_.out HW_.out (by kernel_rfl)) (fun _ _ _ h => h) (Or.inl ⟨by rfl, ?_⟩) hHeld ?_ ?_
 rotate_left
 ·rintro w' ⟨s0, s1, s2, s3, s4, s5, s6, s7⟩
  go_simp
  with_reducible rfl
 rotate_left
 ·simp only [Act.put, List.setIfInBounds_toArray, List.set_cons_zero, List.set_cons_succ, zu, zt]
  rfl
 refine zga (i := 3) (N := some 27) (v := ?_) (a' := ?_) #[true, true, false, true, false, false, false, false, false, false, false, false, false, false, false] rfl rfl (zz HT_.out HW_.out (by kernel_rfl)) (fun _ _ _ h => h) (Or.inl ⟨by rfl, ?_⟩) hHeld ?_ ?_
 rotate_left
 ·rintro w' ⟨s0, s1, s2, s3, s4, s5, s6, s7⟩
  go_simp
  with_reducible rfl
 rotate_left
 ·simp only [Act.put, List.setIfInBounds_toArray, List.set_cons_zero, List.set_cons_succ, zu, zt]
  rfl
 refine join_ (σ := Nat × Nat) 3 #[true, true, true, true, true, true, true, true, true, true, true, true, false, false, false] (fun s_ => [(26, .agg #[.int .i64 t207, .int .i64 t208, .int .i64 t209, .int .i64 t210]), (28, .agg #[.int .i64 t211, .int .i64 t212, .int .i64 t213, .int .i64 t214]), (29, .tuple #[.agg #[.int .i64 t215, .int .i64 t216, .int .i64 t217, .int .i64 t218], .agg #[.int .i64 t219, .int .i64 t220, .int .i64 t221, .int .i64 t222], .int .i64 t223]), (10, .pointer (some ⟨s_.1, 0, none⟩)), (11, .pointer (some ⟨s_.2, 0, none⟩)), (23, .tuple #[.agg #[.int .i64 t215, .int .i64 t216, .int .i64 t217, .int .i64 t218], .agg #[.int .i64 t219, .int .i64 t220, .int .i64 t221, .int .i64 t222], .int .i64 t223]), (30, .agg #[.int .i64 t215, .int .i64 t216, .int .i64 t217, .int .i64 t218]), (31, .agg #[.int .i64 t219, .int .i64 t220, .int .i64 t221, .int .i64 t222]), (32, .int .i64 t223)]) (fun s_ w' => (w'.cell? ⟨g1, 0, none⟩ = some (.int .i64 a1_0) ∧ w'.cell? ⟨g1, 1, none⟩ = some (.int .i64 a1_1) ∧ w'.cell? ⟨g1, 2, none⟩ = some (.int .i64 a1_2) ∧ w'.cell? ⟨g1, 3, none⟩ = some (.int .i64 a1_3) ∧ w'.cell? ⟨g2, 0, none⟩ = some (.int .i64 a2_0) ∧ w'.cell? ⟨g2, 1, none⟩ = some (.int .i64 a2_1) ∧ w'.cell? ⟨g2, 2, none⟩ = some (.int .i64 a2_2) ∧ w'.cell? ⟨g2, 3, none⟩ = some (.int .i64 a2_3)) ∧ (w'.heap[g1]? = some (.cells #[.int .i64 a1_0, .int .i64 a1_1, .int .i64 a1_2, .int .i64 a1_3] 22 (0, 0))) ∧ (w'.heap[g2]? = some (.cells #[.int .i64 a2_0, .int .i64 a2_1, .int .i64 a2_2, .int .i64 a2_3] 22 (0, 0))) ∧ (w'.heap[g3]? = some (.cells #[.int .i64 t196, .int .i64 t197, .int .i64 t198, .int .i64 t199] 23 (0, 0))) ∧ (w'.heap[g4]? = some (.cells #[.int .i64 t200, .int .i64 t201, .int .i64 t202, .int .i64 t203] 23 (0, 0))) ∧ (w'.heap[s_.1]? = some (.cells #[.int .i64 0, .int .i64 0, .int .i64 0, .int .i64 0] 23 (0, 0))) ∧ (w'.heap[s_.2]? = some (.cells #[.int .i64 0, .int .i64 0, .int .i64 0, .int .i64 0] 23 (0, 0))) ∧ (w.heap.size ≤ s_.1) ∧ (w.heap.size ≤ s_.1) ∧ (g1 ≠ s_.1) ∧ (s_.1 ≠ g1) ∧ (g2 ≠ s_.1) ∧ (s_.1 ≠ g2) ∧ (g3 ≠ s_.1) ∧ (s_.1 ≠ g3) ∧ (g4 ≠ s_.1) ∧ (s_.1 ≠ g4) ∧ (s_.2 ≠ s_.1) ∧ (s_.1 ≠ s_.2) ∧ (w.heap.size ≤ s_.2) ∧ (w.heap.size ≤ s_.2) ∧ (g1 ≠ s_.2) ∧ (s_.2 ≠ g1) ∧ (g2 ≠ s_.2) ∧ (s_.2 ≠ g2) ∧ (g3 ≠ s_.2) ∧ (s_.2 ≠ g3) ∧ (g4 ≠ s_.2) ∧ (s_.2 ≠ g4) ∧ (Below w.heap.size w w')) ?_ ?_
 rotate_left
 ·intro hJ2_4_5_10_11
  refine join_ (σ := Nat) 4 #[true, true, true, true, true, true, true, true, true, true, true, false, false, false, false] (fun s_ => [(26, .agg #[.int .i64 t207, .int .i64 t208, .int .i64 t209, .int .i64 t210]), (28, .agg #[.int .i64 t211, .int .i64 t212, .int .i64 t213, .int .i64 t214]), (29, .tuple #[.agg #[.int .i64 t215, .int .i64 t216, .int .i64 t217, .int .i64 t218], .agg #[.int .i64 t219, .int .i64 t220, .int .i64 t221, .int .i64 t222], .int .i64 t223]), (10, .pointer (some ⟨s_, 0, none⟩)), (23, .tuple #[.agg #[.int .i64 t215, .int .i64 t216, .int .i64 t217, .int .i64 t218], .agg #[.int .i64 t219, .int .i64 t220, .int .i64 t221, .int .i64 t222], .int .i64 t223]), (30, .agg #[.int .i64 t215, .int .i64 t216, .int .i64 t217, .int .i64 t218]), (31, .agg #[.int .i64 t219, .int .i64 t220, .int .i64 t221, .int .i64 t222]), (32, .int .i64 t223)]) (fun s_ w' => (w'.cell? ⟨g1, 0, none⟩ = some (.int .i64 a1_0) ∧ w'.cell? ⟨g1, 1, none⟩ = some (.int .i64 a1_1) ∧ w'.cell? ⟨g1, 2, none⟩ = some (.int .i64 a1_2) ∧ w'.cell? ⟨g1, 3, none⟩ = some (.int .i64 a1_3) ∧ w'.cell? ⟨g2, 0, none⟩ = some (.int .i64 a2_0) ∧ w'.cell? ⟨g2, 1, none⟩ = some (.int .i64 a2_1) ∧ w'.cell? ⟨g2, 2, none⟩ = some (.int .i64 a2_2) ∧ w'.cell? ⟨g2, 3, none⟩ = some (.int .i64 a2_3)) ∧ (w'.heap[g1]? = some (.cells #[.int .i64 a1_0, .int .i64 a1_1, .int .i64 a1_2, .int .i64 a1_3] 22 (0, 0))) ∧ (w'.heap[g2]? = some (.cells #[.int .i64 a2_0, .int .i64 a2_1, .int .i64 a2_2, .int .i64 a2_3] 22 (0, 0))) ∧ (w'.heap[g3]? = some (.cells #[.int .i64 t196, .int .i64 t197, .int .i64 t198, .int .i64 t199] 23 (0, 0))) ∧ (w'.heap[g4]? = some (.cells #[.int .i64 t200, .int .i64 t201, .int .i64 t202, .int .i64 t203] 23 (0, 0))) ∧ (w'.heap[s_]? = some (.cells #[.int .i64 0, .int .i64 0, .int .i64 0, .int .i64 0] 23 (0, 0))) ∧ (w.heap.size ≤ s_) ∧ (w.heap.size ≤ s_) ∧ (g1 ≠ s_) ∧ (s_ ≠ g1) ∧ (g2 ≠ s_) ∧ (s_ ≠ g2) ∧ (g3 ≠ s_) ∧ (s_ ≠ g3) ∧ (g4 ≠ s_) ∧ (s_ ≠ g4) ∧ (Below w.heap.size w w')) ?_ ?_
  rotate_left
  ·intro hJ2_4_5_10
   refine join_ (σ := Nat) 4 #[true, true, true, true, true, true, true, true, true, true, false, true, false, false, false] (fun s_ => [(26, .agg #[.int .i64 t207, .int .i64 t208, .int .i64 t209, .int .i64 t210]), (28, .agg #[.int .i64 t211, .int .i64 t212, .int .i64 t213, .int .i64 t214]), (29, .tuple #[.agg #[.int .i64 t215, .int .i64 t216, .int .i64 t217, .int .i64 t218], .agg #[.int .i64 t219, .int .i64 t220, .int .i64 t221, .int .i64 t222], .int .i64 t223]), (11, .pointer (some ⟨s_, 0, none⟩)), (23, .tuple #[.agg #[.int .i64 t215, .int .i64 t216, .int .i64 t217, .int .i64 t218], .agg #[.int .i64 t219, .int .i64 t220, .int .i64 t221, .int .i64 t222], .int .i64 t223]), (30, .agg #[.int .i64 t215, .int .i64 t216, .int .i64 t217, .int .i64 t218]), (31, .agg #[.int .i64 t219, .int .i64 t220, .int .i64 t221, .int .i64 t222]), (32, .int .i64 t223)]) (fun s_ w' => (w'.cell? ⟨g1, 0, none⟩ = some (.int .i64 a1_0) ∧ w'.cell? ⟨g1, 1, none⟩ = some (.int .i64 a1_1) ∧ w'.cell? ⟨g1, 2, none⟩ = some (.int .i64 a1_2) ∧ w'.cell? ⟨g1, 3, none⟩ = some (.int .i64 a1_3) ∧ w'.cell? ⟨g2, 0, none⟩ = some (.int .i64 a2_0) ∧ w'.cell? ⟨g2, 1, none⟩ = some (.int .i64 a2_1) ∧ w'.cell? ⟨g2, 2, none⟩ = some (.int .i64 a2_2) ∧ w'.cell? ⟨g2, 3, none⟩ = some (.int .i64 a2_3)) ∧ (w'.heap[g1]? = some (.cells #[.int .i64 a1_0, .int .i64 a1_1, .int .i64 a1_2, .int .i64 a1_3] 22 (0, 0))) ∧ (w'.heap[g2]? = some (.cells #[.int .i64 a2_0, .int .i64 a2_1, .int .i64 a2_2, .int .i64 a2_3] 22 (0, 0))) ∧ (w'.heap[g3]? = some (.cells #[.int .i64 t196, .int .i64 t197, .int .i64 t198, .int .i64 t199] 23 (0, 0))) ∧ (w'.heap[g4]? = some (.cells #[.int .i64 t200, .int .i64 t201, .int .i64 t202, .int .i64 t203] 23 (0, 0))) ∧ (w'.heap[s_]? = some (.cells #[.int .i64 0, .int .i64 0, .int .i64 0, .int .i64 0] 23 (0, 0))) ∧ (w.heap.size ≤ s_) ∧ (w.heap.size ≤ s_) ∧ (g1 ≠ s_) ∧ (s_ ≠ g1) ∧ (g2 ≠ s_) ∧ (s_ ≠ g2) ∧ (g3 ≠ s_) ∧ (s_ ≠ g3) ∧ (g4 ≠ s_) ∧ (s_ ≠ g4) ∧ (Below w.heap.size w w')) ?_ ?_
   rotate_left
   ·intro hJ2_4_5_11
    refine join_ (σ := Nat × Nat) 8 #[true, true, true, true, true, false, false, false, false, false, true, true, false, false, false] (fun s_ => [(26, .agg #[.int .i64 t207, .int .i64 t208, .int .i64 t209, .int .i64 t210]), (28, .agg #[.int .i64 t211, .int .i64 t212, .int .i64 t213, .int .i64 t214]), (10, .pointer (some ⟨s_.1, 0, none⟩)), (11, .pointer (some ⟨s_.2, 0, none⟩))]) (fun s_ w' => (w'.cell? ⟨g1, 0, none⟩ = some (.int .i64 a1_0) ∧ w'.cell? ⟨g1, 1, none⟩ = some (.int .i64 a1_1) ∧ w'.cell? ⟨g1, 2, none⟩ = some (.int .i64 a1_2) ∧ w'.cell? ⟨g1, 3, none⟩ = some (.int .i64 a1_3) ∧ w'.cell? ⟨g2, 0, none⟩ = some (.int .i64 a2_0) ∧ w'.cell? ⟨g2, 1, none⟩ = some (.int .i64 a2_1) ∧ w'.cell? ⟨g2, 2, none⟩ = some (.int .i64 a2_2) ∧ w'.cell? ⟨g2, 3, none⟩ = some (.int .i64 a2_3)) ∧ (w'.heap[g1]? = some (.cells #[.int .i64 a1_0, .int .i64 a1_1, .int .i64 a1_2, .int .i64 a1_3] 22 (0, 0))) ∧ (w'.heap[g2]? = some (.cells #[.int .i64 a2_0, .int .i64 a2_1, .int .i64 a2_2, .int .i64 a2_3] 22 (0, 0))) ∧ (w'.heap[g3]? = some (.cells #[.int .i64 t196, .int .i64 t197, .int .i64 t198, .int .i64 t199] 23 (0, 0))) ∧ (w'.heap[g4]? = some (.cells #[.int .i64 t200, .int .i64 t201, .int .i64 t202, .int .i64 t203] 23 (0, 0))) ∧ (w'.heap[s_.1]? = some (.cells #[.int .i64 0, .int .i64 0, .int .i64 0, .int .i64 0] 23 (0, 0))) ∧ (w'.heap[s_.2]? = some (.cells #[.int .i64 0, .int .i64 0, .int .i64 0, .int .i64 0] 23 (0, 0))) ∧ (w.heap.size ≤ s_.1) ∧ (w.heap.size ≤ s_.1) ∧ (g1 ≠ s_.1) ∧ (s_.1 ≠ g1) ∧ (g2 ≠ s_.1) ∧ (s_.1 ≠ g2) ∧ (g3 ≠ s_.1) ∧ (s_.1 ≠ g3) ∧ (g4 ≠ s_.1) ∧ (s_.1 ≠ g4) ∧ (s_.2 ≠ s_.1) ∧ (s_.1 ≠ s_.2) ∧ (w.heap.size ≤ s_.2) ∧ (w.heap.size ≤ s_.2) ∧ (g1 ≠ s_.2) ∧ (s_.2 ≠ g1) ∧ (g2 ≠ s_.2) ∧ (s_.2 ≠ g2) ∧ (g3 ≠ s_.2) ∧ (s_.2 ≠ g3) ∧ (g4 ≠ s_.2) ∧ (s_.2 ≠ g4) ∧ (Below w.heap.size w w')) ?_ ?_
    rotate_left
    ·intro hJ2_4_10_11
     refine join_ (σ := Unit) 5 #[true, true, true, true, true, true, true, true, true, true, false, false, false, false, false] (fun s_ => [(26, .agg #[.int .i64 t207, .int .i64 t208, .int .i64 t209, .int .i64 t210]), (28, .agg #[.int .i64 t211, .int .i64 t212, .int .i64 t213, .int .i64 t214]), (29, .tuple #[.agg #[.int .i64 t215, .int .i64 t216, .int .i64 t217, .int .i64 t218], .agg #[.int .i64 t219, .int .i64 t220, .int .i64 t221, .int .i64 t222], .int .i64 t223]), (23, .tuple #[.agg #[.int .i64 t215, .int .i64 t216, .int .i64 t217, .int .i64 t218], .agg #[.int .i64 t219, .int .i64 t220, .int .i64 t221, .int .i64 t222], .int .i64 t223]), (30, .agg #[.int .i64 t215, .int .i64 t216, .int .i64 t217, .int .i64 t218]), (31, .agg #[.int .i64 t219, .int .i64 t220, .int .i64 t221, .int .i64 t222]), (32, .int .i64 t223)]) (fun s_ w' => (w'.cell? ⟨g1, 0, none⟩ = some (.int .i64 a1_0) ∧ w'.cell? ⟨g1, 1, none⟩ = some (.int .i64 a1_1) ∧ w'.cell? ⟨g1, 2, none⟩ = some (.int .i64 a1_2) ∧ w'.cell? ⟨g1, 3, none⟩ = some (.int .i64 a1_3) ∧ w'.cell? ⟨g2, 0, none⟩ = some (.int .i64 a2_0) ∧ w'.cell? ⟨g2, 1, none⟩ = some (.int .i64 a2_1) ∧ w'.cell? ⟨g2, 2, none⟩ = some (.int .i64 a2_2) ∧ w'.cell? ⟨g2, 3, none⟩ = some (.int .i64 a2_3)) ∧ (w'.heap[g1]? = some (.cells #[.int .i64 a1_0, .int .i64 a1_1, .int .i64 a1_2, .int .i64 a1_3] 22 (0, 0))) ∧ (w'.heap[g2]? = some (.cells #[.int .i64 a2_0, .int .i64 a2_1, .int .i64 a2_2, .int .i64 a2_3] 22 (0, 0))) ∧ (w'.heap[g3]? = some (.cells #[.int .i64 t196, .int .i64 t197, .int .i64 t198, .int .i64 t199] 23 (0, 0))) ∧ (w'.heap[g4]? = some (.cells #[.int .i64 t200, .int .i64 t201, .int .i64 t202, .int .i64 t203] 23 (0, 0))) ∧ (Below w.heap.size w w')) ?_ ?_
     rotate_left
     ·intro hJ2_4_5
      refine join_ (σ := Nat) 9 #[true, true, true, true, true, false, false, false, false, false, true, false, false, false, false] (fun s_ => [(26, .agg #[.int .i64 t207, .int .i64 t208, .int .i64 t209, .int .i64 t210]), (28, .agg #[.int .i64 t211, .int .i64 t212, .int .i64 t213, .int .i64 t214]), (10, .pointer (some ⟨s_, 0, none⟩))]) (fun s_ w' => (w'.cell? ⟨g1, 0, none⟩ = some (.int .i64 a1_0) ∧ w'.cell? ⟨g1, 1, none⟩ = some (.int .i64 a1_1) ∧ w'.cell? ⟨g1, 2, none⟩ = some (.int .i64 a1_2) ∧ w'.cell? ⟨g1, 3, none⟩ = some (.int .i64 a1_3) ∧ w'.cell? ⟨g2, 0, none⟩ = some (.int .i64 a2_0) ∧ w'.cell? ⟨g2, 1, none⟩ = some (.int .i64 a2_1) ∧ w'.cell? ⟨g2, 2, none⟩ = some (.int .i64 a2_2) ∧ w'.cell? ⟨g2, 3, none⟩ = some (.int .i64 a2_3)) ∧ (w'.heap[g1]? = some (.cells #[.int .i64 a1_0, .int .i64 a1_1, .int .i64 a1_2, .int .i64 a1_3] 22 (0, 0))) ∧ (w'.heap[g2]? = some (.cells #[.int .i64 a2_0, .int .i64 a2_1, .int .i64 a2_2, .int .i64 a2_3] 22 (0, 0))) ∧ (w'.heap[g3]? = some (.cells #[.int .i64 t196, .int .i64 t197, .int .i64 t198, .int .i64 t199] 23 (0, 0))) ∧ (w'.heap[g4]? = some (.cells #[.int .i64 t200, .int .i64 t201, .int .i64 t202, .int .i64 t203] 23 (0, 0))) ∧ (w'.heap[s_]? = some (.cells #[.int .i64 0, .int .i64 0, .int .i64 0, .int .i64 0] 23 (0, 0))) ∧ (w.heap.size ≤ s_) ∧ (w.heap.size ≤ s_) ∧ (g1 ≠ s_) ∧ (s_ ≠ g1) ∧ (g2 ≠ s_) ∧ (s_ ≠ g2) ∧ (g3 ≠ s_) ∧ (s_ ≠ g3) ∧ (g4 ≠ s_) ∧ (s_ ≠ g4) ∧ (Below w.heap.size w w')) ?_ ?_
      rotate_left
      ·intro hJ2_4_10
       refine join_ (σ := Nat) 9 #[true, true, true, true, true, false, false, false, false, false, false, true, false, false, false] (fun s_ => [(26, .agg #[.int .i64 t207, .int .i64 t208, .int .i64 t209, .int .i64 t210]), (28, .agg #[.int .i64 t211, .int .i64 t212, .int .i64 t213, .int .i64 t214]), (11, .pointer (some ⟨s_, 0, none⟩))]) (fun s_ w' => (w'.cell? ⟨g1, 0, none⟩ = some (.int .i64 a1_0) ∧ w'.cell? ⟨g1, 1, none⟩ = some (.int .i64 a1_1) ∧ w'.cell? ⟨g1, 2, none⟩ = some (.int .i64 a1_2) ∧ w'.cell? ⟨g1, 3, none⟩ = some (.int .i64 a1_3) ∧ w'.cell? ⟨g2, 0, none⟩ = some (.int .i64 a2_0) ∧ w'.cell? ⟨g2, 1, none⟩ = some (.int .i64 a2_1) ∧ w'.cell? ⟨g2, 2, none⟩ = some (.int .i64 a2_2) ∧ w'.cell? ⟨g2, 3, none⟩ = some (.int .i64 a2_3)) ∧ (w'.heap[g1]? = some (.cells #[.int .i64 a1_0, .int .i64 a1_1, .int .i64 a1_2, .int .i64 a1_3] 22 (0, 0))) ∧ (w'.heap[g2]? = some (.cells #[.int .i64 a2_0, .int .i64 a2_1, .int .i64 a2_2, .int .i64 a2_3] 22 (0, 0))) ∧ (w'.heap[g3]? = some (.cells #[.int .i64 t196, .int .i64 t197, .int .i64 t198, .int .i64 t199] 23 (0, 0))) ∧ (w'.heap[g4]? = some (.cells #[.int .i64 t200, .int .i64 t201, .int .i64 t202, .int .i64 t203] 23 (0, 0))) ∧ (w'.heap[s_]? = some (.cells #[.int .i64 0, .int .i64 0, .int .i64 0, .int .i64 0] 23 (0, 0))) ∧ (w.heap.size ≤ s_) ∧ (w.heap.size ≤ s_) ∧ (g1 ≠ s_) ∧ (s_ ≠ g1) ∧ (g2 ≠ s_) ∧ (s_ ≠ g2) ∧ (g3 ≠ s_) ∧ (s_ ≠ g3) ∧ (g4 ≠ s_) ∧ (s_ ≠ g4) ∧ (Below w.heap.size w w')) ?_ ?_
       rotate_left
       ·intro hJ2_4_11
        refine join_ (σ := Nat × Nat) 9 #[true, true, true, true, false, false, false, false, false, false, true, true, false, false, false] (fun s_ => [(26, .agg #[.int .i64 t207, .int .i64 t208, .int .i64 t209, .int .i64 t210]), (10, .pointer (some ⟨s_.1, 0, none⟩)), (11, .pointer (some ⟨s_.2, 0, none⟩))]) (fun s_ w' => (w'.cell? ⟨g1, 0, none⟩ = some (.int .i64 a1_0) ∧ w'.cell? ⟨g1, 1, none⟩ = some (.int .i64 a1_1) ∧ w'.cell? ⟨g1, 2, none⟩ = some (.int .i64 a1_2) ∧ w'.cell? ⟨g1, 3, none⟩ = some (.int .i64 a1_3) ∧ w'.cell? ⟨g2, 0, none⟩ = some (.int .i64 a2_0) ∧ w'.cell? ⟨g2, 1, none⟩ = some (.int .i64 a2_1) ∧ w'.cell? ⟨g2, 2, none⟩ = some (.int .i64 a2_2) ∧ w'.cell? ⟨g2, 3, none⟩ = some (.int .i64 a2_3)) ∧ (w'.heap[g1]? = some (.cells #[.int .i64 a1_0, .int .i64 a1_1, .int .i64 a1_2, .int .i64 a1_3] 22 (0, 0))) ∧ (w'.heap[g2]? = some (.cells #[.int .i64 a2_0, .int .i64 a2_1, .int .i64 a2_2, .int .i64 a2_3] 22 (0, 0))) ∧ (w'.heap[g3]? = some (.cells #[.int .i64 t196, .int .i64 t197, .int .i64 t198, .int .i64 t199] 23 (0, 0))) ∧ (w'.heap[g4]? = some (.cells #[.int .i64 t200, .int .i64 t201, .int .i64 t202, .int .i64 t203] 23 (0, 0))) ∧ (w'.heap[s_.1]? = some (.cells #[.int .i64 0, .int .i64 0, .int .i64 0, .int .i64 0] 23 (0, 0))) ∧ (w'.heap[s_.2]? = some (.cells #[.int .i64 0, .int .i64 0, .int .i64 0, .int .i64 0] 23 (0, 0))) ∧ (w.heap.size ≤ s_.1) ∧ (w.heap.size ≤ s_.1) ∧ (g1 ≠ s_.1) ∧ (s_.1 ≠ g1) ∧ (g2 ≠ s_.1) ∧ (s_.1 ≠ g2) ∧ (g3 ≠ s_.1) ∧ (s_.1 ≠ g3) ∧ (g4 ≠ s_.1) ∧ (s_.1 ≠ g4) ∧ (s_.2 ≠ s_.1) ∧ (s_.1 ≠ s_.2) ∧ (w.heap.size ≤ s_.2) ∧ (w.heap.size ≤ s_.2) ∧ (g1 ≠ s_.2) ∧ (s_.2 ≠ g1) ∧ (g2 ≠ s_.2) ∧ (s_.2 ≠ g2) ∧ (g3 ≠ s_.2) ∧ (s_.2 ≠ g3) ∧ (g4 ≠ s_.2) ∧ (s_.2 ≠ g4) ∧ (Below w.heap.size w w')) ?_ ?_
        rotate_left
        ·intro hJ2_10_11
         refine join_ (σ := Unit) 10 #[true, true, true, true, true, false, false, false, false, false, false, false, false, false, false] (fun s_ => [(26, .agg #[.int .i64 t207, .int .i64 t208, .int .i64 t209, .int .i64 t210]), (28, .agg #[.int .i64 t211, .int .i64 t212, .int .i64 t213, .int .i64 t214])]) (fun s_ w' => (w'.cell? ⟨g1, 0, none⟩ = some (.int .i64 a1_0) ∧ w'.cell? ⟨g1, 1, none⟩ = some (.int .i64 a1_1) ∧ w'.cell? ⟨g1, 2, none⟩ = some (.int .i64 a1_2) ∧ w'.cell? ⟨g1, 3, none⟩ = some (.int .i64 a1_3) ∧ w'.cell? ⟨g2, 0, none⟩ = some (.int .i64 a2_0) ∧ w'.cell? ⟨g2, 1, none⟩ = some (.int .i64 a2_1) ∧ w'.cell? ⟨g2, 2, none⟩ = some (.int .i64 a2_2) ∧ w'.cell? ⟨g2, 3, none⟩ = some (.int .i64 a2_3)) ∧ (w'.heap[g1]? = some (.cells #[.int .i64 a1_0, .int .i64 a1_1, .int .i64 a1_2, .int .i64 a1_3] 22 (0, 0))) ∧ (w'.heap[g2]? = some (.cells #[.int .i64 a2_0, .int .i64 a2_1, .int .i64 a2_2, .int .i64 a2_3] 22 (0, 0))) ∧ (w'.heap[g3]? = some (.cells #[.int .i64 t196, .int .i64 t197, .int .i64 t198, .int .i64 t199] 23 (0, 0))) ∧ (w'.heap[g4]? = some (.cells #[.int .i64 t200, .int .i64 t201, .int .i64 t202, .int .i64 t203] 23 (0, 0))) ∧ (Below w.heap.size w w')) ?_ ?_
         rotate_left
         ·intro hJ2_4
          refine join_ (σ := Nat) 10 #[true, true, true, true, false, false, false, false, false, false, true, false, false, false, false] (fun s_ => [(26, .agg #[.int .i64 t207, .int .i64 t208, .int .i64 t209, .int .i64 t210]), (10, .pointer (some ⟨s_, 0, none⟩))]) (fun s_ w' => (w'.cell? ⟨g1, 0, none⟩ = some (.int .i64 a1_0) ∧ w'.cell? ⟨g1, 1, none⟩ = some (.int .i64 a1_1) ∧ w'.cell? ⟨g1, 2, none⟩ = some (.int .i64 a1_2) ∧ w'.cell? ⟨g1, 3, none⟩ = some (.int .i64 a1_3) ∧ w'.cell? ⟨g2, 0, none⟩ = some (.int .i64 a2_0) ∧ w'.cell? ⟨g2, 1, none⟩ = some (.int .i64 a2_1) ∧ w'.cell? ⟨g2, 2, none⟩ = some (.int .i64 a2_2) ∧ w'.cell? ⟨g2, 3, none⟩ = some (.int .i64 a2_3)) ∧ (w'.heap[g1]? = some (.cells #[.int .i64 a1_0, .int .i64 a1_1, .int .i64 a1_2, .int .i64 a1_3] 22 (0, 0))) ∧ (w'.heap[g2]? = some (.cells #[.int .i64 a2_0, .int .i64 a2_1, .int .i64 a2_2, .int .i64 a2_3] 22 (0, 0))) ∧ (w'.heap[g3]? = some (.cells #[.int .i64 t196, .int .i64 t197, .int .i64 t198, .int .i64 t199] 23 (0, 0))) ∧ (w'.heap[g4]? = some (.cells #[.int .i64 t200, .int .i64 t201, .int .i64 t202, .int .i64 t203] 23 (0, 0))) ∧ (w'.heap[s_]? = some (.cells #[.int .i64 0, .int .i64 0, .int .i64 0, .int .i64 0] 23 (0, 0))) ∧ (w.heap.size ≤ s_) ∧ (w.heap.size ≤ s_) ∧ (g1 ≠ s_) ∧ (s_ ≠ g1) ∧ (g2 ≠ s_) ∧ (s_ ≠ g2) ∧ (g3 ≠ s_) ∧ (s_ ≠ g3) ∧ (g4 ≠ s_) ∧ (s_ ≠ g4) ∧ (Below w.heap.size w w')) ?_ ?_
          rotate_left
          ·intro hJ2_10
           refine join_ (σ := Nat) 10 #[true, true, true, true, false, false, false, false, false, false, false, true, false, false, false] (fun s_ => [(26, .agg #[.int .i64 t207, .int .i64 t208, .int .i64 t209, .int .i64 t210]), (11, .pointer (some ⟨s_, 0, none⟩))]) (fun s_ w' => (w'.cell? ⟨g1, 0, none⟩ = some (.int .i64 a1_0) ∧ w'.cell? ⟨g1, 1, none⟩ = some (.int .i64 a1_1) ∧ w'.cell? ⟨g1, 2, none⟩ = some (.int .i64 a1_2) ∧ w'.cell? ⟨g1, 3, none⟩ = some (.int .i64 a1_3) ∧ w'.cell? ⟨g2, 0, none⟩ = some (.int .i64 a2_0) ∧ w'.cell? ⟨g2, 1, none⟩ = some (.int .i64 a2_1) ∧ w'.cell? ⟨g2, 2, none⟩ = some (.int .i64 a2_2) ∧ w'.cell? ⟨g2, 3, none⟩ = some (.int .i64 a2_3)) ∧ (w'.heap[g1]? = some (.cells #[.int .i64 a1_0, .int .i64 a1_1, .int .i64 a1_2, .int .i64 a1_3] 22 (0, 0))) ∧ (w'.heap[g2]? = some (.cells #[.int .i64 a2_0, .int .i64 a2_1, .int .i64 a2_2, .int .i64 a2_3] 22 (0, 0))) ∧ (w'.heap[g3]? = some (.cells #[.int .i64 t196, .int .i64 t197, .int .i64 t198, .int .i64 t199] 23 (0, 0))) ∧ (w'.heap[g4]? = some (.cells #[.int .i64 t200, .int .i64 t201, .int .i64 t202, .int .i64 t203] 23 (0, 0))) ∧ (w'.heap[s_]? = some (.cells #[.int .i64 0, .int .i64 0, .int .i64 0, .int .i64 0] 23 (0, 0))) ∧ (w.heap.size ≤ s_) ∧ (w.heap.size ≤ s_) ∧ (g1 ≠ s_) ∧ (s_ ≠ g1) ∧ (g2 ≠ s_) ∧ (s_ ≠ g2) ∧ (g3 ≠ s_) ∧ (s_ ≠ g3) ∧ (g4 ≠ s_) ∧ (s_ ≠ g4) ∧ (Below w.heap.size w w')) ?_ ?_
           rotate_left
           ·intro hJ2_11
            refine join_ (σ := Nat × Nat) 10 #[true, true, false, true, false, false, false, false, false, false, true, true, false, false, false] (fun s_ => [(10, .pointer (some ⟨s_.1, 0, none⟩)), (11, .pointer (some ⟨s_.2, 0, none⟩))]) (fun s_ w' => (w'.cell? ⟨g1, 0, none⟩ = some (.int .i64 a1_0) ∧ w'.cell? ⟨g1, 1, none⟩ = some (.int .i64 a1_1) ∧ w'.cell? ⟨g1, 2, none⟩ = some (.int .i64 a1_2) ∧ w'.cell? ⟨g1, 3, none⟩ = some (.int .i64 a1_3) ∧ w'.cell? ⟨g2, 0, none⟩ = some (.int .i64 a2_0) ∧ w'.cell? ⟨g2, 1, none⟩ = some (.int .i64 a2_1) ∧ w'.cell? ⟨g2, 2, none⟩ = some (.int .i64 a2_2) ∧ w'.cell? ⟨g2, 3, none⟩ = some (.int .i64 a2_3)) ∧ (w'.heap[g1]? = some (.cells #[.int .i64 a1_0, .int .i64 a1_1, .int .i64 a1_2, .int .i64 a1_3] 22 (0, 0))) ∧ (w'.heap[g2]? = some (.cells #[.int .i64 a2_0, .int .i64 a2_1, .int .i64 a2_2, .int .i64 a2_3] 22 (0, 0))) ∧ (w'.heap[g3]? = some (.cells #[.int .i64 t196, .int .i64 t197, .int .i64 t198, .int .i64 t199] 23 (0, 0))) ∧ (w'.heap[g4]? = some (.cells #[.int .i64 t200, .int .i64 t201, .int .i64 t202, .int .i64 t203] 23 (0, 0))) ∧ (w'.heap[s_.1]? = some (.cells #[.int .i64 0, .int .i64 0, .int .i64 0, .int .i64 0] 23 (0, 0))) ∧ (w'.heap[s_.2]? = some (.cells #[.int .i64 0, .int .i64 0, .int .i64 0, .int .i64 0] 23 (0, 0))) ∧ (w.heap.size ≤ s_.1) ∧ (w.heap.size ≤ s_.1) ∧ (g1 ≠ s_.1) ∧ (s_.1 ≠ g1) ∧ (g2 ≠ s_.1) ∧ (s_.1 ≠ g2) ∧ (g3 ≠ s_.1) ∧ (s_.1 ≠ g3) ∧ (g4 ≠ s_.1) ∧ (s_.1 ≠ g4) ∧ (s_.2 ≠ s_.1) ∧ (s_.1 ≠ s_.2) ∧ (w.heap.size ≤ s_.2) ∧ (w.heap.size ≤ s_.2) ∧ (g1 ≠ s_.2) ∧ (s_.2 ≠ g1) ∧ (g2 ≠ s_.2) ∧ (s_.2 ≠ g2) ∧ (g3 ≠ s_.2) ∧ (s_.2 ≠ g3) ∧ (g4 ≠ s_.2) ∧ (s_.2 ≠ g4) ∧ (Below w.heap.size w w')) ?_ ?_
            rotate_left
            ·intro hJ10_11
             refine join_ (σ := Unit) 11 #[true, true, true, true, false, false, false, false, false, false, false, false, false, false, false] (fun s_ => [(26, .agg #[.int .i64 t207, .int .i64 t208, .int .i64 t209, .int .i64 t210])]) (fun s_ w' => (w'.cell? ⟨g1, 0, none⟩ = some (.int .i64 a1_0) ∧ w'.cell? ⟨g1, 1, none⟩ = some (.int .i64 a1_1) ∧ w'.cell? ⟨g1, 2, none⟩ = some (.int .i64 a1_2) ∧ w'.cell? ⟨g1, 3, none⟩ = some (.int .i64 a1_3) ∧ w'.cell? ⟨g2, 0, none⟩ = some (.int .i64 a2_0) ∧ w'.cell? ⟨g2, 1, none⟩ = some (.int .i64 a2_1) ∧ w'.cell? ⟨g2, 2, none⟩ = some (.int .i64 a2_2) ∧ w'.cell? ⟨g2, 3, none⟩ = some (.int .i64 a2_3)) ∧ (w'.heap[g1]? = some (.cells #[.int .i64 a1_0, .int .i64 a1_1, .int .i64 a1_2, .int .i64 a1_3] 22 (0, 0))) ∧ (w'.heap[g2]? = some (.cells #[.int .i64 a2_0, .int .i64 a2_1, .int .i64 a2_2, .int .i64 a2_3] 22 (0, 0))) ∧ (w'.heap[g3]? = some (.cells #[.int .i64 t196, .int .i64 t197, .int .i64 t198, .int .i64 t199] 23 (0, 0))) ∧ (w'.heap[g4]? = some (.cells #[.int .i64 t200, .int .i64 t201, .int .i64 t202, .int .i64 t203] 23 (0, 0))) ∧ (Below w.heap.size w w')) ?_ ?_
             rotate_left
             ·intro hJ2
              refine join_ (σ := Nat) 11 #[true, true, false, true, false, false, false, false, false, false, true, false, false, false, false] (fun s_ => [(10, .pointer (some ⟨s_, 0, none⟩))]) (fun s_ w' => (w'.cell? ⟨g1, 0, none⟩ = some (.int .i64 a1_0) ∧ w'.cell? ⟨g1, 1, none⟩ = some (.int .i64 a1_1) ∧ w'.cell? ⟨g1, 2, none⟩ = some (.int .i64 a1_2) ∧ w'.cell? ⟨g1, 3, none⟩ = some (.int .i64 a1_3) ∧ w'.cell? ⟨g2, 0, none⟩ = some (.int .i64 a2_0) ∧ w'.cell? ⟨g2, 1, none⟩ = some (.int .i64 a2_1) ∧ w'.cell? ⟨g2, 2, none⟩ = some (.int .i64 a2_2) ∧ w'.cell? ⟨g2, 3, none⟩ = some (.int .i64 a2_3)) ∧ (w'.heap[g1]? = some (.cells #[.int .i64 a1_0, .int .i64 a1_1, .int .i64 a1_2, .int .i64 a1_3] 22 (0, 0))) ∧ (w'.heap[g2]? = some (.cells #[.int .i64 a2_0, .int .i64 a2_1, .int .i64 a2_2, .int .i64 a2_3] 22 (0, 0))) ∧ (w'.heap[g3]? = some (.cells #[.int .i64 t196, .int .i64 t197, .int .i64 t198, .int .i64 t199] 23 (0, 0))) ∧ (w'.heap[g4]? = some (.cells #[.int .i64 t200, .int .i64 t201, .int .i64 t202, .int .i64 t203] 23 (0, 0))) ∧ (w'.heap[s_]? = some (.cells #[.int .i64 0, .int .i64 0, .int .i64 0, .int .i64 0] 23 (0, 0))) ∧ (w.heap.size ≤ s_) ∧ (w.heap.size ≤ s_) ∧ (g1 ≠ s_) ∧ (s_ ≠ g1) ∧ (g2 ≠ s_) ∧ (s_ ≠ g2) ∧ (g3 ≠ s_) ∧ (s_ ≠ g3) ∧ (g4 ≠ s_) ∧ (s_ ≠ g4) ∧ (Below w.heap.size w w')) ?_ ?_
              rotate_left
              ·intro hJ10
               refine join_ (σ := Nat) 11 #[true, true, false, true, false, false, false, false, false, false, false, true, false, false, false] (fun s_ => [(11, .pointer (some ⟨s_, 0, none⟩))]) (fun s_ w' => (w'.cell? ⟨g1, 0, none⟩ = some (.int .i64 a1_0) ∧ w'.cell? ⟨g1, 1, none⟩ = some (.int .i64 a1_1) ∧ w'.cell? ⟨g1, 2, none⟩ = some (.int .i64 a1_2) ∧ w'.cell? ⟨g1, 3, none⟩ = some (.int .i64 a1_3) ∧ w'.cell? ⟨g2, 0, none⟩ = some (.int .i64 a2_0) ∧ w'.cell? ⟨g2, 1, none⟩ = some (.int .i64 a2_1) ∧ w'.cell? ⟨g2, 2, none⟩ = some (.int .i64 a2_2) ∧ w'.cell? ⟨g2, 3, none⟩ = some (.int .i64 a2_3)) ∧ (w'.heap[g1]? = some (.cells #[.int .i64 a1_0, .int .i64 a1_1, .int .i64 a1_2, .int .i64 a1_3] 22 (0, 0))) ∧ (w'.heap[g2]? = some (.cells #[.int .i64 a2_0, .int .i64 a2_1, .int .i64 a2_2, .int .i64 a2_3] 22 (0, 0))) ∧ (w'.heap[g3]? = some (.cells #[.int .i64 t196, .int .i64 t197, .int .i64 t198, .int .i64 t199] 23 (0, 0))) ∧ (w'.heap[g4]? = some (.cells #[.int .i64 t200, .int .i64 t201, .int .i64 t202, .int .i64 t203] 23 (0, 0))) ∧ (w'.heap[s_]? = some (.cells #[.int .i64 0, .int .i64 0, .int .i64 0, .int .i64 0] 23 (0, 0))) ∧ (w.heap.size ≤ s_) ∧ (w.heap.size ≤ s_) ∧ (g1 ≠ s_) ∧ (s_ ≠ g1) ∧ (g2 ≠ s_) ∧ (s_ ≠ g2) ∧ (g3 ≠ s_) ∧ (s_ ≠ g3) ∧ (g4 ≠ s_) ∧ (s_ ≠ g4) ∧ (Below w.heap.size w w')) ?_ ?_
               rotate_left
               ·intro hJ11
                refine three_ (i := 2) (j := 10) (k := 11) (Ni := some 26) (Nj := some 10) (Nk := some 11) #[true, true, true, true, false, false, false, false, false, false, false, false, false, false, false] #[true, true, false, true, false, false, false, false, false, false, true, false, false, false, false] #[true, true, false, true, false, false, false, false, false, false, false, true, false, false, false] rfl rfl rfl rfl rfl rfl (three_of HT_.out (by kernel_rfl)) (by decide) (by decide) (by decide) (fun K hK => ?_) (fun K hK => ?_) (fun K hK => ?_)
                ·skip
                 refine goes_ Try.func6 (by kernel_rfl) rfl #[.agg #[.int .i64 a1_0, .int .i64 a1_1, .int .i64 a1_2, .int .i64 a1_3]] (by rfl) rfl rfl (by (try simp only [List.map_toArray, List.map_cons, List.map_nil]); first | done | rfl | (simp only [List.length_drop, List.length_take]; rfl)) ?_
                 with_reducible refine (laws_toState.calls k a1_0 a1_1 a1_2 a1_3 t207 t208 t209 t210 _ A7.out).mono ?_
                 rintro e w34 ⟨rfl, hb⟩
                 refine ⟨_, rfl, ?_⟩
                 have n0_ := zh.mk (zo (g := g1) (o := .cells #[.int .i64 a1_0, .int .i64 a1_1, .int .i64 a1_2, .int .i64 a1_3] 22 (0, 0)) (by (with_reducible repeat (first | refine ze ?_ _ | refine zf ?_ | refine za ?_ _)); exact BK1.out) hb)
                 have n1_ := zh.mk (zo (g := g2) (o := .cells #[.int .i64 a2_0, .int .i64 a2_1, .int .i64 a2_2, .int .i64 a2_3] 22 (0, 0)) (by (with_reducible repeat (first | refine ze ?_ _ | refine zf ?_ | refine za ?_ _)); exact BK2.out) hb)
                 have n2_ := zh.mk (zo (g := g3) (o := .cells #[.int .i64 t196, .int .i64 t197, .int .i64 t198, .int .i64 t199] 23 (0, 0)) (by (with_reducible repeat (first | refine ze ?_ _ | refine zf ?_ | refine za ?_ _)); exact BK3.out) hb)
                 have n3_ := zh.mk (zo (g := g4) (o := .cells #[.int .i64 t200, .int .i64 t201, .int .i64 t202, .int .i64 t203] 23 (0, 0)) (by (with_reducible repeat (first | refine ze ?_ _ | refine zf ?_ | refine za ?_ _)); exact BK4.out) hb)
                 have n4_ := zh.mk (zs (by repeat (first | (with_reducible first | exact HB.out | apply zl | apply zj | apply zk | refine zg ?_ GE1.out | refine zg ?_ GE2.out | refine zg ?_ GE3.out | refine zg ?_ GE4.out) | exact HB.out)) hb)
                 clear BK1
                 clear BK2
                 clear BK3
                 clear BK4
                 clear HB
                 have BK1 := n0_
                 have BK2 := n1_
                 have BK3 := n2_
                 have BK4 := n3_
                 have HB := n4_
                 clear n0_ n1_ n2_ n3_ n4_
                 (try clear hb)
                 (try clear hb2)
                 (try clear hk)
                 (try clear hi)
                 refine hK.out _ _ ⟨(zi BK1.out 0).trans rfl, (zi BK1.out 1).trans rfl, (zi BK1.out 2).trans rfl, (zi BK1.out 3).trans rfl, (zi BK2.out 0).trans rfl, (zi BK2.out 1).trans rfl, (zi BK2.out 2).trans rfl, (zi BK2.out 3).trans rfl⟩ (fun hHeld => ?_)
                 clear hK K
                 refine zca (a' := ?_) ?_ ?_
                 rotate_left
                 ·show Act.put _ (some 26) _ = _
                  simp only [Act.put, List.setIfInBounds_toArray, List.set_cons_zero, List.set_cons_succ, zu, zt]
                  rfl
                 exact zca (by first | (simp only [zy, Act.put, List.setIfInBounds_toArray, List.set_cons_zero, List.set_cons_succ]; done) | (simp only [zy, Act.put, List.setIfInBounds_toArray, List.set_cons_zero, List.set_cons_succ]; rfl)) (hJ2 () _ ⟨hHeld, (by (with_reducible repeat (first | refine ze ?_ _ | refine zf ?_ | refine za ?_ _)); exact BK1.out), (by (with_reducible repeat (first | refine ze ?_ _ | refine zf ?_ | refine za ?_ _)); exact BK2.out), (by (with_reducible repeat (first | refine ze ?_ _ | refine zf ?_ | refine za ?_ _)); exact BK3.out), (by (with_reducible repeat (first | refine ze ?_ _ | refine zf ?_ | refine za ?_ _)); exact BK4.out), (by repeat (first | (with_reducible first | exact HB.out | apply zl | apply zj | apply zk | refine zg ?_ GE1.out | refine zg ?_ GE2.out | refine zg ?_ GE3.out | refine zg ?_ GE4.out) | exact HB.out))⟩)
                ·skip
                 refine zha ?hg (N := 10) ?hd (cs := #[.int .i64 0, .int .i64 0, .int .i64 0, .int .i64 0]) (t := 23) ?hr ?_; (case hd => rfl); (case hg => rfl); (case hr => first | (go_simp; done) | (go_simp; rfl))
                 intro g5 hg w34 hbox hb
                 have n0_ := zh.mk (zo (g := g1) (o := .cells #[.int .i64 a1_0, .int .i64 a1_1, .int .i64 a1_2, .int .i64 a1_3] 22 (0, 0)) (by (with_reducible repeat (first | refine ze ?_ _ | refine zf ?_ | refine za ?_ _)); exact BK1.out) hb)
                 have n1_ := zh.mk (zo (g := g2) (o := .cells #[.int .i64 a2_0, .int .i64 a2_1, .int .i64 a2_2, .int .i64 a2_3] 22 (0, 0)) (by (with_reducible repeat (first | refine ze ?_ _ | refine zf ?_ | refine za ?_ _)); exact BK2.out) hb)
                 have n2_ := zh.mk (zo (g := g3) (o := .cells #[.int .i64 t196, .int .i64 t197, .int .i64 t198, .int .i64 t199] 23 (0, 0)) (by (with_reducible repeat (first | refine ze ?_ _ | refine zf ?_ | refine za ?_ _)); exact BK3.out) hb)
                 have n3_ := zh.mk (zo (g := g4) (o := .cells #[.int .i64 t200, .int .i64 t201, .int .i64 t202, .int .i64 t203] 23 (0, 0)) (by (with_reducible repeat (first | refine ze ?_ _ | refine zf ?_ | refine za ?_ _)); exact BK4.out) hb)
                 have n4_ := zh.mk (zs (by repeat (first | (with_reducible first | exact HB.out | apply zl | apply zj | apply zk | refine zg ?_ GE1.out | refine zg ?_ GE2.out | refine zg ?_ GE3.out | refine zg ?_ GE4.out) | exact HB.out)) hb)
                 have n5_ := zh.mk (hbox)
                 have n6_ := zh.mk ((by rw [hg]; exact (zq (by repeat (first | (with_reducible first | exact HB.out | apply zl | apply zj | apply zk | refine zg ?_ GE1.out | refine zg ?_ GE2.out | refine zg ?_ GE3.out | refine zg ?_ GE4.out) | exact HB.out))) : w.heap.size ≤ g5))
                 have n7_ := zh.mk ((by rw [hg]; exact (zq (by repeat (first | (with_reducible first | exact HB.out | apply zl | apply zj | apply zk | refine zg ?_ GE1.out | refine zg ?_ GE2.out | refine zg ?_ GE3.out | refine zg ?_ GE4.out) | exact HB.out))) : w.heap.size ≤ g5))
                 have n8_ := zh.mk ((by rw [hg]; exact Nat.ne_of_lt (zr (g := g1) (o := .cells #[.int .i64 a1_0, .int .i64 a1_1, .int .i64 a1_2, .int .i64 a1_3] 22 (0, 0)) (by (with_reducible repeat (first | refine ze ?_ _ | refine zf ?_ | refine za ?_ _)); exact BK1.out)) : g1 ≠ g5))
                 have n9_ := zh.mk ((by rw [hg]; exact Nat.ne_of_gt (zr (g := g1) (o := .cells #[.int .i64 a1_0, .int .i64 a1_1, .int .i64 a1_2, .int .i64 a1_3] 22 (0, 0)) (by (with_reducible repeat (first | refine ze ?_ _ | refine zf ?_ | refine za ?_ _)); exact BK1.out)) : g5 ≠ g1))
                 have n10_ := zh.mk ((by rw [hg]; exact Nat.ne_of_lt (zr (g := g2) (o := .cells #[.int .i64 a2_0, .int .i64 a2_1, .int .i64 a2_2, .int .i64 a2_3] 22 (0, 0)) (by (with_reducible repeat (first | refine ze ?_ _ | refine zf ?_ | refine za ?_ _)); exact BK2.out)) : g2 ≠ g5))
                 have n11_ := zh.mk ((by rw [hg]; exact Nat.ne_of_gt (zr (g := g2) (o := .cells #[.int .i64 a2_0, .int .i64 a2_1, .int .i64 a2_2, .int .i64 a2_3] 22 (0, 0)) (by (with_reducible repeat (first | refine ze ?_ _ | refine zf ?_ | refine za ?_ _)); exact BK2.out)) : g5 ≠ g2))
                 have n12_ := zh.mk ((by rw [hg]; exact Nat.ne_of_lt (zr (g := g3) (o := .cells #[.int .i64 t196, .int .i64 t197, .int .i64 t198, .int .i64 t199] 23 (0, 0)) (by (with_reducible repeat (first | refine ze ?_ _ | refine zf ?_ | refine za ?_ _)); exact BK3.out)) : g3 ≠ g5))
                 have n13_ := zh.mk ((by rw [hg]; exact Nat.ne_of_gt (zr (g := g3) (o := .cells #[.int .i64 t196, .int .i64 t197, .int .i64 t198, .int .i64 t199] 23 (0, 0)) (by (with_reducible repeat (first | refine ze ?_ _ | refine zf ?_ | refine za ?_ _)); exact BK3.out)) : g5 ≠ g3))
                 have n14_ := zh.mk ((by rw [hg]; exact Nat.ne_of_lt (zr (g := g4) (o := .cells #[.int .i64 t200, .int .i64 t201, .int .i64 t202, .int .i64 t203] 23 (0, 0)) (by (with_reducible repeat (first | refine ze ?_ _ | refine zf ?_ | refine za ?_ _)); exact BK4.out)) : g4 ≠ g5))
                 have n15_ := zh.mk ((by rw [hg]; exact Nat.ne_of_gt (zr (g := g4) (o := .cells #[.int .i64 t200, .int .i64 t201, .int .i64 t202, .int .i64 t203] 23 (0, 0)) (by (with_reducible repeat (first | refine ze ?_ _ | refine zf ?_ | refine za ?_ _)); exact BK4.out)) : g5 ≠ g4))
                 clear BK1
                 clear BK2
                 clear BK3
                 clear BK4
                 clear HB
                 have BK1 := n0_
                 have BK2 := n1_
                 have BK3 := n2_
                 have BK4 := n3_
                 have HB := n4_
                 have BK5 := n5_
                 have GW5 := n6_
                 have GE5 := n7_
                 have N1_5 := n8_
                 have N5_1 := n9_
                 have N2_5 := n10_
                 have N5_2 := n11_
                 have N3_5 := n12_
                 have N5_3 := n13_
                 have N4_5 := n14_
                 have N5_4 := n15_
                 clear n0_ n1_ n2_ n3_ n4_ n5_ n6_ n7_ n8_ n9_ n10_ n11_ n12_ n13_ n14_ n15_
                 clear hb hbox hg
                 refine hK.out _ _ ⟨(zi BK1.out 0).trans rfl, (zi BK1.out 1).trans rfl, (zi BK1.out 2).trans rfl, (zi BK1.out 3).trans rfl, (zi BK2.out 0).trans rfl, (zi BK2.out 1).trans rfl, (zi BK2.out 2).trans rfl, (zi BK2.out 3).trans rfl⟩ (fun hHeld => ?_)
                 clear hK K
                 refine zca (a' := ?_) ?_ ?_
                 rotate_left
                 ·show Act.put _ (some 10) _ = _
                  simp only [Act.put, List.setIfInBounds_toArray, List.set_cons_zero, List.set_cons_succ, zu, zt]
                  rfl
                 exact zca (by first | (simp only [zy, Act.put, List.setIfInBounds_toArray, List.set_cons_zero, List.set_cons_succ]; done) | (simp only [zy, Act.put, List.setIfInBounds_toArray, List.set_cons_zero, List.set_cons_succ]; rfl)) (hJ10 (g5) _ ⟨hHeld, (by (with_reducible repeat (first | refine ze ?_ _ | refine zf ?_ | refine za ?_ _)); exact BK1.out), (by (with_reducible repeat (first | refine ze ?_ _ | refine zf ?_ | refine za ?_ _)); exact BK2.out), (by (with_reducible repeat (first | refine ze ?_ _ | refine zf ?_ | refine za ?_ _)); exact BK3.out), (by (with_reducible repeat (first | refine ze ?_ _ | refine zf ?_ | refine za ?_ _)); exact BK4.out), (by (with_reducible repeat (first | refine ze ?_ _ | refine zf ?_ | refine za ?_ _)); exact BK5.out), GW5.out, GE5.out, N1_5.out, N5_1.out, N2_5.out, N5_2.out, N3_5.out, N5_3.out, N4_5.out, N5_4.out, (by repeat (first | (with_reducible first | exact HB.out | apply zl | apply zj | apply zk | refine zg ?_ GE1.out | refine zg ?_ GE2.out | refine zg ?_ GE3.out | refine zg ?_ GE4.out | refine zg ?_ GE5.out) | exact HB.out))⟩)
                ·skip
                 refine zha ?hg (N := 11) ?hd (cs := #[.int .i64 0, .int .i64 0, .int .i64 0, .int .i64 0]) (t := 23) ?hr ?_; (case hd => rfl); (case hg => rfl); (case hr => first | (go_simp; done) | (go_simp; rfl))
                 intro g6 hg w34 hbox hb
                 have n0_ := zh.mk (zo (g := g1) (o := .cells #[.int .i64 a1_0, .int .i64 a1_1, .int .i64 a1_2, .int .i64 a1_3] 22 (0, 0)) (by (with_reducible repeat (first | refine ze ?_ _ | refine zf ?_ | refine za ?_ _)); exact BK1.out) hb)
                 have n1_ := zh.mk (zo (g := g2) (o := .cells #[.int .i64 a2_0, .int .i64 a2_1, .int .i64 a2_2, .int .i64 a2_3] 22 (0, 0)) (by (with_reducible repeat (first | refine ze ?_ _ | refine zf ?_ | refine za ?_ _)); exact BK2.out) hb)
                 have n2_ := zh.mk (zo (g := g3) (o := .cells #[.int .i64 t196, .int .i64 t197, .int .i64 t198, .int .i64 t199] 23 (0, 0)) (by (with_reducible repeat (first | refine ze ?_ _ | refine zf ?_ | refine za ?_ _)); exact BK3.out) hb)
                 have n3_ := zh.mk (zo (g := g4) (o := .cells #[.int .i64 t200, .int .i64 t201, .int .i64 t202, .int .i64 t203] 23 (0, 0)) (by (with_reducible repeat (first | refine ze ?_ _ | refine zf ?_ | refine za ?_ _)); exact BK4.out) hb)
                 have n4_ := zh.mk (zs (by repeat (first | (with_reducible first | exact HB.out | apply zl | apply zj | apply zk | refine zg ?_ GE1.out | refine zg ?_ GE2.out | refine zg ?_ GE3.out | refine zg ?_ GE4.out) | exact HB.out)) hb)
                 have n5_ := zh.mk (hbox)
                 have n6_ := zh.mk ((by rw [hg]; exact (zq (by repeat (first | (with_reducible first | exact HB.out | apply zl | apply zj | apply zk | refine zg ?_ GE1.out | refine zg ?_ GE2.out | refine zg ?_ GE3.out | refine zg ?_ GE4.out) | exact HB.out))) : w.heap.size ≤ g6))
                 have n7_ := zh.mk ((by rw [hg]; exact (zq (by repeat (first | (with_reducible first | exact HB.out | apply zl | apply zj | apply zk | refine zg ?_ GE1.out | refine zg ?_ GE2.out | refine zg ?_ GE3.out | refine zg ?_ GE4.out) | exact HB.out))) : w.heap.size ≤ g6))
                 have n8_ := zh.mk ((by rw [hg]; exact Nat.ne_of_lt (zr (g := g1) (o := .cells #[.int .i64 a1_0, .int .i64 a1_1, .int .i64 a1_2, .int .i64 a1_3] 22 (0, 0)) (by (with_reducible repeat (first | refine ze ?_ _ | refine zf ?_ | refine za ?_ _)); exact BK1.out)) : g1 ≠ g6))
                 have n9_ := zh.mk ((by rw [hg]; exact Nat.ne_of_gt (zr (g := g1) (o := .cells #[.int .i64 a1_0, .int .i64 a1_1, .int .i64 a1_2, .int .i64 a1_3] 22 (0, 0)) (by (with_reducible repeat (first | refine ze ?_ _ | refine zf ?_ | refine za ?_ _)); exact BK1.out)) : g6 ≠ g1))
                 have n10_ := zh.mk ((by rw [hg]; exact Nat.ne_of_lt (zr (g := g2) (o := .cells #[.int .i64 a2_0, .int .i64 a2_1, .int .i64 a2_2, .int .i64 a2_3] 22 (0, 0)) (by (with_reducible repeat (first | refine ze ?_ _ | refine zf ?_ | refine za ?_ _)); exact BK2.out)) : g2 ≠ g6))
                 have n11_ := zh.mk ((by rw [hg]; exact Nat.ne_of_gt (zr (g := g2) (o := .cells #[.int .i64 a2_0, .int .i64 a2_1, .int .i64 a2_2, .int .i64 a2_3] 22 (0, 0)) (by (with_reducible repeat (first | refine ze ?_ _ | refine zf ?_ | refine za ?_ _)); exact BK2.out)) : g6 ≠ g2))
                 have n12_ := zh.mk ((by rw [hg]; exact Nat.ne_of_lt (zr (g := g3) (o := .cells #[.int .i64 t196, .int .i64 t197, .int .i64 t198, .int .i64 t199] 23 (0, 0)) (by (with_reducible repeat (first | refine ze ?_ _ | refine zf ?_ | refine za ?_ _)); exact BK3.out)) : g3 ≠ g6))
                 have n13_ := zh.mk ((by rw [hg]; exact Nat.ne_of_gt (zr (g := g3) (o := .cells #[.int .i64 t196, .int .i64 t197, .int .i64 t198, .int .i64 t199] 23 (0, 0)) (by (with_reducible repeat (first | refine ze ?_ _ | refine zf ?_ | refine za ?_ _)); exact BK3.out)) : g6 ≠ g3))
                 have n14_ := zh.mk ((by rw [hg]; exact Nat.ne_of_lt (zr (g := g4) (o := .cells #[.int .i64 t200, .int .i64 t201, .int .i64 t202, .int .i64 t203] 23 (0, 0)) (by (with_reducible repeat (first | refine ze ?_ _ | refine zf ?_ | refine za ?_ _)); exact BK4.out)) : g4 ≠ g6))
                 have n15_ := zh.mk ((by rw [hg]; exact Nat.ne_of_gt (zr (g := g4) (o := .cells #[.int .i64 t200, .int .i64 t201, .int .i64 t202, .int .i64 t203] 23 (0, 0)) (by (with_reducible repeat (first | refine ze ?_ _ | refine zf ?_ | refine za ?_ _)); exact BK4.out)) : g6 ≠ g4))
                 clear BK1
                 clear BK2
                 clear BK3
                 clear BK4
                 clear HB
                 have BK1 := n0_
                 have BK2 := n1_
                 have BK3 := n2_
                 have BK4 := n3_
                 have HB := n4_
                 have BK6 := n5_
                 have GW6 := n6_
                 have GE6 := n7_
                 have N1_6 := n8_
                 have N6_1 := n9_
                 have N2_6 := n10_
                 have N6_2 := n11_
                 have N3_6 := n12_
                 have N6_3 := n13_
                 have N4_6 := n14_
                 have N6_4 := n15_
                 clear n0_ n1_ n2_ n3_ n4_ n5_ n6_ n7_ n8_ n9_ n10_ n11_ n12_ n13_ n14_ n15_
                 clear hb hbox hg
                 refine hK.out _ _ ⟨(zi BK1.out 0).trans rfl, (zi BK1.out 1).trans rfl, (zi BK1.out 2).trans rfl, (zi BK1.out 3).trans rfl, (zi BK2.out 0).trans rfl, (zi BK2.out 1).trans rfl, (zi BK2.out 2).trans rfl, (zi BK2.out 3).trans rfl⟩ (fun hHeld => ?_)
                 clear hK K
                 refine zca (a' := ?_) ?_ ?_
                 rotate_left
                 ·show Act.put _ (some 11) _ = _
                  simp only [Act.put, List.setIfInBounds_toArray, List.set_cons_zero, List.set_cons_succ, zu, zt]
                  rfl
                 exact zca (by first | (simp only [zy, Act.put, List.setIfInBounds_toArray, List.set_cons_zero, List.set_cons_succ]; done) | (simp only [zy, Act.put, List.setIfInBounds_toArray, List.set_cons_zero, List.set_cons_succ]; rfl)) (hJ11 (g6) _ ⟨hHeld, (by (with_reducible repeat (first | refine ze ?_ _ | refine zf ?_ | refine za ?_ _)); exact BK1.out), (by (with_reducible repeat (first | refine ze ?_ _ | refine zf ?_ | refine za ?_ _)); exact BK2.out), (by (with_reducible repeat (first | refine ze ?_ _ | refine zf ?_ | refine za ?_ _)); exact BK3.out), (by (with_reducible repeat (first | refine ze ?_ _ | refine zf ?_ | refine za ?_ _)); exact BK4.out), (by (with_reducible repeat (first | refine ze ?_ _ | refine zf ?_ | refine za ?_ _)); exact BK6.out), GW6.out, GE6.out, N1_6.out, N6_1.out, N2_6.out, N6_2.out, N3_6.out, N6_3.out, N4_6.out, N6_4.out, (by repeat (first | (with_reducible first | exact HB.out | apply zl | apply zj | apply zk | refine zg ?_ GE1.out | refine zg ?_ GE2.out | refine zg ?_ GE3.out | refine zg ?_ GE4.out | refine zg ?_ GE6.out) | exact HB.out))⟩)
               ·skip
                rintro g6 w35 ⟨hS_, h0_, h1_, h2_, h3_, h4_, h5_, h6_, h7_, h8_, h9_, h10_, h11_, h12_, h13_, h14_, h15_⟩
                have n0_ : zh (w35.heap[g1]? = some (.cells #[.int .i64 a1_0, .int .i64 a1_1, .int .i64 a1_2, .int .i64 a1_3] 22 (0, 0))) := ⟨h0_⟩
                have n1_ : zh (w35.heap[g2]? = some (.cells #[.int .i64 a2_0, .int .i64 a2_1, .int .i64 a2_2, .int .i64 a2_3] 22 (0, 0))) := ⟨h1_⟩
                have n2_ : zh (w35.heap[g3]? = some (.cells #[.int .i64 t196, .int .i64 t197, .int .i64 t198, .int .i64 t199] 23 (0, 0))) := ⟨h2_⟩
                have n3_ : zh (w35.heap[g4]? = some (.cells #[.int .i64 t200, .int .i64 t201, .int .i64 t202, .int .i64 t203] 23 (0, 0))) := ⟨h3_⟩
                have n4_ : zh (w35.heap[g6]? = some (.cells #[.int .i64 0, .int .i64 0, .int .i64 0, .int .i64 0] 23 (0, 0))) := ⟨h4_⟩
                have n5_ : zh (w.heap.size ≤ g6) := ⟨h5_⟩
                have n6_ : zh (w.heap.size ≤ g6) := ⟨h6_⟩
                have n7_ : zh (g1 ≠ g6) := ⟨h7_⟩
                have n8_ : zh (g6 ≠ g1) := ⟨h8_⟩
                have n9_ : zh (g2 ≠ g6) := ⟨h9_⟩
                have n10_ : zh (g6 ≠ g2) := ⟨h10_⟩
                have n11_ : zh (g3 ≠ g6) := ⟨h11_⟩
                have n12_ : zh (g6 ≠ g3) := ⟨h12_⟩
                have n13_ : zh (g4 ≠ g6) := ⟨h13_⟩
                have n14_ : zh (g6 ≠ g4) := ⟨h14_⟩
                have n15_ : zh (Below w.heap.size w w35) := ⟨h15_⟩
                clear BK1
                clear BK2
                clear BK3
                clear BK4
                clear HB
                clear h0_ h1_ h2_ h3_ h4_ h5_ h6_ h7_ h8_ h9_ h10_ h11_ h12_ h13_ h14_ h15_
                have BK1 := n0_
                have BK2 := n1_
                have BK3 := n2_
                have BK4 := n3_
                have BK6 := n4_
                have GW6 := n5_
                have GE6 := n6_
                have N1_6 := n7_
                have N6_1 := n8_
                have N2_6 := n9_
                have N6_2 := n10_
                have N3_6 := n11_
                have N6_3 := n12_
                have N4_6 := n13_
                have N6_4 := n14_
                have HB := n15_
                clear n0_ n1_ n2_ n3_ n4_ n5_ n6_ n7_ n8_ n9_ n10_ n11_ n12_ n13_ n14_ n15_
                have hHeld : w35.cell? ⟨g1, 0, none⟩ = some (.int .i64 a1_0) ∧ w35.cell? ⟨g1, 1, none⟩ = some (.int .i64 a1_1) ∧ w35.cell? ⟨g1, 2, none⟩ = some (.int .i64 a1_2) ∧ w35.cell? ⟨g1, 3, none⟩ = some (.int .i64 a1_3) ∧ w35.cell? ⟨g2, 0, none⟩ = some (.int .i64 a2_0) ∧ w35.cell? ⟨g2, 1, none⟩ = some (.int .i64 a2_1) ∧ w35.cell? ⟨g2, 2, none⟩ = some (.int .i64 a2_2) ∧ w35.cell? ⟨g2, 3, none⟩ = some (.int .i64 a2_3) := hS_
                refine zca (a' := ?_) ?_ ?_
                rotate_left
                ·simp only [zy, Act.put, List.setIfInBounds_toArray, List.set_cons_zero, List.set_cons_succ]
                 rfl
                refine two_ (i := 2) (j := 10) (Ni := some 26) (Nj := some 10) #[true, true, true, true, false, false, false, false, false, false, false, true, false, false, false] #[true, true, false, true, false, false, false, false, false, false, true, true, false, false, false] rfl rfl rfl rfl (two_of HT_.out (by kernel_rfl)) (by decide) (by decide) (fun K hK => ?_) (fun K hK => ?_)
                ·skip
                 refine goes_ Try.func6 (by kernel_rfl) rfl #[.agg #[.int .i64 a1_0, .int .i64 a1_1, .int .i64 a1_2, .int .i64 a1_3]] (by rfl) rfl rfl (by (try simp only [List.map_toArray, List.map_cons, List.map_nil]); first | done | rfl | (simp only [List.length_drop, List.length_take]; rfl)) ?_
                 with_reducible refine (laws_toState.calls k a1_0 a1_1 a1_2 a1_3 t207 t208 t209 t210 _ A7.out).mono ?_
                 rintro e w36 ⟨rfl, hb⟩
                 refine ⟨_, rfl, ?_⟩
                 have n0_ := zh.mk (zo (g := g1) (o := .cells #[.int .i64 a1_0, .int .i64 a1_1, .int .i64 a1_2, .int .i64 a1_3] 22 (0, 0)) (by (with_reducible repeat (first | refine ze ?_ _ | refine zf ?_ | refine za ?_ _)); exact BK1.out) hb)
                 have n1_ := zh.mk (zo (g := g2) (o := .cells #[.int .i64 a2_0, .int .i64 a2_1, .int .i64 a2_2, .int .i64 a2_3] 22 (0, 0)) (by (with_reducible repeat (first | refine ze ?_ _ | refine zf ?_ | refine za ?_ _)); exact BK2.out) hb)
                 have n2_ := zh.mk (zo (g := g3) (o := .cells #[.int .i64 t196, .int .i64 t197, .int .i64 t198, .int .i64 t199] 23 (0, 0)) (by (with_reducible repeat (first | refine ze ?_ _ | refine zf ?_ | refine za ?_ _)); exact BK3.out) hb)
                 have n3_ := zh.mk (zo (g := g4) (o := .cells #[.int .i64 t200, .int .i64 t201, .int .i64 t202, .int .i64 t203] 23 (0, 0)) (by (with_reducible repeat (first | refine ze ?_ _ | refine zf ?_ | refine za ?_ _)); exact BK4.out) hb)
                 have n4_ := zh.mk (zo (g := g6) (o := .cells #[.int .i64 0, .int .i64 0, .int .i64 0, .int .i64 0] 23 (0, 0)) (by (with_reducible repeat (first | refine ze ?_ _ | refine zf ?_ | refine za ?_ _)); exact BK6.out) hb)
                 have n5_ := zh.mk (zs (by repeat (first | (with_reducible first | exact HB.out | apply zl | apply zj | apply zk | refine zg ?_ GE1.out | refine zg ?_ GE2.out | refine zg ?_ GE3.out | refine zg ?_ GE4.out | refine zg ?_ GE6.out) | exact HB.out)) hb)
                 clear BK1
                 clear BK2
                 clear BK3
                 clear BK4
                 clear BK6
                 clear HB
                 have BK1 := n0_
                 have BK2 := n1_
                 have BK3 := n2_
                 have BK4 := n3_
                 have BK6 := n4_
                 have HB := n5_
                 clear n0_ n1_ n2_ n3_ n4_ n5_
                 (try clear hb)
                 (try clear hb2)
                 (try clear hk)
                 (try clear hi)
                 refine hK.out _ _ ⟨(zi BK1.out 0).trans rfl, (zi BK1.out 1).trans rfl, (zi BK1.out 2).trans rfl, (zi BK1.out 3).trans rfl, (zi BK2.out 0).trans rfl, (zi BK2.out 1).trans rfl, (zi BK2.out 2).trans rfl, (zi BK2.out 3).trans rfl⟩ (fun hHeld => ?_)
                 clear hK K
                 refine zca (a' := ?_) ?_ ?_
                 rotate_left
                 ·show Act.put _ (some 26) _ = _
                  simp only [Act.put, List.setIfInBounds_toArray, List.set_cons_zero, List.set_cons_succ, zu, zt]
                  rfl
                 exact zca (by first | (simp only [zy, Act.put, List.setIfInBounds_toArray, List.set_cons_zero, List.set_cons_succ]; done) | (simp only [zy, Act.put, List.setIfInBounds_toArray, List.set_cons_zero, List.set_cons_succ]; rfl)) (hJ2_11 (g6) _ ⟨hHeld, (by (with_reducible repeat (first | refine ze ?_ _ | refine zf ?_ | refine za ?_ _)); exact BK1.out), (by (with_reducible repeat (first | refine ze ?_ _ | refine zf ?_ | refine za ?_ _)); exact BK2.out), (by (with_reducible repeat (first | refine ze ?_ _ | refine zf ?_ | refine za ?_ _)); exact BK3.out), (by (with_reducible repeat (first | refine ze ?_ _ | refine zf ?_ | refine za ?_ _)); exact BK4.out), (by (with_reducible repeat (first | refine ze ?_ _ | refine zf ?_ | refine za ?_ _)); exact BK6.out), GW6.out, GE6.out, N1_6.out, N6_1.out, N2_6.out, N6_2.out, N3_6.out, N6_3.out, N4_6.out, N6_4.out, (by repeat (first | (with_reducible first | exact HB.out | apply zl | apply zj | apply zk | refine zg ?_ GE1.out | refine zg ?_ GE2.out | refine zg ?_ GE3.out | refine zg ?_ GE4.out | refine zg ?_ GE6.out) | exact HB.out))⟩)
                ·skip
                 refine zha ?hg (N := 10) ?hd (cs := #[.int .i64 0, .int .i64 0, .int .i64 0, .int .i64 0]) (t := 23) ?hr ?_; (case hd => rfl); (case hg => rfl); (case hr => first | (go_simp; done) | (go_simp; rfl))
                 intro g5 hg w36 hbox hb
                 have n0_ := zh.mk (zo (g := g1) (o := .cells #[.int .i64 a1_0, .int .i64 a1_1, .int .i64 a1_2, .int .i64 a1_3] 22 (0, 0)) (by (with_reducible repeat (first | refine ze ?_ _ | refine zf ?_ | refine za ?_ _)); exact BK1.out) hb)
                 have n1_ := zh.mk (zo (g := g2) (o := .cells #[.int .i64 a2_0, .int .i64 a2_1, .int .i64 a2_2, .int .i64 a2_3] 22 (0, 0)) (by (with_reducible repeat (first | refine ze ?_ _ | refine zf ?_ | refine za ?_ _)); exact BK2.out) hb)
                 have n2_ := zh.mk (zo (g := g3) (o := .cells #[.int .i64 t196, .int .i64 t197, .int .i64 t198, .int .i64 t199] 23 (0, 0)) (by (with_reducible repeat (first | refine ze ?_ _ | refine zf ?_ | refine za ?_ _)); exact BK3.out) hb)
                 have n3_ := zh.mk (zo (g := g4) (o := .cells #[.int .i64 t200, .int .i64 t201, .int .i64 t202, .int .i64 t203] 23 (0, 0)) (by (with_reducible repeat (first | refine ze ?_ _ | refine zf ?_ | refine za ?_ _)); exact BK4.out) hb)
                 have n4_ := zh.mk (zo (g := g6) (o := .cells #[.int .i64 0, .int .i64 0, .int .i64 0, .int .i64 0] 23 (0, 0)) (by (with_reducible repeat (first | refine ze ?_ _ | refine zf ?_ | refine za ?_ _)); exact BK6.out) hb)
                 have n5_ := zh.mk (zs (by repeat (first | (with_reducible first | exact HB.out | apply zl | apply zj | apply zk | refine zg ?_ GE1.out | refine zg ?_ GE2.out | refine zg ?_ GE3.out | refine zg ?_ GE4.out | refine zg ?_ GE6.out) | exact HB.out)) hb)
                 have n6_ := zh.mk (hbox)
                 have n7_ := zh.mk ((by rw [hg]; exact (zq (by repeat (first | (with_reducible first | exact HB.out | apply zl | apply zj | apply zk | refine zg ?_ GE1.out | refine zg ?_ GE2.out | refine zg ?_ GE3.out | refine zg ?_ GE4.out | refine zg ?_ GE6.out) | exact HB.out))) : w.heap.size ≤ g5))
                 have n8_ := zh.mk ((by rw [hg]; exact (zq (by repeat (first | (with_reducible first | exact HB.out | apply zl | apply zj | apply zk | refine zg ?_ GE1.out | refine zg ?_ GE2.out | refine zg ?_ GE3.out | refine zg ?_ GE4.out | refine zg ?_ GE6.out) | exact HB.out))) : w.heap.size ≤ g5))
                 have n9_ := zh.mk ((by rw [hg]; exact Nat.ne_of_lt (zr (g := g1) (o := .cells #[.int .i64 a1_0, .int .i64 a1_1, .int .i64 a1_2, .int .i64 a1_3] 22 (0, 0)) (by (with_reducible repeat (first | refine ze ?_ _ | refine zf ?_ | refine za ?_ _)); exact BK1.out)) : g1 ≠ g5))
                 have n10_ := zh.mk ((by rw [hg]; exact Nat.ne_of_gt (zr (g := g1) (o := .cells #[.int .i64 a1_0, .int .i64 a1_1, .int .i64 a1_2, .int .i64 a1_3] 22 (0, 0)) (by (with_reducible repeat (first | refine ze ?_ _ | refine zf ?_ | refine za ?_ _)); exact BK1.out)) : g5 ≠ g1))
                 have n11_ := zh.mk ((by rw [hg]; exact Nat.ne_of_lt (zr (g := g2) (o := .cells #[.int .i64 a2_0, .int .i64 a2_1, .int .i64 a2_2, .int .i64 a2_3] 22 (0, 0)) (by (with_reducible repeat (first | refine ze ?_ _ | refine zf ?_ | refine za ?_ _)); exact BK2.out)) : g2 ≠ g5))
                 have n12_ := zh.mk ((by rw [hg]; exact Nat.ne_of_gt (zr (g := g2) (o := .cells #[.int .i64 a2_0, .int .i64 a2_1, .int .i64 a2_2, .int .i64 a2_3] 22 (0, 0)) (by (with_reducible repeat (first | refine ze ?_ _ | refine zf ?_ | refine za ?_ _)); exact BK2.out)) : g5 ≠ g2))
                 have n13_ := zh.mk ((by rw [hg]; exact Nat.ne_of_lt (zr (g := g3) (o := .cells #[.int .i64 t196, .int .i64 t197, .int .i64 t198, .int .i64 t199] 23 (0, 0)) (by (with_reducible repeat (first | refine ze ?_ _ | refine zf ?_ | refine za ?_ _)); exact BK3.out)) : g3 ≠ g5))
                 have n14_ := zh.mk ((by rw [hg]; exact Nat.ne_of_gt (zr (g := g3) (o := .cells #[.int .i64 t196, .int .i64 t197, .int .i64 t198, .int .i64 t199] 23 (0, 0)) (by (with_reducible repeat (first | refine ze ?_ _ | refine zf ?_ | refine za ?_ _)); exact BK3.out)) : g5 ≠ g3))
                 have n15_ := zh.mk ((by rw [hg]; exact Nat.ne_of_lt (zr (g := g4) (o := .cells #[.int .i64 t200, .int .i64 t201, .int .i64 t202, .int .i64 t203] 23 (0, 0)) (by (with_reducible repeat (first | refine ze ?_ _ | refine zf ?_ | refine za ?_ _)); exact BK4.out)) : g4 ≠ g5))
                 have n16_ := zh.mk ((by rw [hg]; exact Nat.ne_of_gt (zr (g := g4) (o := .cells #[.int .i64 t200, .int .i64 t201, .int .i64 t202, .int .i64 t203] 23 (0, 0)) (by (with_reducible repeat (first | refine ze ?_ _ | refine zf ?_ | refine za ?_ _)); exact BK4.out)) : g5 ≠ g4))
                 have n17_ := zh.mk ((by rw [hg]; exact Nat.ne_of_lt (zr (g := g6) (o := .cells #[.int .i64 0, .int .i64 0, .int .i64 0, .int .i64 0] 23 (0, 0)) (by (with_reducible repeat (first | refine ze ?_ _ | refine zf ?_ | refine za ?_ _)); exact BK6.out)) : g6 ≠ g5))
                 have n18_ := zh.mk ((by rw [hg]; exact Nat.ne_of_gt (zr (g := g6) (o := .cells #[.int .i64 0, .int .i64 0, .int .i64 0, .int .i64 0] 23 (0, 0)) (by (with_reducible repeat (first | refine ze ?_ _ | refine zf ?_ | refine za ?_ _)); exact BK6.out)) : g5 ≠ g6))
                 clear BK1
                 clear BK2
                 clear BK3
                 clear BK4
                 clear BK6
                 clear HB
                 have BK1 := n0_
                 have BK2 := n1_
                 have BK3 := n2_
                 have BK4 := n3_
                 have BK6 := n4_
                 have HB := n5_
                 have BK5 := n6_
                 have GW5 := n7_
                 have GE5 := n8_
                 have N1_5 := n9_
                 have N5_1 := n10_
                 have N2_5 := n11_
                 have N5_2 := n12_
                 have N3_5 := n13_
                 have N5_3 := n14_
                 have N4_5 := n15_
                 have N5_4 := n16_
                 have N6_5 := n17_
                 have N5_6 := n18_
                 clear n0_ n1_ n2_ n3_ n4_ n5_ n6_ n7_ n8_ n9_ n10_ n11_ n12_ n13_ n14_ n15_ n16_ n17_ n18_
                 clear hb hbox hg
                 refine hK.out _ _ ⟨(zi BK1.out 0).trans rfl, (zi BK1.out 1).trans rfl, (zi BK1.out 2).trans rfl, (zi BK1.out 3).trans rfl, (zi BK2.out 0).trans rfl, (zi BK2.out 1).trans rfl, (zi BK2.out 2).trans rfl, (zi BK2.out 3).trans rfl⟩ (fun hHeld => ?_)
                 clear hK K
                 refine zca (a' := ?_) ?_ ?_
                 rotate_left
                 ·show Act.put _ (some 10) _ = _
                  simp only [Act.put, List.setIfInBounds_toArray, List.set_cons_zero, List.set_cons_succ, zu, zt]
                  rfl
                 exact zca (by first | (simp only [zy, Act.put, List.setIfInBounds_toArray, List.set_cons_zero, List.set_cons_succ]; done) | (simp only [zy, Act.put, List.setIfInBounds_toArray, List.set_cons_zero, List.set_cons_succ]; rfl)) (hJ10_11 (g5, g6) _ ⟨hHeld, (by (with_reducible repeat (first | refine ze ?_ _ | refine zf ?_ | refine za ?_ _)); exact BK1.out), (by (with_reducible repeat (first | refine ze ?_ _ | refine zf ?_ | refine za ?_ _)); exact BK2.out), (by (with_reducible repeat (first | refine ze ?_ _ | refine zf ?_ | refine za ?_ _)); exact BK3.out), (by (with_reducible repeat (first | refine ze ?_ _ | refine zf ?_ | refine za ?_ _)); exact BK4.out), (by (with_reducible repeat (first | refine ze ?_ _ | refine zf ?_ | refine za ?_ _)); exact BK5.out), (by (with_reducible repeat (first | refine ze ?_ _ | refine zf ?_ | refine za ?_ _)); exact BK6.out), GW5.out, GE5.out, N1_5.out, N5_1.out, N2_5.out, N5_2.out, N3_5.out, N5_3.out, N4_5.out, N5_4.out, N6_5.out, N5_6.out, GW6.out, GE6.out, N1_6.out, N6_1.out, N2_6.out, N6_2.out, N3_6.out, N6_3.out, N4_6.out, N6_4.out, (by repeat (first | (with_reducible first | exact HB.out | apply zl | apply zj | apply zk | refine zg ?_ GE1.out | refine zg ?_ GE2.out | refine zg ?_ GE3.out | refine zg ?_ GE4.out | refine zg ?_ GE6.out | refine zg ?_ GE5.out) | exact HB.out))⟩)
              ·skip
               rintro g5 w35 ⟨hS_, h0_, h1_, h2_, h3_, h4_, h5_, h6_, h7_, h8_, h9_, h10_, h11_, h12_, h13_, h14_, h15_⟩
               have n0_ : zh (w35.heap[g1]? = some (.cells #[.int .i64 a1_0, .int .i64 a1_1, .int .i64 a1_2, .int .i64 a1_3] 22 (0, 0))) := ⟨h0_⟩
               have n1_ : zh (w35.heap[g2]? = some (.cells #[.int .i64 a2_0, .int .i64 a2_1, .int .i64 a2_2, .int .i64 a2_3] 22 (0, 0))) := ⟨h1_⟩
               have n2_ : zh (w35.heap[g3]? = some (.cells #[.int .i64 t196, .int .i64 t197, .int .i64 t198, .int .i64 t199] 23 (0, 0))) := ⟨h2_⟩
               have n3_ : zh (w35.heap[g4]? = some (.cells #[.int .i64 t200, .int .i64 t201, .int .i64 t202, .int .i64 t203] 23 (0, 0))) := ⟨h3_⟩
               have n4_ : zh (w35.heap[g5]? = some (.cells #[.int .i64 0, .int .i64 0, .int .i64 0, .int .i64 0] 23 (0, 0))) := ⟨h4_⟩
               have n5_ : zh (w.heap.size ≤ g5) := ⟨h5_⟩
               have n6_ : zh (w.heap.size ≤ g5) := ⟨h6_⟩
               have n7_ : zh (g1 ≠ g5) := ⟨h7_⟩
               have n8_ : zh (g5 ≠ g1) := ⟨h8_⟩
               have n9_ : zh (g2 ≠ g5) := ⟨h9_⟩
               have n10_ : zh (g5 ≠ g2) := ⟨h10_⟩
               have n11_ : zh (g3 ≠ g5) := ⟨h11_⟩
               have n12_ : zh (g5 ≠ g3) := ⟨h12_⟩
               have n13_ : zh (g4 ≠ g5) := ⟨h13_⟩
               have n14_ : zh (g5 ≠ g4) := ⟨h14_⟩
               have n15_ : zh (Below w.heap.size w w35) := ⟨h15_⟩
               clear BK1
               clear BK2
               clear BK3
               clear BK4
               clear HB
               clear h0_ h1_ h2_ h3_ h4_ h5_ h6_ h7_ h8_ h9_ h10_ h11_ h12_ h13_ h14_ h15_
               have BK1 := n0_
               have BK2 := n1_
               have BK3 := n2_
               have BK4 := n3_
               have BK5 := n4_
               have GW5 := n5_
               have GE5 := n6_
               have N1_5 := n7_
               have N5_1 := n8_
               have N2_5 := n9_
               have N5_2 := n10_
               have N3_5 := n11_
               have N5_3 := n12_
               have N4_5 := n13_
               have N5_4 := n14_
               have HB := n15_
               clear n0_ n1_ n2_ n3_ n4_ n5_ n6_ n7_ n8_ n9_ n10_ n11_ n12_ n13_ n14_ n15_
               have hHeld : w35.cell? ⟨g1, 0, none⟩ = some (.int .i64 a1_0) ∧ w35.cell? ⟨g1, 1, none⟩ = some (.int .i64 a1_1) ∧ w35.cell? ⟨g1, 2, none⟩ = some (.int .i64 a1_2) ∧ w35.cell? ⟨g1, 3, none⟩ = some (.int .i64 a1_3) ∧ w35.cell? ⟨g2, 0, none⟩ = some (.int .i64 a2_0) ∧ w35.cell? ⟨g2, 1, none⟩ = some (.int .i64 a2_1) ∧ w35.cell? ⟨g2, 2, none⟩ = some (.int .i64 a2_2) ∧ w35.cell? ⟨g2, 3, none⟩ = some (.int .i64 a2_3) := hS_
               refine zca (a' := ?_) ?_ ?_
               rotate_left
               ·simp only [zy, Act.put, List.setIfInBounds_toArray, List.set_cons_zero, List.set_cons_succ]
                rfl
               refine two_ (i := 2) (j := 11) (Ni := some 26) (Nj := some 11) #[true, true, true, true, false, false, false, false, false, false, true, false, false, false, false] #[true, true, false, true, false, false, false, false, false, false, true, true, false, false, false] rfl rfl rfl rfl (two_of HT_.out (by kernel_rfl)) (by decide) (by decide) (fun K hK => ?_) (fun K hK => ?_)
               ·skip
                refine goes_ Try.func6 (by kernel_rfl) rfl #[.agg #[.int .i64 a1_0, .int .i64 a1_1, .int .i64 a1_2, .int .i64 a1_3]] (by rfl) rfl rfl (by (try simp only [List.map_toArray, List.map_cons, List.map_nil]); first | done | rfl | (simp only [List.length_drop, List.length_take]; rfl)) ?_
                with_reducible refine (laws_toState.calls k a1_0 a1_1 a1_2 a1_3 t207 t208 t209 t210 _ A7.out).mono ?_
                rintro e w36 ⟨rfl, hb⟩
                refine ⟨_, rfl, ?_⟩
                have n0_ := zh.mk (zo (g := g1) (o := .cells #[.int .i64 a1_0, .int .i64 a1_1, .int .i64 a1_2, .int .i64 a1_3] 22 (0, 0)) (by (with_reducible repeat (first | refine ze ?_ _ | refine zf ?_ | refine za ?_ _)); exact BK1.out) hb)
                have n1_ := zh.mk (zo (g := g2) (o := .cells #[.int .i64 a2_0, .int .i64 a2_1, .int .i64 a2_2, .int .i64 a2_3] 22 (0, 0)) (by (with_reducible repeat (first | refine ze ?_ _ | refine zf ?_ | refine za ?_ _)); exact BK2.out) hb)
                have n2_ := zh.mk (zo (g := g3) (o := .cells #[.int .i64 t196, .int .i64 t197, .int .i64 t198, .int .i64 t199] 23 (0, 0)) (by (with_reducible repeat (first | refine ze ?_ _ | refine zf ?_ | refine za ?_ _)); exact BK3.out) hb)
                have n3_ := zh.mk (zo (g := g4) (o := .cells #[.int .i64 t200, .int .i64 t201, .int .i64 t202, .int .i64 t203] 23 (0, 0)) (by (with_reducible repeat (first | refine ze ?_ _ | refine zf ?_ | refine za ?_ _)); exact BK4.out) hb)
                have n4_ := zh.mk (zo (g := g5) (o := .cells #[.int .i64 0, .int .i64 0, .int .i64 0, .int .i64 0] 23 (0, 0)) (by (with_reducible repeat (first | refine ze ?_ _ | refine zf ?_ | refine za ?_ _)); exact BK5.out) hb)
                have n5_ := zh.mk (zs (by repeat (first | (with_reducible first | exact HB.out | apply zl | apply zj | apply zk | refine zg ?_ GE1.out | refine zg ?_ GE2.out | refine zg ?_ GE3.out | refine zg ?_ GE4.out | refine zg ?_ GE5.out) | exact HB.out)) hb)
                clear BK1
                clear BK2
                clear BK3
                clear BK4
                clear BK5
                clear HB
                have BK1 := n0_
                have BK2 := n1_
                have BK3 := n2_
                have BK4 := n3_
                have BK5 := n4_
                have HB := n5_
                clear n0_ n1_ n2_ n3_ n4_ n5_
                (try clear hb)
                (try clear hb2)
                (try clear hk)
                (try clear hi)
                refine hK.out _ _ ⟨(zi BK1.out 0).trans rfl, (zi BK1.out 1).trans rfl, (zi BK1.out 2).trans rfl, (zi BK1.out 3).trans rfl, (zi BK2.out 0).trans rfl, (zi BK2.out 1).trans rfl, (zi BK2.out 2).trans rfl, (zi BK2.out 3).trans rfl⟩ (fun hHeld => ?_)
                clear hK K
                refine zca (a' := ?_) ?_ ?_
                rotate_left
                ·show Act.put _ (some 26) _ = _
                 simp only [Act.put, List.setIfInBounds_toArray, List.set_cons_zero, List.set_cons_succ, zu, zt]
                 rfl
                exact zca (by first | (simp only [zy, Act.put, List.setIfInBounds_toArray, List.set_cons_zero, List.set_cons_succ]; done) | (simp only [zy, Act.put, List.setIfInBounds_toArray, List.set_cons_zero, List.set_cons_succ]; rfl)) (hJ2_10 (g5) _ ⟨hHeld, (by (with_reducible repeat (first | refine ze ?_ _ | refine zf ?_ | refine za ?_ _)); exact BK1.out), (by (with_reducible repeat (first | refine ze ?_ _ | refine zf ?_ | refine za ?_ _)); exact BK2.out), (by (with_reducible repeat (first | refine ze ?_ _ | refine zf ?_ | refine za ?_ _)); exact BK3.out), (by (with_reducible repeat (first | refine ze ?_ _ | refine zf ?_ | refine za ?_ _)); exact BK4.out), (by (with_reducible repeat (first | refine ze ?_ _ | refine zf ?_ | refine za ?_ _)); exact BK5.out), GW5.out, GE5.out, N1_5.out, N5_1.out, N2_5.out, N5_2.out, N3_5.out, N5_3.out, N4_5.out, N5_4.out, (by repeat (first | (with_reducible first | exact HB.out | apply zl | apply zj | apply zk | refine zg ?_ GE1.out | refine zg ?_ GE2.out | refine zg ?_ GE3.out | refine zg ?_ GE4.out | refine zg ?_ GE5.out) | exact HB.out))⟩)
               ·skip
                refine zha ?hg (N := 11) ?hd (cs := #[.int .i64 0, .int .i64 0, .int .i64 0, .int .i64 0]) (t := 23) ?hr ?_; (case hd => rfl); (case hg => rfl); (case hr => first | (go_simp; done) | (go_simp; rfl))
                intro g6 hg w36 hbox hb
                have n0_ := zh.mk (zo (g := g1) (o := .cells #[.int .i64 a1_0, .int .i64 a1_1, .int .i64 a1_2, .int .i64 a1_3] 22 (0, 0)) (by (with_reducible repeat (first | refine ze ?_ _ | refine zf ?_ | refine za ?_ _)); exact BK1.out) hb)
                have n1_ := zh.mk (zo (g := g2) (o := .cells #[.int .i64 a2_0, .int .i64 a2_1, .int .i64 a2_2, .int .i64 a2_3] 22 (0, 0)) (by (with_reducible repeat (first | refine ze ?_ _ | refine zf ?_ | refine za ?_ _)); exact BK2.out) hb)
                have n2_ := zh.mk (zo (g := g3) (o := .cells #[.int .i64 t196, .int .i64 t197, .int .i64 t198, .int .i64 t199] 23 (0, 0)) (by (with_reducible repeat (first | refine ze ?_ _ | refine zf ?_ | refine za ?_ _)); exact BK3.out) hb)
                have n3_ := zh.mk (zo (g := g4) (o := .cells #[.int .i64 t200, .int .i64 t201, .int .i64 t202, .int .i64 t203] 23 (0, 0)) (by (with_reducible repeat (first | refine ze ?_ _ | refine zf ?_ | refine za ?_ _)); exact BK4.out) hb)
                have n4_ := zh.mk (zo (g := g5) (o := .cells #[.int .i64 0, .int .i64 0, .int .i64 0, .int .i64 0] 23 (0, 0)) (by (with_reducible repeat (first | refine ze ?_ _ | refine zf ?_ | refine za ?_ _)); exact BK5.out) hb)
                have n5_ := zh.mk (zs (by repeat (first | (with_reducible first | exact HB.out | apply zl | apply zj | apply zk | refine zg ?_ GE1.out | refine zg ?_ GE2.out | refine zg ?_ GE3.out | refine zg ?_ GE4.out | refine zg ?_ GE5.out) | exact HB.out)) hb)
                have n6_ := zh.mk (hbox)
                have n7_ := zh.mk ((by rw [hg]; exact (zq (by repeat (first | (with_reducible first | exact HB.out | apply zl | apply zj | apply zk | refine zg ?_ GE1.out | refine zg ?_ GE2.out | refine zg ?_ GE3.out | refine zg ?_ GE4.out | refine zg ?_ GE5.out) | exact HB.out))) : w.heap.size ≤ g6))
                have n8_ := zh.mk ((by rw [hg]; exact (zq (by repeat (first | (with_reducible first | exact HB.out | apply zl | apply zj | apply zk | refine zg ?_ GE1.out | refine zg ?_ GE2.out | refine zg ?_ GE3.out | refine zg ?_ GE4.out | refine zg ?_ GE5.out) | exact HB.out))) : w.heap.size ≤ g6))
                have n9_ := zh.mk ((by rw [hg]; exact Nat.ne_of_lt (zr (g := g1) (o := .cells #[.int .i64 a1_0, .int .i64 a1_1, .int .i64 a1_2, .int .i64 a1_3] 22 (0, 0)) (by (with_reducible repeat (first | refine ze ?_ _ | refine zf ?_ | refine za ?_ _)); exact BK1.out)) : g1 ≠ g6))
                have n10_ := zh.mk ((by rw [hg]; exact Nat.ne_of_gt (zr (g := g1) (o := .cells #[.int .i64 a1_0, .int .i64 a1_1, .int .i64 a1_2, .int .i64 a1_3] 22 (0, 0)) (by (with_reducible repeat (first | refine ze ?_ _ | refine zf ?_ | refine za ?_ _)); exact BK1.out)) : g6 ≠ g1))
                have n11_ := zh.mk ((by rw [hg]; exact Nat.ne_of_lt (zr (g := g2) (o := .cells #[.int .i64 a2_0, .int .i64 a2_1, .int .i64 a2_2, .int .i64 a2_3] 22 (0, 0)) (by (with_reducible repeat (first | refine ze ?_ _ | refine zf ?_ | refine za ?_ _)); exact BK2.out)) : g2 ≠ g6))
                have n12_ := zh.mk ((by rw [hg]; exact Nat.ne_of_gt (zr (g := g2) (o := .cells #[.int .i64 a2_0, .int .i64 a2_1, .int .i64 a2_2, .int .i64 a2_3] 22 (0, 0)) (by (with_reducible repeat (first | refine ze ?_ _ | refine zf ?_ | refine za ?_ _)); exact BK2.out)) : g6 ≠ g2))
                have n13_ := zh.mk ((by rw [hg]; exact Nat.ne_of_lt (zr (g := g3) (o := .cells #[.int .i64 t196, .int .i64 t197, .int .i64 t198, .int .i64 t199] 23 (0, 0)) (by (with_reducible repeat (first | refine ze ?_ _ | refine zf ?_ | refine za ?_ _)); exact BK3.out)) : g3 ≠ g6))
                have n14_ := zh.mk ((by rw [hg]; exact Nat.ne_of_gt (zr (g := g3) (o := .cells #[.int .i64 t196, .int .i64 t197, .int .i64 t198, .int .i64 t199] 23 (0, 0)) (by (with_reducible repeat (first | refine ze ?_ _ | refine zf ?_ | refine za ?_ _)); exact BK3.out)) : g6 ≠ g3))
                have n15_ := zh.mk ((by rw [hg]; exact Nat.ne_of_lt (zr (g := g4) (o := .cells #[.int .i64 t200, .int .i64 t201, .int .i64 t202, .int .i64 t203] 23 (0, 0)) (by (with_reducible repeat (first | refine ze ?_ _ | refine zf ?_ | refine za ?_ _)); exact BK4.out)) : g4 ≠ g6))
                have n16_ := zh.mk ((by rw [hg]; exact Nat.ne_of_gt (zr (g := g4) (o := .cells #[.int .i64 t200, .int .i64 t201, .int .i64 t202, .int .i64 t203] 23 (0, 0)) (by (with_reducible repeat (first | refine ze ?_ _ | refine zf ?_ | refine za ?_ _)); exact BK4.out)) : g6 ≠ g4))
                have n17_ := zh.mk ((by rw [hg]; exact Nat.ne_of_lt (zr (g := g5) (o := .cells #[.int .i64 0, .int .i64 0, .int .i64 0, .int .i64 0] 23 (0, 0)) (by (with_reducible repeat (first | refine ze ?_ _ | refine zf ?_ | refine za ?_ _)); exact BK5.out)) : g5 ≠ g6))
                have n18_ := zh.mk ((by rw [hg]; exact Nat.ne_of_gt (zr (g := g5) (o := .cells #[.int .i64 0, .int .i64 0, .int .i64 0, .int .i64 0] 23 (0, 0)) (by (with_reducible repeat (first | refine ze ?_ _ | refine zf ?_ | refine za ?_ _)); exact BK5.out)) : g6 ≠ g5))
                clear BK1
                clear BK2
                clear BK3
                clear BK4
                clear BK5
                clear HB
                have BK1 := n0_
                have BK2 := n1_
                have BK3 := n2_
                have BK4 := n3_
                have BK5 := n4_
                have HB := n5_
                have BK6 := n6_
                have GW6 := n7_
                have GE6 := n8_
                have N1_6 := n9_
                have N6_1 := n10_
                have N2_6 := n11_
                have N6_2 := n12_
                have N3_6 := n13_
                have N6_3 := n14_
                have N4_6 := n15_
                have N6_4 := n16_
                have N5_6 := n17_
                have N6_5 := n18_
                clear n0_ n1_ n2_ n3_ n4_ n5_ n6_ n7_ n8_ n9_ n10_ n11_ n12_ n13_ n14_ n15_ n16_ n17_ n18_
                clear hb hbox hg
                refine hK.out _ _ ⟨(zi BK1.out 0).trans rfl, (zi BK1.out 1).trans rfl, (zi BK1.out 2).trans rfl, (zi BK1.out 3).trans rfl, (zi BK2.out 0).trans rfl, (zi BK2.out 1).trans rfl, (zi BK2.out 2).trans rfl, (zi BK2.out 3).trans rfl⟩ (fun hHeld => ?_)
                clear hK K
                refine zca (a' := ?_) ?_ ?_
                rotate_left
                ·show Act.put _ (some 11) _ = _
                 simp only [Act.put, List.setIfInBounds_toArray, List.set_cons_zero, List.set_cons_succ, zu, zt]
                 rfl
                exact zca (by first | (simp only [zy, Act.put, List.setIfInBounds_toArray, List.set_cons_zero, List.set_cons_succ]; done) | (simp only [zy, Act.put, List.setIfInBounds_toArray, List.set_cons_zero, List.set_cons_succ]; rfl)) (hJ10_11 (g5, g6) _ ⟨hHeld, (by (with_reducible repeat (first | refine ze ?_ _ | refine zf ?_ | refine za ?_ _)); exact BK1.out), (by (with_reducible repeat (first | refine ze ?_ _ | refine zf ?_ | refine za ?_ _)); exact BK2.out), (by (with_reducible repeat (first | refine ze ?_ _ | refine zf ?_ | refine za ?_ _)); exact BK3.out), (by (with_reducible repeat (first | refine ze ?_ _ | refine zf ?_ | refine za ?_ _)); exact BK4.out), (by (with_reducible repeat (first | refine ze ?_ _ | refine zf ?_ | refine za ?_ _)); exact BK5.out), (by (with_reducible repeat (first | refine ze ?_ _ | refine zf ?_ | refine za ?_ _)); exact BK6.out), GW5.out, GE5.out, N1_5.out, N5_1.out, N2_5.out, N5_2.out, N3_5.out, N5_3.out, N4_5.out, N5_4.out, N6_5.out, N5_6.out, GW6.out, GE6.out, N1_6.out, N6_1.out, N2_6.out, N6_2.out, N3_6.out, N6_3.out, N4_6.out, N6_4.out, (by repeat (first | (with_reducible first | exact HB.out | apply zl | apply zj | apply zk | refine zg ?_ GE1.out | refine zg ?_ GE2.out | refine zg ?_ GE3.out | refine zg ?_ GE4.out | refine zg ?_ GE5.out | refine zg ?_ GE6.out) | exact HB.out))⟩)
             ·skip
              rintro _ w35 ⟨hS_, h0_, h1_, h2_, h3_, h4_⟩
              have n0_ : zh (w35.heap[g1]? = some (.cells #[.int .i64 a1_0, .int .i64 a1_1, .int .i64 a1_2, .int .i64 a1_3] 22 (0, 0))) := ⟨h0_⟩
              have n1_ : zh (w35.heap[g2]? = some (.cells #[.int .i64 a2_0, .int .i64 a2_1, .int .i64 a2_2, .int .i64 a2_3] 22 (0, 0))) := ⟨h1_⟩
              have n2_ : zh (w35.heap[g3]? = some (.cells #[.int .i64 t196, .int .i64 t197, .int .i64 t198, .int .i64 t199] 23 (0, 0))) := ⟨h2_⟩
              have n3_ : zh (w35.heap[g4]? = some (.cells #[.int .i64 t200, .int .i64 t201, .int .i64 t202, .int .i64 t203] 23 (0, 0))) := ⟨h3_⟩
              have n4_ : zh (Below w.heap.size w w35) := ⟨h4_⟩
              clear BK1
              clear BK2
              clear BK3
              clear BK4
              clear HB
              clear h0_ h1_ h2_ h3_ h4_
              have BK1 := n0_
              have BK2 := n1_
              have BK3 := n2_
              have BK4 := n3_
              have HB := n4_
              clear n0_ n1_ n2_ n3_ n4_
              have hHeld : w35.cell? ⟨g1, 0, none⟩ = some (.int .i64 a1_0) ∧ w35.cell? ⟨g1, 1, none⟩ = some (.int .i64 a1_1) ∧ w35.cell? ⟨g1, 2, none⟩ = some (.int .i64 a1_2) ∧ w35.cell? ⟨g1, 3, none⟩ = some (.int .i64 a1_3) ∧ w35.cell? ⟨g2, 0, none⟩ = some (.int .i64 a2_0) ∧ w35.cell? ⟨g2, 1, none⟩ = some (.int .i64 a2_1) ∧ w35.cell? ⟨g2, 2, none⟩ = some (.int .i64 a2_2) ∧ w35.cell? ⟨g2, 3, none⟩ = some (.int .i64 a2_3) := hS_
              refine zca (a' := ?_) ?_ ?_
              rotate_left
              ·simp only [zy, Act.put, List.setIfInBounds_toArray, List.set_cons_zero, List.set_cons_succ]
               rfl
              refine three_ (i := 4) (j := 10) (k := 11) (Ni := some 28) (Nj := some 10) (Nk := some 11) #[true, true, true, true, true, false, false, false, false, false, false, false, false, false, false] #[true, true, true, true, false, false, false, false, false, false, true, false, false, false, false] #[true, true, true, true, false, false, false, false, false, false, false, true, false, false, false] rfl rfl rfl rfl rfl rfl (three_of HT_.out (by kernel_rfl)) (by decide) (by decide) (by decide) (fun K hK => ?_) (fun K hK => ?_) (fun K hK => ?_)
              ·skip
               refine goes_ Try.func6 (by kernel_rfl) rfl #[.agg #[.int .i64 a2_0, .int .i64 a2_1, .int .i64 a2_2, .int .i64 a2_3]] (by rfl) rfl rfl (by (try simp only [List.map_toArray, List.map_cons, List.map_nil]); first | done | rfl | (simp only [List.length_drop, List.length_take]; rfl)) ?_
               with_reducible refine (laws_toState.calls k a2_0 a2_1 a2_2 a2_3 t211 t212 t213 t214 _ A8.out).mono ?_
               rintro e w36 ⟨rfl, hb⟩
               refine ⟨_, rfl, ?_⟩
               have n0_ := zh.mk (zo (g := g1) (o := .cells #[.int .i64 a1_0, .int .i64 a1_1, .int .i64 a1_2, .int .i64 a1_3] 22 (0, 0)) (by (with_reducible repeat (first | refine ze ?_ _ | refine zf ?_ | refine za ?_ _)); exact BK1.out) hb)
               have n1_ := zh.mk (zo (g := g2) (o := .cells #[.int .i64 a2_0, .int .i64 a2_1, .int .i64 a2_2, .int .i64 a2_3] 22 (0, 0)) (by (with_reducible repeat (first | refine ze ?_ _ | refine zf ?_ | refine za ?_ _)); exact BK2.out) hb)
               have n2_ := zh.mk (zo (g := g3) (o := .cells #[.int .i64 t196, .int .i64 t197, .int .i64 t198, .int .i64 t199] 23 (0, 0)) (by (with_reducible repeat (first | refine ze ?_ _ | refine zf ?_ | refine za ?_ _)); exact BK3.out) hb)
               have n3_ := zh.mk (zo (g := g4) (o := .cells #[.int .i64 t200, .int .i64 t201, .int .i64 t202, .int .i64 t203] 23 (0, 0)) (by (with_reducible repeat (first | refine ze ?_ _ | refine zf ?_ | refine za ?_ _)); exact BK4.out) hb)
               have n4_ := zh.mk (zs (by repeat (first | (with_reducible first | exact HB.out | apply zl | apply zj | apply zk | refine zg ?_ GE1.out | refine zg ?_ GE2.out | refine zg ?_ GE3.out | refine zg ?_ GE4.out) | exact HB.out)) hb)
               clear BK1
               clear BK2
               clear BK3
               clear BK4
               clear HB
               have BK1 := n0_
               have BK2 := n1_
               have BK3 := n2_
               have BK4 := n3_
               have HB := n4_
               clear n0_ n1_ n2_ n3_ n4_
               (try clear hb)
               (try clear hb2)
               (try clear hk)
               (try clear hi)
               refine hK.out _ _ ⟨(zi BK1.out 0).trans rfl, (zi BK1.out 1).trans rfl, (zi BK1.out 2).trans rfl, (zi BK1.out 3).trans rfl, (zi BK2.out 0).trans rfl, (zi BK2.out 1).trans rfl, (zi BK2.out 2).trans rfl, (zi BK2.out 3).trans rfl⟩ (fun hHeld => ?_)
               clear hK K
               refine zca (a' := ?_) ?_ ?_
               rotate_left
               ·show Act.put _ (some 28) _ = _
                simp only [Act.put, List.setIfInBounds_toArray, List.set_cons_zero, List.set_cons_succ, zu, zt]
                rfl
               exact zca (by first | (simp only [zy, Act.put, List.setIfInBounds_toArray, List.set_cons_zero, List.set_cons_succ]; done) | (simp only [zy, Act.put, List.setIfInBounds_toArray, List.set_cons_zero, List.set_cons_succ]; rfl)) (hJ2_4 () _ ⟨hHeld, (by (with_reducible repeat (first | refine ze ?_ _ | refine zf ?_ | refine za ?_ _)); exact BK1.out), (by (with_reducible repeat (first | refine ze ?_ _ | refine zf ?_ | refine za ?_ _)); exact BK2.out), (by (with_reducible repeat (first | refine ze ?_ _ | refine zf ?_ | refine za ?_ _)); exact BK3.out), (by (with_reducible repeat (first | refine ze ?_ _ | refine zf ?_ | refine za ?_ _)); exact BK4.out), (by repeat (first | (with_reducible first | exact HB.out | apply zl | apply zj | apply zk | refine zg ?_ GE1.out | refine zg ?_ GE2.out | refine zg ?_ GE3.out | refine zg ?_ GE4.out) | exact HB.out))⟩)
              ·skip
               refine zha ?hg (N := 10) ?hd (cs := #[.int .i64 0, .int .i64 0, .int .i64 0, .int .i64 0]) (t := 23) ?hr ?_; (case hd => rfl); (case hg => rfl); (case hr => first | (go_simp; done) | (go_simp; rfl))
               intro g5 hg w36 hbox hb
               have n0_ := zh.mk (zo (g := g1) (o := .cells #[.int .i64 a1_0, .int .i64 a1_1, .int .i64 a1_2, .int .i64 a1_3] 22 (0, 0)) (by (with_reducible repeat (first | refine ze ?_ _ | refine zf ?_ | refine za ?_ _)); exact BK1.out) hb)
               have n1_ := zh.mk (zo (g := g2) (o := .cells #[.int .i64 a2_0, .int .i64 a2_1, .int .i64 a2_2, .int .i64 a2_3] 22 (0, 0)) (by (with_reducible repeat (first | refine ze ?_ _ | refine zf ?_ | refine za ?_ _)); exact BK2.out) hb)
               have n2_ := zh.mk (zo (g := g3) (o := .cells #[.int .i64 t196, .int .i64 t197, .int .i64 t198, .int .i64 t199] 23 (0, 0)) (by (with_reducible repeat (first | refine ze ?_ _ | refine zf ?_ | refine za ?_ _)); exact BK3.out) hb)
               have n3_ := zh.mk (zo (g := g4) (o := .cells #[.int .i64 t200, .int .i64 t201, .int .i64 t202, .int .i64 t203] 23 (0, 0)) (by (with_reducible repeat (first | refine ze ?_ _ | refine zf ?_ | refine za ?_ _)); exact BK4.out) hb)
               have n4_ := zh.mk (zs (by repeat (first | (with_reducible first | exact HB.out | apply zl | apply zj | apply zk | refine zg ?_ GE1.out | refine zg ?_ GE2.out | refine zg ?_ GE3.out | refine zg ?_ GE4.out) | exact HB.out)) hb)
               have n5_ := zh.mk (hbox)
               have n6_ := zh.mk ((by rw [hg]; exact (zq (by repeat (first | (with_reducible first | exact HB.out | apply zl | apply zj | apply zk | refine zg ?_ GE1.out | refine zg ?_ GE2.out | refine zg ?_ GE3.out | refine zg ?_ GE4.out) | exact HB.out))) : w.heap.size ≤ g5))
               have n7_ := zh.mk ((by rw [hg]; exact (zq (by repeat (first | (with_reducible first | exact HB.out | apply zl | apply zj | apply zk | refine zg ?_ GE1.out | refine zg ?_ GE2.out | refine zg ?_ GE3.out | refine zg ?_ GE4.out) | exact HB.out))) : w.heap.size ≤ g5))
               have n8_ := zh.mk ((by rw [hg]; exact Nat.ne_of_lt (zr (g := g1) (o := .cells #[.int .i64 a1_0, .int .i64 a1_1, .int .i64 a1_2, .int .i64 a1_3] 22 (0, 0)) (by (with_reducible repeat (first | refine ze ?_ _ | refine zf ?_ | refine za ?_ _)); exact BK1.out)) : g1 ≠ g5))
               have n9_ := zh.mk ((by rw [hg]; exact Nat.ne_of_gt (zr (g := g1) (o := .cells #[.int .i64 a1_0, .int .i64 a1_1, .int .i64 a1_2, .int .i64 a1_3] 22 (0, 0)) (by (with_reducible repeat (first | refine ze ?_ _ | refine zf ?_ | refine za ?_ _)); exact BK1.out)) : g5 ≠ g1))
               have n10_ := zh.mk ((by rw [hg]; exact Nat.ne_of_lt (zr (g := g2) (o := .cells #[.int .i64 a2_0, .int .i64 a2_1, .int .i64 a2_2, .int .i64 a2_3] 22 (0, 0)) (by (with_reducible repeat (first | refine ze ?_ _ | refine zf ?_ | refine za ?_ _)); exact BK2.out)) : g2 ≠ g5))
               have n11_ := zh.mk ((by rw [hg]; exact Nat.ne_of_gt (zr (g := g2) (o := .cells #[.int .i64 a2_0, .int .i64 a2_1, .int .i64 a2_2, .int .i64 a2_3] 22 (0, 0)) (by (with_reducible repeat (first | refine ze ?_ _ | refine zf ?_ | refine za ?_ _)); exact BK2.out)) : g5 ≠ g2))
               have n12_ := zh.mk ((by rw [hg]; exact Nat.ne_of_lt (zr (g := g3) (o := .cells #[.int .i64 t196, .int .i64 t197, .int .i64 t198, .int .i64 t199] 23 (0, 0)) (by (with_reducible repeat (first | refine ze ?_ _ | refine zf ?_ | refine za ?_ _)); exact BK3.out)) : g3 ≠ g5))
               have n13_ := zh.mk ((by rw [hg]; exact Nat.ne_of_gt (zr (g := g3) (o := .cells #[.int .i64 t196, .int .i64 t197, .int .i64 t198, .int .i64 t199] 23 (0, 0)) (by (with_reducible repeat (first | refine ze ?_ _ | refine zf ?_ | refine za ?_ _)); exact BK3.out)) : g5 ≠ g3))
               have n14_ := zh.mk ((by rw [hg]; exact Nat.ne_of_lt (zr (g := g4) (o := .cells #[.int .i64 t200, .int .i64 t201, .int .i64 t202, .int .i64 t203] 23 (0, 0)) (by (with_reducible repeat (first | refine ze ?_ _ | refine zf ?_ | refine za ?_ _)); exact BK4.out)) : g4 ≠ g5))
               have n15_ := zh.mk ((by rw [hg]; exact Nat.ne_of_gt (zr (g := g4) (o := .cells #[.int .i64 t200, .int .i64 t201, .int .i64 t202, .int .i64 t203] 23 (0, 0)) (by (with_reducible repeat (first | refine ze ?_ _ | refine zf ?_ | refine za ?_ _)); exact BK4.out)) : g5 ≠ g4))
               clear BK1
               clear BK2
               clear BK3
               clear BK4
               clear HB
               have BK1 := n0_
               have BK2 := n1_
               have BK3 := n2_
               have BK4 := n3_
               have HB := n4_
               have BK5 := n5_
               have GW5 := n6_
               have GE5 := n7_
               have N1_5 := n8_
               have N5_1 := n9_
               have N2_5 := n10_
               have N5_2 := n11_
               have N3_5 := n12_
               have N5_3 := n13_
               have N4_5 := n14_
               have N5_4 := n15_
               clear n0_ n1_ n2_ n3_ n4_ n5_ n6_ n7_ n8_ n9_ n10_ n11_ n12_ n13_ n14_ n15_
               clear hb hbox hg
               refine hK.out _ _ ⟨(zi BK1.out 0).trans rfl, (zi BK1.out 1).trans rfl, (zi BK1.out 2).trans rfl, (zi BK1.out 3).trans rfl, (zi BK2.out 0).trans rfl, (zi BK2.out 1).trans rfl, (zi BK2.out 2).trans rfl, (zi BK2.out 3).trans rfl⟩ (fun hHeld => ?_)
               clear hK K
               refine zca (a' := ?_) ?_ ?_
               rotate_left
               ·show Act.put _ (some 10) _ = _
                simp only [Act.put, List.setIfInBounds_toArray, List.set_cons_zero, List.set_cons_succ, zu, zt]
                rfl
               exact zca (by first | (simp only [zy, Act.put, List.setIfInBounds_toArray, List.set_cons_zero, List.set_cons_succ]; done) | (simp only [zy, Act.put, List.setIfInBounds_toArray, List.set_cons_zero, List.set_cons_succ]; rfl)) (hJ2_10 (g5) _ ⟨hHeld, (by (with_reducible repeat (first | refine ze ?_ _ | refine zf ?_ | refine za ?_ _)); exact BK1.out), (by (with_reducible repeat (first | refine ze ?_ _ | refine zf ?_ | refine za ?_ _)); exact BK2.out), (by (with_reducible repeat (first | refine ze ?_ _ | refine zf ?_ | refine za ?_ _)); exact BK3.out), (by (with_reducible repeat (first | refine ze ?_ _ | refine zf ?_ | refine za ?_ _)); exact BK4.out), (by (with_reducible repeat (first | refine ze ?_ _ | refine zf ?_ | refine za ?_ _)); exact BK5.out), GW5.out, GE5.out, N1_5.out, N5_1.out, N2_5.out, N5_2.out, N3_5.out, N5_3.out, N4_5.out, N5_4.out, (by repeat (first | (with_reducible first | exact HB.out | apply zl | apply zj | apply zk | refine zg ?_ GE1.out | refine zg ?_ GE2.out | refine zg ?_ GE3.out | refine zg ?_ GE4.out | refine zg ?_ GE5.out) | exact HB.out))⟩)
              ·skip
               refine zha ?hg (N := 11) ?hd (cs := #[.int .i64 0, .int .i64 0, .int .i64 0, .int .i64 0]) (t := 23) ?hr ?_; (case hd => rfl); (case hg => rfl); (case hr => first | (go_simp; done) | (go_simp; rfl))
               intro g6 hg w36 hbox hb
               have n0_ := zh.mk (zo (g := g1) (o := .cells #[.int .i64 a1_0, .int .i64 a1_1, .int .i64 a1_2, .int .i64 a1_3] 22 (0, 0)) (by (with_reducible repeat (first | refine ze ?_ _ | refine zf ?_ | refine za ?_ _)); exact BK1.out) hb)
               have n1_ := zh.mk (zo (g := g2) (o := .cells #[.int .i64 a2_0, .int .i64 a2_1, .int .i64 a2_2, .int .i64 a2_3] 22 (0, 0)) (by (with_reducible repeat (first | refine ze ?_ _ | refine zf ?_ | refine za ?_ _)); exact BK2.out) hb)
               have n2_ := zh.mk (zo (g := g3) (o := .cells #[.int .i64 t196, .int .i64 t197, .int .i64 t198, .int .i64 t199] 23 (0, 0)) (by (with_reducible repeat (first | refine ze ?_ _ | refine zf ?_ | refine za ?_ _)); exact BK3.out) hb)
               have n3_ := zh.mk (zo (g := g4) (o := .cells #[.int .i64 t200, .int .i64 t201, .int .i64 t202, .int .i64 t203] 23 (0, 0)) (by (with_reducible repeat (first | refine ze ?_ _ | refine zf ?_ | refine za ?_ _)); exact BK4.out) hb)
               have n4_ := zh.mk (zs (by repeat (first | (with_reducible first | exact HB.out | apply zl | apply zj | apply zk | refine zg ?_ GE1.out | refine zg ?_ GE2.out | refine zg ?_ GE3.out | refine zg ?_ GE4.out) | exact HB.out)) hb)
               have n5_ := zh.mk (hbox)
               have n6_ := zh.mk ((by rw [hg]; exact (zq (by repeat (first | (with_reducible first | exact HB.out | apply zl | apply zj | apply zk | refine zg ?_ GE1.out | refine zg ?_ GE2.out | refine zg ?_ GE3.out | refine zg ?_ GE4.out) | exact HB.out))) : w.heap.size ≤ g6))
               have n7_ := zh.mk ((by rw [hg]; exact (zq (by repeat (first | (with_reducible first | exact HB.out | apply zl | apply zj | apply zk | refine zg ?_ GE1.out | refine zg ?_ GE2.out | refine zg ?_ GE3.out | refine zg ?_ GE4.out) | exact HB.out))) : w.heap.size ≤ g6))
               have n8_ := zh.mk ((by rw [hg]; exact Nat.ne_of_lt (zr (g := g1) (o := .cells #[.int .i64 a1_0, .int .i64 a1_1, .int .i64 a1_2, .int .i64 a1_3] 22 (0, 0)) (by (with_reducible repeat (first | refine ze ?_ _ | refine zf ?_ | refine za ?_ _)); exact BK1.out)) : g1 ≠ g6))
               have n9_ := zh.mk ((by rw [hg]; exact Nat.ne_of_gt (zr (g := g1) (o := .cells #[.int .i64 a1_0, .int .i64 a1_1, .int .i64 a1_2, .int .i64 a1_3] 22 (0, 0)) (by (with_reducible repeat (first | refine ze ?_ _ | refine zf ?_ | refine za ?_ _)); exact BK1.out)) : g6 ≠ g1))
               have n10_ := zh.mk ((by rw [hg]; exact Nat.ne_of_lt (zr (g := g2) (o := .cells #[.int .i64 a2_0, .int .i64 a2_1, .int .i64 a2_2, .int .i64 a2_3] 22 (0, 0)) (by (with_reducible repeat (first | refine ze ?_ _ | refine zf ?_ | refine za ?_ _)); exact BK2.out)) : g2 ≠ g6))
               have n11_ := zh.mk ((by rw [hg]; exact Nat.ne_of_gt (zr (g := g2) (o := .cells #[.int .i64 a2_0, .int .i64 a2_1, .int .i64 a2_2, .int .i64 a2_3] 22 (0, 0)) (by (with_reducible repeat (first | refine ze ?_ _ | refine zf ?_ | refine za ?_ _)); exact BK2.out)) : g6 ≠ g2))
               have n12_ := zh.mk ((by rw [hg]; exact Nat.ne_of_lt (zr (g := g3) (o := .cells #[.int .i64 t196, .int .i64 t197, .int .i64 t198, .int .i64 t199] 23 (0, 0)) (by (with_reducible repeat (first | refine ze ?_ _ | refine zf ?_ | refine za ?_ _)); exact BK3.out)) : g3 ≠ g6))
               have n13_ := zh.mk ((by rw [hg]; exact Nat.ne_of_gt (zr (g := g3) (o := .cells #[.int .i64 t196, .int .i64 t197, .int .i64 t198, .int .i64 t199] 23 (0, 0)) (by (with_reducible repeat (first | refine ze ?_ _ | refine zf ?_ | refine za ?_ _)); exact BK3.out)) : g6 ≠ g3))
               have n14_ := zh.mk ((by rw [hg]; exact Nat.ne_of_lt (zr (g := g4) (o := .cells #[.int .i64 t200, .int .i64 t201, .int .i64 t202, .int .i64 t203] 23 (0, 0)) (by (with_reducible repeat (first | refine ze ?_ _ | refine zf ?_ | refine za ?_ _)); exact BK4.out)) : g4 ≠ g6))
               have n15_ := zh.mk ((by rw [hg]; exact Nat.ne_of_gt (zr (g := g4) (o := .cells #[.int .i64 t200, .int .i64 t201, .int .i64 t202, .int .i64 t203] 23 (0, 0)) (by (with_reducible repeat (first | refine ze ?_ _ | refine zf ?_ | refine za ?_ _)); exact BK4.out)) : g6 ≠ g4))
               clear BK1
               clear BK2
               clear BK3
               clear BK4
               clear HB
               have BK1 := n0_
               have BK2 := n1_
               have BK3 := n2_
               have BK4 := n3_
               have HB := n4_
               have BK6 := n5_
               have GW6 := n6_
               have GE6 := n7_
               have N1_6 := n8_
               have N6_1 := n9_
               have N2_6 := n10_
               have N6_2 := n11_
               have N3_6 := n12_
               have N6_3 := n13_
               have N4_6 := n14_
               have N6_4 := n15_
               clear n0_ n1_ n2_ n3_ n4_ n5_ n6_ n7_ n8_ n9_ n10_ n11_ n12_ n13_ n14_ n15_
               clear hb hbox hg
               refine hK.out _ _ ⟨(zi BK1.out 0).trans rfl, (zi BK1.out 1).trans rfl, (zi BK1.out 2).trans rfl, (zi BK1.out 3).trans rfl, (zi BK2.out 0).trans rfl, (zi BK2.out 1).trans rfl, (zi BK2.out 2).trans rfl, (zi BK2.out 3).trans rfl⟩ (fun hHeld => ?_)
               clear hK K
               refine zca (a' := ?_) ?_ ?_
               rotate_left
               ·show Act.put _ (some 11) _ = _
                simp only [Act.put, List.setIfInBounds_toArray, List.set_cons_zero, List.set_cons_succ, zu, zt]
                rfl
               exact zca (by first | (simp only [zy, Act.put, List.setIfInBounds_toArray, List.set_cons_zero, List.set_cons_succ]; done) | (simp only [zy, Act.put, List.setIfInBounds_toArray, List.set_cons_zero, List.set_cons_succ]; rfl)) (hJ2_11 (g6) _ ⟨hHeld, (by (with_reducible repeat (first | refine ze ?_ _ | refine zf ?_ | refine za ?_ _)); exact BK1.out), (by (with_reducible repeat (first | refine ze ?_ _ | refine zf ?_ | refine za ?_ _)); exact BK2.out), (by (with_reducible repeat (first | refine ze ?_ _ | refine zf ?_ | refine za ?_ _)); exact BK3.out), (by (with_reducible repeat (first | refine ze ?_ _ | refine zf ?_ | refine za ?_ _)); exact BK4.out), (by (with_reducible repeat (first | refine ze ?_ _ | refine zf ?_ | refine za ?_ _)); exact BK6.out), GW6.out, GE6.out, N1_6.out, N6_1.out, N2_6.out, N6_2.out, N3_6.out, N6_3.out, N4_6.out, N6_4.out, (by repeat (first | (with_reducible first | exact HB.out | apply zl | apply zj | apply zk | refine zg ?_ GE1.out | refine zg ?_ GE2.out | refine zg ?_ GE3.out | refine zg ?_ GE4.out | refine zg ?_ GE6.out) | exact HB.out))⟩)
            ·skip
             rintro ⟨g5, g6⟩ w36 ⟨hS_, h0_, h1_, h2_, h3_, h4_, h5_, h6_, h7_, h8_, h9_, h10_, h11_, h12_, h13_, h14_, h15_, h16_, h17_, h18_, h19_, h20_, h21_, h22_, h23_, h24_, h25_, h26_, h27_, h28_⟩
             have n0_ : zh (w36.heap[g1]? = some (.cells #[.int .i64 a1_0, .int .i64 a1_1, .int .i64 a1_2, .int .i64 a1_3] 22 (0, 0))) := ⟨h0_⟩
             have n1_ : zh (w36.heap[g2]? = some (.cells #[.int .i64 a2_0, .int .i64 a2_1, .int .i64 a2_2, .int .i64 a2_3] 22 (0, 0))) := ⟨h1_⟩
             have n2_ : zh (w36.heap[g3]? = some (.cells #[.int .i64 t196, .int .i64 t197, .int .i64 t198, .int .i64 t199] 23 (0, 0))) := ⟨h2_⟩
             have n3_ : zh (w36.heap[g4]? = some (.cells #[.int .i64 t200, .int .i64 t201, .int .i64 t202, .int .i64 t203] 23 (0, 0))) := ⟨h3_⟩
             have n4_ : zh (w36.heap[g5]? = some (.cells #[.int .i64 0, .int .i64 0, .int .i64 0, .int .i64 0] 23 (0, 0))) := ⟨h4_⟩
             have n5_ : zh (w36.heap[g6]? = some (.cells #[.int .i64 0, .int .i64 0, .int .i64 0, .int .i64 0] 23 (0, 0))) := ⟨h5_⟩
             have n6_ : zh (w.heap.size ≤ g5) := ⟨h6_⟩
             have n7_ : zh (w.heap.size ≤ g5) := ⟨h7_⟩
             have n8_ : zh (g1 ≠ g5) := ⟨h8_⟩
             have n9_ : zh (g5 ≠ g1) := ⟨h9_⟩
             have n10_ : zh (g2 ≠ g5) := ⟨h10_⟩
             have n11_ : zh (g5 ≠ g2) := ⟨h11_⟩
             have n12_ : zh (g3 ≠ g5) := ⟨h12_⟩
             have n13_ : zh (g5 ≠ g3) := ⟨h13_⟩
             have n14_ : zh (g4 ≠ g5) := ⟨h14_⟩
             have n15_ : zh (g5 ≠ g4) := ⟨h15_⟩
             have n16_ : zh (g6 ≠ g5) := ⟨h16_⟩
             have n17_ : zh (g5 ≠ g6) := ⟨h17_⟩
             have n18_ : zh (w.heap.size ≤ g6) := ⟨h18_⟩
             have n19_ : zh (w.heap.size ≤ g6) := ⟨h19_⟩
             have n20_ : zh (g1 ≠ g6) := ⟨h20_⟩
             have n21_ : zh (g6 ≠ g1) := ⟨h21_⟩
             have n22_ : zh (g2 ≠ g6) := ⟨h22_⟩
             have n23_ : zh (g6 ≠ g2) := ⟨h23_⟩
             have n24_ : zh (g3 ≠ g6) := ⟨h24_⟩
             have n25_ : zh (g6 ≠ g3) := ⟨h25_⟩
             have n26_ : zh (g4 ≠ g6) := ⟨h26_⟩
             have n27_ : zh (g6 ≠ g4) := ⟨h27_⟩
             have n28_ : zh (Below w.heap.size w w36) := ⟨h28_⟩
             clear BK1
             clear BK2
             clear BK3
             clear BK4
             clear HB
             clear h0_ h1_ h2_ h3_ h4_ h5_ h6_ h7_ h8_ h9_ h10_ h11_ h12_ h13_ h14_ h15_ h16_ h17_ h18_ h19_ h20_ h21_ h22_ h23_ h24_ h25_ h26_ h27_ h28_
             have BK1 := n0_
             have BK2 := n1_
             have BK3 := n2_
             have BK4 := n3_
             have BK5 := n4_
             have BK6 := n5_
             have GW5 := n6_
             have GE5 := n7_
             have N1_5 := n8_
             have N5_1 := n9_
             have N2_5 := n10_
             have N5_2 := n11_
             have N3_5 := n12_
             have N5_3 := n13_
             have N4_5 := n14_
             have N5_4 := n15_
             have N6_5 := n16_
             have N5_6 := n17_
             have GW6 := n18_
             have GE6 := n19_
             have N1_6 := n20_
             have N6_1 := n21_
             have N2_6 := n22_
             have N6_2 := n23_
             have N3_6 := n24_
             have N6_3 := n25_
             have N4_6 := n26_
             have N6_4 := n27_
             have HB := n28_
             clear n0_ n1_ n2_ n3_ n4_ n5_ n6_ n7_ n8_ n9_ n10_ n11_ n12_ n13_ n14_ n15_ n16_ n17_ n18_ n19_ n20_ n21_ n22_ n23_ n24_ n25_ n26_ n27_ n28_
             have hHeld : w36.cell? ⟨g1, 0, none⟩ = some (.int .i64 a1_0) ∧ w36.cell? ⟨g1, 1, none⟩ = some (.int .i64 a1_1) ∧ w36.cell? ⟨g1, 2, none⟩ = some (.int .i64 a1_2) ∧ w36.cell? ⟨g1, 3, none⟩ = some (.int .i64 a1_3) ∧ w36.cell? ⟨g2, 0, none⟩ = some (.int .i64 a2_0) ∧ w36.cell? ⟨g2, 1, none⟩ = some (.int .i64 a2_1) ∧ w36.cell? ⟨g2, 2, none⟩ = some (.int .i64 a2_2) ∧ w36.cell? ⟨g2, 3, none⟩ = some (.int .i64 a2_3) := hS_
             refine zca (a' := ?_) ?_ ?_
             rotate_left
             ·simp only [zy, Act.put, List.setIfInBounds_toArray, List.set_cons_zero, List.set_cons_succ]
              rfl
             refine one_ (i := 2) (N := some 26) #[true, true, true, true, false, false, false, false, false, false, true, true, false, false, false] rfl rfl (zia HT_.out (by kernel_rfl)) (by decide) (fun K hK => ?_)
             refine goes_ Try.func6 (by kernel_rfl) rfl #[.agg #[.int .i64 a1_0, .int .i64 a1_1, .int .i64 a1_2, .int .i64 a1_3]] (by rfl) rfl rfl (by (try simp only [List.map_toArray, List.map_cons, List.map_nil]); first | done | rfl | (simp only [List.length_drop, List.length_take]; rfl)) ?_
             with_reducible refine (laws_toState.calls k a1_0 a1_1 a1_2 a1_3 t207 t208 t209 t210 _ A7.out).mono ?_
             rintro e w37 ⟨rfl, hb⟩
             refine ⟨_, rfl, ?_⟩
             have n0_ := zh.mk (zo (g := g1) (o := .cells #[.int .i64 a1_0, .int .i64 a1_1, .int .i64 a1_2, .int .i64 a1_3] 22 (0, 0)) (by (with_reducible repeat (first | refine ze ?_ _ | refine zf ?_ | refine za ?_ _)); exact BK1.out) hb)
             have n1_ := zh.mk (zo (g := g2) (o := .cells #[.int .i64 a2_0, .int .i64 a2_1, .int .i64 a2_2, .int .i64 a2_3] 22 (0, 0)) (by (with_reducible repeat (first | refine ze ?_ _ | refine zf ?_ | refine za ?_ _)); exact BK2.out) hb)
             have n2_ := zh.mk (zo (g := g3) (o := .cells #[.int .i64 t196, .int .i64 t197, .int .i64 t198, .int .i64 t199] 23 (0, 0)) (by (with_reducible repeat (first | refine ze ?_ _ | refine zf ?_ | refine za ?_ _)); exact BK3.out) hb)
             have n3_ := zh.mk (zo (g := g4) (o := .cells #[.int .i64 t200, .int .i64 t201, .int .i64 t202, .int .i64 t203] 23 (0, 0)) (by (with_reducible repeat (first | refine ze ?_ _ | refine zf ?_ | refine za ?_ _)); exact BK4.out) hb)
             have n4_ := zh.mk (zo (g := g5) (o := .cells #[.int .i64 0, .int .i64 0, .int .i64 0, .int .i64 0] 23 (0, 0)) (by (with_reducible repeat (first | refine ze ?_ _ | refine zf ?_ | refine za ?_ _)); exact BK5.out) hb)
             have n5_ := zh.mk (zo (g := g6) (o := .cells #[.int .i64 0, .int .i64 0, .int .i64 0, .int .i64 0] 23 (0, 0)) (by (with_reducible repeat (first | refine ze ?_ _ | refine zf ?_ | refine za ?_ _)); exact BK6.out) hb)
             have n6_ := zh.mk (zs (by repeat (first | (with_reducible first | exact HB.out | apply zl | apply zj | apply zk | refine zg ?_ GE1.out | refine zg ?_ GE2.out | refine zg ?_ GE3.out | refine zg ?_ GE4.out | refine zg ?_ GE5.out | refine zg ?_ GE6.out) | exact HB.out)) hb)
             clear BK1
             clear BK2
             clear BK3
             clear BK4
             clear BK5
             clear BK6
             clear HB
             have BK1 := n0_
             have BK2 := n1_
             have BK3 := n2_
             have BK4 := n3_
             have BK5 := n4_
             have BK6 := n5_
             have HB := n6_
             clear n0_ n1_ n2_ n3_ n4_ n5_ n6_
             (try clear hb)
             (try clear hb2)
             (try clear hk)
             (try clear hi)
             refine hK.out _ _ ⟨(zi BK1.out 0).trans rfl, (zi BK1.out 1).trans rfl, (zi BK1.out 2).trans rfl, (zi BK1.out 3).trans rfl, (zi BK2.out 0).trans rfl, (zi BK2.out 1).trans rfl, (zi BK2.out 2).trans rfl, (zi BK2.out 3).trans rfl⟩ (fun hHeld => ?_)
             clear hK K
             refine zca (a' := ?_) ?_ ?_
             rotate_left
             ·show Act.put _ (some 26) _ = _
              simp only [Act.put, List.setIfInBounds_toArray, List.set_cons_zero, List.set_cons_succ, zu, zt]
              rfl
             exact zca (by first | (simp only [zy, Act.put, List.setIfInBounds_toArray, List.set_cons_zero, List.set_cons_succ]; done) | (simp only [zy, Act.put, List.setIfInBounds_toArray, List.set_cons_zero, List.set_cons_succ]; rfl)) (hJ2_10_11 (g5, g6) _ ⟨hHeld, (by (with_reducible repeat (first | refine ze ?_ _ | refine zf ?_ | refine za ?_ _)); exact BK1.out), (by (with_reducible repeat (first | refine ze ?_ _ | refine zf ?_ | refine za ?_ _)); exact BK2.out), (by (with_reducible repeat (first | refine ze ?_ _ | refine zf ?_ | refine za ?_ _)); exact BK3.out), (by (with_reducible repeat (first | refine ze ?_ _ | refine zf ?_ | refine za ?_ _)); exact BK4.out), (by (with_reducible repeat (first | refine ze ?_ _ | refine zf ?_ | refine za ?_ _)); exact BK5.out), (by (with_reducible repeat (first | refine ze ?_ _ | refine zf ?_ | refine za ?_ _)); exact BK6.out), GW5.out, GE5.out, N1_5.out, N5_1.out, N2_5.out, N5_2.out, N3_5.out, N5_3.out, N4_5.out, N5_4.out, N6_5.out, N5_6.out, GW6.out, GE6.out, N1_6.out, N6_1.out, N2_6.out, N6_2.out, N3_6.out, N6_3.out, N4_6.out, N6_4.out, (by repeat (first | (with_reducible first | exact HB.out | apply zl | apply zj | apply zk | refine zg ?_ GE1.out | refine zg ?_ GE2.out | refine zg ?_ GE3.out | refine zg ?_ GE4.out | refine zg ?_ GE5.out | refine zg ?_ GE6.out) | exact HB.out))⟩)
           ·skip
            rintro g6 w36 ⟨hS_, h0_, h1_, h2_, h3_, h4_, h5_, h6_, h7_, h8_, h9_, h10_, h11_, h12_, h13_, h14_, h15_⟩
            have n0_ : zh (w36.heap[g1]? = some (.cells #[.int .i64 a1_0, .int .i64 a1_1, .int .i64 a1_2, .int .i64 a1_3] 22 (0, 0))) := ⟨h0_⟩
            have n1_ : zh (w36.heap[g2]? = some (.cells #[.int .i64 a2_0, .int .i64 a2_1, .int .i64 a2_2, .int .i64 a2_3] 22 (0, 0))) := ⟨h1_⟩
            have n2_ : zh (w36.heap[g3]? = some (.cells #[.int .i64 t196, .int .i64 t197, .int .i64 t198, .int .i64 t199] 23 (0, 0))) := ⟨h2_⟩
            have n3_ : zh (w36.heap[g4]? = some (.cells #[.int .i64 t200, .int .i64 t201, .int .i64 t202, .int .i64 t203] 23 (0, 0))) := ⟨h3_⟩
            have n4_ : zh (w36.heap[g6]? = some (.cells #[.int .i64 0, .int .i64 0, .int .i64 0, .int .i64 0] 23 (0, 0))) := ⟨h4_⟩
            have n5_ : zh (w.heap.size ≤ g6) := ⟨h5_⟩
            have n6_ : zh (w.heap.size ≤ g6) := ⟨h6_⟩
            have n7_ : zh (g1 ≠ g6) := ⟨h7_⟩
            have n8_ : zh (g6 ≠ g1) := ⟨h8_⟩
            have n9_ : zh (g2 ≠ g6) := ⟨h9_⟩
            have n10_ : zh (g6 ≠ g2) := ⟨h10_⟩
            have n11_ : zh (g3 ≠ g6) := ⟨h11_⟩
            have n12_ : zh (g6 ≠ g3) := ⟨h12_⟩
            have n13_ : zh (g4 ≠ g6) := ⟨h13_⟩
            have n14_ : zh (g6 ≠ g4) := ⟨h14_⟩
            have n15_ : zh (Below w.heap.size w w36) := ⟨h15_⟩
            clear BK1
            clear BK2
            clear BK3
            clear BK4
            clear HB
            clear h0_ h1_ h2_ h3_ h4_ h5_ h6_ h7_ h8_ h9_ h10_ h11_ h12_ h13_ h14_ h15_
            have BK1 := n0_
            have BK2 := n1_
            have BK3 := n2_
            have BK4 := n3_
            have BK6 := n4_
            have GW6 := n5_
            have GE6 := n6_
            have N1_6 := n7_
            have N6_1 := n8_
            have N2_6 := n9_
            have N6_2 := n10_
            have N3_6 := n11_
            have N6_3 := n12_
            have N4_6 := n13_
            have N6_4 := n14_
            have HB := n15_
            clear n0_ n1_ n2_ n3_ n4_ n5_ n6_ n7_ n8_ n9_ n10_ n11_ n12_ n13_ n14_ n15_
            have hHeld : w36.cell? ⟨g1, 0, none⟩ = some (.int .i64 a1_0) ∧ w36.cell? ⟨g1, 1, none⟩ = some (.int .i64 a1_1) ∧ w36.cell? ⟨g1, 2, none⟩ = some (.int .i64 a1_2) ∧ w36.cell? ⟨g1, 3, none⟩ = some (.int .i64 a1_3) ∧ w36.cell? ⟨g2, 0, none⟩ = some (.int .i64 a2_0) ∧ w36.cell? ⟨g2, 1, none⟩ = some (.int .i64 a2_1) ∧ w36.cell? ⟨g2, 2, none⟩ = some (.int .i64 a2_2) ∧ w36.cell? ⟨g2, 3, none⟩ = some (.int .i64 a2_3) := hS_
            refine zca (a' := ?_) ?_ ?_
            rotate_left
            ·simp only [zy, Act.put, List.setIfInBounds_toArray, List.set_cons_zero, List.set_cons_succ]
             rfl
            refine two_ (i := 4) (j := 10) (Ni := some 28) (Nj := some 10) #[true, true, true, true, true, false, false, false, false, false, false, true, false, false, false] #[true, true, true, true, false, false, false, false, false, false, true, true, false, false, false] rfl rfl rfl rfl (two_of HT_.out (by kernel_rfl)) (by decide) (by decide) (fun K hK => ?_) (fun K hK => ?_)
            ·skip
             refine goes_ Try.func6 (by kernel_rfl) rfl #[.agg #[.int .i64 a2_0, .int .i64 a2_1, .int .i64 a2_2, .int .i64 a2_3]] (by rfl) rfl rfl (by (try simp only [List.map_toArray, List.map_cons, List.map_nil]); first | done | rfl | (simp only [List.length_drop, List.length_take]; rfl)) ?_
             with_reducible refine (laws_toState.calls k a2_0 a2_1 a2_2 a2_3 t211 t212 t213 t214 _ A8.out).mono ?_
             rintro e w37 ⟨rfl, hb⟩
             refine ⟨_, rfl, ?_⟩
             have n0_ := zh.mk (zo (g := g1) (o := .cells #[.int .i64 a1_0, .int .i64 a1_1, .int .i64 a1_2, .int .i64 a1_3] 22 (0, 0)) (by (with_reducible repeat (first | refine ze ?_ _ | refine zf ?_ | refine za ?_ _)); exact BK1.out) hb)
             have n1_ := zh.mk (zo (g := g2) (o := .cells #[.int .i64 a2_0, .int .i64 a2_1, .int .i64 a2_2, .int .i64 a2_3] 22 (0, 0)) (by (with_reducible repeat (first | refine ze ?_ _ | refine zf ?_ | refine za ?_ _)); exact BK2.out) hb)
             have n2_ := zh.mk (zo (g := g3) (o := .cells #[.int .i64 t196, .int .i64 t197, .int .i64 t198, .int .i64 t199] 23 (0, 0)) (by (with_reducible repeat (first | refine ze ?_ _ | refine zf ?_ | refine za ?_ _)); exact BK3.out) hb)
             have n3_ := zh.mk (zo (g := g4) (o := .cells #[.int .i64 t200, .int .i64 t201, .int .i64 t202, .int .i64 t203] 23 (0, 0)) (by (with_reducible repeat (first | refine ze ?_ _ | refine zf ?_ | refine za ?_ _)); exact BK4.out) hb)
             have n4_ := zh.mk (zo (g := g6) (o := .cells #[.int .i64 0, .int .i64 0, .int .i64 0, .int .i64 0] 23 (0, 0)) (by (with_reducible repeat (first | refine ze ?_ _ | refine zf ?_ | refine za ?_ _)); exact BK6.out) hb)
             have n5_ := zh.mk (zs (by repeat (first | (with_reducible first | exact HB.out | apply zl | apply zj | apply zk | refine zg ?_ GE1.out | refine zg ?_ GE2.out | refine zg ?_ GE3.out | refine zg ?_ GE4.out | refine zg ?_ GE6.out) | exact HB.out)) hb)
             clear BK1
             clear BK2
             clear BK3
             clear BK4
             clear BK6
             clear HB
             have BK1 := n0_
             have BK2 := n1_
             have BK3 := n2_
             have BK4 := n3_
             have BK6 := n4_
             have HB := n5_
             clear n0_ n1_ n2_ n3_ n4_ n5_
             (try clear hb)
             (try clear hb2)
             (try clear hk)
             (try clear hi)
             refine hK.out _ _ ⟨(zi BK1.out 0).trans rfl, (zi BK1.out 1).trans rfl, (zi BK1.out 2).trans rfl, (zi BK1.out 3).trans rfl, (zi BK2.out 0).trans rfl, (zi BK2.out 1).trans rfl, (zi BK2.out 2).trans rfl, (zi BK2.out 3).trans rfl⟩ (fun hHeld => ?_)
             clear hK K
             refine zca (a' := ?_) ?_ ?_
             rotate_left
             ·show Act.put _ (some 28) _ = _
              simp only [Act.put, List.setIfInBounds_toArray, List.set_cons_zero, List.set_cons_succ, zu, zt]
              rfl
             exact zca (by first | (simp only [zy, Act.put, List.setIfInBounds_toArray, List.set_cons_zero, List.set_cons_succ]; done) | (simp only [zy, Act.put, List.setIfInBounds_toArray, List.set_cons_zero, List.set_cons_succ]; rfl)) (hJ2_4_11 (g6) _ ⟨hHeld, (by (with_reducible repeat (first | refine ze ?_ _ | refine zf ?_ | refine za ?_ _)); exact BK1.out), (by (with_reducible repeat (first | refine ze ?_ _ | refine zf ?_ | refine za ?_ _)); exact BK2.out), (by (with_reducible repeat (first | refine ze ?_ _ | refine zf ?_ | refine za ?_ _)); exact BK3.out), (by (with_reducible repeat (first | refine ze ?_ _ | refine zf ?_ | refine za ?_ _)); exact BK4.out), (by (with_reducible repeat (first | refine ze ?_ _ | refine zf ?_ | refine za ?_ _)); exact BK6.out), GW6.out, GE6.out, N1_6.out, N6_1.out, N2_6.out, N6_2.out, N3_6.out, N6_3.out, N4_6.out, N6_4.out, (by repeat (first | (with_reducible first | exact HB.out | apply zl | apply zj | apply zk | refine zg ?_ GE1.out | refine zg ?_ GE2.out | refine zg ?_ GE3.out | refine zg ?_ GE4.out | refine zg ?_ GE6.out) | exact HB.out))⟩)
            ·skip
             refine zha ?hg (N := 10) ?hd (cs := #[.int .i64 0, .int .i64 0, .int .i64 0, .int .i64 0]) (t := 23) ?hr ?_; (case hd => rfl); (case hg => rfl); (case hr => first | (go_simp; done) | (go_simp; rfl))
             intro g5 hg w37 hbox hb
             have n0_ := zh.mk (zo (g := g1) (o := .cells #[.int .i64 a1_0, .int .i64 a1_1, .int .i64 a1_2, .int .i64 a1_3] 22 (0, 0)) (by (with_reducible repeat (first | refine ze ?_ _ | refine zf ?_ | refine za ?_ _)); exact BK1.out) hb)
             have n1_ := zh.mk (zo (g := g2) (o := .cells #[.int .i64 a2_0, .int .i64 a2_1, .int .i64 a2_2, .int .i64 a2_3] 22 (0, 0)) (by (with_reducible repeat (first | refine ze ?_ _ | refine zf ?_ | refine za ?_ _)); exact BK2.out) hb)
             have n2_ := zh.mk (zo (g := g3) (o := .cells #[.int .i64 t196, .int .i64 t197, .int .i64 t198, .int .i64 t199] 23 (0, 0)) (by (with_reducible repeat (first | refine ze ?_ _ | refine zf ?_ | refine za ?_ _)); exact BK3.out) hb)
             have n3_ := zh.mk (zo (g := g4) (o := .cells #[.int .i64 t200, .int .i64 t201, .int .i64 t202, .int .i64 t203] 23 (0, 0)) (by (with_reducible repeat (first | refine ze ?_ _ | refine zf ?_ | refine za ?_ _)); exact BK4.out) hb)
             have n4_ := zh.mk (zo (g := g6) (o := .cells #[.int .i64 0, .int .i64 0, .int .i64 0, .int .i64 0] 23 (0, 0)) (by (with_reducible repeat (first | refine ze ?_ _ | refine zf ?_ | refine za ?_ _)); exact BK6.out) hb)
             have n5_ := zh.mk (zs (by repeat (first | (with_reducible first | exact HB.out | apply zl | apply zj | apply zk | refine zg ?_ GE1.out | refine zg ?_ GE2.out | refine zg ?_ GE3.out | refine zg ?_ GE4.out | refine zg ?_ GE6.out) | exact HB.out)) hb)
             have n6_ := zh.mk (hbox)
             have n7_ := zh.mk ((by rw [hg]; exact (zq (by repeat (first | (with_reducible first | exact HB.out | apply zl | apply zj | apply zk | refine zg ?_ GE1.out | refine zg ?_ GE2.out | refine zg ?_ GE3.out | refine zg ?_ GE4.out | refine zg ?_ GE6.out) | exact HB.out))) : w.heap.size ≤ g5))
             have n8_ := zh.mk ((by rw [hg]; exact (zq (by repeat (first | (with_reducible first | exact HB.out | apply zl | apply zj | apply zk | refine zg ?_ GE1.out | refine zg ?_ GE2.out | refine zg ?_ GE3.out | refine zg ?_ GE4.out | refine zg ?_ GE6.out) | exact HB.out))) : w.heap.size ≤ g5))
             have n9_ := zh.mk ((by rw [hg]; exact Nat.ne_of_lt (zr (g := g1) (o := .cells #[.int .i64 a1_0, .int .i64 a1_1, .int .i64 a1_2, .int .i64 a1_3] 22 (0, 0)) (by (with_reducible repeat (first | refine ze ?_ _ | refine zf ?_ | refine za ?_ _)); exact BK1.out)) : g1 ≠ g5))
             have n10_ := zh.mk ((by rw [hg]; exact Nat.ne_of_gt (zr (g := g1) (o := .cells #[.int .i64 a1_0, .int .i64 a1_1, .int .i64 a1_2, .int .i64 a1_3] 22 (0, 0)) (by (with_reducible repeat (first | refine ze ?_ _ | refine zf ?_ | refine za ?_ _)); exact BK1.out)) : g5 ≠ g1))
             have n11_ := zh.mk ((by rw [hg]; exact Nat.ne_of_lt (zr (g := g2) (o := .cells #[.int .i64 a2_0, .int .i64 a2_1, .int .i64 a2_2, .int .i64 a2_3] 22 (0, 0)) (by (with_reducible repeat (first | refine ze ?_ _ | refine zf ?_ | refine za ?_ _)); exact BK2.out)) : g2 ≠ g5))
             have n12_ := zh.mk ((by rw [hg]; exact Nat.ne_of_gt (zr (g := g2) (o := .cells #[.int .i64 a2_0, .int .i64 a2_1, .int .i64 a2_2, .int .i64 a2_3] 22 (0, 0)) (by (with_reducible repeat (first | refine ze ?_ _ | refine zf ?_ | refine za ?_ _)); exact BK2.out)) : g5 ≠ g2))
             have n13_ := zh.mk ((by rw [hg]; exact Nat.ne_of_lt (zr (g := g3) (o := .cells #[.int .i64 t196, .int .i64 t197, .int .i64 t198, .int .i64 t199] 23 (0, 0)) (by (with_reducible repeat (first | refine ze ?_ _ | refine zf ?_ | refine za ?_ _)); exact BK3.out)) : g3 ≠ g5))
             have n14_ := zh.mk ((by rw [hg]; exact Nat.ne_of_gt (zr (g := g3) (o := .cells #[.int .i64 t196, .int .i64 t197, .int .i64 t198, .int .i64 t199] 23 (0, 0)) (by (with_reducible repeat (first | refine ze ?_ _ | refine zf ?_ | refine za ?_ _)); exact BK3.out)) : g5 ≠ g3))
             have n15_ := zh.mk ((by rw [hg]; exact Nat.ne_of_lt (zr (g := g4) (o := .cells #[.int .i64 t200, .int .i64 t201, .int .i64 t202, .int .i64 t203] 23 (0, 0)) (by (with_reducible repeat (first | refine ze ?_ _ | refine zf ?_ | refine za ?_ _)); exact BK4.out)) : g4 ≠ g5))
             have n16_ := zh.mk ((by rw [hg]; exact Nat.ne_of_gt (zr (g := g4) (o := .cells #[.int .i64 t200, .int .i64 t201, .int .i64 t202, .int .i64 t203] 23 (0, 0)) (by (with_reducible repeat (first | refine ze ?_ _ | refine zf ?_ | refine za ?_ _)); exact BK4.out)) : g5 ≠ g4))
             have n17_ := zh.mk ((by rw [hg]; exact Nat.ne_of_lt (zr (g := g6) (o := .cells #[.int .i64 0, .int .i64 0, .int .i64 0, .int .i64 0] 23 (0, 0)) (by (with_reducible repeat (first | refine ze ?_ _ | refine zf ?_ | refine za ?_ _)); exact BK6.out)) : g6 ≠ g5))
             have n18_ := zh.mk ((by rw [hg]; exact Nat.ne_of_gt (zr (g := g6) (o := .cells #[.int .i64 0, .int .i64 0, .int .i64 0, .int .i64 0] 23 (0, 0)) (by (with_reducible repeat (first | refine ze ?_ _ | refine zf ?_ | refine za ?_ _)); exact BK6.out)) : g5 ≠ g6))
             clear BK1
             clear BK2
             clear BK3
             clear BK4
             clear BK6
             clear HB
             have BK1 := n0_
             have BK2 := n1_
             have BK3 := n2_
             have BK4 := n3_
             have BK6 := n4_
             have HB := n5_
             have BK5 := n6_
             have GW5 := n7_
             have GE5 := n8_
             have N1_5 := n9_
             have N5_1 := n10_
             have N2_5 := n11_
             have N5_2 := n12_
             have N3_5 := n13_
             have N5_3 := n14_
             have N4_5 := n15_
             have N5_4 := n16_
             have N6_5 := n17_
             have N5_6 := n18_
             clear n0_ n1_ n2_ n3_ n4_ n5_ n6_ n7_ n8_ n9_ n10_ n11_ n12_ n13_ n14_ n15_ n16_ n17_ n18_
             clear hb hbox hg
             refine hK.out _ _ ⟨(zi BK1.out 0).trans rfl, (zi BK1.out 1).trans rfl, (zi BK1.out 2).trans rfl, (zi BK1.out 3).trans rfl, (zi BK2.out 0).trans rfl, (zi BK2.out 1).trans rfl, (zi BK2.out 2).trans rfl, (zi BK2.out 3).trans rfl⟩ (fun hHeld => ?_)
             clear hK K
             refine zca (a' := ?_) ?_ ?_
             rotate_left
             ·show Act.put _ (some 10) _ = _
              simp only [Act.put, List.setIfInBounds_toArray, List.set_cons_zero, List.set_cons_succ, zu, zt]
              rfl
             exact zca (by first | (simp only [zy, Act.put, List.setIfInBounds_toArray, List.set_cons_zero, List.set_cons_succ]; done) | (simp only [zy, Act.put, List.setIfInBounds_toArray, List.set_cons_zero, List.set_cons_succ]; rfl)) (hJ2_10_11 (g5, g6) _ ⟨hHeld, (by (with_reducible repeat (first | refine ze ?_ _ | refine zf ?_ | refine za ?_ _)); exact BK1.out), (by (with_reducible repeat (first | refine ze ?_ _ | refine zf ?_ | refine za ?_ _)); exact BK2.out), (by (with_reducible repeat (first | refine ze ?_ _ | refine zf ?_ | refine za ?_ _)); exact BK3.out), (by (with_reducible repeat (first | refine ze ?_ _ | refine zf ?_ | refine za ?_ _)); exact BK4.out), (by (with_reducible repeat (first | refine ze ?_ _ | refine zf ?_ | refine za ?_ _)); exact BK5.out), (by (with_reducible repeat (first | refine ze ?_ _ | refine zf ?_ | refine za ?_ _)); exact BK6.out), GW5.out, GE5.out, N1_5.out, N5_1.out, N2_5.out, N5_2.out, N3_5.out, N5_3.out, N4_5.out, N5_4.out, N6_5.out, N5_6.out, GW6.out, GE6.out, N1_6.out, N6_1.out, N2_6.out, N6_2.out, N3_6.out, N6_3.out, N4_6.out, N6_4.out, (by repeat (first | (with_reducible first | exact HB.out | apply zl | apply zj | apply zk | refine zg ?_ GE1.out | refine zg ?_ GE2.out | refine zg ?_ GE3.out | refine zg ?_ GE4.out | refine zg ?_ GE6.out | refine zg ?_ GE5.out) | exact HB.out))⟩)
          ·skip
           rintro g5 w36 ⟨hS_, h0_, h1_, h2_, h3_, h4_, h5_, h6_, h7_, h8_, h9_, h10_, h11_, h12_, h13_, h14_, h15_⟩
           have n0_ : zh (w36.heap[g1]? = some (.cells #[.int .i64 a1_0, .int .i64 a1_1, .int .i64 a1_2, .int .i64 a1_3] 22 (0, 0))) := ⟨h0_⟩
           have n1_ : zh (w36.heap[g2]? = some (.cells #[.int .i64 a2_0, .int .i64 a2_1, .int .i64 a2_2, .int .i64 a2_3] 22 (0, 0))) := ⟨h1_⟩
           have n2_ : zh (w36.heap[g3]? = some (.cells #[.int .i64 t196, .int .i64 t197, .int .i64 t198, .int .i64 t199] 23 (0, 0))) := ⟨h2_⟩
           have n3_ : zh (w36.heap[g4]? = some (.cells #[.int .i64 t200, .int .i64 t201, .int .i64 t202, .int .i64 t203] 23 (0, 0))) := ⟨h3_⟩
           have n4_ : zh (w36.heap[g5]? = some (.cells #[.int .i64 0, .int .i64 0, .int .i64 0, .int .i64 0] 23 (0, 0))) := ⟨h4_⟩
           have n5_ : zh (w.heap.size ≤ g5) := ⟨h5_⟩
           have n6_ : zh (w.heap.size ≤ g5) := ⟨h6_⟩
           have n7_ : zh (g1 ≠ g5) := ⟨h7_⟩
           have n8_ : zh (g5 ≠ g1) := ⟨h8_⟩
           have n9_ : zh (g2 ≠ g5) := ⟨h9_⟩
           have n10_ : zh (g5 ≠ g2) := ⟨h10_⟩
           have n11_ : zh (g3 ≠ g5) := ⟨h11_⟩
           have n12_ : zh (g5 ≠ g3) := ⟨h12_⟩
           have n13_ : zh (g4 ≠ g5) := ⟨h13_⟩
           have n14_ : zh (g5 ≠ g4) := ⟨h14_⟩
           have n15_ : zh (Below w.heap.size w w36) := ⟨h15_⟩
           clear BK1
           clear BK2
           clear BK3
           clear BK4
           clear HB
           clear h0_ h1_ h2_ h3_ h4_ h5_ h6_ h7_ h8_ h9_ h10_ h11_ h12_ h13_ h14_ h15_
           have BK1 := n0_
           have BK2 := n1_
           have BK3 := n2_
           have BK4 := n3_
           have BK5 := n4_
           have GW5 := n5_
           have GE5 := n6_
           have N1_5 := n7_
           have N5_1 := n8_
           have N2_5 := n9_
           have N5_2 := n10_
           have N3_5 := n11_
           have N5_3 := n12_
           have N4_5 := n13_
           have N5_4 := n14_
           have HB := n15_
           clear n0_ n1_ n2_ n3_ n4_ n5_ n6_ n7_ n8_ n9_ n10_ n11_ n12_ n13_ n14_ n15_
           have hHeld : w36.cell? ⟨g1, 0, none⟩ = some (.int .i64 a1_0) ∧ w36.cell? ⟨g1, 1, none⟩ = some (.int .i64 a1_1) ∧ w36.cell? ⟨g1, 2, none⟩ = some (.int .i64 a1_2) ∧ w36.cell? ⟨g1, 3, none⟩ = some (.int .i64 a1_3) ∧ w36.cell? ⟨g2, 0, none⟩ = some (.int .i64 a2_0) ∧ w36.cell? ⟨g2, 1, none⟩ = some (.int .i64 a2_1) ∧ w36.cell? ⟨g2, 2, none⟩ = some (.int .i64 a2_2) ∧ w36.cell? ⟨g2, 3, none⟩ = some (.int .i64 a2_3) := hS_
           refine zca (a' := ?_) ?_ ?_
           rotate_left
           ·simp only [zy, Act.put, List.setIfInBounds_toArray, List.set_cons_zero, List.set_cons_succ]
            rfl
           refine two_ (i := 4) (j := 11) (Ni := some 28) (Nj := some 11) #[true, true, true, true, true, false, false, false, false, false, true, false, false, false, false] #[true, true, true, true, false, false, false, false, false, false, true, true, false, false, false] rfl rfl rfl rfl (two_of HT_.out (by kernel_rfl)) (by decide) (by decide) (fun K hK => ?_) (fun K hK => ?_)
           ·skip
            refine goes_ Try.func6 (by kernel_rfl) rfl #[.agg #[.int .i64 a2_0, .int .i64 a2_1, .int .i64 a2_2, .int .i64 a2_3]] (by rfl) rfl rfl (by (try simp only [List.map_toArray, List.map_cons, List.map_nil]); first | done | rfl | (simp only [List.length_drop, List.length_take]; rfl)) ?_
            with_reducible refine (laws_toState.calls k a2_0 a2_1 a2_2 a2_3 t211 t212 t213 t214 _ A8.out).mono ?_
            rintro e w37 ⟨rfl, hb⟩
            refine ⟨_, rfl, ?_⟩
            have n0_ := zh.mk (zo (g := g1) (o := .cells #[.int .i64 a1_0, .int .i64 a1_1, .int .i64 a1_2, .int .i64 a1_3] 22 (0, 0)) (by (with_reducible repeat (first | refine ze ?_ _ | refine zf ?_ | refine za ?_ _)); exact BK1.out) hb)
            have n1_ := zh.mk (zo (g := g2) (o := .cells #[.int .i64 a2_0, .int .i64 a2_1, .int .i64 a2_2, .int .i64 a2_3] 22 (0, 0)) (by (with_reducible repeat (first | refine ze ?_ _ | refine zf ?_ | refine za ?_ _)); exact BK2.out) hb)
            have n2_ := zh.mk (zo (g := g3) (o := .cells #[.int .i64 t196, .int .i64 t197, .int .i64 t198, .int .i64 t199] 23 (0, 0)) (by (with_reducible repeat (first | refine ze ?_ _ | refine zf ?_ | refine za ?_ _)); exact BK3.out) hb)
            have n3_ := zh.mk (zo (g := g4) (o := .cells #[.int .i64 t200, .int .i64 t201, .int .i64 t202, .int .i64 t203] 23 (0, 0)) (by (with_reducible repeat (first | refine ze ?_ _ | refine zf ?_ | refine za ?_ _)); exact BK4.out) hb)
            have n4_ := zh.mk (zo (g := g5) (o := .cells #[.int .i64 0, .int .i64 0, .int .i64 0, .int .i64 0] 23 (0, 0)) (by (with_reducible repeat (first | refine ze ?_ _ | refine zf ?_ | refine za ?_ _)); exact BK5.out) hb)
            have n5_ := zh.mk (zs (by repeat (first | (with_reducible first | exact HB.out | apply zl | apply zj | apply zk | refine zg ?_ GE1.out | refine zg ?_ GE2.out | refine zg ?_ GE3.out | refine zg ?_ GE4.out | refine zg ?_ GE5.out) | exact HB.out)) hb)
            clear BK1
            clear BK2
            clear BK3
            clear BK4
            clear BK5
            clear HB
            have BK1 := n0_
            have BK2 := n1_
            have BK3 := n2_
            have BK4 := n3_
            have BK5 := n4_
            have HB := n5_
            clear n0_ n1_ n2_ n3_ n4_ n5_
            (try clear hb)
            (try clear hb2)
            (try clear hk)
            (try clear hi)
            refine hK.out _ _ ⟨(zi BK1.out 0).trans rfl, (zi BK1.out 1).trans rfl, (zi BK1.out 2).trans rfl, (zi BK1.out 3).trans rfl, (zi BK2.out 0).trans rfl, (zi BK2.out 1).trans rfl, (zi BK2.out 2).trans rfl, (zi BK2.out 3).trans rfl⟩ (fun hHeld => ?_)
            clear hK K
            refine zca (a' := ?_) ?_ ?_
            rotate_left
            ·show Act.put _ (some 28) _ = _
             simp only [Act.put, List.setIfInBounds_toArray, List.set_cons_zero, List.set_cons_succ, zu, zt]
             rfl
            exact zca (by first | (simp only [zy, Act.put, List.setIfInBounds_toArray, List.set_cons_zero, List.set_cons_succ]; done) | (simp only [zy, Act.put, List.setIfInBounds_toArray, List.set_cons_zero, List.set_cons_succ]; rfl)) (hJ2_4_10 (g5) _ ⟨hHeld, (by (with_reducible repeat (first | refine ze ?_ _ | refine zf ?_ | refine za ?_ _)); exact BK1.out), (by (with_reducible repeat (first | refine ze ?_ _ | refine zf ?_ | refine za ?_ _)); exact BK2.out), (by (with_reducible repeat (first | refine ze ?_ _ | refine zf ?_ | refine za ?_ _)); exact BK3.out), (by (with_reducible repeat (first | refine ze ?_ _ | refine zf ?_ | refine za ?_ _)); exact BK4.out), (by (with_reducible repeat (first | refine ze ?_ _ | refine zf ?_ | refine za ?_ _)); exact BK5.out), GW5.out, GE5.out, N1_5.out, N5_1.out, N2_5.out, N5_2.out, N3_5.out, N5_3.out, N4_5.out, N5_4.out, (by repeat (first | (with_reducible first | exact HB.out | apply zl | apply zj | apply zk | refine zg ?_ GE1.out | refine zg ?_ GE2.out | refine zg ?_ GE3.out | refine zg ?_ GE4.out | refine zg ?_ GE5.out) | exact HB.out))⟩)
           ·skip
            refine zha ?hg (N := 11) ?hd (cs := #[.int .i64 0, .int .i64 0, .int .i64 0, .int .i64 0]) (t := 23) ?hr ?_; (case hd => rfl); (case hg => rfl); (case hr => first | (go_simp; done) | (go_simp; rfl))
            intro g6 hg w37 hbox hb
            have n0_ := zh.mk (zo (g := g1) (o := .cells #[.int .i64 a1_0, .int .i64 a1_1, .int .i64 a1_2, .int .i64 a1_3] 22 (0, 0)) (by (with_reducible repeat (first | refine ze ?_ _ | refine zf ?_ | refine za ?_ _)); exact BK1.out) hb)
            have n1_ := zh.mk (zo (g := g2) (o := .cells #[.int .i64 a2_0, .int .i64 a2_1, .int .i64 a2_2, .int .i64 a2_3] 22 (0, 0)) (by (with_reducible repeat (first | refine ze ?_ _ | refine zf ?_ | refine za ?_ _)); exact BK2.out) hb)
            have n2_ := zh.mk (zo (g := g3) (o := .cells #[.int .i64 t196, .int .i64 t197, .int .i64 t198, .int .i64 t199] 23 (0, 0)) (by (with_reducible repeat (first | refine ze ?_ _ | refine zf ?_ | refine za ?_ _)); exact BK3.out) hb)
            have n3_ := zh.mk (zo (g := g4) (o := .cells #[.int .i64 t200, .int .i64 t201, .int .i64 t202, .int .i64 t203] 23 (0, 0)) (by (with_reducible repeat (first | refine ze ?_ _ | refine zf ?_ | refine za ?_ _)); exact BK4.out) hb)
            have n4_ := zh.mk (zo (g := g5) (o := .cells #[.int .i64 0, .int .i64 0, .int .i64 0, .int .i64 0] 23 (0, 0)) (by (with_reducible repeat (first | refine ze ?_ _ | refine zf ?_ | refine za ?_ _)); exact BK5.out) hb)
            have n5_ := zh.mk (zs (by repeat (first | (with_reducible first | exact HB.out | apply zl | apply zj | apply zk | refine zg ?_ GE1.out | refine zg ?_ GE2.out | refine zg ?_ GE3.out | refine zg ?_ GE4.out | refine zg ?_ GE5.out) | exact HB.out)) hb)
            have n6_ := zh.mk (hbox)
            have n7_ := zh.mk ((by rw [hg]; exact (zq (by repeat (first | (with_reducible first | exact HB.out | apply zl | apply zj | apply zk | refine zg ?_ GE1.out | refine zg ?_ GE2.out | refine zg ?_ GE3.out | refine zg ?_ GE4.out | refine zg ?_ GE5.out) | exact HB.out))) : w.heap.size ≤ g6))
            have n8_ := zh.mk ((by rw [hg]; exact (zq (by repeat (first | (with_reducible first | exact HB.out | apply zl | apply zj | apply zk | refine zg ?_ GE1.out | refine zg ?_ GE2.out | refine zg ?_ GE3.out | refine zg ?_ GE4.out | refine zg ?_ GE5.out) | exact HB.out))) : w.heap.size ≤ g6))
            have n9_ := zh.mk ((by rw [hg]; exact Nat.ne_of_lt (zr (g := g1) (o := .cells #[.int .i64 a1_0, .int .i64 a1_1, .int .i64 a1_2, .int .i64 a1_3] 22 (0, 0)) (by (with_reducible repeat (first | refine ze ?_ _ | refine zf ?_ | refine za ?_ _)); exact BK1.out)) : g1 ≠ g6))
            have n10_ := zh.mk ((by rw [hg]; exact Nat.ne_of_gt (zr (g := g1) (o := .cells #[.int .i64 a1_0, .int .i64 a1_1, .int .i64 a1_2, .int .i64 a1_3] 22 (0, 0)) (by (with_reducible repeat (first | refine ze ?_ _ | refine zf ?_ | refine za ?_ _)); exact BK1.out)) : g6 ≠ g1))
            have n11_ := zh.mk ((by rw [hg]; exact Nat.ne_of_lt (zr (g := g2) (o := .cells #[.int .i64 a2_0, .int .i64 a2_1, .int .i64 a2_2, .int .i64 a2_3] 22 (0, 0)) (by (with_reducible repeat (first | refine ze ?_ _ | refine zf ?_ | refine za ?_ _)); exact BK2.out)) : g2 ≠ g6))
            have n12_ := zh.mk ((by rw [hg]; exact Nat.ne_of_gt (zr (g := g2) (o := .cells #[.int .i64 a2_0, .int .i64 a2_1, .int .i64 a2_2, .int .i64 a2_3] 22 (0, 0)) (by (with_reducible repeat (first | refine ze ?_ _ | refine zf ?_ | refine za ?_ _)); exact BK2.out)) : g6 ≠ g2))
            have n13_ := zh.mk ((by rw [hg]; exact Nat.ne_of_lt (zr (g := g3) (o := .cells #[.int .i64 t196, .int .i64 t197, .int .i64 t198, .int .i64 t199] 23 (0, 0)) (by (with_reducible repeat (first | refine ze ?_ _ | refine zf ?_ | refine za ?_ _)); exact BK3.out)) : g3 ≠ g6))
            have n14_ := zh.mk ((by rw [hg]; exact Nat.ne_of_gt (zr (g := g3) (o := .cells #[.int .i64 t196, .int .i64 t197, .int .i64 t198, .int .i64 t199] 23 (0, 0)) (by (with_reducible repeat (first | refine ze ?_ _ | refine zf ?_ | refine za ?_ _)); exact BK3.out)) : g6 ≠ g3))
            have n15_ := zh.mk ((by rw [hg]; exact Nat.ne_of_lt (zr (g := g4) (o := .cells #[.int .i64 t200, .int .i64 t201, .int .i64 t202, .int .i64 t203] 23 (0, 0)) (by (with_reducible repeat (first | refine ze ?_ _ | refine zf ?_ | refine za ?_ _)); exact BK4.out)) : g4 ≠ g6))
            have n16_ := zh.mk ((by rw [hg]; exact Nat.ne_of_gt (zr (g := g4) (o := .cells #[.int .i64 t200, .int .i64 t201, .int .i64 t202, .int .i64 t203] 23 (0, 0)) (by (with_reducible repeat (first | refine ze ?_ _ | refine zf ?_ | refine za ?_ _)); exact BK4.out)) : g6 ≠ g4))
            have n17_ := zh.mk ((by rw [hg]; exact Nat.ne_of_lt (zr (g := g5) (o := .cells #[.int .i64 0, .int .i64 0, .int .i64 0, .int .i64 0] 23 (0, 0)) (by (with_reducible repeat (first | refine ze ?_ _ | refine zf ?_ | refine za ?_ _)); exact BK5.out)) : g5 ≠ g6))
            have n18_ := zh.mk ((by rw [hg]; exact Nat.ne_of_gt (zr (g := g5) (o := .cells #[.int .i64 0, .int .i64 0, .int .i64 0, .int .i64 0] 23 (0, 0)) (by (with_reducible repeat (first | refine ze ?_ _ | refine zf ?_ | refine za ?_ _)); exact BK5.out)) : g6 ≠ g5))
            clear BK1
            clear BK2
            clear BK3
            clear BK4
            clear BK5
            clear HB
            have BK1 := n0_
            have BK2 := n1_
            have BK3 := n2_
            have BK4 := n3_
            have BK5 := n4_
            have HB := n5_
            have BK6 := n6_
            have GW6 := n7_
            have GE6 := n8_
            have N1_6 := n9_
            have N6_1 := n10_
            have N2_6 := n11_
            have N6_2 := n12_
            have N3_6 := n13_
            have N6_3 := n14_
            have N4_6 := n15_
            have N6_4 := n16_
            have N5_6 := n17_
            have N6_5 := n18_
            clear n0_ n1_ n2_ n3_ n4_ n5_ n6_ n7_ n8_ n9_ n10_ n11_ n12_ n13_ n14_ n15_ n16_ n17_ n18_
            clear hb hbox hg
            refine hK.out _ _ ⟨(zi BK1.out 0).trans rfl, (zi BK1.out 1).trans rfl, (zi BK1.out 2).trans rfl, (zi BK1.out 3).trans rfl, (zi BK2.out 0).trans rfl, (zi BK2.out 1).trans rfl, (zi BK2.out 2).trans rfl, (zi BK2.out 3).trans rfl⟩ (fun hHeld => ?_)
            clear hK K
            refine zca (a' := ?_) ?_ ?_
            rotate_left
            ·show Act.put _ (some 11) _ = _
             simp only [Act.put, List.setIfInBounds_toArray, List.set_cons_zero, List.set_cons_succ, zu, zt]
             rfl
            exact zca (by first | (simp only [zy, Act.put, List.setIfInBounds_toArray, List.set_cons_zero, List.set_cons_succ]; done) | (simp only [zy, Act.put, List.setIfInBounds_toArray, List.set_cons_zero, List.set_cons_succ]; rfl)) (hJ2_10_11 (g5, g6) _ ⟨hHeld, (by (with_reducible repeat (first | refine ze ?_ _ | refine zf ?_ | refine za ?_ _)); exact BK1.out), (by (with_reducible repeat (first | refine ze ?_ _ | refine zf ?_ | refine za ?_ _)); exact BK2.out), (by (with_reducible repeat (first | refine ze ?_ _ | refine zf ?_ | refine za ?_ _)); exact BK3.out), (by (with_reducible repeat (first | refine ze ?_ _ | refine zf ?_ | refine za ?_ _)); exact BK4.out), (by (with_reducible repeat (first | refine ze ?_ _ | refine zf ?_ | refine za ?_ _)); exact BK5.out), (by (with_reducible repeat (first | refine ze ?_ _ | refine zf ?_ | refine za ?_ _)); exact BK6.out), GW5.out, GE5.out, N1_5.out, N5_1.out, N2_5.out, N5_2.out, N3_5.out, N5_3.out, N4_5.out, N5_4.out, N6_5.out, N5_6.out, GW6.out, GE6.out, N1_6.out, N6_1.out, N2_6.out, N6_2.out, N3_6.out, N6_3.out, N4_6.out, N6_4.out, (by repeat (first | (with_reducible first | exact HB.out | apply zl | apply zj | apply zk | refine zg ?_ GE1.out | refine zg ?_ GE2.out | refine zg ?_ GE3.out | refine zg ?_ GE4.out | refine zg ?_ GE5.out | refine zg ?_ GE6.out) | exact HB.out))⟩)
         ·skip
          rintro _ w36 ⟨hS_, h0_, h1_, h2_, h3_, h4_⟩
          have n0_ : zh (w36.heap[g1]? = some (.cells #[.int .i64 a1_0, .int .i64 a1_1, .int .i64 a1_2, .int .i64 a1_3] 22 (0, 0))) := ⟨h0_⟩
          have n1_ : zh (w36.heap[g2]? = some (.cells #[.int .i64 a2_0, .int .i64 a2_1, .int .i64 a2_2, .int .i64 a2_3] 22 (0, 0))) := ⟨h1_⟩
          have n2_ : zh (w36.heap[g3]? = some (.cells #[.int .i64 t196, .int .i64 t197, .int .i64 t198, .int .i64 t199] 23 (0, 0))) := ⟨h2_⟩
          have n3_ : zh (w36.heap[g4]? = some (.cells #[.int .i64 t200, .int .i64 t201, .int .i64 t202, .int .i64 t203] 23 (0, 0))) := ⟨h3_⟩
          have n4_ : zh (Below w.heap.size w w36) := ⟨h4_⟩
          clear BK1
          clear BK2
          clear BK3
          clear BK4
          clear HB
          clear h0_ h1_ h2_ h3_ h4_
          have BK1 := n0_
          have BK2 := n1_
          have BK3 := n2_
          have BK4 := n3_
          have HB := n4_
          clear n0_ n1_ n2_ n3_ n4_
          have hHeld : w36.cell? ⟨g1, 0, none⟩ = some (.int .i64 a1_0) ∧ w36.cell? ⟨g1, 1, none⟩ = some (.int .i64 a1_1) ∧ w36.cell? ⟨g1, 2, none⟩ = some (.int .i64 a1_2) ∧ w36.cell? ⟨g1, 3, none⟩ = some (.int .i64 a1_3) ∧ w36.cell? ⟨g2, 0, none⟩ = some (.int .i64 a2_0) ∧ w36.cell? ⟨g2, 1, none⟩ = some (.int .i64 a2_1) ∧ w36.cell? ⟨g2, 2, none⟩ = some (.int .i64 a2_2) ∧ w36.cell? ⟨g2, 3, none⟩ = some (.int .i64 a2_3) := hS_
          refine zca (a' := ?_) ?_ ?_
          rotate_left
          ·simp only [zy, Act.put, List.setIfInBounds_toArray, List.set_cons_zero, List.set_cons_succ]
           rfl
          refine three_ (i := 5) (j := 10) (k := 11) (Ni := some 29) (Nj := some 10) (Nk := some 11) #[true, true, true, true, true, true, false, false, false, false, false, false, false, false, false] #[true, true, true, true, true, false, false, false, false, false, true, false, false, false, false] #[true, true, true, true, true, false, false, false, false, false, false, true, false, false, false] rfl rfl rfl rfl rfl rfl (three_of HT_.out (by kernel_rfl)) (by decide) (by decide) (by decide) (fun K hK => ?_) (fun K hK => ?_) (fun K hK => ?_)
          ·skip
           refine goes_ Try.func7 (by kernel_rfl) rfl #[.int .i64 a0, .agg #[.int .i64 t207, .int .i64 t208, .int .i64 t209, .int .i64 t210], .agg #[.int .i64 t211, .int .i64 t212, .int .i64 t213, .int .i64 t214]] (by rfl) rfl rfl (by (try simp only [List.map_toArray, List.map_cons, List.map_nil]); first | done | rfl | (simp only [List.length_drop, List.length_take]; rfl)) ?_
           with_reducible refine (impl_SplitState.calls k a0 t207 t208 t209 t210 t211 t212 t213 t214 t215 t216 t217 t218 t219 t220 t221 t222 t223 _ A9.out).mono ?_
           rintro e w37 ⟨rfl, hb⟩
           refine ⟨_, rfl, ?_⟩
           have n0_ := zh.mk (zo (g := g1) (o := .cells #[.int .i64 a1_0, .int .i64 a1_1, .int .i64 a1_2, .int .i64 a1_3] 22 (0, 0)) (by (with_reducible repeat (first | refine ze ?_ _ | refine zf ?_ | refine za ?_ _)); exact BK1.out) hb)
           have n1_ := zh.mk (zo (g := g2) (o := .cells #[.int .i64 a2_0, .int .i64 a2_1, .int .i64 a2_2, .int .i64 a2_3] 22 (0, 0)) (by (with_reducible repeat (first | refine ze ?_ _ | refine zf ?_ | refine za ?_ _)); exact BK2.out) hb)
           have n2_ := zh.mk (zo (g := g3) (o := .cells #[.int .i64 t196, .int .i64 t197, .int .i64 t198, .int .i64 t199] 23 (0, 0)) (by (with_reducible repeat (first | refine ze ?_ _ | refine zf ?_ | refine za ?_ _)); exact BK3.out) hb)
           have n3_ := zh.mk (zo (g := g4) (o := .cells #[.int .i64 t200, .int .i64 t201, .int .i64 t202, .int .i64 t203] 23 (0, 0)) (by (with_reducible repeat (first | refine ze ?_ _ | refine zf ?_ | refine za ?_ _)); exact BK4.out) hb)
           have n4_ := zh.mk (zs (by repeat (first | (with_reducible first | exact HB.out | apply zl | apply zj | apply zk | refine zg ?_ GE1.out | refine zg ?_ GE2.out | refine zg ?_ GE3.out | refine zg ?_ GE4.out) | exact HB.out)) hb)
           clear BK1
           clear BK2
           clear BK3
           clear BK4
           clear HB
           have BK1 := n0_
           have BK2 := n1_
           have BK3 := n2_
           have BK4 := n3_
           have HB := n4_
           clear n0_ n1_ n2_ n3_ n4_
           (try clear hb)
           (try clear hb2)
           (try clear hk)
           (try clear hi)
           refine hK.out _ _ ⟨(zi BK1.out 0).trans rfl, (zi BK1.out 1).trans rfl, (zi BK1.out 2).trans rfl, (zi BK1.out 3).trans rfl, (zi BK2.out 0).trans rfl, (zi BK2.out 1).trans rfl, (zi BK2.out 2).trans rfl, (zi BK2.out 3).trans rfl⟩ (fun hHeld => ?_)
           clear hK K
           refine zca (a' := ?_) ?_ ?_
           rotate_left
           ·show Act.put _ (some 29) _ = _
            simp only [Act.put, List.setIfInBounds_toArray, List.set_cons_zero, List.set_cons_succ, zu, zt]
            rfl
           refine zx (i := 6) (N := some 23) (v := ?_) (a' := ?_) #[true, true, true, true, true, true, true, false, false, false, false, false, false, false, false] rfl rfl (zv HT_.out (by kernel_rfl)) (fun _ _ _ h => h) (Or.inl ⟨by rfl, ?_⟩) ?_ ?_
           rotate_left
           ·intro w'
            go_simp
            with_reducible rfl
           rotate_left
           ·simp only [Act.put, List.setIfInBounds_toArray, List.set_cons_zero, List.set_cons_succ, zu, zt]
            rfl
           refine zx (i := 7) (N := some 30) (v := ?_) (a' := ?_) #[true, true, true, true, true, true, true, true, false, false, false, false, false, false, false] rfl rfl (zv HT_.out (by kernel_rfl)) (fun _ _ _ h => h) (Or.inl ⟨by rfl, ?_⟩) ?_ ?_
           rotate_left
           ·intro w'
            go_simp
            with_reducible rfl
           rotate_left
           ·simp only [Act.put, List.setIfInBounds_toArray, List.set_cons_zero, List.set_cons_succ, zu, zt]
            rfl
           refine zx (i := 8) (N := some 31) (v := ?_) (a' := ?_) #[true, true, true, true, true, true, true, true, true, false, false, false, false, false, false] rfl rfl (zv HT_.out (by kernel_rfl)) (fun _ _ _ h => h) (Or.inl ⟨by rfl, ?_⟩) ?_ ?_
           rotate_left
           ·intro w'
            go_simp
            with_reducible rfl
           rotate_left
           ·simp only [Act.put, List.setIfInBounds_toArray, List.set_cons_zero, List.set_cons_succ, zu, zt]
            rfl
           refine zx (i := 9) (N := some 32) (v := ?_) (a' := ?_) #[true, true, true, true, true, true, true, true, true, true, false, false, false, false, false] rfl rfl (zv HT_.out (by kernel_rfl)) (fun _ _ _ h => h) (Or.inl ⟨by rfl, ?_⟩) ?_ ?_
           rotate_left
           ·intro w'
            go_simp
            with_reducible rfl
           rotate_left
           ·simp only [Act.put, List.setIfInBounds_toArray, List.set_cons_zero, List.set_cons_succ, zu, zt]
            rfl
           exact zca (by first | (simp only [zy, Act.put, List.setIfInBounds_toArray, List.set_cons_zero, List.set_cons_succ]; done) | (simp only [zy, Act.put, List.setIfInBounds_toArray, List.set_cons_zero, List.set_cons_succ]; rfl)) (hJ2_4_5 () _ ⟨hHeld, (by (with_reducible repeat (first | refine ze ?_ _ | refine zf ?_ | refine za ?_ _)); exact BK1.out), (by (with_reducible repeat (first | refine ze ?_ _ | refine zf ?_ | refine za ?_ _)); exact BK2.out), (by (with_reducible repeat (first | refine ze ?_ _ | refine zf ?_ | refine za ?_ _)); exact BK3.out), (by (with_reducible repeat (first | refine ze ?_ _ | refine zf ?_ | refine za ?_ _)); exact BK4.out), (by repeat (first | (with_reducible first | exact HB.out | apply zl | apply zj | apply zk | refine zg ?_ GE1.out | refine zg ?_ GE2.out | refine zg ?_ GE3.out | refine zg ?_ GE4.out) | exact HB.out))⟩)
          ·skip
           refine zha ?hg (N := 10) ?hd (cs := #[.int .i64 0, .int .i64 0, .int .i64 0, .int .i64 0]) (t := 23) ?hr ?_; (case hd => rfl); (case hg => rfl); (case hr => first | (go_simp; done) | (go_simp; rfl))
           intro g5 hg w37 hbox hb
           have n0_ := zh.mk (zo (g := g1) (o := .cells #[.int .i64 a1_0, .int .i64 a1_1, .int .i64 a1_2, .int .i64 a1_3] 22 (0, 0)) (by (with_reducible repeat (first | refine ze ?_ _ | refine zf ?_ | refine za ?_ _)); exact BK1.out) hb)
           have n1_ := zh.mk (zo (g := g2) (o := .cells #[.int .i64 a2_0, .int .i64 a2_1, .int .i64 a2_2, .int .i64 a2_3] 22 (0, 0)) (by (with_reducible repeat (first | refine ze ?_ _ | refine zf ?_ | refine za ?_ _)); exact BK2.out) hb)
           have n2_ := zh.mk (zo (g := g3) (o := .cells #[.int .i64 t196, .int .i64 t197, .int .i64 t198, .int .i64 t199] 23 (0, 0)) (by (with_reducible repeat (first | refine ze ?_ _ | refine zf ?_ | refine za ?_ _)); exact BK3.out) hb)
           have n3_ := zh.mk (zo (g := g4) (o := .cells #[.int .i64 t200, .int .i64 t201, .int .i64 t202, .int .i64 t203] 23 (0, 0)) (by (with_reducible repeat (first | refine ze ?_ _ | refine zf ?_ | refine za ?_ _)); exact BK4.out) hb)
           have n4_ := zh.mk (zs (by repeat (first | (with_reducible first | exact HB.out | apply zl | apply zj | apply zk | refine zg ?_ GE1.out | refine zg ?_ GE2.out | refine zg ?_ GE3.out | refine zg ?_ GE4.out) | exact HB.out)) hb)
           have n5_ := zh.mk (hbox)
           have n6_ := zh.mk ((by rw [hg]; exact (zq (by repeat (first | (with_reducible first | exact HB.out | apply zl | apply zj | apply zk | refine zg ?_ GE1.out | refine zg ?_ GE2.out | refine zg ?_ GE3.out | refine zg ?_ GE4.out) | exact HB.out))) : w.heap.size ≤ g5))
           have n7_ := zh.mk ((by rw [hg]; exact (zq (by repeat (first | (with_reducible first | exact HB.out | apply zl | apply zj | apply zk | refine zg ?_ GE1.out | refine zg ?_ GE2.out | refine zg ?_ GE3.out | refine zg ?_ GE4.out) | exact HB.out))) : w.heap.size ≤ g5))
           have n8_ := zh.mk ((by rw [hg]; exact Nat.ne_of_lt (zr (g := g1) (o := .cells #[.int .i64 a1_0, .int .i64 a1_1, .int .i64 a1_2, .int .i64 a1_3] 22 (0, 0)) (by (with_reducible repeat (first | refine ze ?_ _ | refine zf ?_ | refine za ?_ _)); exact BK1.out)) : g1 ≠ g5))
           have n9_ := zh.mk ((by rw [hg]; exact Nat.ne_of_gt (zr (g := g1) (o := .cells #[.int .i64 a1_0, .int .i64 a1_1, .int .i64 a1_2, .int .i64 a1_3] 22 (0, 0)) (by (with_reducible repeat (first | refine ze ?_ _ | refine zf ?_ | refine za ?_ _)); exact BK1.out)) : g5 ≠ g1))
           have n10_ := zh.mk ((by rw [hg]; exact Nat.ne_of_lt (zr (g := g2) (o := .cells #[.int .i64 a2_0, .int .i64 a2_1, .int .i64 a2_2, .int .i64 a2_3] 22 (0, 0)) (by (with_reducible repeat (first | refine ze ?_ _ | refine zf ?_ | refine za ?_ _)); exact BK2.out)) : g2 ≠ g5))
           have n11_ := zh.mk ((by rw [hg]; exact Nat.ne_of_gt (zr (g := g2) (o := .cells #[.int .i64 a2_0, .int .i64 a2_1, .int .i64 a2_2, .int .i64 a2_3] 22 (0, 0)) (by (with_reducible repeat (first | refine ze ?_ _ | refine zf ?_ | refine za ?_ _)); exact BK2.out)) : g5 ≠ g2))
           have n12_ := zh.mk ((by rw [hg]; exact Nat.ne_of_lt (zr (g := g3) (o := .cells #[.int .i64 t196, .int .i64 t197, .int .i64 t198, .int .i64 t199] 23 (0, 0)) (by (with_reducible repeat (first | refine ze ?_ _ | refine zf ?_ | refine za ?_ _)); exact BK3.out)) : g3 ≠ g5))
           have n13_ := zh.mk ((by rw [hg]; exact Nat.ne_of_gt (zr (g := g3) (o := .cells #[.int .i64 t196, .int .i64 t197, .int .i64 t198, .int .i64 t199] 23 (0, 0)) (by (with_reducible repeat (first | refine ze ?_ _ | refine zf ?_ | refine za ?_ _)); exact BK3.out)) : g5 ≠ g3))
           have n14_ := zh.mk ((by rw [hg]; exact Nat.ne_of_lt (zr (g := g4) (o := .cells #[.int .i64 t200, .int .i64 t201, .int .i64 t202, .int .i64 t203] 23 (0, 0)) (by (with_reducible repeat (first | refine ze ?_ _ | refine zf ?_ | refine za ?_ _)); exact BK4.out)) : g4 ≠ g5))
           have n15_ := zh.mk ((by rw [hg]; exact Nat.ne_of_gt (zr (g := g4) (o := .cells #[.int .i64 t200, .int .i64 t201, .int .i64 t202, .int .i64 t203] 23 (0, 0)) (by (with_reducible repeat (first | refine ze ?_ _ | refine zf ?_ | refine za ?_ _)); exact BK4.out)) : g5 ≠ g4))
           clear BK1
           clear BK2
           clear BK3
           clear BK4
           clear HB
           have BK1 := n0_
           have BK2 := n1_
           have BK3 := n2_
           have BK4 := n3_
           have HB := n4_
           have BK5 := n5_
           have GW5 := n6_
           have GE5 := n7_
           have N1_5 := n8_
           have N5_1 := n9_
           have N2_5 := n10_
           have N5_2 := n11_
           have N3_5 := n12_
           have N5_3 := n13_
           have N4_5 := n14_
           have N5_4 := n15_
           clear n0_ n1_ n2_ n3_ n4_ n5_ n6_ n7_ n8_ n9_ n10_ n11_ n12_ n13_ n14_ n15_
           clear hb hbox hg
           refine hK.out _ _ ⟨(zi BK1.out 0).trans rfl, (zi BK1.out 1).trans rfl, (zi BK1.out 2).trans rfl, (zi BK1.out 3).trans rfl, (zi BK2.out 0).trans rfl, (zi BK2.out 1).trans rfl, (zi BK2.out 2).trans rfl, (zi BK2.out 3).trans rfl⟩ (fun hHeld => ?_)
           clear hK K
           refine zca (a' := ?_) ?_ ?_
           rotate_left
           ·show Act.put _ (some 10) _ = _
            simp only [Act.put, List.setIfInBounds_toArray, List.set_cons_zero, List.set_cons_succ, zu, zt]
            rfl
           exact zca (by first | (simp only [zy, Act.put, List.setIfInBounds_toArray, List.set_cons_zero, List.set_cons_succ]; done) | (simp only [zy, Act.put, List.setIfInBounds_toArray, List.set_cons_zero, List.set_cons_succ]; rfl)) (hJ2_4_10 (g5) _ ⟨hHeld, (by (with_reducible repeat (first | refine ze ?_ _ | refine zf ?_ | refine za ?_ _)); exact BK1.out), (by (with_reducible repeat (first | refine ze ?_ _ | refine zf ?_ | refine za ?_ _)); exact BK2.out), (by (with_reducible repeat (first | refine ze ?_ _ | refine zf ?_ | refine za ?_ _)); exact BK3.out), (by (with_reducible repeat (first | refine ze ?_ _ | refine zf ?_ | refine za ?_ _)); exact BK4.out), (by (with_reducible repeat (first | refine ze ?_ _ | refine zf ?_ | refine za ?_ _)); exact BK5.out), GW5.out, GE5.out, N1_5.out, N5_1.out, N2_5.out, N5_2.out, N3_5.out, N5_3.out, N4_5.out, N5_4.out, (by repeat (first | (with_reducible first | exact HB.out | apply zl | apply zj | apply zk | refine zg ?_ GE1.out | refine zg ?_ GE2.out | refine zg ?_ GE3.out | refine zg ?_ GE4.out | refine zg ?_ GE5.out) | exact HB.out))⟩)
          ·skip
           refine zha ?hg (N := 11) ?hd (cs := #[.int .i64 0, .int .i64 0, .int .i64 0, .int .i64 0]) (t := 23) ?hr ?_; (case hd => rfl); (case hg => rfl); (case hr => first | (go_simp; done) | (go_simp; rfl))
           intro g6 hg w37 hbox hb
           have n0_ := zh.mk (zo (g := g1) (o := .cells #[.int .i64 a1_0, .int .i64 a1_1, .int .i64 a1_2, .int .i64 a1_3] 22 (0, 0)) (by (with_reducible repeat (first | refine ze ?_ _ | refine zf ?_ | refine za ?_ _)); exact BK1.out) hb)
           have n1_ := zh.mk (zo (g := g2) (o := .cells #[.int .i64 a2_0, .int .i64 a2_1, .int .i64 a2_2, .int .i64 a2_3] 22 (0, 0)) (by (with_reducible repeat (first | refine ze ?_ _ | refine zf ?_ | refine za ?_ _)); exact BK2.out) hb)
           have n2_ := zh.mk (zo (g := g3) (o := .cells #[.int .i64 t196, .int .i64 t197, .int .i64 t198, .int .i64 t199] 23 (0, 0)) (by (with_reducible repeat (first | refine ze ?_ _ | refine zf ?_ | refine za ?_ _)); exact BK3.out) hb)
           have n3_ := zh.mk (zo (g := g4) (o := .cells #[.int .i64 t200, .int .i64 t201, .int .i64 t202, .int .i64 t203] 23 (0, 0)) (by (with_reducible repeat (first | refine ze ?_ _ | refine zf ?_ | refine za ?_ _)); exact BK4.out) hb)
           have n4_ := zh.mk (zs (by repeat (first | (with_reducible first | exact HB.out | apply zl | apply zj | apply zk | refine zg ?_ GE1.out | refine zg ?_ GE2.out | refine zg ?_ GE3.out | refine zg ?_ GE4.out) | exact HB.out)) hb)
           have n5_ := zh.mk (hbox)
           have n6_ := zh.mk ((by rw [hg]; exact (zq (by repeat (first | (with_reducible first | exact HB.out | apply zl | apply zj | apply zk | refine zg ?_ GE1.out | refine zg ?_ GE2.out | refine zg ?_ GE3.out | refine zg ?_ GE4.out) | exact HB.out))) : w.heap.size ≤ g6))
           have n7_ := zh.mk ((by rw [hg]; exact (zq (by repeat (first | (with_reducible first | exact HB.out | apply zl | apply zj | apply zk | refine zg ?_ GE1.out | refine zg ?_ GE2.out | refine zg ?_ GE3.out | refine zg ?_ GE4.out) | exact HB.out))) : w.heap.size ≤ g6))
           have n8_ := zh.mk ((by rw [hg]; exact Nat.ne_of_lt (zr (g := g1) (o := .cells #[.int .i64 a1_0, .int .i64 a1_1, .int .i64 a1_2, .int .i64 a1_3] 22 (0, 0)) (by (with_reducible repeat (first | refine ze ?_ _ | refine zf ?_ | refine za ?_ _)); exact BK1.out)) : g1 ≠ g6))
           have n9_ := zh.mk ((by rw [hg]; exact Nat.ne_of_gt (zr (g := g1) (o := .cells #[.int .i64 a1_0, .int .i64 a1_1, .int .i64 a1_2, .int .i64 a1_3] 22 (0, 0)) (by (with_reducible repeat (first | refine ze ?_ _ | refine zf ?_ | refine za ?_ _)); exact BK1.out)) : g6 ≠ g1))
           have n10_ := zh.mk ((by rw [hg]; exact Nat.ne_of_lt (zr (g := g2) (o := .cells #[.int .i64 a2_0, .int .i64 a2_1, .int .i64 a2_2, .int .i64 a2_3] 22 (0, 0)) (by (with_reducible repeat (first | refine ze ?_ _ | refine zf ?_ | refine za ?_ _)); exact BK2.out)) : g2 ≠ g6))
           have n11_ := zh.mk ((by rw [hg]; exact Nat.ne_of_gt (zr (g := g2) (o := .cells #[.int .i64 a2_0, .int .i64 a2_1, .int .i64 a2_2, .int .i64 a2_3] 22 (0, 0)) (by (with_reducible repeat (first | refine ze ?_ _ | refine zf ?_ | refine za ?_ _)); exact BK2.out)) : g6 ≠ g2))
           have n12_ := zh.mk ((by rw [hg]; exact Nat.ne_of_lt (zr (g := g3) (o := .cells #[.int .i64 t196, .int .i64 t197, .int .i64 t198, .int .i64 t199] 23 (0, 0)) (by (with_reducible repeat (first | refine ze ?_ _ | refine zf ?_ | refine za ?_ _)); exact BK3.out)) : g3 ≠ g6))
           have n13_ := zh.mk ((by rw [hg]; exact Nat.ne_of_gt (zr (g := g3) (o := .cells #[.int .i64 t196, .int .i64 t197, .int .i64 t198, .int .i64 t199] 23 (0, 0)) (by (with_reducible repeat (first | refine ze ?_ _ | refine zf ?_ | refine za ?_ _)); exact BK3.out)) : g6 ≠ g3))
           have n14_ := zh.mk ((by rw [hg]; exact Nat.ne_of_lt (zr (g := g4) (o := .cells #[.int .i64 t200, .int .i64 t201, .int .i64 t202, .int .i64 t203] 23 (0, 0)) (by (with_reducible repeat (first | refine ze ?_ _ | refine zf ?_ | refine za ?_ _)); exact BK4.out)) : g4 ≠ g6))
           have n15_ := zh.mk ((by rw [hg]; exact Nat.ne_of_gt (zr (g := g4) (o := .cells #[.int .i64 t200, .int .i64 t201, .int .i64 t202, .int .i64 t203] 23 (0, 0)) (by (with_reducible repeat (first | refine ze ?_ _ | refine zf ?_ | refine za ?_ _)); exact BK4.out)) : g6 ≠ g4))
           clear BK1
           clear BK2
           clear BK3
           clear BK4
           clear HB
           have BK1 := n0_
           have BK2 := n1_
           have BK3 := n2_
           have BK4 := n3_
           have HB := n4_
           have BK6 := n5_
           have GW6 := n6_
           have GE6 := n7_
           have N1_6 := n8_
           have N6_1 := n9_
           have N2_6 := n10_
           have N6_2 := n11_
           have N3_6 := n12_
           have N6_3 := n13_
           have N4_6 := n14_
           have N6_4 := n15_
           clear n0_ n1_ n2_ n3_ n4_ n5_ n6_ n7_ n8_ n9_ n10_ n11_ n12_ n13_ n14_ n15_
           clear hb hbox hg
           refine hK.out _ _ ⟨(zi BK1.out 0).trans rfl, (zi BK1.out 1).trans rfl, (zi BK1.out 2).trans rfl, (zi BK1.out 3).trans rfl, (zi BK2.out 0).trans rfl, (zi BK2.out 1).trans rfl, (zi BK2.out 2).trans rfl, (zi BK2.out 3).trans rfl⟩ (fun hHeld => ?_)
           clear hK K
           refine zca (a' := ?_) ?_ ?_
           rotate_left
           ·show Act.put _ (some 11) _ = _
            simp only [Act.put, List.setIfInBounds_toArray, List.set_cons_zero, List.set_cons_succ, zu, zt]
            rfl
           exact zca (by first | (simp only [zy, Act.put, List.setIfInBounds_toArray, List.set_cons_zero, List.set_cons_succ]; done) | (simp only [zy, Act.put, List.setIfInBounds_toArray, List.set_cons_zero, List.set_cons_succ]; rfl)) (hJ2_4_11 (g6) _ ⟨hHeld, (by (with_reducible repeat (first | refine ze ?_ _ | refine zf ?_ | refine za ?_ _)); exact BK1.out), (by (with_reducible repeat (first | refine ze ?_ _ | refine zf ?_ | refine za ?_ _)); exact BK2.out), (by (with_reducible repeat (first | refine ze ?_ _ | refine zf ?_ | refine za ?_ _)); exact BK3.out), (by (with_reducible repeat (first | refine ze ?_ _ | refine zf ?_ | refine za ?_ _)); exact BK4.out), (by (with_reducible repeat (first | refine ze ?_ _ | refine zf ?_ | refine za ?_ _)); exact BK6.out), GW6.out, GE6.out, N1_6.out, N6_1.out, N2_6.out, N6_2.out, N3_6.out, N6_3.out, N4_6.out, N6_4.out, (by repeat (first | (with_reducible first | exact HB.out | apply zl | apply zj | apply zk | refine zg ?_ GE1.out | refine zg ?_ GE2.out | refine zg ?_ GE3.out | refine zg ?_ GE4.out | refine zg ?_ GE6.out) | exact HB.out))⟩)
        ·skip
         rintro ⟨g5, g6⟩ w37 ⟨hS_, h0_, h1_, h2_, h3_, h4_, h5_, h6_, h7_, h8_, h9_, h10_, h11_, h12_, h13_, h14_, h15_, h16_, h17_, h18_, h19_, h20_, h21_, h22_, h23_, h24_, h25_, h26_, h27_, h28_⟩
         have n0_ : zh (w37.heap[g1]? = some (.cells #[.int .i64 a1_0, .int .i64 a1_1, .int .i64 a1_2, .int .i64 a1_3] 22 (0, 0))) := ⟨h0_⟩
         have n1_ : zh (w37.heap[g2]? = some (.cells #[.int .i64 a2_0, .int .i64 a2_1, .int .i64 a2_2, .int .i64 a2_3] 22 (0, 0))) := ⟨h1_⟩
         have n2_ : zh (w37.heap[g3]? = some (.cells #[.int .i64 t196, .int .i64 t197, .int .i64 t198, .int .i64 t199] 23 (0, 0))) := ⟨h2_⟩
         have n3_ : zh (w37.heap[g4]? = some (.cells #[.int .i64 t200, .int .i64 t201, .int .i64 t202, .int .i64 t203] 23 (0, 0))) := ⟨h3_⟩
         have n4_ : zh (w37.heap[g5]? = some (.cells #[.int .i64 0, .int .i64 0, .int .i64 0, .int .i64 0] 23 (0, 0))) := ⟨h4_⟩
         have n5_ : zh (w37.heap[g6]? = some (.cells #[.int .i64 0, .int .i64 0, .int .i64 0, .int .i64 0] 23 (0, 0))) := ⟨h5_⟩
         have n6_ : zh (w.heap.size ≤ g5) := ⟨h6_⟩
         have n7_ : zh (w.heap.size ≤ g5) := ⟨h7_⟩
         have n8_ : zh (g1 ≠ g5) := ⟨h8_⟩
         have n9_ : zh (g5 ≠ g1) := ⟨h9_⟩
         have n10_ : zh (g2 ≠ g5) := ⟨h10_⟩
         have n11_ : zh (g5 ≠ g2) := ⟨h11_⟩
         have n12_ : zh (g3 ≠ g5) := ⟨h12_⟩
         have n13_ : zh (g5 ≠ g3) := ⟨h13_⟩
         have n14_ : zh (g4 ≠ g5) := ⟨h14_⟩
         have n15_ : zh (g5 ≠ g4) := ⟨h15_⟩
         have n16_ : zh (g6 ≠ g5) := ⟨h16_⟩
         have n17_ : zh (g5 ≠ g6) := ⟨h17_⟩
         have n18_ : zh (w.heap.size ≤ g6) := ⟨h18_⟩
         have n19_ : zh (w.heap.size ≤ g6) := ⟨h19_⟩
         have n20_ : zh (g1 ≠ g6) := ⟨h20_⟩
         have n21_ : zh (g6 ≠ g1) := ⟨h21_⟩
         have n22_ : zh (g2 ≠ g6) := ⟨h22_⟩
         have n23_ : zh (g6 ≠ g2) := ⟨h23_⟩
         have n24_ : zh (g3 ≠ g6) := ⟨h24_⟩
         have n25_ : zh (g6 ≠ g3) := ⟨h25_⟩
         have n26_ : zh (g4 ≠ g6) := ⟨h26_⟩
         have n27_ : zh (g6 ≠ g4) := ⟨h27_⟩
         have n28_ : zh (Below w.heap.size w w37) := ⟨h28_⟩
         clear BK1
         clear BK2
         clear BK3
         clear BK4
         clear HB
         clear h0_ h1_ h2_ h3_ h4_ h5_ h6_ h7_ h8_ h9_ h10_ h11_ h12_ h13_ h14_ h15_ h16_ h17_ h18_ h19_ h20_ h21_ h22_ h23_ h24_ h25_ h26_ h27_ h28_
         have BK1 := n0_
         have BK2 := n1_
         have BK3 := n2_
         have BK4 := n3_
         have BK5 := n4_
         have BK6 := n5_
         have GW5 := n6_
         have GE5 := n7_
         have N1_5 := n8_
         have N5_1 := n9_
         have N2_5 := n10_
         have N5_2 := n11_
         have N3_5 := n12_
         have N5_3 := n13_
         have N4_5 := n14_
         have N5_4 := n15_
         have N6_5 := n16_
         have N5_6 := n17_
         have GW6 := n18_
         have GE6 := n19_
         have N1_6 := n20_
         have N6_1 := n21_
         have N2_6 := n22_
         have N6_2 := n23_
         have N3_6 := n24_
         have N6_3 := n25_
         have N4_6 := n26_
         have N6_4 := n27_
         have HB := n28_
         clear n0_ n1_ n2_ n3_ n4_ n5_ n6_ n7_ n8_ n9_ n10_ n11_ n12_ n13_ n14_ n15_ n16_ n17_ n18_ n19_ n20_ n21_ n22_ n23_ n24_ n25_ n26_ n27_ n28_
         have hHeld : w37.cell? ⟨g1, 0, none⟩ = some (.int .i64 a1_0) ∧ w37.cell? ⟨g1, 1, none⟩ = some (.int .i64 a1_1) ∧ w37.cell? ⟨g1, 2, none⟩ = some (.int .i64 a1_2) ∧ w37.cell? ⟨g1, 3, none⟩ = some (.int .i64 a1_3) ∧ w37.cell? ⟨g2, 0, none⟩ = some (.int .i64 a2_0) ∧ w37.cell? ⟨g2, 1, none⟩ = some (.int .i64 a2_1) ∧ w37.cell? ⟨g2, 2, none⟩ = some (.int .i64 a2_2) ∧ w37.cell? ⟨g2, 3, none⟩ = some (.int .i64 a2_3) := hS_
         refine zca (a' := ?_) ?_ ?_
         rotate_left
         ·simp only [zy, Act.put, List.setIfInBounds_toArray, List.set_cons_zero, List.set_cons_succ]
          rfl
         refine one_ (i := 4) (N := some 28) #[true, true, true, true, true, false, false, false, false, false, true, true, false, false, false] rfl rfl (zia HT_.out (by kernel_rfl)) (by decide) (fun K hK => ?_)
         refine goes_ Try.func6 (by kernel_rfl) rfl #[.agg #[.int .i64 a2_0, .int .i64 a2_1, .int .i64 a2_2, .int .i64 a2_3]] (by rfl) rfl rfl (by (try simp only [List.map_toArray, List.map_cons, List.map_nil]); first | done | rfl | (simp only [List.length_drop, List.length_take]; rfl)) ?_
         with_reducible refine (laws_toState.calls k a2_0 a2_1 a2_2 a2_3 t211 t212 t213 t214 _ A8.out).mono ?_
         rintro e w38 ⟨rfl, hb⟩
         refine ⟨_, rfl, ?_⟩
         have n0_ := zh.mk (zo (g := g1) (o := .cells #[.int .i64 a1_0, .int .i64 a1_1, .int .i64 a1_2, .int .i64 a1_3] 22 (0, 0)) (by (with_reducible repeat (first | refine ze ?_ _ | refine zf ?_ | refine za ?_ _)); exact BK1.out) hb)
         have n1_ := zh.mk (zo (g := g2) (o := .cells #[.int .i64 a2_0, .int .i64 a2_1, .int .i64 a2_2, .int .i64 a2_3] 22 (0, 0)) (by (with_reducible repeat (first | refine ze ?_ _ | refine zf ?_ | refine za ?_ _)); exact BK2.out) hb)
         have n2_ := zh.mk (zo (g := g3) (o := .cells #[.int .i64 t196, .int .i64 t197, .int .i64 t198, .int .i64 t199] 23 (0, 0)) (by (with_reducible repeat (first | refine ze ?_ _ | refine zf ?_ | refine za ?_ _)); exact BK3.out) hb)
         have n3_ := zh.mk (zo (g := g4) (o := .cells #[.int .i64 t200, .int .i64 t201, .int .i64 t202, .int .i64 t203] 23 (0, 0)) (by (with_reducible repeat (first | refine ze ?_ _ | refine zf ?_ | refine za ?_ _)); exact BK4.out) hb)
         have n4_ := zh.mk (zo (g := g5) (o := .cells #[.int .i64 0, .int .i64 0, .int .i64 0, .int .i64 0] 23 (0, 0)) (by (with_reducible repeat (first | refine ze ?_ _ | refine zf ?_ | refine za ?_ _)); exact BK5.out) hb)
         have n5_ := zh.mk (zo (g := g6) (o := .cells #[.int .i64 0, .int .i64 0, .int .i64 0, .int .i64 0] 23 (0, 0)) (by (with_reducible repeat (first | refine ze ?_ _ | refine zf ?_ | refine za ?_ _)); exact BK6.out) hb)
         have n6_ := zh.mk (zs (by repeat (first | (with_reducible first | exact HB.out | apply zl | apply zj | apply zk | refine zg ?_ GE1.out | refine zg ?_ GE2.out | refine zg ?_ GE3.out | refine zg ?_ GE4.out | refine zg ?_ GE5.out | refine zg ?_ GE6.out) | exact HB.out)) hb)
         clear BK1
         clear BK2
         clear BK3
         clear BK4
         clear BK5
         clear BK6
         clear HB
         have BK1 := n0_
         have BK2 := n1_
         have BK3 := n2_
         have BK4 := n3_
         have BK5 := n4_
         have BK6 := n5_
         have HB := n6_
         clear n0_ n1_ n2_ n3_ n4_ n5_ n6_
         (try clear hb)
         (try clear hb2)
         (try clear hk)
         (try clear hi)
         refine hK.out _ _ ⟨(zi BK1.out 0).trans rfl, (zi BK1.out 1).trans rfl, (zi BK1.out 2).trans rfl, (zi BK1.out 3).trans rfl, (zi BK2.out 0).trans rfl, (zi BK2.out 1).trans rfl, (zi BK2.out 2).trans rfl, (zi BK2.out 3).trans rfl⟩ (fun hHeld => ?_)
         clear hK K
         refine zca (a' := ?_) ?_ ?_
         rotate_left
         ·show Act.put _ (some 28) _ = _
          simp only [Act.put, List.setIfInBounds_toArray, List.set_cons_zero, List.set_cons_succ, zu, zt]
          rfl
         exact zca (by first | (simp only [zy, Act.put, List.setIfInBounds_toArray, List.set_cons_zero, List.set_cons_succ]; done) | (simp only [zy, Act.put, List.setIfInBounds_toArray, List.set_cons_zero, List.set_cons_succ]; rfl)) (hJ2_4_10_11 (g5, g6) _ ⟨hHeld, (by (with_reducible repeat (first | refine ze ?_ _ | refine zf ?_ | refine za ?_ _)); exact BK1.out), (by (with_reducible repeat (first | refine ze ?_ _ | refine zf ?_ | refine za ?_ _)); exact BK2.out), (by (with_reducible repeat (first | refine ze ?_ _ | refine zf ?_ | refine za ?_ _)); exact BK3.out), (by (with_reducible repeat (first | refine ze ?_ _ | refine zf ?_ | refine za ?_ _)); exact BK4.out), (by (with_reducible repeat (first | refine ze ?_ _ | refine zf ?_ | refine za ?_ _)); exact BK5.out), (by (with_reducible repeat (first | refine ze ?_ _ | refine zf ?_ | refine za ?_ _)); exact BK6.out), GW5.out, GE5.out, N1_5.out, N5_1.out, N2_5.out, N5_2.out, N3_5.out, N5_3.out, N4_5.out, N5_4.out, N6_5.out, N5_6.out, GW6.out, GE6.out, N1_6.out, N6_1.out, N2_6.out, N6_2.out, N3_6.out, N6_3.out, N4_6.out, N6_4.out, (by repeat (first | (with_reducible first | exact HB.out | apply zl | apply zj | apply zk | refine zg ?_ GE1.out | refine zg ?_ GE2.out | refine zg ?_ GE3.out | refine zg ?_ GE4.out | refine zg ?_ GE5.out | refine zg ?_ GE6.out) | exact HB.out))⟩)
       ·skip
        rintro g6 w37 ⟨hS_, h0_, h1_, h2_, h3_, h4_, h5_, h6_, h7_, h8_, h9_, h10_, h11_, h12_, h13_, h14_, h15_⟩
        have n0_ : zh (w37.heap[g1]? = some (.cells #[.int .i64 a1_0, .int .i64 a1_1, .int .i64 a1_2, .int .i64 a1_3] 22 (0, 0))) := ⟨h0_⟩
        have n1_ : zh (w37.heap[g2]? = some (.cells #[.int .i64 a2_0, .int .i64 a2_1, .int .i64 a2_2, .int .i64 a2_3] 22 (0, 0))) := ⟨h1_⟩
        have n2_ : zh (w37.heap[g3]? = some (.cells #[.int .i64 t196, .int .i64 t197, .int .i64 t198, .int .i64 t199] 23 (0, 0))) := ⟨h2_⟩
        have n3_ : zh (w37.heap[g4]? = some (.cells #[.int .i64 t200, .int .i64 t201, .int .i64 t202, .int .i64 t203] 23 (0, 0))) := ⟨h3_⟩
        have n4_ : zh (w37.heap[g6]? = some (.cells #[.int .i64 0, .int .i64 0, .int .i64 0, .int .i64 0] 23 (0, 0))) := ⟨h4_⟩
        have n5_ : zh (w.heap.size ≤ g6) := ⟨h5_⟩
        have n6_ : zh (w.heap.size ≤ g6) := ⟨h6_⟩
        have n7_ : zh (g1 ≠ g6) := ⟨h7_⟩
        have n8_ : zh (g6 ≠ g1) := ⟨h8_⟩
        have n9_ : zh (g2 ≠ g6) := ⟨h9_⟩
        have n10_ : zh (g6 ≠ g2) := ⟨h10_⟩
        have n11_ : zh (g3 ≠ g6) := ⟨h11_⟩
        have n12_ : zh (g6 ≠ g3) := ⟨h12_⟩
        have n13_ : zh (g4 ≠ g6) := ⟨h13_⟩
        have n14_ : zh (g6 ≠ g4) := ⟨h14_⟩
        have n15_ : zh (Below w.heap.size w w37) := ⟨h15_⟩
        clear BK1
        clear BK2
        clear BK3
        clear BK4
        clear HB
        clear h0_ h1_ h2_ h3_ h4_ h5_ h6_ h7_ h8_ h9_ h10_ h11_ h12_ h13_ h14_ h15_
        have BK1 := n0_
        have BK2 := n1_
        have BK3 := n2_
        have BK4 := n3_
        have BK6 := n4_
        have GW6 := n5_
        have GE6 := n6_
        have N1_6 := n7_
        have N6_1 := n8_
        have N2_6 := n9_
        have N6_2 := n10_
        have N3_6 := n11_
        have N6_3 := n12_
        have N4_6 := n13_
        have N6_4 := n14_
        have HB := n15_
        clear n0_ n1_ n2_ n3_ n4_ n5_ n6_ n7_ n8_ n9_ n10_ n11_ n12_ n13_ n14_ n15_
        have hHeld : w37.cell? ⟨g1, 0, none⟩ = some (.int .i64 a1_0) ∧ w37.cell? ⟨g1, 1, none⟩ = some (.int .i64 a1_1) ∧ w37.cell? ⟨g1, 2, none⟩ = some (.int .i64 a1_2) ∧ w37.cell? ⟨g1, 3, none⟩ = some (.int .i64 a1_3) ∧ w37.cell? ⟨g2, 0, none⟩ = some (.int .i64 a2_0) ∧ w37.cell? ⟨g2, 1, none⟩ = some (.int .i64 a2_1) ∧ w37.cell? ⟨g2, 2, none⟩ = some (.int .i64 a2_2) ∧ w37.cell? ⟨g2, 3, none⟩ = some (.int .i64 a2_3) := hS_
        refine zca (a' := ?_) ?_ ?_
        rotate_left
        ·simp only [zy, Act.put, List.setIfInBounds_toArray, List.set_cons_zero, List.set_cons_succ]
         rfl
        refine two_ (i := 5) (j := 10) (Ni := some 29) (Nj := some 10) #[true, true, true, true, true, true, false, false, false, false, false, true, false, false, false] #[true, true, true, true, true, false, false, false, false, false, true, true, false, false, false] rfl rfl rfl rfl (two_of HT_.out (by kernel_rfl)) (by decide) (by decide) (fun K hK => ?_) (fun K hK => ?_)
        ·skip
         refine goes_ Try.func7 (by kernel_rfl) rfl #[.int .i64 a0, .agg #[.int .i64 t207, .int .i64 t208, .int .i64 t209, .int .i64 t210], .agg #[.int .i64 t211, .int .i64 t212, .int .i64 t213, .int .i64 t214]] (by rfl) rfl rfl (by (try simp only [List.map_toArray, List.map_cons, List.map_nil]); first | done | rfl | (simp only [List.length_drop, List.length_take]; rfl)) ?_
         with_reducible refine (impl_SplitState.calls k a0 t207 t208 t209 t210 t211 t212 t213 t214 t215 t216 t217 t218 t219 t220 t221 t222 t223 _ A9.out).mono ?_
         rintro e w38 ⟨rfl, hb⟩
         refine ⟨_, rfl, ?_⟩
         have n0_ := zh.mk (zo (g := g1) (o := .cells #[.int .i64 a1_0, .int .i64 a1_1, .int .i64 a1_2, .int .i64 a1_3] 22 (0, 0)) (by (with_reducible repeat (first | refine ze ?_ _ | refine zf ?_ | refine za ?_ _)); exact BK1.out) hb)
         have n1_ := zh.mk (zo (g := g2) (o := .cells #[.int .i64 a2_0, .int .i64 a2_1, .int .i64 a2_2, .int .i64 a2_3] 22 (0, 0)) (by (with_reducible repeat (first | refine ze ?_ _ | refine zf ?_ | refine za ?_ _)); exact BK2.out) hb)
         have n2_ := zh.mk (zo (g := g3) (o := .cells #[.int .i64 t196, .int .i64 t197, .int .i64 t198, .int .i64 t199] 23 (0, 0)) (by (with_reducible repeat (first | refine ze ?_ _ | refine zf ?_ | refine za ?_ _)); exact BK3.out) hb)
         have n3_ := zh.mk (zo (g := g4) (o := .cells #[.int .i64 t200, .int .i64 t201, .int .i64 t202, .int .i64 t203] 23 (0, 0)) (by (with_reducible repeat (first | refine ze ?_ _ | refine zf ?_ | refine za ?_ _)); exact BK4.out) hb)
         have n4_ := zh.mk (zo (g := g6) (o := .cells #[.int .i64 0, .int .i64 0, .int .i64 0, .int .i64 0] 23 (0, 0)) (by (with_reducible repeat (first | refine ze ?_ _ | refine zf ?_ | refine za ?_ _)); exact BK6.out) hb)
         have n5_ := zh.mk (zs (by repeat (first | (with_reducible first | exact HB.out | apply zl | apply zj | apply zk | refine zg ?_ GE1.out | refine zg ?_ GE2.out | refine zg ?_ GE3.out | refine zg ?_ GE4.out | refine zg ?_ GE6.out) | exact HB.out)) hb)
         clear BK1
         clear BK2
         clear BK3
         clear BK4
         clear BK6
         clear HB
         have BK1 := n0_
         have BK2 := n1_
         have BK3 := n2_
         have BK4 := n3_
         have BK6 := n4_
         have HB := n5_
         clear n0_ n1_ n2_ n3_ n4_ n5_
         (try clear hb)
         (try clear hb2)
         (try clear hk)
         (try clear hi)
         refine hK.out _ _ ⟨(zi BK1.out 0).trans rfl, (zi BK1.out 1).trans rfl, (zi BK1.out 2).trans rfl, (zi BK1.out 3).trans rfl, (zi BK2.out 0).trans rfl, (zi BK2.out 1).trans rfl, (zi BK2.out 2).trans rfl, (zi BK2.out 3).trans rfl⟩ (fun hHeld => ?_)
         clear hK K
         refine zca (a' := ?_) ?_ ?_
         rotate_left
         ·show Act.put _ (some 29) _ = _
          simp only [Act.put, List.setIfInBounds_toArray, List.set_cons_zero, List.set_cons_succ, zu, zt]
          rfl
         refine zx (i := 6) (N := some 23) (v := ?_) (a' := ?_) #[true, true, true, true, true, true, true, false, false, false, false, true, false, false, false] rfl rfl (zv HT_.out (by kernel_rfl)) (fun _ _ _ h => h) (Or.inl ⟨by rfl, ?_⟩) ?_ ?_
         rotate_left
         ·intro w'
          go_simp
          with_reducible rfl
         rotate_left
         ·simp only [Act.put, List.setIfInBounds_toArray, List.set_cons_zero, List.set_cons_succ, zu, zt]
          rfl
         refine zx (i := 7) (N := some 30) (v := ?_) (a' := ?_) #[true, true, true, true, true, true, true, true, false, false, false, true, false, false, false] rfl rfl (zv HT_.out (by kernel_rfl)) (fun _ _ _ h => h) (Or.inl ⟨by rfl, ?_⟩) ?_ ?_
         rotate_left
         ·intro w'
          go_simp
          with_reducible rfl
         rotate_left
         ·simp only [Act.put, List.setIfInBounds_toArray, List.set_cons_zero, List.set_cons_succ, zu, zt]
          rfl
         refine zx (i := 8) (N := some 31) (v := ?_) (a' := ?_) #[true, true, true, true, true, true, true, true, true, false, false, true, false, false, false] rfl rfl (zv HT_.out (by kernel_rfl)) (fun _ _ _ h => h) (Or.inl ⟨by rfl, ?_⟩) ?_ ?_
         rotate_left
         ·intro w'
          go_simp
          with_reducible rfl
         rotate_left
         ·simp only [Act.put, List.setIfInBounds_toArray, List.set_cons_zero, List.set_cons_succ, zu, zt]
          rfl
         refine zx (i := 9) (N := some 32) (v := ?_) (a' := ?_) #[true, true, true, true, true, true, true, true, true, true, false, true, false, false, false] rfl rfl (zv HT_.out (by kernel_rfl)) (fun _ _ _ h => h) (Or.inl ⟨by rfl, ?_⟩) ?_ ?_
         rotate_left
         ·intro w'
          go_simp
          with_reducible rfl
         rotate_left
         ·simp only [Act.put, List.setIfInBounds_toArray, List.set_cons_zero, List.set_cons_succ, zu, zt]
          rfl
         exact zca (by first | (simp only [zy, Act.put, List.setIfInBounds_toArray, List.set_cons_zero, List.set_cons_succ]; done) | (simp only [zy, Act.put, List.setIfInBounds_toArray, List.set_cons_zero, List.set_cons_succ]; rfl)) (hJ2_4_5_11 (g6) _ ⟨hHeld, (by (with_reducible repeat (first | refine ze ?_ _ | refine zf ?_ | refine za ?_ _)); exact BK1.out), (by (with_reducible repeat (first | refine ze ?_ _ | refine zf ?_ | refine za ?_ _)); exact BK2.out), (by (with_reducible repeat (first | refine ze ?_ _ | refine zf ?_ | refine za ?_ _)); exact BK3.out), (by (with_reducible repeat (first | refine ze ?_ _ | refine zf ?_ | refine za ?_ _)); exact BK4.out), (by (with_reducible repeat (first | refine ze ?_ _ | refine zf ?_ | refine za ?_ _)); exact BK6.out), GW6.out, GE6.out, N1_6.out, N6_1.out, N2_6.out, N6_2.out, N3_6.out, N6_3.out, N4_6.out, N6_4.out, (by repeat (first | (with_reducible first | exact HB.out | apply zl | apply zj | apply zk | refine zg ?_ GE1.out | refine zg ?_ GE2.out | refine zg ?_ GE3.out | refine zg ?_ GE4.out | refine zg ?_ GE6.out) | exact HB.out))⟩)
        ·skip
         refine zha ?hg (N := 10) ?hd (cs := #[.int .i64 0, .int .i64 0, .int .i64 0, .int .i64 0]) (t := 23) ?hr ?_; (case hd => rfl); (case hg => rfl); (case hr => first | (go_simp; done) | (go_simp; rfl))
         intro g5 hg w38 hbox hb
         have n0_ := zh.mk (zo (g := g1) (o := .cells #[.int .i64 a1_0, .int .i64 a1_1, .int .i64 a1_2, .int .i64 a1_3] 22 (0, 0)) (by (with_reducible repeat (first | refine ze ?_ _ | refine zf ?_ | refine za ?_ _)); exact BK1.out) hb)
         have n1_ := zh.mk (zo (g := g2) (o := .cells #[.int .i64 a2_0, .int .i64 a2_1, .int .i64 a2_2, .int .i64 a2_3] 22 (0, 0)) (by (with_reducible repeat (first | refine ze ?_ _ | refine zf ?_ | refine za ?_ _)); exact BK2.out) hb)
         have n2_ := zh.mk (zo (g := g3) (o := .cells #[.int .i64 t196, .int .i64 t197, .int .i64 t198, .int .i64 t199] 23 (0, 0)) (by (with_reducible repeat (first | refine ze ?_ _ | refine zf ?_ | refine za ?_ _)); exact BK3.out) hb)
         have n3_ := zh.mk (zo (g := g4) (o := .cells #[.int .i64 t200, .int .i64 t201, .int .i64 t202, .int .i64 t203] 23 (0, 0)) (by (with_reducible repeat (first | refine ze ?_ _ | refine zf ?_ | refine za ?_ _)); exact BK4.out) hb)
         have n4_ := zh.mk (zo (g := g6) (o := .cells #[.int .i64 0, .int .i64 0, .int .i64 0, .int .i64 0] 23 (0, 0)) (by (with_reducible repeat (first | refine ze ?_ _ | refine zf ?_ | refine za ?_ _)); exact BK6.out) hb)
         have n5_ := zh.mk (zs (by repeat (first | (with_reducible first | exact HB.out | apply zl | apply zj | apply zk | refine zg ?_ GE1.out | refine zg ?_ GE2.out | refine zg ?_ GE3.out | refine zg ?_ GE4.out | refine zg ?_ GE6.out) | exact HB.out)) hb)
         have n6_ := zh.mk (hbox)
         have n7_ := zh.mk ((by rw [hg]; exact (zq (by repeat (first | (with_reducible first | exact HB.out | apply zl | apply zj | apply zk | refine zg ?_ GE1.out | refine zg ?_ GE2.out | refine zg ?_ GE3.out | refine zg ?_ GE4.out | refine zg ?_ GE6.out) | exact HB.out))) : w.heap.size ≤ g5))
         have n8_ := zh.mk ((by rw [hg]; exact (zq (by repeat (first | (with_reducible first | exact HB.out | apply zl | apply zj | apply zk | refine zg ?_ GE1.out | refine zg ?_ GE2.out | refine zg ?_ GE3.out | refine zg ?_ GE4.out | refine zg ?_ GE6.out) | exact HB.out))) : w.heap.size ≤ g5))
         have n9_ := zh.mk ((by rw [hg]; exact Nat.ne_of_lt (zr (g := g1) (o := .cells #[.int .i64 a1_0, .int .i64 a1_1, .int .i64 a1_2, .int .i64 a1_3] 22 (0, 0)) (by (with_reducible repeat (first | refine ze ?_ _ | refine zf ?_ | refine za ?_ _)); exact BK1.out)) : g1 ≠ g5))
         have n10_ := zh.mk ((by rw [hg]; exact Nat.ne_of_gt (zr (g := g1) (o := .cells #[.int .i64 a1_0, .int .i64 a1_1, .int .i64 a1_2, .int .i64 a1_3] 22 (0, 0)) (by (with_reducible repeat (first | refine ze ?_ _ | refine zf ?_ | refine za ?_ _)); exact BK1.out)) : g5 ≠ g1))
         have n11_ := zh.mk ((by rw [hg]; exact Nat.ne_of_lt (zr (g := g2) (o := .cells #[.int .i64 a2_0, .int .i64 a2_1, .int .i64 a2_2, .int .i64 a2_3] 22 (0, 0)) (by (with_reducible repeat (first | refine ze ?_ _ | refine zf ?_ | refine za ?_ _)); exact BK2.out)) : g2 ≠ g5))
         have n12_ := zh.mk ((by rw [hg]; exact Nat.ne_of_gt (zr (g := g2) (o := .cells #[.int .i64 a2_0, .int .i64 a2_1, .int .i64 a2_2, .int .i64 a2_3] 22 (0, 0)) (by (with_reducible repeat (first | refine ze ?_ _ | refine zf ?_ | refine za ?_ _)); exact BK2.out)) : g5 ≠ g2))
         have n13_ := zh.mk ((by rw [hg]; exact Nat.ne_of_lt (zr (g := g3) (o := .cells #[.int .i64 t196, .int .i64 t197, .int .i64 t198, .int .i64 t199] 23 (0, 0)) (by (with_reducible repeat (first | refine ze ?_ _ | refine zf ?_ | refine za ?_ _)); exact BK3.out)) : g3 ≠ g5))
         have n14_ := zh.mk ((by rw [hg]; exact Nat.ne_of_gt (zr (g := g3) (o := .cells #[.int .i64 t196, .int .i64 t197, .int .i64 t198, .int .i64 t199] 23 (0, 0)) (by (with_reducible repeat (first | refine ze ?_ _ | refine zf ?_ | refine za ?_ _)); exact BK3.out)) : g5 ≠ g3))
         have n15_ := zh.mk ((by rw [hg]; exact Nat.ne_of_lt (zr (g := g4) (o := .cells #[.int .i64 t200, .int .i64 t201, .int .i64 t202, .int .i64 t203] 23 (0, 0)) (by (with_reducible repeat (first | refine ze ?_ _ | refine zf ?_ | refine za ?_ _)); exact BK4.out)) : g4 ≠ g5))
         have n16_ := zh.mk ((by rw [hg]; exact Nat.ne_of_gt (zr (g := g4) (o := .cells #[.int .i64 t200, .int .i64 t201, .int .i64 t202, .int .i64 t203] 23 (0, 0)) (by (with_reducible repeat (first | refine ze ?_ _ | refine zf ?_ | refine za ?_ _)); exact BK4.out)) : g5 ≠ g4))
         have n17_ := zh.mk ((by rw [hg]; exact Nat.ne_of_lt (zr (g := g6) (o := .cells #[.int .i64 0, .int .i64 0, .int .i64 0, .int .i64 0] 23 (0, 0)) (by (with_reducible repeat (first | refine ze ?_ _ | refine zf ?_ | refine za ?_ _)); exact BK6.out)) : g6 ≠ g5))
         have n18_ := zh.mk ((by rw [hg]; exact Nat.ne_of_gt (zr (g := g6) (o := .cells #[.int .i64 0, .int .i64 0, .int .i64 0, .int .i64 0] 23 (0, 0)) (by (with_reducible repeat (first | refine ze ?_ _ | refine zf ?_ | refine za ?_ _)); exact BK6.out)) : g5 ≠ g6))
         clear BK1
         clear BK2
         clear BK3
         clear BK4
         clear BK6
         clear HB
         have BK1 := n0_
         have BK2 := n1_
         have BK3 := n2_
         have BK4 := n3_
         have BK6 := n4_
         have HB := n5_
         have BK5 := n6_
         have GW5 := n7_
         have GE5 := n8_
         have N1_5 := n9_
         have N5_1 := n10_
         have N2_5 := n11_
         have N5_2 := n12_
         have N3_5 := n13_
         have N5_3 := n14_
         have N4_5 := n15_
         have N5_4 := n16_
         have N6_5 := n17_
         have N5_6 := n18_
         clear n0_ n1_ n2_ n3_ n4_ n5_ n6_ n7_ n8_ n9_ n10_ n11_ n12_ n13_ n14_ n15_ n16_ n17_ n18_
         clear hb hbox hg
         refine hK.out _ _ ⟨(zi BK1.out 0).trans rfl, (zi BK1.out 1).trans rfl, (zi BK1.out 2).trans rfl, (zi BK1.out 3).trans rfl, (zi BK2.out 0).trans rfl, (zi BK2.out 1).trans rfl, (zi BK2.out 2).trans rfl, (zi BK2.out 3).trans rfl⟩ (fun hHeld => ?_)
         clear hK K
         refine zca (a' := ?_) ?_ ?_
         rotate_left
         ·show Act.put _ (some 10) _ = _
          simp only [Act.put, List.setIfInBounds_toArray, List.set_cons_zero, List.set_cons_succ, zu, zt]
          rfl
         exact zca (by first | (simp only [zy, Act.put, List.setIfInBounds_toArray, List.set_cons_zero, List.set_cons_succ]; done) | (simp only [zy, Act.put, List.setIfInBounds_toArray, List.set_cons_zero, List.set_cons_succ]; rfl)) (hJ2_4_10_11 (g5, g6) _ ⟨hHeld, (by (with_reducible repeat (first | refine ze ?_ _ | refine zf ?_ | refine za ?_ _)); exact BK1.out), (by (with_reducible repeat (first | refine ze ?_ _ | refine zf ?_ | refine za ?_ _)); exact BK2.out), (by (with_reducible repeat (first | refine ze ?_ _ | refine zf ?_ | refine za ?_ _)); exact BK3.out), (by (with_reducible repeat (first | refine ze ?_ _ | refine zf ?_ | refine za ?_ _)); exact BK4.out), (by (with_reducible repeat (first | refine ze ?_ _ | refine zf ?_ | refine za ?_ _)); exact BK5.out), (by (with_reducible repeat (first | refine ze ?_ _ | refine zf ?_ | refine za ?_ _)); exact BK6.out), GW5.out, GE5.out, N1_5.out, N5_1.out, N2_5.out, N5_2.out, N3_5.out, N5_3.out, N4_5.out, N5_4.out, N6_5.out, N5_6.out, GW6.out, GE6.out, N1_6.out, N6_1.out, N2_6.out, N6_2.out, N3_6.out, N6_3.out, N4_6.out, N6_4.out, (by repeat (first | (with_reducible first | exact HB.out | apply zl | apply zj | apply zk | refine zg ?_ GE1.out | refine zg ?_ GE2.out | refine zg ?_ GE3.out | refine zg ?_ GE4.out | refine zg ?_ GE6.out | refine zg ?_ GE5.out) | exact HB.out))⟩)
      ·skip
       rintro g5 w37 ⟨hS_, h0_, h1_, h2_, h3_, h4_, h5_, h6_, h7_, h8_, h9_, h10_, h11_, h12_, h13_, h14_, h15_⟩
       have n0_ : zh (w37.heap[g1]? = some (.cells #[.int .i64 a1_0, .int .i64 a1_1, .int .i64 a1_2, .int .i64 a1_3] 22 (0, 0))) := ⟨h0_⟩
       have n1_ : zh (w37.heap[g2]? = some (.cells #[.int .i64 a2_0, .int .i64 a2_1, .int .i64 a2_2, .int .i64 a2_3] 22 (0, 0))) := ⟨h1_⟩
       have n2_ : zh (w37.heap[g3]? = some (.cells #[.int .i64 t196, .int .i64 t197, .int .i64 t198, .int .i64 t199] 23 (0, 0))) := ⟨h2_⟩
       have n3_ : zh (w37.heap[g4]? = some (.cells #[.int .i64 t200, .int .i64 t201, .int .i64 t202, .int .i64 t203] 23 (0, 0))) := ⟨h3_⟩
       have n4_ : zh (w37.heap[g5]? = some (.cells #[.int .i64 0, .int .i64 0, .int .i64 0, .int .i64 0] 23 (0, 0))) := ⟨h4_⟩
       have n5_ : zh (w.heap.size ≤ g5) := ⟨h5_⟩
       have n6_ : zh (w.heap.size ≤ g5) := ⟨h6_⟩
       have n7_ : zh (g1 ≠ g5) := ⟨h7_⟩
       have n8_ : zh (g5 ≠ g1) := ⟨h8_⟩
       have n9_ : zh (g2 ≠ g5) := ⟨h9_⟩
       have n10_ : zh (g5 ≠ g2) := ⟨h10_⟩
       have n11_ : zh (g3 ≠ g5) := ⟨h11_⟩
       have n12_ : zh (g5 ≠ g3) := ⟨h12_⟩
       have n13_ : zh (g4 ≠ g5) := ⟨h13_⟩
       have n14_ : zh (g5 ≠ g4) := ⟨h14_⟩
       have n15_ : zh (Below w.heap.size w w37) := ⟨h15_⟩
       clear BK1
       clear BK2
       clear BK3
       clear BK4
       clear HB
       clear h0_ h1_ h2_ h3_ h4_ h5_ h6_ h7_ h8_ h9_ h10_ h11_ h12_ h13_ h14_ h15_
       have BK1 := n0_
       have BK2 := n1_
       have BK3 := n2_
       have BK4 := n3_
       have BK5 := n4_
       have GW5 := n5_
       have GE5 := n6_
       have N1_5 := n7_
       have N5_1 := n8_
       have N2_5 := n9_
       have N5_2 := n10_
       have N3_5 := n11_
       have N5_3 := n12_
       have N4_5 := n13_
       have N5_4 := n14_
       have HB := n15_
       clear n0_ n1_ n2_ n3_ n4_ n5_ n6_ n7_ n8_ n9_ n10_ n11_ n12_ n13_ n14_ n15_
       have hHeld : w37.cell? ⟨g1, 0, none⟩ = some (.int .i64 a1_0) ∧ w37.cell? ⟨g1, 1, none⟩ = some (.int .i64 a1_1) ∧ w37.cell? ⟨g1, 2, none⟩ = some (.int .i64 a1_2) ∧ w37.cell? ⟨g1, 3, none⟩ = some (.int .i64 a1_3) ∧ w37.cell? ⟨g2, 0, none⟩ = some (.int .i64 a2_0) ∧ w37.cell? ⟨g2, 1, none⟩ = some (.int .i64 a2_1) ∧ w37.cell? ⟨g2, 2, none⟩ = some (.int .i64 a2_2) ∧ w37.cell? ⟨g2, 3, none⟩ = some (.int .i64 a2_3) := hS_
       refine zca (a' := ?_) ?_ ?_
       rotate_left
       ·simp only [zy, Act.put, List.setIfInBounds_toArray, List.set_cons_zero, List.set_cons_succ]
        rfl
       refine two_ (i := 5) (j := 11) (Ni := some 29) (Nj := some 11) #[true, true, true, true, true, true, false, false, false, false, true, false, false, false, false] #[true, true, true, true, true, false, false, false, false, false, true, true, false, false, false] rfl rfl rfl rfl (two_of HT_.out (by kernel_rfl)) (by decide) (by decide) (fun K hK => ?_) (fun K hK => ?_)
       ·skip
        refine goes_ Try.func7 (by kernel_rfl) rfl #[.int .i64 a0, .agg #[.int .i64 t207, .int .i64 t208, .int .i64 t209, .int .i64 t210], .agg #[.int .i64 t211, .int .i64 t212, .int .i64 t213, .int .i64 t214]] (by rfl) rfl rfl (by (try simp only [List.map_toArray, List.map_cons, List.map_nil]); first | done | rfl | (simp only [List.length_drop, List.length_take]; rfl)) ?_
        with_reducible refine (impl_SplitState.calls k a0 t207 t208 t209 t210 t211 t212 t213 t214 t215 t216 t217 t218 t219 t220 t221 t222 t223 _ A9.out).mono ?_
        rintro e w38 ⟨rfl, hb⟩
        refine ⟨_, rfl, ?_⟩
        have n0_ := zh.mk (zo (g := g1) (o := .cells #[.int .i64 a1_0, .int .i64 a1_1, .int .i64 a1_2, .int .i64 a1_3] 22 (0, 0)) (by (with_reducible repeat (first | refine ze ?_ _ | refine zf ?_ | refine za ?_ _)); exact BK1.out) hb)
        have n1_ := zh.mk (zo (g := g2) (o := .cells #[.int .i64 a2_0, .int .i64 a2_1, .int .i64 a2_2, .int .i64 a2_3] 22 (0, 0)) (by (with_reducible repeat (first | refine ze ?_ _ | refine zf ?_ | refine za ?_ _)); exact BK2.out) hb)
        have n2_ := zh.mk (zo (g := g3) (o := .cells #[.int .i64 t196, .int .i64 t197, .int .i64 t198, .int .i64 t199] 23 (0, 0)) (by (with_reducible repeat (first | refine ze ?_ _ | refine zf ?_ | refine za ?_ _)); exact BK3.out) hb)
        have n3_ := zh.mk (zo (g := g4) (o := .cells #[.int .i64 t200, .int .i64 t201, .int .i64 t202, .int .i64 t203] 23 (0, 0)) (by (with_reducible repeat (first | refine ze ?_ _ | refine zf ?_ | refine za ?_ _)); exact BK4.out) hb)
        have n4_ := zh.mk (zo (g := g5) (o := .cells #[.int .i64 0, .int .i64 0, .int .i64 0, .int .i64 0] 23 (0, 0)) (by (with_reducible repeat (first | refine ze ?_ _ | refine zf ?_ | refine za ?_ _)); exact BK5.out) hb)
        have n5_ := zh.mk (zs (by repeat (first | (with_reducible first | exact HB.out | apply zl | apply zj | apply zk | refine zg ?_ GE1.out | refine zg ?_ GE2.out | refine zg ?_ GE3.out | refine zg ?_ GE4.out | refine zg ?_ GE5.out) | exact HB.out)) hb)
        clear BK1
        clear BK2
        clear BK3
        clear BK4
        clear BK5
        clear HB
        have BK1 := n0_
        have BK2 := n1_
        have BK3 := n2_
        have BK4 := n3_
        have BK5 := n4_
        have HB := n5_
        clear n0_ n1_ n2_ n3_ n4_ n5_
        (try clear hb)
        (try clear hb2)
        (try clear hk)
        (try clear hi)
        refine hK.out _ _ ⟨(zi BK1.out 0).trans rfl, (zi BK1.out 1).trans rfl, (zi BK1.out 2).trans rfl, (zi BK1.out 3).trans rfl, (zi BK2.out 0).trans rfl, (zi BK2.out 1).trans rfl, (zi BK2.out 2).trans rfl, (zi BK2.out 3).trans rfl⟩ (fun hHeld => ?_)
        clear hK K
        refine zca (a' := ?_) ?_ ?_
        rotate_left
        ·show Act.put _ (some 29) _ = _
         simp only [Act.put, List.setIfInBounds_toArray, List.set_cons_zero, List.set_cons_succ, zu, zt]
         rfl
        refine zx (i := 6) (N := some 23) (v := ?_) (a' := ?_) #[true, true, true, true, true, true, true, false, false, false, true, false, false, false, false] rfl rfl (zv HT_.out (by kernel_rfl)) (fun _ _ _ h => h) (Or.inl ⟨by rfl, ?_⟩) ?_ ?_
        rotate_left
        ·intro w'
         go_simp
         with_reducible rfl
        rotate_left
        ·simp only [Act.put, List.setIfInBounds_toArray, List.set_cons_zero, List.set_cons_succ, zu, zt]
         rfl
        refine zx (i := 7) (N := some 30) (v := ?_) (a' := ?_) #[true, true, true, true, true, true, true, true, false, false, true, false, false, false, false] rfl rfl (zv HT_.out (by kernel_rfl)) (fun _ _ _ h => h) (Or.inl ⟨by rfl, ?_⟩) ?_ ?_
        rotate_left
        ·intro w'
         go_simp
         with_reducible rfl
        rotate_left
        ·simp only [Act.put, List.setIfInBounds_toArray, List.set_cons_zero, List.set_cons_succ, zu, zt]
         rfl
        refine zx (i := 8) (N := some 31) (v := ?_) (a' := ?_) #[true, true, true, true, true, true, true, true, true, false, true, false, false, false, false] rfl rfl (zv HT_.out (by kernel_rfl)) (fun _ _ _ h => h) (Or.inl ⟨by rfl, ?_⟩) ?_ ?_
        rotate_left
        ·intro w'
         go_simp
         with_reducible rfl
        rotate_left
        ·simp only [Act.put, List.setIfInBounds_toArray, List.set_cons_zero, List.set_cons_succ, zu, zt]
         rfl
        refine zx (i := 9) (N := some 32) (v := ?_) (a' := ?_) #[true, true, true, true, true, true, true, true, true, true, true, false, false, false, false] rfl rfl (zv HT_.out (by kernel_rfl)) (fun _ _ _ h => h) (Or.inl ⟨by rfl, ?_⟩) ?_ ?_
        rotate_left
        ·intro w'
         go_simp
         with_reducible rfl
        rotate_left
        ·simp only [Act.put, List.setIfInBounds_toArray, List.set_cons_zero, List.set_cons_succ, zu, zt]
         rfl
        exact zca (by first | (simp only [zy, Act.put, List.setIfInBounds_toArray, List.set_cons_zero, List.set_cons_succ]; done) | (simp only [zy, Act.put, List.setIfInBounds_toArray, List.set_cons_zero, List.set_cons_succ]; rfl)) (hJ2_4_5_10 (g5) _ ⟨hHeld, (by (with_reducible repeat (first | refine ze ?_ _ | refine zf ?_ | refine za ?_ _)); exact BK1.out), (by (with_reducible repeat (first | refine ze ?_ _ | refine zf ?_ | refine za ?_ _)); exact BK2.out), (by (with_reducible repeat (first | refine ze ?_ _ | refine zf ?_ | refine za ?_ _)); exact BK3.out), (by (with_reducible repeat (first | refine ze ?_ _ | refine zf ?_ | refine za ?_ _)); exact BK4.out), (by (with_reducible repeat (first | refine ze ?_ _ | refine zf ?_ | refine za ?_ _)); exact BK5.out), GW5.out, GE5.out, N1_5.out, N5_1.out, N2_5.out, N5_2.out, N3_5.out, N5_3.out, N4_5.out, N5_4.out, (by repeat (first | (with_reducible first | exact HB.out | apply zl | apply zj | apply zk | refine zg ?_ GE1.out | refine zg ?_ GE2.out | refine zg ?_ GE3.out | refine zg ?_ GE4.out | refine zg ?_ GE5.out) | exact HB.out))⟩)
       ·skip
        refine zha ?hg (N := 11) ?hd (cs := #[.int .i64 0, .int .i64 0, .int .i64 0, .int .i64 0]) (t := 23) ?hr ?_; (case hd => rfl); (case hg => rfl); (case hr => first | (go_simp; done) | (go_simp; rfl))
        intro g6 hg w38 hbox hb
        have n0_ := zh.mk (zo (g := g1) (o := .cells #[.int .i64 a1_0, .int .i64 a1_1, .int .i64 a1_2, .int .i64 a1_3] 22 (0, 0)) (by (with_reducible repeat (first | refine ze ?_ _ | refine zf ?_ | refine za ?_ _)); exact BK1.out) hb)
        have n1_ := zh.mk (zo (g := g2) (o := .cells #[.int .i64 a2_0, .int .i64 a2_1, .int .i64 a2_2, .int .i64 a2_3] 22 (0, 0)) (by (with_reducible repeat (first | refine ze ?_ _ | refine zf ?_ | refine za ?_ _)); exact BK2.out) hb)
        have n2_ := zh.mk (zo (g := g3) (o := .cells #[.int .i64 t196, .int .i64 t197, .int .i64 t198, .int .i64 t199] 23 (0, 0)) (by (with_reducible repeat (first | refine ze ?_ _ | refine zf ?_ | refine za ?_ _)); exact BK3.out) hb)
        have n3_ := zh.mk (zo (g := g4) (o := .cells #[.int .i64 t200, .int .i64 t201, .int .i64 t202, .int .i64 t203] 23 (0, 0)) (by (with_reducible repeat (first | refine ze ?_ _ | refine zf ?_ | refine za ?_ _)); exact BK4.out) hb)
        have n4_ := zh.mk (zo (g := g5) (o := .cells #[.int .i64 0, .int .i64 0, .int .i64 0, .int .i64 0] 23 (0, 0)) (by (with_reducible repeat (first | refine ze ?_ _ | refine zf ?_ | refine za ?_ _)); exact BK5.out) hb)
        have n5_ := zh.mk (zs (by repeat (first | (with_reducible first | exact HB.out | apply zl | apply zj | apply zk | refine zg ?_ GE1.out | refine zg ?_ GE2.out | refine zg ?_ GE3.out | refine zg ?_ GE4.out | refine zg ?_ GE5.out) | exact HB.out)) hb)
        have n6_ := zh.mk (hbox)
        have n7_ := zh.mk ((by rw [hg]; exact (zq (by repeat (first | (with_reducible first | exact HB.out | apply zl | apply zj | apply zk | refine zg ?_ GE1.out | refine zg ?_ GE2.out | refine zg ?_ GE3.out | refine zg ?_ GE4.out | refine zg ?_ GE5.out) | exact HB.out))) : w.heap.size ≤ g6))
        have n8_ := zh.mk ((by rw [hg]; exact (zq (by repeat (first | (with_reducible first | exact HB.out | apply zl | apply zj | apply zk | refine zg ?_ GE1.out | refine zg ?_ GE2.out | refine zg ?_ GE3.out | refine zg ?_ GE4.out | refine zg ?_ GE5.out) | exact HB.out))) : w.heap.size ≤ g6))
        have n9_ := zh.mk ((by rw [hg]; exact Nat.ne_of_lt (zr (g := g1) (o := .cells #[.int .i64 a1_0, .int .i64 a1_1, .int .i64 a1_2, .int .i64 a1_3] 22 (0, 0)) (by (with_reducible repeat (first | refine ze ?_ _ | refine zf ?_ | refine za ?_ _)); exact BK1.out)) : g1 ≠ g6))
        have n10_ := zh.mk ((by rw [hg]; exact Nat.ne_of_gt (zr (g := g1) (o := .cells #[.int .i64 a1_0, .int .i64 a1_1, .int .i64 a1_2, .int .i64 a1_3] 22 (0, 0)) (by (with_reducible repeat (first | refine ze ?_ _ | refine zf ?_ | refine za ?_ _)); exact BK1.out)) : g6 ≠ g1))
        have n11_ := zh.mk ((by rw [hg]; exact Nat.ne_of_lt (zr (g := g2) (o := .cells #[.int .i64 a2_0, .int .i64 a2_1, .int .i64 a2_2, .int .i64 a2_3] 22 (0, 0)) (by (with_reducible repeat (first | refine ze ?_ _ | refine zf ?_ | refine za ?_ _)); exact BK2.out)) : g2 ≠ g6))
        have n12_ := zh.mk ((by rw [hg]; exact Nat.ne_of_gt (zr (g := g2) (o := .cells #[.int .i64 a2_0, .int .i64 a2_1, .int .i64 a2_2, .int .i64 a2_3] 22 (0, 0)) (by (with_reducible repeat (first | refine ze ?_ _ | refine zf ?_ | refine za ?_ _)); exact BK2.out)) : g6 ≠ g2))
        have n13_ := zh.mk ((by rw [hg]; exact Nat.ne_of_lt (zr (g := g3) (o := .cells #[.int .i64 t196, .int .i64 t197, .int .i64 t198, .int .i64 t199] 23 (0, 0)) (by (with_reducible repeat (first | refine ze ?_ _ | refine zf ?_ | refine za ?_ _)); exact BK3.out)) : g3 ≠ g6))
        have n14_ := zh.mk ((by rw [hg]; exact Nat.ne_of_gt (zr (g := g3) (o := .cells #[.int .i64 t196, .int .i64 t197, .int .i64 t198, .int .i64 t199] 23 (0, 0)) (by (with_reducible repeat (first | refine ze ?_ _ | refine zf ?_ | refine za ?_ _)); exact BK3.out)) : g6 ≠ g3))
        have n15_ := zh.mk ((by rw [hg]; exact Nat.ne_of_lt (zr (g := g4) (o := .cells #[.int .i64 t200, .int .i64 t201, .int .i64 t202, .int .i64 t203] 23 (0, 0)) (by (with_reducible repeat (first | refine ze ?_ _ | refine zf ?_ | refine za ?_ _)); exact BK4.out)) : g4 ≠ g6))
        have n16_ := zh.mk ((by rw [hg]; exact Nat.ne_of_gt (zr (g := g4) (o := .cells #[.int .i64 t200, .int .i64 t201, .int .i64 t202, .int .i64 t203] 23 (0, 0)) (by (with_reducible repeat (first | refine ze ?_ _ | refine zf ?_ | refine za ?_ _)); exact BK4.out)) : g6 ≠ g4))
        have n17_ := zh.mk ((by rw [hg]; exact Nat.ne_of_lt (zr (g := g5) (o := .cells #[.int .i64 0, .int .i64 0, .int .i64 0, .int .i64 0] 23 (0, 0)) (by (with_reducible repeat (first | refine ze ?_ _ | refine zf ?_ | refine za ?_ _)); exact BK5.out)) : g5 ≠ g6))
        have n18_ := zh.mk ((by rw [hg]; exact Nat.ne_of_gt (zr (g := g5) (o := .cells #[.int .i64 0, .int .i64 0, .int .i64 0, .int .i64 0] 23 (0, 0)) (by (with_reducible repeat (first | refine ze ?_ _ | refine zf ?_ | refine za ?_ _)); exact BK5.out)) : g6 ≠ g5))
        clear BK1
        clear BK2
        clear BK3
        clear BK4
        clear BK5
        clear HB
        have BK1 := n0_
        have BK2 := n1_
        have BK3 := n2_
        have BK4 := n3_
        have BK5 := n4_
        have HB := n5_
        have BK6 := n6_
        have GW6 := n7_
        have GE6 := n8_
        have N1_6 := n9_
        have N6_1 := n10_
        have N2_6 := n11_
        have N6_2 := n12_
        have N3_6 := n13_
        have N6_3 := n14_
        have N4_6 := n15_
        have N6_4 := n16_
        have N5_6 := n17_
        have N6_5 := n18_
        clear n0_ n1_ n2_ n3_ n4_ n5_ n6_ n7_ n8_ n9_ n10_ n11_ n12_ n13_ n14_ n15_ n16_ n17_ n18_
        clear hb hbox hg
        refine hK.out _ _ ⟨(zi BK1.out 0).trans rfl, (zi BK1.out 1).trans rfl, (zi BK1.out 2).trans rfl, (zi BK1.out 3).trans rfl, (zi BK2.out 0).trans rfl, (zi BK2.out 1).trans rfl, (zi BK2.out 2).trans rfl, (zi BK2.out 3).trans rfl⟩ (fun hHeld => ?_)
        clear hK K
        refine zca (a' := ?_) ?_ ?_
        rotate_left
        ·show Act.put _ (some 11) _ = _
         simp only [Act.put, List.setIfInBounds_toArray, List.set_cons_zero, List.set_cons_succ, zu, zt]
         rfl
        exact zca (by first | (simp only [zy, Act.put, List.setIfInBounds_toArray, List.set_cons_zero, List.set_cons_succ]; done) | (simp only [zy, Act.put, List.setIfInBounds_toArray, List.set_cons_zero, List.set_cons_succ]; rfl)) (hJ2_4_10_11 (g5, g6) _ ⟨hHeld, (by (with_reducible repeat (first | refine ze ?_ _ | refine zf ?_ | refine za ?_ _)); exact BK1.out), (by (with_reducible repeat (first | refine ze ?_ _ | refine zf ?_ | refine za ?_ _)); exact BK2.out), (by (with_reducible repeat (first | refine ze ?_ _ | refine zf ?_ | refine za ?_ _)); exact BK3.out), (by (with_reducible repeat (first | refine ze ?_ _ | refine zf ?_ | refine za ?_ _)); exact BK4.out), (by (with_reducible repeat (first | refine ze ?_ _ | refine zf ?_ | refine za ?_ _)); exact BK5.out), (by (with_reducible repeat (first | refine ze ?_ _ | refine zf ?_ | refine za ?_ _)); exact BK6.out), GW5.out, GE5.out, N1_5.out, N5_1.out, N2_5.out, N5_2.out, N3_5.out, N5_3.out, N4_5.out, N5_4.out, N6_5.out, N5_6.out, GW6.out, GE6.out, N1_6.out, N6_1.out, N2_6.out, N6_2.out, N3_6.out, N6_3.out, N4_6.out, N6_4.out, (by repeat (first | (with_reducible first | exact HB.out | apply zl | apply zj | apply zk | refine zg ?_ GE1.out | refine zg ?_ GE2.out | refine zg ?_ GE3.out | refine zg ?_ GE4.out | refine zg ?_ GE5.out | refine zg ?_ GE6.out) | exact HB.out))⟩)
     ·skip
      rintro _ w37 ⟨hS_, h0_, h1_, h2_, h3_, h4_⟩
      have n0_ : zh (w37.heap[g1]? = some (.cells #[.int .i64 a1_0, .int .i64 a1_1, .int .i64 a1_2, .int .i64 a1_3] 22 (0, 0))) := ⟨h0_⟩
      have n1_ : zh (w37.heap[g2]? = some (.cells #[.int .i64 a2_0, .int .i64 a2_1, .int .i64 a2_2, .int .i64 a2_3] 22 (0, 0))) := ⟨h1_⟩
      have n2_ : zh (w37.heap[g3]? = some (.cells #[.int .i64 t196, .int .i64 t197, .int .i64 t198, .int .i64 t199] 23 (0, 0))) := ⟨h2_⟩
      have n3_ : zh (w37.heap[g4]? = some (.cells #[.int .i64 t200, .int .i64 t201, .int .i64 t202, .int .i64 t203] 23 (0, 0))) := ⟨h3_⟩
      have n4_ : zh (Below w.heap.size w w37) := ⟨h4_⟩
      clear BK1
      clear BK2
      clear BK3
      clear BK4
      clear HB
      clear h0_ h1_ h2_ h3_ h4_
      have BK1 := n0_
      have BK2 := n1_
      have BK3 := n2_
      have BK4 := n3_
      have HB := n4_
      clear n0_ n1_ n2_ n3_ n4_
      have hHeld : w37.cell? ⟨g1, 0, none⟩ = some (.int .i64 a1_0) ∧ w37.cell? ⟨g1, 1, none⟩ = some (.int .i64 a1_1) ∧ w37.cell? ⟨g1, 2, none⟩ = some (.int .i64 a1_2) ∧ w37.cell? ⟨g1, 3, none⟩ = some (.int .i64 a1_3) ∧ w37.cell? ⟨g2, 0, none⟩ = some (.int .i64 a2_0) ∧ w37.cell? ⟨g2, 1, none⟩ = some (.int .i64 a2_1) ∧ w37.cell? ⟨g2, 2, none⟩ = some (.int .i64 a2_2) ∧ w37.cell? ⟨g2, 3, none⟩ = some (.int .i64 a2_3) := hS_
      refine zca (a' := ?_) ?_ ?_
      rotate_left
      ·simp only [zy, Act.put, List.setIfInBounds_toArray, List.set_cons_zero, List.set_cons_succ]
       rfl
      refine two_ (i := 10) (j := 11) (Ni := some 10) (Nj := some 11) #[true, true, true, true, true, true, true, true, true, true, true, false, false, false, false] #[true, true, true, true, true, true, true, true, true, true, false, true, false, false, false] rfl rfl rfl rfl (two_of HT_.out (by kernel_rfl)) (by decide) (by decide) (fun K hK => ?_) (fun K hK => ?_)
      ·skip
       refine zha ?hg (N := 10) ?hd (cs := #[.int .i64 0, .int .i64 0, .int .i64 0, .int .i64 0]) (t := 23) ?hr ?_; (case hd => rfl); (case hg => rfl); (case hr => first | (go_simp; done) | (go_simp; rfl))
       intro g5 hg w38 hbox hb
       have n0_ := zh.mk (zo (g := g1) (o := .cells #[.int .i64 a1_0, .int .i64 a1_1, .int .i64 a1_2, .int .i64 a1_3] 22 (0, 0)) (by (with_reducible repeat (first | refine ze ?_ _ | refine zf ?_ | refine za ?_ _)); exact BK1.out) hb)
       have n1_ := zh.mk (zo (g := g2) (o := .cells #[.int .i64 a2_0, .int .i64 a2_1, .int .i64 a2_2, .int .i64 a2_3] 22 (0, 0)) (by (with_reducible repeat (first | refine ze ?_ _ | refine zf ?_ | refine za ?_ _)); exact BK2.out) hb)
       have n2_ := zh.mk (zo (g := g3) (o := .cells #[.int .i64 t196, .int .i64 t197, .int .i64 t198, .int .i64 t199] 23 (0, 0)) (by (with_reducible repeat (first | refine ze ?_ _ | refine zf ?_ | refine za ?_ _)); exact BK3.out) hb)
       have n3_ := zh.mk (zo (g := g4) (o := .cells #[.int .i64 t200, .int .i64 t201, .int .i64 t202, .int .i64 t203] 23 (0, 0)) (by (with_reducible repeat (first | refine ze ?_ _ | refine zf ?_ | refine za ?_ _)); exact BK4.out) hb)
       have n4_ := zh.mk (zs (by repeat (first | (with_reducible first | exact HB.out | apply zl | apply zj | apply zk | refine zg ?_ GE1.out | refine zg ?_ GE2.out | refine zg ?_ GE3.out | refine zg ?_ GE4.out) | exact HB.out)) hb)
       have n5_ := zh.mk (hbox)
       have n6_ := zh.mk ((by rw [hg]; exact (zq (by repeat (first | (with_reducible first | exact HB.out | apply zl | apply zj | apply zk | refine zg ?_ GE1.out | refine zg ?_ GE2.out | refine zg ?_ GE3.out | refine zg ?_ GE4.out) | exact HB.out))) : w.heap.size ≤ g5))
       have n7_ := zh.mk ((by rw [hg]; exact (zq (by repeat (first | (with_reducible first | exact HB.out | apply zl | apply zj | apply zk | refine zg ?_ GE1.out | refine zg ?_ GE2.out | refine zg ?_ GE3.out | refine zg ?_ GE4.out) | exact HB.out))) : w.heap.size ≤ g5))
       have n8_ := zh.mk ((by rw [hg]; exact Nat.ne_of_lt (zr (g := g1) (o := .cells #[.int .i64 a1_0, .int .i64 a1_1, .int .i64 a1_2, .int .i64 a1_3] 22 (0, 0)) (by (with_reducible repeat (first | refine ze ?_ _ | refine zf ?_ | refine za ?_ _)); exact BK1.out)) : g1 ≠ g5))
       have n9_ := zh.mk ((by rw [hg]; exact Nat.ne_of_gt (zr (g := g1) (o := .cells #[.int .i64 a1_0, .int .i64 a1_1, .int .i64 a1_2, .int .i64 a1_3] 22 (0, 0)) (by (with_reducible repeat (first | refine ze ?_ _ | refine zf ?_ | refine za ?_ _)); exact BK1.out)) : g5 ≠ g1))
       have n10_ := zh.mk ((by rw [hg]; exact Nat.ne_of_lt (zr (g := g2) (o := .cells #[.int .i64 a2_0, .int .i64 a2_1, .int .i64 a2_2, .int .i64 a2_3] 22 (0, 0)) (by (with_reducible repeat (first | refine ze ?_ _ | refine zf ?_ | refine za ?_ _)); exact BK2.out)) : g2 ≠ g5))
       have n11_ := zh.mk ((by rw [hg]; exact Nat.ne_of_gt (zr (g := g2) (o := .cells #[.int .i64 a2_0, .int .i64 a2_1, .int .i64 a2_2, .int .i64 a2_3] 22 (0, 0)) (by (with_reducible repeat (first | refine ze ?_ _ | refine zf ?_ | refine za ?_ _)); exact BK2.out)) : g5 ≠ g2))
       have n12_ := zh.mk ((by rw [hg]; exact Nat.ne_of_lt (zr (g := g3) (o := .cells #[.int .i64 t196, .int .i64 t197, .int .i64 t198, .int .i64 t199] 23 (0, 0)) (by (with_reducible repeat (first | refine ze ?_ _ | refine zf ?_ | refine za ?_ _)); exact BK3.out)) : g3 ≠ g5))
       have n13_ := zh.mk ((by rw [hg]; exact Nat.ne_of_gt (zr (g := g3) (o := .cells #[.int .i64 t196, .int .i64 t197, .int .i64 t198, .int .i64 t199] 23 (0, 0)) (by (with_reducible repeat (first | refine ze ?_ _ | refine zf ?_ | refine za ?_ _)); exact BK3.out)) : g5 ≠ g3))
       have n14_ := zh.mk ((by rw [hg]; exact Nat.ne_of_lt (zr (g := g4) (o := .cells #[.int .i64 t200, .int .i64 t201, .int .i64 t202, .int .i64 t203] 23 (0, 0)) (by (with_reducible repeat (first | refine ze ?_ _ | refine zf ?_ | refine za ?_ _)); exact BK4.out)) : g4 ≠ g5))
       have n15_ := zh.mk ((by rw [hg]; exact Nat.ne_of_gt (zr (g := g4) (o := .cells #[.int .i64 t200, .int .i64 t201, .int .i64 t202, .int .i64 t203] 23 (0, 0)) (by (with_reducible repeat (first | refine ze ?_ _ | refine zf ?_ | refine za ?_ _)); exact BK4.out)) : g5 ≠ g4))
       clear BK1
       clear BK2
       clear BK3
       clear BK4
       clear HB
       have BK1 := n0_
       have BK2 := n1_
       have BK3 := n2_
       have BK4 := n3_
       have HB := n4_
       have BK5 := n5_
       have GW5 := n6_
       have GE5 := n7_
       have N1_5 := n8_
       have N5_1 := n9_
       have N2_5 := n10_
       have N5_2 := n11_
       have N3_5 := n12_
       have N5_3 := n13_
       have N4_5 := n14_
       have N5_4 := n15_
       clear n0_ n1_ n2_ n3_ n4_ n5_ n6_ n7_ n8_ n9_ n10_ n11_ n12_ n13_ n14_ n15_
       clear hb hbox hg
       refine hK.out _ _ ⟨(zi BK1.out 0).trans rfl, (zi BK1.out 1).trans rfl, (zi BK1.out 2).trans rfl, (zi BK1.out 3).trans rfl, (zi BK2.out 0).trans rfl, (zi BK2.out 1).trans rfl, (zi BK2.out 2).trans rfl, (zi BK2.out 3).trans rfl⟩ (fun hHeld => ?_)
       clear hK K
       refine zca (a' := ?_) ?_ ?_
       rotate_left
       ·show Act.put _ (some 10) _ = _
        simp only [Act.put, List.setIfInBounds_toArray, List.set_cons_zero, List.set_cons_succ, zu, zt]
        rfl
       exact zca (by first | (simp only [zy, Act.put, List.setIfInBounds_toArray, List.set_cons_zero, List.set_cons_succ]; done) | (simp only [zy, Act.put, List.setIfInBounds_toArray, List.set_cons_zero, List.set_cons_succ]; rfl)) (hJ2_4_5_10 (g5) _ ⟨hHeld, (by (with_reducible repeat (first | refine ze ?_ _ | refine zf ?_ | refine za ?_ _)); exact BK1.out), (by (with_reducible repeat (first | refine ze ?_ _ | refine zf ?_ | refine za ?_ _)); exact BK2.out), (by (with_reducible repeat (first | refine ze ?_ _ | refine zf ?_ | refine za ?_ _)); exact BK3.out), (by (with_reducible repeat (first | refine ze ?_ _ | refine zf ?_ | refine za ?_ _)); exact BK4.out), (by (with_reducible repeat (first | refine ze ?_ _ | refine zf ?_ | refine za ?_ _)); exact BK5.out), GW5.out, GE5.out, N1_5.out, N5_1.out, N2_5.out, N5_2.out, N3_5.out, N5_3.out, N4_5.out, N5_4.out, (by repeat (first | (with_reducible first | exact HB.out | apply zl | apply zj | apply zk | refine zg ?_ GE1.out | refine zg ?_ GE2.out | refine zg ?_ GE3.out | refine zg ?_ GE4.out | refine zg ?_ GE5.out) | exact HB.out))⟩)
      ·skip
       refine zha ?hg (N := 11) ?hd (cs := #[.int .i64 0, .int .i64 0, .int .i64 0, .int .i64 0]) (t := 23) ?hr ?_; (case hd => rfl); (case hg => rfl); (case hr => first | (go_simp; done) | (go_simp; rfl))
       intro g6 hg w38 hbox hb
       have n0_ := zh.mk (zo (g := g1) (o := .cells #[.int .i64 a1_0, .int .i64 a1_1, .int .i64 a1_2, .int .i64 a1_3] 22 (0, 0)) (by (with_reducible repeat (first | refine ze ?_ _ | refine zf ?_ | refine za ?_ _)); exact BK1.out) hb)
       have n1_ := zh.mk (zo (g := g2) (o := .cells #[.int .i64 a2_0, .int .i64 a2_1, .int .i64 a2_2, .int .i64 a2_3] 22 (0, 0)) (by (with_reducible repeat (first | refine ze ?_ _ | refine zf ?_ | refine za ?_ _)); exact BK2.out) hb)
       have n2_ := zh.mk (zo (g := g3) (o := .cells #[.int .i64 t196, .int .i64 t197, .int .i64 t198, .int .i64 t199] 23 (0, 0)) (by (with_reducible repeat (first | refine ze ?_ _ | refine zf ?_ | refine za ?_ _)); exact BK3.out) hb)
       have n3_ := zh.mk (zo (g := g4) (o := .cells #[.int .i64 t200, .int .i64 t201, .int .i64 t202, .int .i64 t203] 23 (0, 0)) (by (with_reducible repeat (first | refine ze ?_ _ | refine zf ?_ | refine za ?_ _)); exact BK4.out) hb)
       have n4_ := zh.mk (zs (by repeat (first | (with_reducible first | exact HB.out | apply zl | apply zj | apply zk | refine zg ?_ GE1.out | refine zg ?_ GE2.out | refine zg ?_ GE3.out | refine zg ?_ GE4.out) | exact HB.out)) hb)
       have n5_ := zh.mk (hbox)
       have n6_ := zh.mk ((by rw [hg]; exact (zq (by repeat (first | (with_reducible first | exact HB.out | apply zl | apply zj | apply zk | refine zg ?_ GE1.out | refine zg ?_ GE2.out | refine zg ?_ GE3.out | refine zg ?_ GE4.out) | exact HB.out))) : w.heap.size ≤ g6))
       have n7_ := zh.mk ((by rw [hg]; exact (zq (by repeat (first | (with_reducible first | exact HB.out | apply zl | apply zj | apply zk | refine zg ?_ GE1.out | refine zg ?_ GE2.out | refine zg ?_ GE3.out | refine zg ?_ GE4.out) | exact HB.out))) : w.heap.size ≤ g6))
       have n8_ := zh.mk ((by rw [hg]; exact Nat.ne_of_lt (zr (g := g1) (o := .cells #[.int .i64 a1_0, .int .i64 a1_1, .int .i64 a1_2, .int .i64 a1_3] 22 (0, 0)) (by (with_reducible repeat (first | refine ze ?_ _ | refine zf ?_ | refine za ?_ _)); exact BK1.out)) : g1 ≠ g6))
       have n9_ := zh.mk ((by rw [hg]; exact Nat.ne_of_gt (zr (g := g1) (o := .cells #[.int .i64 a1_0, .int .i64 a1_1, .int .i64 a1_2, .int .i64 a1_3] 22 (0, 0)) (by (with_reducible repeat (first | refine ze ?_ _ | refine zf ?_ | refine za ?_ _)); exact BK1.out)) : g6 ≠ g1))
       have n10_ := zh.mk ((by rw [hg]; exact Nat.ne_of_lt (zr (g := g2) (o := .cells #[.int .i64 a2_0, .int .i64 a2_1, .int .i64 a2_2, .int .i64 a2_3] 22 (0, 0)) (by (with_reducible repeat (first | refine ze ?_ _ | refine zf ?_ | refine za ?_ _)); exact BK2.out)) : g2 ≠ g6))
       have n11_ := zh.mk ((by rw [hg]; exact Nat.ne_of_gt (zr (g := g2) (o := .cells #[.int .i64 a2_0, .int .i64 a2_1, .int .i64 a2_2, .int .i64 a2_3] 22 (0, 0)) (by (with_reducible repeat (first | refine ze ?_ _ | refine zf ?_ | refine za ?_ _)); exact BK2.out)) : g6 ≠ g2))
       have n12_ := zh.mk ((by rw [hg]; exact Nat.ne_of_lt (zr (g := g3) (o := .cells #[.int .i64 t196, .int .i64 t197, .int .i64 t198, .int .i64 t199] 23 (0, 0)) (by (with_reducible repeat (first | refine ze ?_ _ | refine zf ?_ | refine za ?_ _)); exact BK3.out)) : g3 ≠ g6))
       have n13_ := zh.mk ((by rw [hg]; exact Nat.ne_of_gt (zr (g := g3) (o := .cells #[.int .i64 t196, .int .i64 t197, .int .i64 t198, .int .i64 t199] 23 (0, 0)) (by (with_reducible repeat (first | refine ze ?_ _ | refine zf ?_ | refine za ?_ _)); exact BK3.out)) : g6 ≠ g3))
       have n14_ := zh.mk ((by rw [hg]; exact Nat.ne_of_lt (zr (g := g4) (o := .cells #[.int .i64 t200, .int .i64 t201, .int .i64 t202, .int .i64 t203] 23 (0, 0)) (by (with_reducible repeat (first | refine ze ?_ _ | refine zf ?_ | refine za ?_ _)); exact BK4.out)) : g4 ≠ g6))
       have n15_ := zh.mk ((by rw [hg]; exact Nat.ne_of_gt (zr (g := g4) (o := .cells #[.int .i64 t200, .int .i64 t201, .int .i64 t202, .int .i64 t203] 23 (0, 0)) (by (with_reducible repeat (first | refine ze ?_ _ | refine zf ?_ | refine za ?_ _)); exact BK4.out)) : g6 ≠ g4))
       clear BK1
       clear BK2
       clear BK3
       clear BK4
       clear HB
       have BK1 := n0_
       have BK2 := n1_
       have BK3 := n2_
       have BK4 := n3_
       have HB := n4_
       have BK6 := n5_
       have GW6 := n6_
       have GE6 := n7_
       have N1_6 := n8_
       have N6_1 := n9_
       have N2_6 := n10_
       have N6_2 := n11_
       have N3_6 := n12_
       have N6_3 := n13_
       have N4_6 := n14_
       have N6_4 := n15_
       clear n0_ n1_ n2_ n3_ n4_ n5_ n6_ n7_ n8_ n9_ n10_ n11_ n12_ n13_ n14_ n15_
       clear hb hbox hg
       refine hK.out _ _ ⟨(zi BK1.out 0).trans rfl, (zi BK1.out 1).trans rfl, (zi BK1.out 2).trans rfl, (zi BK1.out 3).trans rfl, (zi BK2.out 0).trans rfl, (zi BK2.out 1).trans rfl, (zi BK2.out 2).trans rfl, (zi BK2.out 3).trans rfl⟩ (fun hHeld => ?_)
       clear hK K
       refine zca (a' := ?_) ?_ ?_
       rotate_left
       ·show Act.put _ (some 11) _ = _
        simp only [Act.put, List.setIfInBounds_toArray, List.set_cons_zero, List.set_cons_succ, zu, zt]
        rfl
       exact zca (by first | (simp only [zy, Act.put, List.setIfInBounds_toArray, List.set_cons_zero, List.set_cons_succ]; done) | (simp only [zy, Act.put, List.setIfInBounds_toArray, List.set_cons_zero, List.set_cons_succ]; rfl)) (hJ2_4_5_11 (g6) _ ⟨hHeld, (by (with_reducible repeat (first | refine ze ?_ _ | refine zf ?_ | refine za ?_ _)); exact BK1.out), (by (with_reducible repeat (first | refine ze ?_ _ | refine zf ?_ | refine za ?_ _)); exact BK2.out), (by (with_reducible repeat (first | refine ze ?_ _ | refine zf ?_ | refine za ?_ _)); exact BK3.out), (by (with_reducible repeat (first | refine ze ?_ _ | refine zf ?_ | refine za ?_ _)); exact BK4.out), (by (with_reducible repeat (first | refine ze ?_ _ | refine zf ?_ | refine za ?_ _)); exact BK6.out), GW6.out, GE6.out, N1_6.out, N6_1.out, N2_6.out, N6_2.out, N3_6.out, N6_3.out, N4_6.out, N6_4.out, (by repeat (first | (with_reducible first | exact HB.out | apply zl | apply zj | apply zk | refine zg ?_ GE1.out | refine zg ?_ GE2.out | refine zg ?_ GE3.out | refine zg ?_ GE4.out | refine zg ?_ GE6.out) | exact HB.out))⟩)
    ·skip
     rintro ⟨g5, g6⟩ w38 ⟨hS_, h0_, h1_, h2_, h3_, h4_, h5_, h6_, h7_, h8_, h9_, h10_, h11_, h12_, h13_, h14_, h15_, h16_, h17_, h18_, h19_, h20_, h21_, h22_, h23_, h24_, h25_, h26_, h27_, h28_⟩
     have n0_ : zh (w38.heap[g1]? = some (.cells #[.int .i64 a1_0, .int .i64 a1_1, .int .i64 a1_2, .int .i64 a1_3] 22 (0, 0))) := ⟨h0_⟩
     have n1_ : zh (w38.heap[g2]? = some (.cells #[.int .i64 a2_0, .int .i64 a2_1, .int .i64 a2_2, .int .i64 a2_3] 22 (0, 0))) := ⟨h1_⟩
     have n2_ : zh (w38.heap[g3]? = some (.cells #[.int .i64 t196, .int .i64 t197, .int .i64 t198, .int .i64 t199] 23 (0, 0))) := ⟨h2_⟩
     have n3_ : zh (w38.heap[g4]? = some (.cells #[.int .i64 t200, .int .i64 t201, .int .i64 t202, .int .i64 t203] 23 (0, 0))) := ⟨h3_⟩
     have n4_ : zh (w38.heap[g5]? = some (.cells #[.int .i64 0, .int .i64 0, .int .i64 0, .int .i64 0] 23 (0, 0))) := ⟨h4_⟩
     have n5_ : zh (w38.heap[g6]? = some (.cells #[.int .i64 0, .int .i64 0, .int .i64 0, .int .i64 0] 23 (0, 0))) := ⟨h5_⟩
     have n6_ : zh (w.heap.size ≤ g5) := ⟨h6_⟩
     have n7_ : zh (w.heap.size ≤ g5) := ⟨h7_⟩
     have n8_ : zh (g1 ≠ g5) := ⟨h8_⟩
     have n9_ : zh (g5 ≠ g1) := ⟨h9_⟩
     have n10_ : zh (g2 ≠ g5) := ⟨h10_⟩
     have n11_ : zh (g5 ≠ g2) := ⟨h11_⟩
     have n12_ : zh (g3 ≠ g5) := ⟨h12_⟩
     have n13_ : zh (g5 ≠ g3) := ⟨h13_⟩
     have n14_ : zh (g4 ≠ g5) := ⟨h14_⟩
     have n15_ : zh (g5 ≠ g4) := ⟨h15_⟩
     have n16_ : zh (g6 ≠ g5) := ⟨h16_⟩
     have n17_ : zh (g5 ≠ g6) := ⟨h17_⟩
     have n18_ : zh (w.heap.size ≤ g6) := ⟨h18_⟩
     have n19_ : zh (w.heap.size ≤ g6) := ⟨h19_⟩
     have n20_ : zh (g1 ≠ g6) := ⟨h20_⟩
     have n21_ : zh (g6 ≠ g1) := ⟨h21_⟩
     have n22_ : zh (g2 ≠ g6) := ⟨h22_⟩
     have n23_ : zh (g6 ≠ g2) := ⟨h23_⟩
     have n24_ : zh (g3 ≠ g6) := ⟨h24_⟩
     have n25_ : zh (g6 ≠ g3) := ⟨h25_⟩
     have n26_ : zh (g4 ≠ g6) := ⟨h26_⟩
     have n27_ : zh (g6 ≠ g4) := ⟨h27_⟩
     have n28_ : zh (Below w.heap.size w w38) := ⟨h28_⟩
     clear BK1
     clear BK2
     clear BK3
     clear BK4
     clear HB
     clear h0_ h1_ h2_ h3_ h4_ h5_ h6_ h7_ h8_ h9_ h10_ h11_ h12_ h13_ h14_ h15_ h16_ h17_ h18_ h19_ h20_ h21_ h22_ h23_ h24_ h25_ h26_ h27_ h28_
     have BK1 := n0_
     have BK2 := n1_
     have BK3 := n2_
     have BK4 := n3_
     have BK5 := n4_
     have BK6 := n5_
     have GW5 := n6_
     have GE5 := n7_
     have N1_5 := n8_
     have N5_1 := n9_
     have N2_5 := n10_
     have N5_2 := n11_
     have N3_5 := n12_
     have N5_3 := n13_
     have N4_5 := n14_
     have N5_4 := n15_
     have N6_5 := n16_
     have N5_6 := n17_
     have GW6 := n18_
     have GE6 := n19_
     have N1_6 := n20_
     have N6_1 := n21_
     have N2_6 := n22_
     have N6_2 := n23_
     have N3_6 := n24_
     have N6_3 := n25_
     have N4_6 := n26_
     have N6_4 := n27_
     have HB := n28_
     clear n0_ n1_ n2_ n3_ n4_ n5_ n6_ n7_ n8_ n9_ n10_ n11_ n12_ n13_ n14_ n15_ n16_ n17_ n18_ n19_ n20_ n21_ n22_ n23_ n24_ n25_ n26_ n27_ n28_
     have hHeld : w38.cell? ⟨g1, 0, none⟩ = some (.int .i64 a1_0) ∧ w38.cell? ⟨g1, 1, none⟩ = some (.int .i64 a1_1) ∧ w38.cell? ⟨g1, 2, none⟩ = some (.int .i64 a1_2) ∧ w38.cell? ⟨g1, 3, none⟩ = some (.int .i64 a1_3) ∧ w38.cell? ⟨g2, 0, none⟩ = some (.int .i64 a2_0) ∧ w38.cell? ⟨g2, 1, none⟩ = some (.int .i64 a2_1) ∧ w38.cell? ⟨g2, 2, none⟩ = some (.int .i64 a2_2) ∧ w38.cell? ⟨g2, 3, none⟩ = some (.int .i64 a2_3) := hS_
     refine zca (a' := ?_) ?_ ?_
     rotate_left
     ·simp only [zy, Act.put, List.setIfInBounds_toArray, List.set_cons_zero, List.set_cons_succ]
      rfl
     refine one_ (i := 5) (N := some 29) #[true, true, true, true, true, true, false, false, false, false, true, true, false, false, false] rfl rfl (zia HT_.out (by kernel_rfl)) (by decide) (fun K hK => ?_)
     refine goes_ Try.func7 (by kernel_rfl) rfl #[.int .i64 a0, .agg #[.int .i64 t207, .int .i64 t208, .int .i64 t209, .int .i64 t210], .agg #[.int .i64 t211, .int .i64 t212, .int .i64 t213, .int .i64 t214]] (by rfl) rfl rfl (by (try simp only [List.map_toArray, List.map_cons, List.map_nil]); first | done | rfl | (simp only [List.length_drop, List.length_take]; rfl)) ?_
     with_reducible refine (impl_SplitState.calls k a0 t207 t208 t209 t210 t211 t212 t213 t214 t215 t216 t217 t218 t219 t220 t221 t222 t223 _ A9.out).mono ?_
     rintro e w39 ⟨rfl, hb⟩
     refine ⟨_, rfl, ?_⟩
     have n0_ := zh.mk (zo (g := g1) (o := .cells #[.int .i64 a1_0, .int .i64 a1_1, .int .i64 a1_2, .int .i64 a1_3] 22 (0, 0)) (by (with_reducible repeat (first | refine ze ?_ _ | refine zf ?_ | refine za ?_ _)); exact BK1.out) hb)
     have n1_ := zh.mk (zo (g := g2) (o := .cells #[.int .i64 a2_0, .int .i64 a2_1, .int .i64 a2_2, .int .i64 a2_3] 22 (0, 0)) (by (with_reducible repeat (first | refine ze ?_ _ | refine zf ?_ | refine za ?_ _)); exact BK2.out) hb)
     have n2_ := zh.mk (zo (g := g3) (o := .cells #[.int .i64 t196, .int .i64 t197, .int .i64 t198, .int .i64 t199] 23 (0, 0)) (by (with_reducible repeat (first | refine ze ?_ _ | refine zf ?_ | refine za ?_ _)); exact BK3.out) hb)
     have n3_ := zh.mk (zo (g := g4) (o := .cells #[.int .i64 t200, .int .i64 t201, .int .i64 t202, .int .i64 t203] 23 (0, 0)) (by (with_reducible repeat (first | refine ze ?_ _ | refine zf ?_ | refine za ?_ _)); exact BK4.out) hb)
     have n4_ := zh.mk (zo (g := g5) (o := .cells #[.int .i64 0, .int .i64 0, .int .i64 0, .int .i64 0] 23 (0, 0)) (by (with_reducible repeat (first | refine ze ?_ _ | refine zf ?_ | refine za ?_ _)); exact BK5.out) hb)
     have n5_ := zh.mk (zo (g := g6) (o := .cells #[.int .i64 0, .int .i64 0, .int .i64 0, .int .i64 0] 23 (0, 0)) (by (with_reducible repeat (first | refine ze ?_ _ | refine zf ?_ | refine za ?_ _)); exact BK6.out) hb)
     have n6_ := zh.mk (zs (by repeat (first | (with_reducible first | exact HB.out | apply zl | apply zj | apply zk | refine zg ?_ GE1.out | refine zg ?_ GE2.out | refine zg ?_ GE3.out | refine zg ?_ GE4.out | refine zg ?_ GE5.out | refine zg ?_ GE6.out) | exact HB.out)) hb)
     clear BK1
     clear BK2
     clear BK3
     clear BK4
     clear BK5
     clear BK6
     clear HB
     have BK1 := n0_
     have BK2 := n1_
     have BK3 := n2_
     have BK4 := n3_
     have BK5 := n4_
     have BK6 := n5_
     have HB := n6_
     clear n0_ n1_ n2_ n3_ n4_ n5_ n6_
     (try clear hb)
     (try clear hb2)
     (try clear hk)
     (try clear hi)
     refine hK.out _ _ ⟨(zi BK1.out 0).trans rfl, (zi BK1.out 1).trans rfl, (zi BK1.out 2).trans rfl, (zi BK1.out 3).trans rfl, (zi BK2.out 0).trans rfl, (zi BK2.out 1).trans rfl, (zi BK2.out 2).trans rfl, (zi BK2.out 3).trans rfl⟩ (fun hHeld => ?_)
     clear hK K
     refine zca (a' := ?_) ?_ ?_
     rotate_left
     ·show Act.put _ (some 29) _ = _
      simp only [Act.put, List.setIfInBounds_toArray, List.set_cons_zero, List.set_cons_succ, zu, zt]
      rfl
     refine zx (i := 6) (N := some 23) (v := ?_) (a' := ?_) #[true, true, true, true, true, true, true, false, false, false, true, true, false, false, false] rfl rfl (zv HT_.out (by kernel_rfl)) (fun _ _ _ h => h) (Or.inl ⟨by rfl, ?_⟩) ?_ ?_
     rotate_left
     ·intro w'
      go_simp
      with_reducible rfl
     rotate_left
     ·simp only [Act.put, List.setIfInBounds_toArray, List.set_cons_zero, List.set_cons_succ, zu, zt]
      rfl
     refine zx (i := 7) (N := some 30) (v := ?_) (a' := ?_) #[true, true, true, true, true, true, true, true, false, false, true, true, false, false, false] rfl rfl (zv HT_.out (by kernel_rfl)) (fun _ _ _ h => h) (Or.inl ⟨by rfl, ?_⟩) ?_ ?_
     rotate_left
     ·intro w'
      go_simp
      with_reducible rfl
     rotate_left
     ·simp only [Act.put, List.setIfInBounds_toArray, List.set_cons_zero, List.set_cons_succ, zu, zt]
      rfl
     refine zx (i := 8) (N := some 31) (v := ?_) (a' := ?_) #[true, true, true, true, true, true, true, true, true, false, true, true, false, false, false] rfl rfl (zv HT_.out (by kernel_rfl)) (fun _ _ _ h => h) (Or.inl ⟨by rfl, ?_⟩) ?_ ?_
     rotate_left
     ·intro w'
      go_simp
      with_reducible rfl
     rotate_left
     ·simp only [Act.put, List.setIfInBounds_toArray, List.set_cons_zero, List.set_cons_succ, zu, zt]
      rfl
     refine zx (i := 9) (N := some 32) (v := ?_) (a' := ?_) #[true, true, true, true, true, true, true, true, true, true, true, true, false, false, false] rfl rfl (zv HT_.out (by kernel_rfl)) (fun _ _ _ h => h) (Or.inl ⟨by rfl, ?_⟩) ?_ ?_
     rotate_left
     ·intro w'
      go_simp
      with_reducible rfl
     rotate_left
     ·simp only [Act.put, List.setIfInBounds_toArray, List.set_cons_zero, List.set_cons_succ, zu, zt]
      rfl
     exact zca (by first | (simp only [zy, Act.put, List.setIfInBounds_toArray, List.set_cons_zero, List.set_cons_succ]; done) | (simp only [zy, Act.put, List.setIfInBounds_toArray, List.set_cons_zero, List.set_cons_succ]; rfl)) (hJ2_4_5_10_11 (g5, g6) _ ⟨hHeld, (by (with_reducible repeat (first | refine ze ?_ _ | refine zf ?_ | refine za ?_ _)); exact BK1.out), (by (with_reducible repeat (first | refine ze ?_ _ | refine zf ?_ | refine za ?_ _)); exact BK2.out), (by (with_reducible repeat (first | refine ze ?_ _ | refine zf ?_ | refine za ?_ _)); exact BK3.out), (by (with_reducible repeat (first | refine ze ?_ _ | refine zf ?_ | refine za ?_ _)); exact BK4.out), (by (with_reducible repeat (first | refine ze ?_ _ | refine zf ?_ | refine za ?_ _)); exact BK5.out), (by (with_reducible repeat (first | refine ze ?_ _ | refine zf ?_ | refine za ?_ _)); exact BK6.out), GW5.out, GE5.out, N1_5.out, N5_1.out, N2_5.out, N5_2.out, N3_5.out, N5_3.out, N4_5.out, N5_4.out, N6_5.out, N5_6.out, GW6.out, GE6.out, N1_6.out, N6_1.out, N2_6.out, N6_2.out, N3_6.out, N6_3.out, N4_6.out, N6_4.out, (by repeat (first | (with_reducible first | exact HB.out | apply zl | apply zj | apply zk | refine zg ?_ GE1.out | refine zg ?_ GE2.out | refine zg ?_ GE3.out | refine zg ?_ GE4.out | refine zg ?_ GE5.out | refine zg ?_ GE6.out) | exact HB.out))⟩)
   ·skip
    rintro g6 w38 ⟨hS_, h0_, h1_, h2_, h3_, h4_, h5_, h6_, h7_, h8_, h9_, h10_, h11_, h12_, h13_, h14_, h15_⟩
    have n0_ : zh (w38.heap[g1]? = some (.cells #[.int .i64 a1_0, .int .i64 a1_1, .int .i64 a1_2, .int .i64 a1_3] 22 (0, 0))) := ⟨h0_⟩
    have n1_ : zh (w38.heap[g2]? = some (.cells #[.int .i64 a2_0, .int .i64 a2_1, .int .i64 a2_2, .int .i64 a2_3] 22 (0, 0))) := ⟨h1_⟩
    have n2_ : zh (w38.heap[g3]? = some (.cells #[.int .i64 t196, .int .i64 t197, .int .i64 t198, .int .i64 t199] 23 (0, 0))) := ⟨h2_⟩
    have n3_ : zh (w38.heap[g4]? = some (.cells #[.int .i64 t200, .int .i64 t201, .int .i64 t202, .int .i64 t203] 23 (0, 0))) := ⟨h3_⟩
    have n4_ : zh (w38.heap[g6]? = some (.cells #[.int .i64 0, .int .i64 0, .int .i64 0, .int .i64 0] 23 (0, 0))) := ⟨h4_⟩
    have n5_ : zh (w.heap.size ≤ g6) := ⟨h5_⟩
    have n6_ : zh (w.heap.size ≤ g6) := ⟨h6_⟩
    have n7_ : zh (g1 ≠ g6) := ⟨h7_⟩
    have n8_ : zh (g6 ≠ g1) := ⟨h8_⟩
    have n9_ : zh (g2 ≠ g6) := ⟨h9_⟩
    have n10_ : zh (g6 ≠ g2) := ⟨h10_⟩
    have n11_ : zh (g3 ≠ g6) := ⟨h11_⟩
    have n12_ : zh (g6 ≠ g3) := ⟨h12_⟩
    have n13_ : zh (g4 ≠ g6) := ⟨h13_⟩
    have n14_ : zh (g6 ≠ g4) := ⟨h14_⟩
    have n15_ : zh (Below w.heap.size w w38) := ⟨h15_⟩
    clear BK1
    clear BK2
    clear BK3
    clear BK4
    clear HB
    clear h0_ h1_ h2_ h3_ h4_ h5_ h6_ h7_ h8_ h9_ h10_ h11_ h12_ h13_ h14_ h15_
    have BK1 := n0_
    have BK2 := n1_
    have BK3 := n2_
    have BK4 := n3_
    have BK6 := n4_
    have GW6 := n5_
    have GE6 := n6_
    have N1_6 := n7_
    have N6_1 := n8_
    have N2_6 := n9_
    have N6_2 := n10_
    have N3_6 := n11_
    have N6_3 := n12_
    have N4_6 := n13_
    have N6_4 := n14_
    have HB := n15_
    clear n0_ n1_ n2_ n3_ n4_ n5_ n6_ n7_ n8_ n9_ n10_ n11_ n12_ n13_ n14_ n15_
    have hHeld : w38.cell? ⟨g1, 0, none⟩ = some (.int .i64 a1_0) ∧ w38.cell? ⟨g1, 1, none⟩ = some (.int .i64 a1_1) ∧ w38.cell? ⟨g1, 2, none⟩ = some (.int .i64 a1_2) ∧ w38.cell? ⟨g1, 3, none⟩ = some (.int .i64 a1_3) ∧ w38.cell? ⟨g2, 0, none⟩ = some (.int .i64 a2_0) ∧ w38.cell? ⟨g2, 1, none⟩ = some (.int .i64 a2_1) ∧ w38.cell? ⟨g2, 2, none⟩ = some (.int .i64 a2_2) ∧ w38.cell? ⟨g2, 3, none⟩ = some (.int .i64 a2_3) := hS_
    refine zca (a' := ?_) ?_ ?_
    rotate_left
    ·simp only [zy, Act.put, List.setIfInBounds_toArray, List.set_cons_zero, List.set_cons_succ]
     rfl
    refine one_ (i := 10) (N := some 10) #[true, true, true, true, true, true, true, true, true, true, true, true, false, false, false] rfl rfl (zia HT_.out (by kernel_rfl)) (by decide) (fun K hK => ?_)
    refine zha ?hg (N := 10) ?hd (cs := #[.int .i64 0, .int .i64 0, .int .i64 0, .int .i64 0]) (t := 23) ?hr ?_; (case hd => rfl); (case hg => rfl); (case hr => first | (go_simp; done) | (go_simp; rfl))
    intro g5 hg w39 hbox hb
    have n0_ := zh.mk (zo (g := g1) (o := .cells #[.int .i64 a1_0, .int .i64 a1_1, .int .i64 a1_2, .int .i64 a1_3] 22 (0, 0)) (by (with_reducible repeat (first | refine ze ?_ _ | refine zf ?_ | refine za ?_ _)); exact BK1.out) hb)
    have n1_ := zh.mk (zo (g := g2) (o := .cells #[.int .i64 a2_0, .int .i64 a2_1, .int .i64 a2_2, .int .i64 a2_3] 22 (0, 0)) (by (with_reducible repeat (first | refine ze ?_ _ | refine zf ?_ | refine za ?_ _)); exact BK2.out) hb)
    have n2_ := zh.mk (zo (g := g3) (o := .cells #[.int .i64 t196, .int .i64 t197, .int .i64 t198, .int .i64 t199] 23 (0, 0)) (by (with_reducible repeat (first | refine ze ?_ _ | refine zf ?_ | refine za ?_ _)); exact BK3.out) hb)
    have n3_ := zh.mk (zo (g := g4) (o := .cells #[.int .i64 t200, .int .i64 t201, .int .i64 t202, .int .i64 t203] 23 (0, 0)) (by (with_reducible repeat (first | refine ze ?_ _ | refine zf ?_ | refine za ?_ _)); exact BK4.out) hb)
    have n4_ := zh.mk (zo (g := g6) (o := .cells #[.int .i64 0, .int .i64 0, .int .i64 0, .int .i64 0] 23 (0, 0)) (by (with_reducible repeat (first | refine ze ?_ _ | refine zf ?_ | refine za ?_ _)); exact BK6.out) hb)
    have n5_ := zh.mk (zs (by repeat (first | (with_reducible first | exact HB.out | apply zl | apply zj | apply zk | refine zg ?_ GE1.out | refine zg ?_ GE2.out | refine zg ?_ GE3.out | refine zg ?_ GE4.out | refine zg ?_ GE6.out) | exact HB.out)) hb)
    have n6_ := zh.mk (hbox)
    have n7_ := zh.mk ((by rw [hg]; exact (zq (by repeat (first | (with_reducible first | exact HB.out | apply zl | apply zj | apply zk | refine zg ?_ GE1.out | refine zg ?_ GE2.out | refine zg ?_ GE3.out | refine zg ?_ GE4.out | refine zg ?_ GE6.out) | exact HB.out))) : w.heap.size ≤ g5))
    have n8_ := zh.mk ((by rw [hg]; exact (zq (by repeat (first | (with_reducible first | exact HB.out | apply zl | apply zj | apply zk | refine zg ?_ GE1.out | refine zg ?_ GE2.out | refine zg ?_ GE3.out | refine zg ?_ GE4.out | refine zg ?_ GE6.out) | exact HB.out))) : w.heap.size ≤ g5))
    have n9_ := zh.mk ((by rw [hg]; exact Nat.ne_of_lt (zr (g := g1) (o := .cells #[.int .i64 a1_0, .int .i64 a1_1, .int .i64 a1_2, .int .i64 a1_3] 22 (0, 0)) (by (with_reducible repeat (first | refine ze ?_ _ | refine zf ?_ | refine za ?_ _)); exact BK1.out)) : g1 ≠ g5))
    have n10_ := zh.mk ((by rw [hg]; exact Nat.ne_of_gt (zr (g := g1) (o := .cells #[.int .i64 a1_0, .int .i64 a1_1, .int .i64 a1_2, .int .i64 a1_3] 22 (0, 0)) (by (with_reducible repeat (first | refine ze ?_ _ | refine zf ?_ | refine za ?_ _)); exact BK1.out)) : g5 ≠ g1))
    have n11_ := zh.mk ((by rw [hg]; exact Nat.ne_of_lt (zr (g := g2) (o := .cells #[.int .i64 a2_0, .int .i64 a2_1, .int .i64 a2_2, .int .i64 a2_3] 22 (0, 0)) (by (with_reducible repeat (first | refine ze ?_ _ | refine zf ?_ | refine za ?_ _)); exact BK2.out)) : g2 ≠ g5))
    have n12_ := zh.mk ((by rw [hg]; exact Nat.ne_of_gt (zr (g := g2) (o := .cells #[.int .i64 a2_0, .int .i64 a2_1, .int .i64 a2_2, .int .i64 a2_3] 22 (0, 0)) (by (with_reducible repeat (first | refine ze ?_ _ | refine zf ?_ | refine za ?_ _)); exact BK2.out)) : g5 ≠ g2))
    have n13_ := zh.mk ((by rw [hg]; exact Nat.ne_of_lt (zr (g := g3) (o := .cells #[.int .i64 t196, .int .i64 t197, .int .i64 t198, .int .i64 t199] 23 (0, 0)) (by (with_reducible repeat (first | refine ze ?_ _ | refine zf ?_ | refine za ?_ _)); exact BK3.out)) : g3 ≠ g5))
    have n14_ := zh.mk ((by rw [hg]; exact Nat.ne_of_gt (zr (g := g3) (o := .cells #[.int .i64 t196, .int .i64 t197, .int .i64 t198, .int .i64 t199] 23 (0, 0)) (by (with_reducible repeat (first | refine ze ?_ _ | refine zf ?_ | refine za ?_ _)); exact BK3.out)) : g5 ≠ g3))
    have n15_ := zh.mk ((by rw [hg]; exact Nat.ne_of_lt (zr (g := g4) (o := .cells #[.int .i64 t200, .int .i64 t201, .int .i64 t202, .int .i64 t203] 23 (0, 0)) (by (with_reducible repeat (first | refine ze ?_ _ | refine zf ?_ | refine za ?_ _)); exact BK4.out)) : g4 ≠ g5))
    have n16_ := zh.mk ((by rw [hg]; exact Nat.ne_of_gt (zr (g := g4) (o := .cells #[.int .i64 t200, .int .i64 t201, .int .i64 t202, .int .i64 t203] 23 (0, 0)) (by (with_reducible repeat (first | refine ze ?_ _ | refine zf ?_ | refine za ?_ _)); exact BK4.out)) : g5 ≠ g4))
    have n17_ := zh.mk ((by rw [hg]; exact Nat.ne_of_lt (zr (g := g6) (o := .cells #[.int .i64 0, .int .i64 0, .int .i64 0, .int .i64 0] 23 (0, 0)) (by (with_reducible repeat (first | refine ze ?_ _ | refine zf ?_ | refine za ?_ _)); exact BK6.out)) : g6 ≠ g5))
    have n18_ := zh.mk ((by rw [hg]; exact Nat.ne_of_gt (zr (g := g6) (o := .cells #[.int .i64 0, .int .i64 0, .int .i64 0, .int .i64 0] 23 (0, 0)) (by (with_reducible repeat (first | refine ze ?_ _ | refine zf ?_ | refine za ?_ _)); exact BK6.out)) : g5 ≠ g6))
    clear BK1
    clear BK2
    clear BK3
    clear BK4
    clear BK6
    clear HB
    have BK1 := n0_
    have BK2 := n1_
    have BK3 := n2_
    have BK4 := n3_
    have BK6 := n4_
    have HB := n5_
    have BK5 := n6_
    have GW5 := n7_
    have GE5 := n8_
    have N1_5 := n9_
    have N5_1 := n10_
    have N2_5 := n11_
    have N5_2 := n12_
    have N3_5 := n13_
    have N5_3 := n14_
    have N4_5 := n15_
    have N5_4 := n16_
    have N6_5 := n17_
    have N5_6 := n18_
    clear n0_ n1_ n2_ n3_ n4_ n5_ n6_ n7_ n8_ n9_ n10_ n11_ n12_ n13_ n14_ n15_ n16_ n17_ n18_
    clear hb hbox hg
    refine hK.out _ _ ⟨(zi BK1.out 0).trans rfl, (zi BK1.out 1).trans rfl, (zi BK1.out 2).trans rfl, (zi BK1.out 3).trans rfl, (zi BK2.out 0).trans rfl, (zi BK2.out 1).trans rfl, (zi BK2.out 2).trans rfl, (zi BK2.out 3).trans rfl⟩ (fun hHeld => ?_)
    clear hK K
    refine zca (a' := ?_) ?_ ?_
    rotate_left
    ·show Act.put _ (some 10) _ = _
     simp only [Act.put, List.setIfInBounds_toArray, List.set_cons_zero, List.set_cons_succ, zu, zt]
     rfl
    exact zca (by first | (simp only [zy, Act.put, List.setIfInBounds_toArray, List.set_cons_zero, List.set_cons_succ]; done) | (simp only [zy, Act.put, List.setIfInBounds_toArray, List.set_cons_zero, List.set_cons_succ]; rfl)) (hJ2_4_5_10_11 (g5, g6) _ ⟨hHeld, (by (with_reducible repeat (first | refine ze ?_ _ | refine zf ?_ | refine za ?_ _)); exact BK1.out), (by (with_reducible repeat (first | refine ze ?_ _ | refine zf ?_ | refine za ?_ _)); exact BK2.out), (by (with_reducible repeat (first | refine ze ?_ _ | refine zf ?_ | refine za ?_ _)); exact BK3.out), (by (with_reducible repeat (first | refine ze ?_ _ | refine zf ?_ | refine za ?_ _)); exact BK4.out), (by (with_reducible repeat (first | refine ze ?_ _ | refine zf ?_ | refine za ?_ _)); exact BK5.out), (by (with_reducible repeat (first | refine ze ?_ _ | refine zf ?_ | refine za ?_ _)); exact BK6.out), GW5.out, GE5.out, N1_5.out, N5_1.out, N2_5.out, N5_2.out, N3_5.out, N5_3.out, N4_5.out, N5_4.out, N6_5.out, N5_6.out, GW6.out, GE6.out, N1_6.out, N6_1.out, N2_6.out, N6_2.out, N3_6.out, N6_3.out, N4_6.out, N6_4.out, (by repeat (first | (with_reducible first | exact HB.out | apply zl | apply zj | apply zk | refine zg ?_ GE1.out | refine zg ?_ GE2.out | refine zg ?_ GE3.out | refine zg ?_ GE4.out | refine zg ?_ GE6.out | refine zg ?_ GE5.out) | exact HB.out))⟩)
  ·skip
   rintro g5 w38 ⟨hS_, h0_, h1_, h2_, h3_, h4_, h5_, h6_, h7_, h8_, h9_, h10_, h11_, h12_, h13_, h14_, h15_⟩
   have n0_ : zh (w38.heap[g1]? = some (.cells #[.int .i64 a1_0, .int .i64 a1_1, .int .i64 a1_2, .int .i64 a1_3] 22 (0, 0))) := ⟨h0_⟩
   have n1_ : zh (w38.heap[g2]? = some (.cells #[.int .i64 a2_0, .int .i64 a2_1, .int .i64 a2_2, .int .i64 a2_3] 22 (0, 0))) := ⟨h1_⟩
   have n2_ : zh (w38.heap[g3]? = some (.cells #[.int .i64 t196, .int .i64 t197, .int .i64 t198, .int .i64 t199] 23 (0, 0))) := ⟨h2_⟩
   have n3_ : zh (w38.heap[g4]? = some (.cells #[.int .i64 t200, .int .i64 t201, .int .i64 t202, .int .i64 t203] 23 (0, 0))) := ⟨h3_⟩
   have n4_ : zh (w38.heap[g5]? = some (.cells #[.int .i64 0, .int .i64 0, .int .i64 0, .int .i64 0] 23 (0, 0))) := ⟨h4_⟩
   have n5_ : zh (w.heap.size ≤ g5) := ⟨h5_⟩
   have n6_ : zh (w.heap.size ≤ g5) := ⟨h6_⟩
   have n7_ : zh (g1 ≠ g5) := ⟨h7_⟩
   have n8_ : zh (g5 ≠ g1) := ⟨h8_⟩
   have n9_ : zh (g2 ≠ g5) := ⟨h9_⟩
   have n10_ : zh (g5 ≠ g2) := ⟨h10_⟩
   have n11_ : zh (g3 ≠ g5) := ⟨h11_⟩
   have n12_ : zh (g5 ≠ g3) := ⟨h12_⟩
   have n13_ : zh (g4 ≠ g5) := ⟨h13_⟩
   have n14_ : zh (g5 ≠ g4) := ⟨h14_⟩
   have n15_ : zh (Below w.heap.size w w38) := ⟨h15_⟩
   clear BK1
   clear BK2
   clear BK3
   clear BK4
   clear HB
   clear h0_ h1_ h2_ h3_ h4_ h5_ h6_ h7_ h8_ h9_ h10_ h11_ h12_ h13_ h14_ h15_
   have BK1 := n0_
   have BK2 := n1_
   have BK3 := n2_
   have BK4 := n3_
   have BK5 := n4_
   have GW5 := n5_
   have GE5 := n6_
   have N1_5 := n7_
   have N5_1 := n8_
   have N2_5 := n9_
   have N5_2 := n10_
   have N3_5 := n11_
   have N5_3 := n12_
   have N4_5 := n13_
   have N5_4 := n14_
   have HB := n15_
   clear n0_ n1_ n2_ n3_ n4_ n5_ n6_ n7_ n8_ n9_ n10_ n11_ n12_ n13_ n14_ n15_
   have hHeld : w38.cell? ⟨g1, 0, none⟩ = some (.int .i64 a1_0) ∧ w38.cell? ⟨g1, 1, none⟩ = some (.int .i64 a1_1) ∧ w38.cell? ⟨g1, 2, none⟩ = some (.int .i64 a1_2) ∧ w38.cell? ⟨g1, 3, none⟩ = some (.int .i64 a1_3) ∧ w38.cell? ⟨g2, 0, none⟩ = some (.int .i64 a2_0) ∧ w38.cell? ⟨g2, 1, none⟩ = some (.int .i64 a2_1) ∧ w38.cell? ⟨g2, 2, none⟩ = some (.int .i64 a2_2) ∧ w38.cell? ⟨g2, 3, none⟩ = some (.int .i64 a2_3) := hS_
   refine zca (a' := ?_) ?_ ?_
   rotate_left
   ·simp only [zy, Act.put, List.setIfInBounds_toArray, List.set_cons_zero, List.set_cons_succ]
    rfl
   refine one_ (i := 11) (N := some 11) #[true, true, true, true, true, true, true, true, true, true, true, true, false, false, false] rfl rfl (zia HT_.out (by kernel_rfl)) (by decide) (fun K hK => ?_)
   refine zha ?hg (N := 11) ?hd (cs := #[.int .i64 0, .int .i64 0, .int .i64 0, .int .i64 0]) (t := 23) ?hr ?_; (case hd => rfl); (case hg => rfl); (case hr => first | (go_simp; done) | (go_simp; rfl))
   intro g6 hg w39 hbox hb
   have n0_ := zh.mk (zo (g := g1) (o := .cells #[.int .i64 a1_0, .int .i64 a1_1, .int .i64 a1_2, .int .i64 a1_3] 22 (0, 0)) (by (with_reducible repeat (first | refine ze ?_ _ | refine zf ?_ | refine za ?_ _)); exact BK1.out) hb)
   have n1_ := zh.mk (zo (g := g2) (o := .cells #[.int .i64 a2_0, .int .i64 a2_1, .int .i64 a2_2, .int .i64 a2_3] 22 (0, 0)) (by (with_reducible repeat (first | refine ze ?_ _ | refine zf ?_ | refine za ?_ _)); exact BK2.out) hb)
   have n2_ := zh.mk (zo (g := g3) (o := .cells #[.int .i64 t196, .int .i64 t197, .int .i64 t198, .int .i64 t199] 23 (0, 0)) (by (with_reducible repeat (first | refine ze ?_ _ | refine zf ?_ | refine za ?_ _)); exact BK3.out) hb)
   have n3_ := zh.mk (zo (g := g4) (o := .cells #[.int .i64 t200, .int .i64 t201, .int .i64 t202, .int .i64 t203] 23 (0, 0)) (by (with_reducible repeat (first | refine ze ?_ _ | refine zf ?_ | refine za ?_ _)); exact BK4.out) hb)
   have n4_ := zh.mk (zo (g := g5) (o := .cells #[.int .i64 0, .int .i64 0, .int .i64 0, .int .i64 0] 23 (0, 0)) (by (with_reducible repeat (first | refine ze ?_ _ | refine zf ?_ | refine za ?_ _)); exact BK5.out) hb)
   have n5_ := zh.mk (zs (by repeat (first | (with_reducible first | exact HB.out | apply zl | apply zj | apply zk | refine zg ?_ GE1.out | refine zg ?_ GE2.out | refine zg ?_ GE3.out | refine zg ?_ GE4.out | refine zg ?_ GE5.out) | exact HB.out)) hb)
   have n6_ := zh.mk (hbox)
   have n7_ := zh.mk ((by rw [hg]; exact (zq (by repeat (first | (with_reducible first | exact HB.out | apply zl | apply zj | apply zk | refine zg ?_ GE1.out | refine zg ?_ GE2.out | refine zg ?_ GE3.out | refine zg ?_ GE4.out | refine zg ?_ GE5.out) | exact HB.out))) : w.heap.size ≤ g6))
   have n8_ := zh.mk ((by rw [hg]; exact (zq (by repeat (first | (with_reducible first | exact HB.out | apply zl | apply zj | apply zk | refine zg ?_ GE1.out | refine zg ?_ GE2.out | refine zg ?_ GE3.out | refine zg ?_ GE4.out | refine zg ?_ GE5.out) | exact HB.out))) : w.heap.size ≤ g6))
   have n9_ := zh.mk ((by rw [hg]; exact Nat.ne_of_lt (zr (g := g1) (o := .cells #[.int .i64 a1_0, .int .i64 a1_1, .int .i64 a1_2, .int .i64 a1_3] 22 (0, 0)) (by (with_reducible repeat (first | refine ze ?_ _ | refine zf ?_ | refine za ?_ _)); exact BK1.out)) : g1 ≠ g6))
   have n10_ := zh.mk ((by rw [hg]; exact Nat.ne_of_gt (zr (g := g1) (o := .cells #[.int .i64 a1_0, .int .i64 a1_1, .int .i64 a1_2, .int .i64 a1_3] 22 (0, 0)) (by (with_reducible repeat (first | refine ze ?_ _ | refine zf ?_ | refine za ?_ _)); exact BK1.out)) : g6 ≠ g1))
   have n11_ := zh.mk ((by rw [hg]; exact Nat.ne_of_lt (zr (g := g2) (o := .cells #[.int .i64 a2_0, .int .i64 a2_1, .int .i64 a2_2, .int .i64 a2_3] 22 (0, 0)) (by (with_reducible repeat (first | refine ze ?_ _ | refine zf ?_ | refine za ?_ _)); exact BK2.out)) : g2 ≠ g6))
   have n12_ := zh.mk ((by rw [hg]; exact Nat.ne_of_gt (zr (g := g2) (o := .cells #[.int .i64 a2_0, .int .i64 a2_1, .int .i64 a2_2, .int .i64 a2_3] 22 (0, 0)) (by (with_reducible repeat (first | refine ze ?_ _ | refine zf ?_ | refine za ?_ _)); exact BK2.out)) : g6 ≠ g2))
   have n13_ := zh.mk ((by rw [hg]; exact Nat.ne_of_lt (zr (g := g3) (o := .cells #[.int .i64 t196, .int .i64 t197, .int .i64 t198, .int .i64 t199] 23 (0, 0)) (by (with_reducible repeat (first | refine ze ?_ _ | refine zf ?_ | refine za ?_ _)); exact BK3.out)) : g3 ≠ g6))
   have n14_ := zh.mk ((by rw [hg]; exact Nat.ne_of_gt (zr (g := g3) (o := .cells #[.int .i64 t196, .int .i64 t197, .int .i64 t198, .int .i64 t199] 23 (0, 0)) (by (with_reducible repeat (first | refine ze ?_ _ | refine zf ?_ | refine za ?_ _)); exact BK3.out)) : g6 ≠ g3))
   have n15_ := zh.mk ((by rw [hg]; exact Nat.ne_of_lt (zr (g := g4) (o := .cells #[.int .i64 t200, .int .i64 t201, .int .i64 t202, .int .i64 t203] 23 (0, 0)) (by (with_reducible repeat (first | refine ze ?_ _ | refine zf ?_ | refine za ?_ _)); exact BK4.out)) : g4 ≠ g6))
   have n16_ := zh.mk ((by rw [hg]; exact Nat.ne_of_gt (zr (g := g4) (o := .cells #[.int .i64 t200, .int .i64 t201, .int .i64 t202, .int .i64 t203] 23 (0, 0)) (by (with_reducible repeat (first | refine ze ?_ _ | refine zf ?_ | refine za ?_ _)); exact BK4.out)) : g6 ≠ g4))
   have n17_ := zh.mk ((by rw [hg]; exact Nat.ne_of_lt (zr (g := g5) (o := .cells #[.int .i64 0, .int .i64 0, .int .i64 0, .int .i64 0] 23 (0, 0)) (by (with_reducible repeat (first | refine ze ?_ _ | refine zf ?_ | refine za ?_ _)); exact BK5.out)) : g5 ≠ g6))
   have n18_ := zh.mk ((by rw [hg]; exact Nat.ne_of_gt (zr (g := g5) (o := .cells #[.int .i64 0, .int .i64 0, .int .i64 0, .int .i64 0] 23 (0, 0)) (by (with_reducible repeat (first | refine ze ?_ _ | refine zf ?_ | refine za ?_ _)); exact BK5.out)) : g6 ≠ g5))
   clear BK1
   clear BK2
   clear BK3
   clear BK4
   clear BK5
   clear HB
   have BK1 := n0_
   have BK2 := n1_
   have BK3 := n2_
   have BK4 := n3_
   have BK5 := n4_
   have HB := n5_
   have BK6 := n6_
   have GW6 := n7_
   have GE6 := n8_
   have N1_6 := n9_
   have N6_1 := n10_
   have N2_6 := n11_
   have N6_2 := n12_
   have N3_6 := n13_
   have N6_3 := n14_
   have N4_6 := n15_
   have N6_4 := n16_
   have N5_6 := n17_
   have N6_5 := n18_
   clear n0_ n1_ n2_ n3_ n4_ n5_ n6_ n7_ n8_ n9_ n10_ n11_ n12_ n13_ n14_ n15_ n16_ n17_ n18_
   clear hb hbox hg
   refine hK.out _ _ ⟨(zi BK1.out 0).trans rfl, (zi BK1.out 1).trans rfl, (zi BK1.out 2).trans rfl, (zi BK1.out 3).trans rfl, (zi BK2.out 0).trans rfl, (zi BK2.out 1).trans rfl, (zi BK2.out 2).trans rfl, (zi BK2.out 3).trans rfl⟩ (fun hHeld => ?_)
   clear hK K
   refine zca (a' := ?_) ?_ ?_
   rotate_left
   ·show Act.put _ (some 11) _ = _
    simp only [Act.put, List.setIfInBounds_toArray, List.set_cons_zero, List.set_cons_succ, zu, zt]
    rfl
   exact zca (by first | (simp only [zy, Act.put, List.setIfInBounds_toArray, List.set_cons_zero, List.set_cons_succ]; done) | (simp only [zy, Act.put, List.setIfInBounds_toArray, List.set_cons_zero, List.set_cons_succ]; rfl)) (hJ2_4_5_10_11 (g5, g6) _ ⟨hHeld, (by (with_reducible repeat (first | refine ze ?_ _ | refine zf ?_ | refine za ?_ _)); exact BK1.out), (by (with_reducible repeat (first | refine ze ?_ _ | refine zf ?_ | refine za ?_ _)); exact BK2.out), (by (with_reducible repeat (first | refine ze ?_ _ | refine zf ?_ | refine za ?_ _)); exact BK3.out), (by (with_reducible repeat (first | refine ze ?_ _ | refine zf ?_ | refine za ?_ _)); exact BK4.out), (by (with_reducible repeat (first | refine ze ?_ _ | refine zf ?_ | refine za ?_ _)); exact BK5.out), (by (with_reducible repeat (first | refine ze ?_ _ | refine zf ?_ | refine za ?_ _)); exact BK6.out), GW5.out, GE5.out, N1_5.out, N5_1.out, N2_5.out, N5_2.out, N3_5.out, N5_3.out, N4_5.out, N5_4.out, N6_5.out, N5_6.out, GW6.out, GE6.out, N1_6.out, N6_1.out, N2_6.out, N6_2.out, N3_6.out, N6_3.out, N4_6.out, N6_4.out, (by repeat (first | (with_reducible first | exact HB.out | apply zl | apply zj | apply zk | refine zg ?_ GE1.out | refine zg ?_ GE2.out | refine zg ?_ GE3.out | refine zg ?_ GE4.out | refine zg ?_ GE5.out | refine zg ?_ GE6.out) | exact HB.out))⟩)
 rintro ⟨g5, g6⟩ w39 ⟨hS_, h0_, h1_, h2_, h3_, h4_, h5_, h6_, h7_, h8_, h9_, h10_, h11_, h12_, h13_, h14_, h15_, h16_, h17_, h18_, h19_, h20_, h21_, h22_, h23_, h24_, h25_, h26_, h27_, h28_⟩
 have n0_ : zh (w39.heap[g1]? = some (.cells #[.int .i64 a1_0, .int .i64 a1_1, .int .i64 a1_2, .int .i64 a1_3] 22 (0, 0))) := ⟨h0_⟩
 have n1_ : zh (w39.heap[g2]? = some (.cells #[.int .i64 a2_0, .int .i64 a2_1, .int .i64 a2_2, .int .i64 a2_3] 22 (0, 0))) := ⟨h1_⟩
 have n2_ : zh (w39.heap[g3]? = some (.cells #[.int .i64 t196, .int .i64 t197, .int .i64 t198, .int .i64 t199] 23 (0, 0))) := ⟨h2_⟩
 have n3_ : zh (w39.heap[g4]? = some (.cells #[.int .i64 t200, .int .i64 t201, .int .i64 t202, .int .i64 t203] 23 (0, 0))) := ⟨h3_⟩
 have n4_ : zh (w39.heap[g5]? = some (.cells #[.int .i64 0, .int .i64 0, .int .i64 0, .int .i64 0] 23 (0, 0))) := ⟨h4_⟩
 have n5_ : zh (w39.heap[g6]? = some (.cells #[.int .i64 0, .int .i64 0, .int .i64 0, .int .i64 0] 23 (0, 0))) := ⟨h5_⟩
 have n6_ : zh (w.heap.size ≤ g5) := ⟨h6_⟩
 have n7_ : zh (w.heap.size ≤ g5) := ⟨h7_⟩
 have n8_ : zh (g1 ≠ g5) := ⟨h8_⟩
 have n9_ : zh (g5 ≠ g1) := ⟨h9_⟩
 have n10_ : zh (g2 ≠ g5) := ⟨h10_⟩
 have n11_ : zh (g5 ≠ g2) := ⟨h11_⟩
 have n12_ : zh (g3 ≠ g5) := ⟨h12_⟩
 have n13_ : zh (g5 ≠ g3) := ⟨h13_⟩
 have n14_ : zh (g4 ≠ g5) := ⟨h14_⟩
 have n15_ : zh (g5 ≠ g4) := ⟨h15_⟩
 have n16_ : zh (g6 ≠ g5) := ⟨h16_⟩
 have n17_ : zh (g5 ≠ g6) := ⟨h17_⟩
 have n18_ : zh (w.heap.size ≤ g6) := ⟨h18_⟩
 have n19_ : zh (w.heap.size ≤ g6) := ⟨h19_⟩
 have n20_ : zh (g1 ≠ g6) := ⟨h20_⟩
 have n21_ : zh (g6 ≠ g1) := ⟨h21_⟩
 have n22_ : zh (g2 ≠ g6) := ⟨h22_⟩
 have n23_ : zh (g6 ≠ g2) := ⟨h23_⟩
 have n24_ : zh (g3 ≠ g6) := ⟨h24_⟩
 have n25_ : zh (g6 ≠ g3) := ⟨h25_⟩
 have n26_ : zh (g4 ≠ g6) := ⟨h26_⟩
 have n27_ : zh (g6 ≠ g4) := ⟨h27_⟩
 have n28_ : zh (Below w.heap.size w w39) := ⟨h28_⟩
 clear BK1
 clear BK2
 clear BK3
 clear BK4
 clear HB
 clear h0_ h1_ h2_ h3_ h4_ h5_ h6_ h7_ h8_ h9_ h10_ h11_ h12_ h13_ h14_ h15_ h16_ h17_ h18_ h19_ h20_ h21_ h22_ h23_ h24_ h25_ h26_ h27_ h28_
 have BK1 := n0_
 have BK2 := n1_
 have BK3 := n2_
 have BK4 := n3_
 have BK5 := n4_
 have BK6 := n5_
 have GW5 := n6_
 have GE5 := n7_
 have N1_5 := n8_
 have N5_1 := n9_
 have N2_5 := n10_
 have N5_2 := n11_
 have N3_5 := n12_
 have N5_3 := n13_
 have N4_5 := n14_
 have N5_4 := n15_
 have N6_5 := n16_
 have N5_6 := n17_
 have GW6 := n18_
 have GE6 := n19_
 have N1_6 := n20_
 have N6_1 := n21_
 have N2_6 := n22_
 have N6_2 := n23_
 have N3_6 := n24_
 have N6_3 := n25_
 have N4_6 := n26_
 have N6_4 := n27_
 have HB := n28_
 clear n0_ n1_ n2_ n3_ n4_ n5_ n6_ n7_ n8_ n9_ n10_ n11_ n12_ n13_ n14_ n15_ n16_ n17_ n18_ n19_ n20_ n21_ n22_ n23_ n24_ n25_ n26_ n27_ n28_
 have hHeld : w39.cell? ⟨g1, 0, none⟩ = some (.int .i64 a1_0) ∧ w39.cell? ⟨g1, 1, none⟩ = some (.int .i64 a1_1) ∧ w39.cell? ⟨g1, 2, none⟩ = some (.int .i64 a1_2) ∧ w39.cell? ⟨g1, 3, none⟩ = some (.int .i64 a1_3) ∧ w39.cell? ⟨g2, 0, none⟩ = some (.int .i64 a2_0) ∧ w39.cell? ⟨g2, 1, none⟩ = some (.int .i64 a2_1) ∧ w39.cell? ⟨g2, 2, none⟩ = some (.int .i64 a2_2) ∧ w39.cell? ⟨g2, 3, none⟩ = some (.int .i64 a2_3) := hS_
 refine zca (a' := ?_) ?_ ?_
 rotate_left
 ·simp only [zy, Act.put, List.setIfInBounds_toArray, List.set_cons_zero, List.set_cons_succ]
  rfl
 refine one_ (i := 12) (N := none) #[true, true, true, true, true, true, true, true, true, true, true, true, true, false, false] rfl rfl (zia HT_.out (by kernel_rfl)) (by decide) (fun K hK => ?_)
 have hs40 : w39.cell? ⟨g5, 0, none⟩ = some (.int .i64 0) := (zi BK5.out 0).trans rfl
 have hfs40 := zm BK5.out 0
 have hns40_0 := N1_5.out
 have hns40_1 := N2_5.out
 have hns40_2 := N3_5.out
 have hns40_3 := N4_5.out
 have hns40_5 := N6_5.out
 have hms40_0 := N5_1.out
 have hms40_1 := N5_2.out
 have hms40_2 := N5_3.out
 have hms40_3 := N5_4.out
 have hms40_5 := N5_6.out
 have hs41 : w39.cell? ⟨g5, 1, none⟩ = some (.int .i64 0) := (zi BK5.out 1).trans rfl
 have hfs41 := zm BK5.out 1
 have hns41_0 := N1_5.out
 have hns41_1 := N2_5.out
 have hns41_2 := N3_5.out
 have hns41_3 := N4_5.out
 have hns41_5 := N6_5.out
 have hms41_0 := N5_1.out
 have hms41_1 := N5_2.out
 have hms41_2 := N5_3.out
 have hms41_3 := N5_4.out
 have hms41_5 := N5_6.out
 have hs42 : w39.cell? ⟨g5, 2, none⟩ = some (.int .i64 0) := (zi BK5.out 2).trans rfl
 have hfs42 := zm BK5.out 2
 have hns42_0 := N1_5.out
 have hns42_1 := N2_5.out
 have hns42_2 := N3_5.out
 have hns42_3 := N4_5.out
 have hns42_5 := N6_5.out
 have hms42_0 := N5_1.out
 have hms42_1 := N5_2.out
 have hms42_2 := N5_3.out
 have hms42_3 := N5_4.out
 have hms42_5 := N5_6.out
 have hs43 : w39.cell? ⟨g5, 3, none⟩ = some (.int .i64 0) := (zi BK5.out 3).trans rfl
 have hfs43 := zm BK5.out 3
 have hns43_0 := N1_5.out
 have hns43_1 := N2_5.out
 have hns43_2 := N3_5.out
 have hns43_3 := N4_5.out
 have hns43_5 := N6_5.out
 have hms43_0 := N5_1.out
 have hms43_1 := N5_2.out
 have hms43_2 := N5_3.out
 have hms43_3 := N5_4.out
 have hms43_5 := N5_6.out
 refine zma (w1 := ?_) (by rfl) rfl ?_ ?_
 rotate_left
 ·go_simp
  rfl
 refine hK.out _ _ ⟨((zn (p := ⟨g5, _, none⟩) N1_5.out _).trans (((zn (p := ⟨g5, _, none⟩) N1_5.out _).trans (((zn (p := ⟨g5, _, none⟩) N1_5.out _).trans (((zn (p := ⟨g5, _, none⟩) N1_5.out _).trans (hHeld.1)))))))), ((zn (p := ⟨g5, _, none⟩) N1_5.out _).trans (((zn (p := ⟨g5, _, none⟩) N1_5.out _).trans (((zn (p := ⟨g5, _, none⟩) N1_5.out _).trans (((zn (p := ⟨g5, _, none⟩) N1_5.out _).trans (hHeld.2.1)))))))), ((zn (p := ⟨g5, _, none⟩) N1_5.out _).trans (((zn (p := ⟨g5, _, none⟩) N1_5.out _).trans (((zn (p := ⟨g5, _, none⟩) N1_5.out _).trans (((zn (p := ⟨g5, _, none⟩) N1_5.out _).trans (hHeld.2.2.1)))))))), ((zn (p := ⟨g5, _, none⟩) N1_5.out _).trans (((zn (p := ⟨g5, _, none⟩) N1_5.out _).trans (((zn (p := ⟨g5, _, none⟩) N1_5.out _).trans (((zn (p := ⟨g5, _, none⟩) N1_5.out _).trans (hHeld.2.2.2.1)))))))), ((zn (p := ⟨g5, _, none⟩) N2_5.out _).trans (((zn (p := ⟨g5, _, none⟩) N2_5.out _).trans (((zn (p := ⟨g5, _, none⟩) N2_5.out _).trans (((zn (p := ⟨g5, _, none⟩) N2_5.out _).trans (hHeld.2.2.2.2.1)))))))), ((zn (p := ⟨g5, _, none⟩) N2_5.out _).trans (((zn (p := ⟨g5, _, none⟩) N2_5.out _).trans (((zn (p := ⟨g5, _, none⟩) N2_5.out _).trans (((zn (p := ⟨g5, _, none⟩) N2_5.out _).trans (hHeld.2.2.2.2.2.1)))))))), ((zn (p := ⟨g5, _, none⟩) N2_5.out _).trans (((zn (p := ⟨g5, _, none⟩) N2_5.out _).trans (((zn (p := ⟨g5, _, none⟩) N2_5.out _).trans (((zn (p := ⟨g5, _, none⟩) N2_5.out _).trans (hHeld.2.2.2.2.2.2.1)))))))), ((zn (p := ⟨g5, _, none⟩) N2_5.out _).trans (((zn (p := ⟨g5, _, none⟩) N2_5.out _).trans (((zn (p := ⟨g5, _, none⟩) N2_5.out _).trans (((zn (p := ⟨g5, _, none⟩) N2_5.out _).trans (hHeld.2.2.2.2.2.2.2))))))))⟩ (fun hHeld => ?_)
 clear hK K
 refine one_ (i := 13) (N := none) #[true, true, true, true, true, true, true, true, true, true, true, true, true, true, false] rfl rfl (zia HT_.out (by kernel_rfl)) (by decide) (fun K hK => ?_)
 have hs44 : w39.cell? ⟨g6, 0, none⟩ = some (.int .i64 0) := (zi BK6.out 0).trans rfl
 have hfs44 := zm BK6.out 0
 have hns44_0 := N1_6.out
 have hns44_1 := N2_6.out
 have hns44_2 := N3_6.out
 have hns44_3 := N4_6.out
 have hns44_4 := N5_6.out
 have hms44_0 := N6_1.out
 have hms44_1 := N6_2.out
 have hms44_2 := N6_3.out
 have hms44_3 := N6_4.out
 have hms44_4 := N6_5.out
 have hs45 : w39.cell? ⟨g6, 1, none⟩ = some (.int .i64 0) := (zi BK6.out 1).trans rfl
 have hfs45 := zm BK6.out 1
 have hns45_0 := N1_6.out
 have hns45_1 := N2_6.out
 have hns45_2 := N3_6.out
 have hns45_3 := N4_6.out
 have hns45_4 := N5_6.out
 have hms45_0 := N6_1.out
 have hms45_1 := N6_2.out
 have hms45_2 := N6_3.out
 have hms45_3 := N6_4.out
 have hms45_4 := N6_5.out
 have hs46 : w39.cell? ⟨g6, 2, none⟩ = some (.int .i64 0) := (zi BK6.out 2).trans rfl
 have hfs46 := zm BK6.out 2
 have hns46_0 := N1_6.out
 have hns46_1 := N2_6.out
 have hns46_2 := N3_6.out
 have hns46_3 := N4_6.out
 have hns46_4 := N5_6.out
 have hms46_0 := N6_1.out
 have hms46_1 := N6_2.out
 have hms46_2 := N6_3.out
 have hms46_3 := N6_4.out
 have hms46_4 := N6_5.out
 have hs47 : w39.cell? ⟨g6, 3, none⟩ = some (.int .i64 0) := (zi BK6.out 3).trans rfl
 have hfs47 := zm BK6.out 3
 have hns47_0 := N1_6.out
 have hns47_1 := N2_6.out
 have hns47_2 := N3_6.out
 have hns47_3 := N4_6.out
 have hns47_4 := N5_6.out
 have hms47_0 := N6_1.out
 have hms47_1 := N6_2.out
 have hms47_2 := N6_3.out
 have hms47_3 := N6_4.out
 have hms47_4 := N6_5.out
 refine zma (w1 := ?_) (by rfl) rfl ?_ ?_
 rotate_left
 ·go_simp
  rfl
 refine hK.out _ _ ⟨((zn (p := ⟨g6, _, none⟩) N1_6.out _).trans (((zn (p := ⟨g6, _, none⟩) N1_6.out _).trans (((zn (p := ⟨g6, _, none⟩) N1_6.out _).trans (((zn (p := ⟨g6, _, none⟩) N1_6.out _).trans (hHeld.1)))))))), ((zn (p := ⟨g6, _, none⟩) N1_6.out _).trans (((zn (p := ⟨g6, _, none⟩) N1_6.out _).trans (((zn (p := ⟨g6, _, none⟩) N1_6.out _).trans (((zn (p := ⟨g6, _, none⟩) N1_6.out _).trans (hHeld.2.1)))))))), ((zn (p := ⟨g6, _, none⟩) N1_6.out _).trans (((zn (p := ⟨g6, _, none⟩) N1_6.out _).trans (((zn (p := ⟨g6, _, none⟩) N1_6.out _).trans (((zn (p := ⟨g6, _, none⟩) N1_6.out _).trans (hHeld.2.2.1)))))))), ((zn (p := ⟨g6, _, none⟩) N1_6.out _).trans (((zn (p := ⟨g6, _, none⟩) N1_6.out _).trans (((zn (p := ⟨g6, _, none⟩) N1_6.out _).trans (((zn (p := ⟨g6, _, none⟩) N1_6.out _).trans (hHeld.2.2.2.1)))))))), ((zn (p := ⟨g6, _, none⟩) N2_6.out _).trans (((zn (p := ⟨g6, _, none⟩) N2_6.out _).trans (((zn (p := ⟨g6, _, none⟩) N2_6.out _).trans (((zn (p := ⟨g6, _, none⟩) N2_6.out _).trans (hHeld.2.2.2.2.1)))))))), ((zn (p := ⟨g6, _, none⟩) N2_6.out _).trans (((zn (p := ⟨g6, _, none⟩) N2_6.out _).trans (((zn (p := ⟨g6, _, none⟩) N2_6.out _).trans (((zn (p := ⟨g6, _, none⟩) N2_6.out _).trans (hHeld.2.2.2.2.2.1)))))))), ((zn (p := ⟨g6, _, none⟩) N2_6.out _).trans (((zn (p := ⟨g6, _, none⟩) N2_6.out _).trans (((zn (p := ⟨g6, _, none⟩) N2_6.out _).trans (((zn (p := ⟨g6, _, none⟩) N2_6.out _).trans (hHeld.2.2.2.2.2.2.1)))))))), ((zn (p := ⟨g6, _, none⟩) N2_6.out _).trans (((zn (p := ⟨g6, _, none⟩) N2_6.out _).trans (((zn (p := ⟨g6, _, none⟩) N2_6.out _).trans (((zn (p := ⟨g6, _, none⟩) N2_6.out _).trans (hHeld.2.2.2.2.2.2.2))))))))⟩ (fun hHeld => ?_)
 clear hK K
 refine zx (i := 14) (N := some 12) (v := ?_) (a' := ?_) #[true, true, true, true, true, true, true, true, true, true, true, true, true, true, true] rfl rfl (zv HT_.out (by kernel_rfl)) (fun _ _ _ h => h) (Or.inl ⟨by rfl, ?_⟩) ?_ ?_
 rotate_left
 ·intro w'
  go_simp
  with_reducible rfl
 rotate_left
 ·simp only [Act.put, List.setIfInBounds_toArray, List.set_cons_zero, List.set_cons_succ, zu, zt]
  rfl
 refine zqa (zja HT_.out (by kernel_rfl)) ?_
 show K _ _
 have n0_ : zh (((((((((w39.setCell ⟨g5, 0, none⟩ (.int .i64 t215)).setCell ⟨g5, 1, none⟩ (.int .i64 t216)).setCell ⟨g5, 2, none⟩ (.int .i64 t217)).setCell ⟨g5, 3, none⟩ (.int .i64 t218)).setCell ⟨g6, 0, none⟩ (.int .i64 t219)).setCell ⟨g6, 1, none⟩ (.int .i64 t220)).setCell ⟨g6, 2, none⟩ (.int .i64 t221)).setCell ⟨g6, 3, none⟩ (.int .i64 t222)).heap[g1]? = some (.cells #[.int .i64 a1_0, .int .i64 a1_1, .int .i64 a1_2, .int .i64 a1_3] 22 (0, 0))) := ⟨by (with_reducible repeat (first | refine ze ?_ _ | refine zf ?_ | refine za ?_ _)); refine zp ?_ N1_6.out _; (with_reducible repeat (first | refine ze ?_ _ | refine zf ?_ | refine za ?_ _)); refine zp ?_ N1_6.out _; (with_reducible repeat (first | refine ze ?_ _ | refine zf ?_ | refine za ?_ _)); refine zp ?_ N1_6.out _; (with_reducible repeat (first | refine ze ?_ _ | refine zf ?_ | refine za ?_ _)); refine zp ?_ N1_6.out _; (with_reducible repeat (first | refine ze ?_ _ | refine zf ?_ | refine za ?_ _)); refine zp ?_ N1_5.out _; (with_reducible repeat (first | refine ze ?_ _ | refine zf ?_ | refine za ?_ _)); refine zp ?_ N1_5.out _; (with_reducible repeat (first | refine ze ?_ _ | refine zf ?_ | refine za ?_ _)); refine zp ?_ N1_5.out _; (with_reducible repeat (first | refine ze ?_ _ | refine zf ?_ | refine za ?_ _)); refine zp ?_ N1_5.out _; (with_reducible repeat (first | refine ze ?_ _ | refine zf ?_ | refine za ?_ _)); exact BK1.out⟩
 have n1_ : zh (((((((((w39.setCell ⟨g5, 0, none⟩ (.int .i64 t215)).setCell ⟨g5, 1, none⟩ (.int .i64 t216)).setCell ⟨g5, 2, none⟩ (.int .i64 t217)).setCell ⟨g5, 3, none⟩ (.int .i64 t218)).setCell ⟨g6, 0, none⟩ (.int .i64 t219)).setCell ⟨g6, 1, none⟩ (.int .i64 t220)).setCell ⟨g6, 2, none⟩ (.int .i64 t221)).setCell ⟨g6, 3, none⟩ (.int .i64 t222)).heap[g2]? = some (.cells #[.int .i64 a2_0, .int .i64 a2_1, .int .i64 a2_2, .int .i64 a2_3] 22 (0, 0))) := ⟨by (with_reducible repeat (first | refine ze ?_ _ | refine zf ?_ | refine za ?_ _)); refine zp ?_ N2_6.out _; (with_reducible repeat (first | refine ze ?_ _ | refine zf ?_ | refine za ?_ _)); refine zp ?_ N2_6.out _; (with_reducible repeat (first | refine ze ?_ _ | refine zf ?_ | refine za ?_ _)); refine zp ?_ N2_6.out _; (with_reducible repeat (first | refine ze ?_ _ | refine zf ?_ | refine za ?_ _)); refine zp ?_ N2_6.out _; (with_reducible repeat (first | refine ze ?_ _ | refine zf ?_ | refine za ?_ _)); refine zp ?_ N2_5.out _; (with_reducible repeat (first | refine ze ?_ _ | refine zf ?_ | refine za ?_ _)); refine zp ?_ N2_5.out _; (with_reducible repeat (first | refine ze ?_ _ | refine zf ?_ | refine za ?_ _)); refine zp ?_ N2_5.out _; (with_reducible repeat (first | refine ze ?_ _ | refine zf ?_ | refine za ?_ _)); refine zp ?_ N2_5.out _; (with_reducible repeat (first | refine ze ?_ _ | refine zf ?_ | refine za ?_ _)); exact BK2.out⟩
 have n2_ : zh (((((((((w39.setCell ⟨g5, 0, none⟩ (.int .i64 t215)).setCell ⟨g5, 1, none⟩ (.int .i64 t216)).setCell ⟨g5, 2, none⟩ (.int .i64 t217)).setCell ⟨g5, 3, none⟩ (.int .i64 t218)).setCell ⟨g6, 0, none⟩ (.int .i64 t219)).setCell ⟨g6, 1, none⟩ (.int .i64 t220)).setCell ⟨g6, 2, none⟩ (.int .i64 t221)).setCell ⟨g6, 3, none⟩ (.int .i64 t222)).heap[g3]? = some (.cells #[.int .i64 t196, .int .i64 t197, .int .i64 t198, .int .i64 t199] 23 (0, 0))) := ⟨by (with_reducible repeat (first | refine ze ?_ _ | refine zf ?_ | refine za ?_ _)); refine zp ?_ N3_6.out _; (with_reducible repeat (first | refine ze ?_ _ | refine zf ?_ | refine za ?_ _)); refine zp ?_ N3_6.out _; (with_reducible repeat (first | refine ze ?_ _ | refine zf ?_ | refine za ?_ _)); refine zp ?_ N3_6.out _; (with_reducible repeat (first | refine ze ?_ _ | refine zf ?_ | refine za ?_ _)); refine zp ?_ N3_6.out _; (with_reducible repeat (first | refine ze ?_ _ | refine zf ?_ | refine za ?_ _)); refine zp ?_ N3_5.out _; (with_reducible repeat (first | refine ze ?_ _ | refine zf ?_ | refine za ?_ _)); refine zp ?_ N3_5.out _; (with_reducible repeat (first | refine ze ?_ _ | refine zf ?_ | refine za ?_ _)); refine zp ?_ N3_5.out _; (with_reducible repeat (first | refine ze ?_ _ | refine zf ?_ | refine za ?_ _)); refine zp ?_ N3_5.out _; (with_reducible repeat (first | refine ze ?_ _ | refine zf ?_ | refine za ?_ _)); exact BK3.out⟩
 have n3_ : zh (((((((((w39.setCell ⟨g5, 0, none⟩ (.int .i64 t215)).setCell ⟨g5, 1, none⟩ (.int .i64 t216)).setCell ⟨g5, 2, none⟩ (.int .i64 t217)).setCell ⟨g5, 3, none⟩ (.int .i64 t218)).setCell ⟨g6, 0, none⟩ (.int .i64 t219)).setCell ⟨g6, 1, none⟩ (.int .i64 t220)).setCell ⟨g6, 2, none⟩ (.int .i64 t221)).setCell ⟨g6, 3, none⟩ (.int .i64 t222)).heap[g4]? = some (.cells #[.int .i64 t200, .int .i64 t201, .int .i64 t202, .int .i64 t203] 23 (0, 0))) := ⟨by (with_reducible repeat (first | refine ze ?_ _ | refine zf ?_ | refine za ?_ _)); refine zp ?_ N4_6.out _; (with_reducible repeat (first | refine ze ?_ _ | refine zf ?_ | refine za ?_ _)); refine zp ?_ N4_6.out _; (with_reducible repeat (first | refine ze ?_ _ | refine zf ?_ | refine za ?_ _)); refine zp ?_ N4_6.out _; (with_reducible repeat (first | refine ze ?_ _ | refine zf ?_ | refine za ?_ _)); refine zp ?_ N4_6.out _; (with_reducible repeat (first | refine ze ?_ _ | refine zf ?_ | refine za ?_ _)); refine zp ?_ N4_5.out _; (with_reducible repeat (first | refine ze ?_ _ | refine zf ?_ | refine za ?_ _)); refine zp ?_ N4_5.out _; (with_reducible repeat (first | refine ze ?_ _ | refine zf ?_ | refine za ?_ _)); refine zp ?_ N4_5.out _; (with_reducible repeat (first | refine ze ?_ _ | refine zf ?_ | refine za ?_ _)); refine zp ?_ N4_5.out _; (with_reducible repeat (first | refine ze ?_ _ | refine zf ?_ | refine za ?_ _)); exact BK4.out⟩
 have n4_ : zh (((((((((w39.setCell ⟨g5, 0, none⟩ (.int .i64 t215)).setCell ⟨g5, 1, none⟩ (.int .i64 t216)).setCell ⟨g5, 2, none⟩ (.int .i64 t217)).setCell ⟨g5, 3, none⟩ (.int .i64 t218)).setCell ⟨g6, 0, none⟩ (.int .i64 t219)).setCell ⟨g6, 1, none⟩ (.int .i64 t220)).setCell ⟨g6, 2, none⟩ (.int .i64 t221)).setCell ⟨g6, 3, none⟩ (.int .i64 t222)).heap[g5]? = some (.cells #[.int .i64 t215, .int .i64 t216, .int .i64 t217, .int .i64 t218] 23 (0, 0))) := ⟨by (with_reducible repeat (first | refine ze ?_ _ | refine zf ?_ | refine za ?_ _)); refine zp ?_ N5_6.out _; (with_reducible repeat (first | refine ze ?_ _ | refine zf ?_ | refine za ?_ _)); refine zp ?_ N5_6.out _; (with_reducible repeat (first | refine ze ?_ _ | refine zf ?_ | refine za ?_ _)); refine zp ?_ N5_6.out _; (with_reducible repeat (first | refine ze ?_ _ | refine zf ?_ | refine za ?_ _)); refine zp ?_ N5_6.out _; (with_reducible repeat (first | refine ze ?_ _ | refine zf ?_ | refine za ?_ _)); refine zw (cs := #[.int .i64 t215, .int .i64 t216, .int .i64 t217, .int .i64 0]) ?_ 3 _ rfl; (with_reducible repeat (first | refine ze ?_ _ | refine zf ?_ | refine za ?_ _)); refine zw (cs := #[.int .i64 t215, .int .i64 t216, .int .i64 0, .int .i64 0]) ?_ 2 _ rfl; (with_reducible repeat (first | refine ze ?_ _ | refine zf ?_ | refine za ?_ _)); refine zw (cs := #[.int .i64 t215, .int .i64 0, .int .i64 0, .int .i64 0]) ?_ 1 _ rfl; (with_reducible repeat (first | refine ze ?_ _ | refine zf ?_ | refine za ?_ _)); refine zw (cs := #[.int .i64 0, .int .i64 0, .int .i64 0, .int .i64 0]) ?_ 0 _ rfl; (with_reducible repeat (first | refine ze ?_ _ | refine zf ?_ | refine za ?_ _)); exact BK5.out⟩
 have n5_ : zh (((((((((w39.setCell ⟨g5, 0, none⟩ (.int .i64 t215)).setCell ⟨g5, 1, none⟩ (.int .i64 t216)).setCell ⟨g5, 2, none⟩ (.int .i64 t217)).setCell ⟨g5, 3, none⟩ (.int .i64 t218)).setCell ⟨g6, 0, none⟩ (.int .i64 t219)).setCell ⟨g6, 1, none⟩ (.int .i64 t220)).setCell ⟨g6, 2, none⟩ (.int .i64 t221)).setCell ⟨g6, 3, none⟩ (.int .i64 t222)).heap[g6]? = some (.cells #[.int .i64 t219, .int .i64 t220, .int .i64 t221, .int .i64 t222] 23 (0, 0))) := ⟨by (with_reducible repeat (first | refine ze ?_ _ | refine zf ?_ | refine za ?_ _)); refine zw (cs := #[.int .i64 t219, .int .i64 t220, .int .i64 t221, .int .i64 0]) ?_ 3 _ rfl; (with_reducible repeat (first | refine ze ?_ _ | refine zf ?_ | refine za ?_ _)); refine zw (cs := #[.int .i64 t219, .int .i64 t220, .int .i64 0, .int .i64 0]) ?_ 2 _ rfl; (with_reducible repeat (first | refine ze ?_ _ | refine zf ?_ | refine za ?_ _)); refine zw (cs := #[.int .i64 t219, .int .i64 0, .int .i64 0, .int .i64 0]) ?_ 1 _ rfl; (with_reducible repeat (first | refine ze ?_ _ | refine zf ?_ | refine za ?_ _)); refine zw (cs := #[.int .i64 0, .int .i64 0, .int .i64 0, .int .i64 0]) ?_ 0 _ rfl; (with_reducible repeat (first | refine ze ?_ _ | refine zf ?_ | refine za ?_ _)); refine zp ?_ N6_5.out _; (with_reducible repeat (first | refine ze ?_ _ | refine zf ?_ | refine za ?_ _)); refine zp ?_ N6_5.out _; (with_reducible repeat (first | refine ze ?_ _ | refine zf ?_ | refine za ?_ _)); refine zp ?_ N6_5.out _; (with_reducible repeat (first | refine ze ?_ _ | refine zf ?_ | refine za ?_ _)); refine zp ?_ N6_5.out _; (with_reducible repeat (first | refine ze ?_ _ | refine zf ?_ | refine za ?_ _)); exact BK6.out⟩
 have n6_ : zh (Below w.heap.size w ((((((((w39.setCell ⟨g5, 0, none⟩ (.int .i64 t215)).setCell ⟨g5, 1, none⟩ (.int .i64 t216)).setCell ⟨g5, 2, none⟩ (.int .i64 t217)).setCell ⟨g5, 3, none⟩ (.int .i64 t218)).setCell ⟨g6, 0, none⟩ (.int .i64 t219)).setCell ⟨g6, 1, none⟩ (.int .i64 t220)).setCell ⟨g6, 2, none⟩ (.int .i64 t221)).setCell ⟨g6, 3, none⟩ (.int .i64 t222))) := ⟨by repeat (first | (with_reducible first | exact HB.out | apply zl | apply zj | apply zk | refine zg ?_ GE1.out | refine zg ?_ GE2.out | refine zg ?_ GE3.out | refine zg ?_ GE4.out | refine zg ?_ GE5.out | refine zg ?_ GE6.out) | exact HB.out)⟩
 (try clear BK1)
 (try clear BK2)
 (try clear BK3)
 (try clear BK4)
 (try clear BK5)
 (try clear BK6)
 (try clear HB)
 generalize ((((((((w39.setCell ⟨g5, 0, none⟩ (.int .i64 t215)).setCell ⟨g5, 1, none⟩ (.int .i64 t216)).setCell ⟨g5, 2, none⟩ (.int .i64 t217)).setCell ⟨g5, 3, none⟩ (.int .i64 t218)).setCell ⟨g6, 0, none⟩ (.int .i64 t219)).setCell ⟨g6, 1, none⟩ (.int .i64 t220)).setCell ⟨g6, 2, none⟩ (.int .i64 t221)).setCell ⟨g6, 3, none⟩ (.int .i64 t222)) = w47 at n0_ n1_ n2_ n3_ n4_ n5_ n6_ ⊢
 have BK1 := n0_
 have BK2 := n1_
 have BK3 := n2_
 have BK4 := n3_
 have BK5 := n4_
 have BK6 := n5_
 have HB := n6_
 clear n0_ n1_ n2_ n3_ n4_ n5_ n6_
 exact hEnd g5 g6 _ BK1 BK2 BK3 BK4 BK5 BK6 GW5 GE5 GW6 GE6 N1_5 N1_6 N2_5 N2_6 N3_5 N3_6 N4_5 N4_6 N5_1 N5_2 N5_3 N5_4 N5_6 N6_1 N6_2 N6_3 N6_4 N6_5 HB
end Go.Proofs.Ytidblojobcgkjaa.M
