-- Written by wip/tools/myprint.py, a program of this session, by way of the kit's print.
import Derived.Test.YtgcbhknpfpgffaaRows
import Derived.Test.YtgcbhknpfpgffaaCx9
import Derived.Test.YtgcbhknpfpgffaaSFnExactCanFindIn
import Derived.Test.YtgcbhknpfpgffaaPureFnExactCanFindIn
import Derived.Test.YtgcbhknpfpgffaaZRead
import Derived.WalkKit
import Derived.ProofKit
import Derived.OpenShut
import Derived.ShutString
import Derived.ChangeOld
import Derived.Below
import Derived.SizedLaws
import Derived.Carry
namespace Go.Proofs.Ytgcbhknpfpgffaa.fnExactCanFindIn
open Go.ChangeShapes Go.WideShapes Go.ChangeAt Go.RowKit Go.Proofs.Ytgcbhknpfpgffaa.C Go.Proofs.YtgcbhknpfpgffaaZ Go.Proofs.YtgcbhknpfpgffaaW.PrintWords Go.Proofs.YtgcbhknpfpgffaaW.PrintLast Go.Proofs.YtgcbhknpfpgffaaW.PrintMore
open Go.ChangeMaps (open_string shut_string)
set_option linter.unusedVariables false
set_option linter.unusedSimpArgs false
theorem own : ownKnob Try.prog.godebug = none := by kernel_rfl
theorem laidOut : laidOutB Try.prog = true := by kernel_rfl
set_option maxHeartbeats 1000000 in
set_option maxRecDepth 100000 in
theorem lifted (os : Os) (started : os.Started) (H : Type) (enc : TypeId × Value → H) :
  ReturnsInHanded {} Try.checked os 3 .any (Rows.fnExactCanFindInSpec.pre6 enc Try.prog Try.f3 Rows.fnExactCanFindInRow.domain false) (Rows.fnExactCanFindInSpec.post enc Try.prog Try.f3 false true false false) := by
 refine returnsInHanded_of_change_sized (C := Try.checked) own started (by kernel_rfl) Try.func3
  (ChangeSpec.witness6 (enc := enc) (C := Try.checked) false ⟨#[], #[.int .i64 0, .agg #[.int .i64 0, .int .i64 0, .int .i64 0, .int .i64 0], .int .i64 0], []⟩ 8 (by kernel_rfl) (by kernel_rfl) (by kernel_rfl) (by kernel_rfl)) ?_
 intro W base args ds gs before hval0 hW hcnd hsz0 _
 have hsz : (DataW.weightsEach Try.prog (Try.f3.params.toList ++ Rows.fnExactCanFindInSpec.plain.varTypes Try.prog) (ds ++ gs)).all (· ≤ reachBytes) = true := hsz0
 have hval : ∀ (j : Nat) t v, Try.f3.params[j]? = some t → args[j]? = some v → Value.okWide Try.prog W .any base t v := hval0
 have hW' := hW
 obtain ⟨p, q, hA0, hV, rfl, hfz, hnd⟩ := hW
 have hA : DataW.TrodAll enc Try.prog W 0 (fun _ => true) true Try.f3.params.toList args.toList ds p := hA0
 rw [Try.params3] at hA hval hsz
 obtain ⟨v0, vs0, d0, ds0, p0, q0, hargs, rfl, rfl, h0, r0⟩ := trodAll_cons hA
 obtain ⟨v1, vs1, d1, ds1, p1, q1, rfl, rfl, rfl, h1, r1⟩ := trodAll_cons r0
 obtain ⟨v2, vs2, d2, ds2, p2, q2, rfl, rfl, rfl, h2, r2⟩ := trodAll_cons r1
 obtain ⟨rfl, rfl, rfl⟩ := trodAll_nil r2
 obtain rfl : args = #[v0, v1, v2] := by cases args; simp_all
 obtain ⟨rfl, rfl⟩ := trodVars_none hV
 obtain ⟨a0, rfl, rfl, rfl, w0⟩ := open_int Try.underlying2 (hval 0 2 v0 rfl rfl) h0
 obtain ⟨cs1, rfl⟩ := arr_of Try.underlying22 (hval 1 22 v1 rfl rfl)
 have k1 := h1
 have lt1 : ∀ x ∈ p1, x.block < W.heap.size := by obtain ⟨m, hm⟩ := k1; exact DataW.trod_lt m _ _ _ hm
 obtain ⟨fuel1, hf1⟩ := h1
 replace hf1 : DataW.trod enc Try.prog W 0 (fun _ => true) true fuel1 22 cs1 = some (d1, p1) := hf1
 have hl_1 := zgf Try.underlying22 hf1 4 (by kernel_rfl)
 obtain ⟨c1x0, crc1x_0, rfl, hl_2⟩ := zhd hl_1
 obtain ⟨c1x1, crc1x_1, rfl, hl_3⟩ := zhd hl_2
 obtain ⟨c1x2, crc1x_2, rfl, hl_4⟩ := zhd hl_3
 obtain ⟨c1x3, crc1x_3, rfl, hl_5⟩ := zhd hl_4
 obtain rfl := nil_of hl_5
 obtain ⟨m_6, y_7, h_8⟩ := zid Try.underlying22 hf1 0 (by decide) 1 (by kernel_rfl)
 replace h_8 : DataW.trod enc Try.prog W 0 (fun _ => true) true m_6 2 [c1x0] = some y_7 := h_8
 obtain ⟨a1_0, e_9, w1_0⟩ := (zde Try.underlying2) h_8
 obtain rfl : c1x0 = Value.int .i64 a1_0 := (List.cons.inj (show [c1x0] = [Value.int .i64 a1_0] from e_9)).1
 obtain ⟨m_10, y_11, h_12⟩ := zid Try.underlying22 hf1 1 (by decide) 1 (by kernel_rfl)
 replace h_12 : DataW.trod enc Try.prog W 0 (fun _ => true) true m_10 2 [c1x1] = some y_11 := h_12
 obtain ⟨a1_1, e_13, w1_1⟩ := (zde Try.underlying2) h_12
 obtain rfl : c1x1 = Value.int .i64 a1_1 := (List.cons.inj (show [c1x1] = [Value.int .i64 a1_1] from e_13)).1
 obtain ⟨m_14, y_15, h_16⟩ := zid Try.underlying22 hf1 2 (by decide) 1 (by kernel_rfl)
 replace h_16 : DataW.trod enc Try.prog W 0 (fun _ => true) true m_14 2 [c1x2] = some y_15 := h_16
 obtain ⟨a1_2, e_17, w1_2⟩ := (zde Try.underlying2) h_16
 obtain rfl : c1x2 = Value.int .i64 a1_2 := (List.cons.inj (show [c1x2] = [Value.int .i64 a1_2] from e_17)).1
 obtain ⟨m_18, y_19, h_20⟩ := zid Try.underlying22 hf1 3 (by decide) 1 (by kernel_rfl)
 replace h_20 : DataW.trod enc Try.prog W 0 (fun _ => true) true m_18 2 [c1x3] = some y_19 := h_20
 obtain ⟨a1_3, e_21, w1_3⟩ := (zde Try.underlying2) h_20
 obtain rfl : c1x3 = Value.int .i64 a1_3 := (List.cons.inj (show [c1x3] = [Value.int .i64 a1_3] from e_21)).1
 obtain ⟨a2, rfl, rfl, rfl, w2⟩ := open_int Try.underlying2 (hval 2 2 v2 rfl rfl) h2
 obtain ⟨k, hk⟩ := Pure.FnExactCanFindIn a0 a1_0 a1_1 a1_2 a1_3 a2 w0 w1_0 w1_1 w1_2 w1_3 w2
 clear hA0 hval0 hsz0 hsz
 refine (laws_FnExactCanFindIn.calls k a0 a1_0 a1_1 a1_2 a1_3 a2 true W hk).mono fun e W' ⟨he, bel0⟩ => ?_
 have bel : Below W.heap.size W W' := bel0
 subst he
 exact ⟨_, rfl, _, _, _, [], _, [], hW', trodAll_mk1 (shut_bool Try.underlying4 _), (trodAll_cons_mk (shut_int Try.underlying2 w0) (trodAll_cons_mk (Below.trod laidOut (by kernel_rfl) (of_decide_eq_true (by kernel_rfl)) k1 bel lt1) (trodAll_cons_mk (shut_int Try.underlying2 w2) trodAll_mk0))), rfl, bel.frame _, fun h => by cases h⟩
theorem over : Rows.fnExactCanFindInRow.holds Try.pinned (OpenSpec.ofChange Rows.fnExactCanFindInSpec) :=
 OpenClaim.holds_of_wide 3 Try.f3 rfl rfl rfl rfl rfl rfl rfl ⟨rfl, rfl, rfl, rfl, rfl⟩ rfl rfl rfl rfl rfl (by kernel_rfl) Try.func3 (by kernel_rfl)
  (of_decide_eq_true (by kernel_rfl)) (by unfold Func.isWrapper; first | (rw [if_pos (by decide +kernel)]; kernel_rfl) | (rw [if_neg (by decide +kernel)]; exact ⟨rfl, rfl⟩))
  (fun os started H enc _ => lifted os started H enc)
theorem proved : Rows.FnExactCanFindInSaid := over
#print axioms proved
end Go.Proofs.Ytgcbhknpfpgffaa.fnExactCanFindIn
namespace Go.Proofs.Ytgcbhknpfpgffaa
/-- The row, under a short name, for the claim. -/
theorem fnExactCanFindIn_holds : Rows.FnExactCanFindInSaid := fnExactCanFindIn.proved
end Go.Proofs.Ytgcbhknpfpgffaa
