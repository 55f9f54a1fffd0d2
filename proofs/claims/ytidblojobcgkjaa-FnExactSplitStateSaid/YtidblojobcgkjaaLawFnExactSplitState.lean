-- Written by wip/tools/myprint.py, a program of this session, by way of the kit's print.
import Derived.Test.YtidblojobcgkjaaRows
import Derived.Test.YtidblojobcgkjaaMx10
import Derived.Test.YtidblojobcgkjaaSFnExactSplitState
import Derived.Test.YtidblojobcgkjaaPureFnExactSplitState
import Derived.Test.YtidblojobcgkjaaZRead
import Derived.WalkKit
import Derived.ProofKit
import Derived.OpenShut
import Derived.ShutString
import Derived.ChangeOld
import Derived.Below
import Derived.SizedLaws
import Derived.Carry
namespace Go.Proofs.Ytidblojobcgkjaa.fnExactSplitState
open Go.ChangeShapes Go.WideShapes Go.ChangeAt Go.RowKit Go.Proofs.Ytidblojobcgkjaa.M Go.Proofs.YtidblojobcgkjaaZ Go.Proofs.YtidblojobcgkjaaW.PrintWords Go.Proofs.YtidblojobcgkjaaW.PrintLast Go.Proofs.YtidblojobcgkjaaW.PrintMore
open Go.ChangeMaps (open_string shut_string)
set_option linter.unusedVariables false
set_option linter.unusedSimpArgs false
theorem own : ownKnob Try.prog.godebug = none := by kernel_rfl
theorem laidOut : laidOutB Try.prog = true := by kernel_rfl
set_option maxHeartbeats 1000000 in
set_option maxRecDepth 100000 in
theorem lifted (os : Os) (started : os.Started) (H : Type) (enc : TypeId × Value → H) :
  ReturnsInHanded {} Try.checked os 3 .any (Rows.fnExactSplitStateSpec.pre6 enc Try.prog Try.f3 Rows.fnExactSplitStateRow.domain false) (Rows.fnExactSplitStateSpec.post enc Try.prog Try.f3 false true false false) := by
 refine returnsInHanded_of_change_sized (C := Try.checked) own started (by kernel_rfl) Try.func3
  (ChangeSpec.witness6 (enc := enc) (C := Try.checked) false ⟨#[], #[.int .i64 0, .agg #[.int .i64 0, .int .i64 0, .int .i64 0, .int .i64 0], .agg #[.int .i64 0, .int .i64 0, .int .i64 0, .int .i64 0]], []⟩ 8 (by kernel_rfl) (by kernel_rfl) (by kernel_rfl) (by kernel_rfl)) ?_
 intro W base args ds gs before hval0 hW hcnd hsz0 _
 have hsz : (DataW.weightsEach Try.prog (Try.f3.params.toList ++ Rows.fnExactSplitStateSpec.plain.varTypes Try.prog) (ds ++ gs)).all (· ≤ reachBytes) = true := hsz0
 have hval : ∀ (j : Nat) t v, Try.f3.params[j]? = some t → args[j]? = some v → Value.okWide Try.prog W .any base t v := hval0
 have hW' := hW
 obtain ⟨p, q, hA0, hV, rfl, hfz, hnd⟩ := hW
 have hA : DataW.TrodAll enc Try.prog W 0 (fun _ => true) true Try.f3.params.toList args.toList ds p := hA0
 rw [Try.params3] at hA hval hsz
 obtain ⟨v0, vs0, d0, ds0, p0, q0, hargs, rfl, rfl, h0, r0⟩ := trodAll_cons hA
 obtain ⟨v1, vs1, d1, ds1, p1, q1, rfl, rfl, rfl, h1, r1⟩ := trodAll_cons r0
 obtain ⟨v2, vs2, d2, ds2, p2, q2, rfl, rfl, rfl, h2, r2⟩ := trodAll_cons r1
 obtain ⟨rfl, rfl, rfl⟩ := trodAll_nil r2
 obtain rfl : args = #[v0, v1, v2] := by cases args; simp_all
 obtain ⟨rfl, rfl⟩ := trodVars_none hV
 obtain ⟨a0, rfl, rfl, rfl, w0⟩ := open_int Try.underlying2 (hval 0 2 v0 rfl rfl) h0
 obtain ⟨cs1, rfl⟩ := arr_of Try.underlying22 (hval 1 22 v1 rfl rfl)
 have k1 := h1
 have lt1 : ∀ x ∈ p1, x.block < W.heap.size := by obtain ⟨m, hm⟩ := k1; exact DataW.trod_lt m _ _ _ hm
 obtain ⟨fuel1, hf1⟩ := h1
 replace hf1 : DataW.trod enc Try.prog W 0 (fun _ => true) true fuel1 22 cs1 = some (d1, p1) := hf1
 have hl_1 := len_array Try.underlying22 hf1 4 (by kernel_rfl)
 obtain ⟨c1x0, crc1x_0, rfl, hl_2⟩ := cons_of hl_1
 obtain ⟨c1x1, crc1x_1, rfl, hl_3⟩ := cons_of hl_2
 obtain ⟨c1x2, crc1x_2, rfl, hl_4⟩ := cons_of hl_3
 obtain ⟨c1x3, crc1x_3, rfl, hl_5⟩ := cons_of hl_4
 obtain rfl := nil_of hl_5
 obtain ⟨m_6, y_7, h_8⟩ := item_at Try.underlying22 hf1 0 (by decide) 1 (by kernel_rfl)
 replace h_8 : DataW.trod enc Try.prog W 0 (fun _ => true) true m_6 2 [c1x0] = some y_7 := h_8
 obtain ⟨a1_0, e_9, w1_0⟩ := (rd_int Try.underlying2) h_8
 obtain rfl : c1x0 = Value.int .i64 a1_0 := (List.cons.inj (show [c1x0] = [Value.int .i64 a1_0] from e_9)).1
 obtain ⟨m_10, y_11, h_12⟩ := item_at Try.underlying22 hf1 1 (by decide) 1 (by kernel_rfl)
 replace h_12 : DataW.trod enc Try.prog W 0 (fun _ => true) true m_10 2 [c1x1] = some y_11 := h_12
 obtain ⟨a1_1, e_13, w1_1⟩ := (rd_int Try.underlying2) h_12
 obtain rfl : c1x1 = Value.int .i64 a1_1 := (List.cons.inj (show [c1x1] = [Value.int .i64 a1_1] from e_13)).1
 obtain ⟨m_14, y_15, h_16⟩ := item_at Try.underlying22 hf1 2 (by decide) 1 (by kernel_rfl)
 replace h_16 : DataW.trod enc Try.prog W 0 (fun _ => true) true m_14 2 [c1x2] = some y_15 := h_16
 obtain ⟨a1_2, e_17, w1_2⟩ := (rd_int Try.underlying2) h_16
 obtain rfl : c1x2 = Value.int .i64 a1_2 := (List.cons.inj (show [c1x2] = [Value.int .i64 a1_2] from e_17)).1
 obtain ⟨m_18, y_19, h_20⟩ := item_at Try.underlying22 hf1 3 (by decide) 1 (by kernel_rfl)
 replace h_20 : DataW.trod enc Try.prog W 0 (fun _ => true) true m_18 2 [c1x3] = some y_19 := h_20
 obtain ⟨a1_3, e_21, w1_3⟩ := (rd_int Try.underlying2) h_20
 obtain rfl : c1x3 = Value.int .i64 a1_3 := (List.cons.inj (show [c1x3] = [Value.int .i64 a1_3] from e_21)).1
 obtain ⟨cs2, rfl⟩ := arr_of Try.underlying22 (hval 2 22 v2 rfl rfl)
 have k2 := h2
 have lt2 : ∀ x ∈ p2, x.block < W.heap.size := by obtain ⟨m, hm⟩ := k2; exact DataW.trod_lt m _ _ _ hm
 obtain ⟨fuel2, hf2⟩ := h2
 replace hf2 : DataW.trod enc Try.prog W 0 (fun _ => true) true fuel2 22 cs2 = some (d2, p2) := hf2
 have hl_22 := len_array Try.underlying22 hf2 4 (by kernel_rfl)
 obtain ⟨c2x0, crc2x_0, rfl, hl_23⟩ := cons_of hl_22
 obtain ⟨c2x1, crc2x_1, rfl, hl_24⟩ := cons_of hl_23
 obtain ⟨c2x2, crc2x_2, rfl, hl_25⟩ := cons_of hl_24
 obtain ⟨c2x3, crc2x_3, rfl, hl_26⟩ := cons_of hl_25
 obtain rfl := nil_of hl_26
 obtain ⟨m_27, y_28, h_29⟩ := item_at Try.underlying22 hf2 0 (by decide) 1 (by kernel_rfl)
 replace h_29 : DataW.trod enc Try.prog W 0 (fun _ => true) true m_27 2 [c2x0] = some y_28 := h_29
 obtain ⟨a2_0, e_30, w2_0⟩ := (rd_int Try.underlying2) h_29
 obtain rfl : c2x0 = Value.int .i64 a2_0 := (List.cons.inj (show [c2x0] = [Value.int .i64 a2_0] from e_30)).1
 obtain ⟨m_31, y_32, h_33⟩ := item_at Try.underlying22 hf2 1 (by decide) 1 (by kernel_rfl)
 replace h_33 : DataW.trod enc Try.prog W 0 (fun _ => true) true m_31 2 [c2x1] = some y_32 := h_33
 obtain ⟨a2_1, e_34, w2_1⟩ := (rd_int Try.underlying2) h_33
 obtain rfl : c2x1 = Value.int .i64 a2_1 := (List.cons.inj (show [c2x1] = [Value.int .i64 a2_1] from e_34)).1
 obtain ⟨m_35, y_36, h_37⟩ := item_at Try.underlying22 hf2 2 (by decide) 1 (by kernel_rfl)
 replace h_37 : DataW.trod enc Try.prog W 0 (fun _ => true) true m_35 2 [c2x2] = some y_36 := h_37
 obtain ⟨a2_2, e_38, w2_2⟩ := (rd_int Try.underlying2) h_37
 obtain rfl : c2x2 = Value.int .i64 a2_2 := (List.cons.inj (show [c2x2] = [Value.int .i64 a2_2] from e_38)).1
 obtain ⟨m_39, y_40, h_41⟩ := item_at Try.underlying22 hf2 3 (by decide) 1 (by kernel_rfl)
 replace h_41 : DataW.trod enc Try.prog W 0 (fun _ => true) true m_39 2 [c2x3] = some y_40 := h_41
 obtain ⟨a2_3, e_42, w2_3⟩ := (rd_int Try.underlying2) h_41
 obtain rfl : c2x3 = Value.int .i64 a2_3 := (List.cons.inj (show [c2x3] = [Value.int .i64 a2_3] from e_42)).1
 obtain ⟨k, hk⟩ := Pure.FnExactSplitState a0 a1_0 a1_1 a1_2 a1_3 a2_0 a2_1 a2_2 a2_3 w0 w1_0 w1_1 w1_2 w1_3 w2_0 w2_1 w2_2 w2_3
 clear hA0 hval0 hsz0 hsz
 refine (laws_FnExactSplitState.calls k a0 a1_0 a1_1 a1_2 a1_3 a2_0 a2_1 a2_2 a2_3 W hk).mono fun e W' ⟨he, bel0⟩ => ?_
 have bel : Below W.heap.size W W' := bel0
 subst he
 exact ⟨_, rfl, _, _, _, [], _, [], hW', trodAll_mk1 (shut_bool Try.underlying4 _), (trodAll_cons_mk (shut_int Try.underlying2 w0) (trodAll_cons_mk (Below.trod laidOut (by kernel_rfl) (of_decide_eq_true (by kernel_rfl)) k1 bel lt1) (trodAll_cons_mk (Below.trod laidOut (by kernel_rfl) (of_decide_eq_true (by kernel_rfl)) k2 bel lt2) trodAll_mk0))), rfl, bel.frame _, fun h => by cases h⟩
theorem over : Rows.fnExactSplitStateRow.holds Try.pinned (OpenSpec.ofChange Rows.fnExactSplitStateSpec) :=
 OpenClaim.holds_of_wide 3 Try.f3 rfl rfl rfl rfl rfl rfl rfl ⟨rfl, rfl, rfl, rfl, rfl⟩ rfl rfl rfl rfl rfl (by kernel_rfl) Try.func3 (by kernel_rfl)
  (of_decide_eq_true (by kernel_rfl)) (by unfold Func.isWrapper; first | (rw [if_pos (by decide +kernel)]; kernel_rfl) | (rw [if_neg (by decide +kernel)]; exact ⟨rfl, rfl⟩))
  (fun os started H enc _ => lifted os started H enc)
theorem proved : Rows.FnExactSplitStateSaid := over
#print axioms proved
end Go.Proofs.Ytidblojobcgkjaa.fnExactSplitState
namespace Go.Proofs.Ytidblojobcgkjaa
/-- The row, under a short name, for the claim. -/
theorem fnExactSplitState_holds : Rows.FnExactSplitStateSaid := fnExactSplitState.proved
end Go.Proofs.Ytidblojobcgkjaa
