-- Written by wip/tools/myprint.py, a program of this session, by way of the kit's print.
import Derived.Test.YteciomagemjjaaaRows
import Derived.Test.YteciomagemjjaaaJx21
import Derived.Test.YteciomagemjjaaaSFnExactAmountsIn
import Derived.Test.YteciomagemjjaaaPureFnExactAmountsIn
import Derived.Test.YteciomagemjjaaaZRead
import Derived.WalkKit
import Derived.ProofKit
import Derived.OpenShut
import Derived.ShutString
import Derived.ChangeOld
import Derived.Below
import Derived.SizedLaws
import Derived.Carry
namespace Go.Proofs.Yteciomagemjjaaa.fnExactAmountsIn
open Go.ChangeShapes Go.WideShapes Go.ChangeAt Go.RowKit Go.Proofs.Yteciomagemjjaaa.J Go.Proofs.YteciomagemjjaaaZ Go.Proofs.YteciomagemjjaaaW.PrintWords Go.Proofs.YteciomagemjjaaaW.PrintLast Go.Proofs.YteciomagemjjaaaW.PrintMore
open Go.ChangeMaps (open_string shut_string)
set_option linter.unusedVariables false
set_option linter.unusedSimpArgs false
theorem own : ownKnob Try.prog.godebug = none := by kernel_rfl
theorem laidOut : laidOutB Try.prog = true := by kernel_rfl
set_option maxHeartbeats 1000000 in
set_option maxRecDepth 100000 in
theorem lifted (os : Os) (started : os.Started) (H : Type) (enc : TypeId × Value → H) :
  ReturnsInHanded {} Try.checked os 9 .any (Rows.fnExactAmountsInSpec.pre6 enc Try.prog Try.f9 Rows.fnExactAmountsInRow.domain false) (Rows.fnExactAmountsInSpec.post enc Try.prog Try.f9 false true false false) := by
 refine returnsInHanded_of_change_sized (C := Try.checked) own started (by kernel_rfl) Try.func9
  (ChangeSpec.witness6 (enc := enc) (C := Try.checked) false ⟨#[], #[.agg #[.slice none 0 0, .int .i16 0, .int .i16 0, .int .i16 0, .int .i16 0, .bool false]], []⟩ 8 (by kernel_rfl) (by kernel_rfl) (by kernel_rfl) (by kernel_rfl)) ?_
 intro W base args ds gs before hval0 hW hcnd hsz0 _
 have hsz : (DataW.weightsEach Try.prog (Try.f9.params.toList ++ Rows.fnExactAmountsInSpec.plain.varTypes Try.prog) (ds ++ gs)).all (· ≤ reachBytes) = true := hsz0
 have hval : ∀ (j : Nat) t v, Try.f9.params[j]? = some t → args[j]? = some v → Value.okWide Try.prog W .any base t v := hval0
 have hW' := hW
 obtain ⟨p, q, hA0, hV, rfl, hfz, hnd⟩ := hW
 have hA : DataW.TrodAll enc Try.prog W 0 (fun _ => true) true Try.f9.params.toList args.toList ds p := hA0
 rw [Try.params9] at hA hval hsz
 obtain ⟨v0, vs0, d0, ds0, p0, q0, hargs, rfl, rfl, h0, r0⟩ := trodAll_cons hA
 obtain ⟨rfl, rfl, rfl⟩ := trodAll_nil r0
 obtain rfl : args = #[v0] := by cases args; simp_all
 obtain ⟨rfl, rfl⟩ := trodVars_none hV
 obtain ⟨cs0, rfl⟩ := agg_of Try.underlying53 (hval 0 53 v0 rfl rfl)
 have k0 := h0
 have lt0 : ∀ x ∈ p0, x.block < W.heap.size := by obtain ⟨m, hm⟩ := k0; exact DataW.trod_lt m _ _ _ hm
 obtain ⟨fuel0, hf0⟩ := h0
 replace hf0 : DataW.trod enc Try.prog W 0 (fun _ => true) true fuel0 53 cs0 = some (d0, p0) := hf0
 have hl_1 := len_struct Try.underlying53 hf0 6 (by kernel_rfl)
 obtain ⟨c0x0, crc0x_0, rfl, hl_2⟩ := zkd hl_1
 obtain ⟨c0x1, crc0x_1, rfl, hl_3⟩ := zkd hl_2
 obtain ⟨c0x2, crc0x_2, rfl, hl_4⟩ := zkd hl_3
 obtain ⟨c0x3, crc0x_3, rfl, hl_5⟩ := zkd hl_4
 obtain ⟨c0x4, crc0x_4, rfl, hl_6⟩ := zkd hl_5
 obtain ⟨c0x5, crc0x_5, rfl, hl_7⟩ := zkd hl_6
 obtain rfl := nil_of hl_7
 obtain ⟨m_8, y_9, h_10⟩ := field_at Try.underlying53 hf0 0 _ rfl 0 1 rfl (by kernel_rfl)
 replace h_10 : DataW.trod enc Try.prog W 0 (fun _ => true) true m_8 24 [c0x0] = some y_9 := h_10
 obtain ⟨l0_0, e_11, hm0_0, hw0_0⟩ := (rd_slice Try.underlying24 (by kernel_rfl) (fun h_ => (rd_int Try.underlying25) h_)) h_10
 obtain ⟨A0_0, c0_0, e_11, hc0_0, hr0_0⟩ := e_11
 obtain rfl : c0x0 = Value.slice A0_0 l0_0.length c0_0 := (List.cons.inj (show [c0x0] = [Value.slice A0_0 l0_0.length c0_0] from e_11)).1
 obtain ⟨m_12, y_13, h_14⟩ := field_at Try.underlying53 hf0 1 _ rfl 1 4 rfl (by kernel_rfl)
 replace h_14 : DataW.trod enc Try.prog W 0 (fun _ => true) true m_12 26 [c0x1, c0x2, c0x3, c0x4] = some y_13 := h_14
 obtain ⟨m_15, y_16, h_17⟩ := item_at Try.underlying26 h_14 0 (by decide) 1 (by kernel_rfl)
 replace h_17 : DataW.trod enc Try.prog W 0 (fun _ => true) true m_15 25 [c0x1] = some y_16 := h_17
 obtain ⟨a0_1, e_18, w0_1⟩ := (rd_int Try.underlying25) h_17
 obtain rfl : c0x1 = Value.int .i16 a0_1 := (List.cons.inj (show [c0x1] = [Value.int .i16 a0_1] from e_18)).1
 obtain ⟨m_19, y_20, h_21⟩ := item_at Try.underlying26 h_14 1 (by decide) 1 (by kernel_rfl)
 replace h_21 : DataW.trod enc Try.prog W 0 (fun _ => true) true m_19 25 [c0x2] = some y_20 := h_21
 obtain ⟨a0_2, e_22, w0_2⟩ := (rd_int Try.underlying25) h_21
 obtain rfl : c0x2 = Value.int .i16 a0_2 := (List.cons.inj (show [c0x2] = [Value.int .i16 a0_2] from e_22)).1
 obtain ⟨m_23, y_24, h_25⟩ := item_at Try.underlying26 h_14 2 (by decide) 1 (by kernel_rfl)
 replace h_25 : DataW.trod enc Try.prog W 0 (fun _ => true) true m_23 25 [c0x3] = some y_24 := h_25
 obtain ⟨a0_3, e_26, w0_3⟩ := (rd_int Try.underlying25) h_25
 obtain rfl : c0x3 = Value.int .i16 a0_3 := (List.cons.inj (show [c0x3] = [Value.int .i16 a0_3] from e_26)).1
 obtain ⟨m_27, y_28, h_29⟩ := item_at Try.underlying26 h_14 3 (by decide) 1 (by kernel_rfl)
 replace h_29 : DataW.trod enc Try.prog W 0 (fun _ => true) true m_27 25 [c0x4] = some y_28 := h_29
 obtain ⟨a0_4, e_30, w0_4⟩ := (rd_int Try.underlying25) h_29
 obtain rfl : c0x4 = Value.int .i16 a0_4 := (List.cons.inj (show [c0x4] = [Value.int .i16 a0_4] from e_30)).1
 obtain ⟨m_31, y_32, h_33⟩ := field_at Try.underlying53 hf0 2 _ rfl 5 1 rfl (by kernel_rfl)
 replace h_33 : DataW.trod enc Try.prog W 0 (fun _ => true) true m_31 4 [c0x5] = some y_32 := h_33
 obtain ⟨a0_5, e_34, w0_5⟩ := (rd_bool Try.underlying4) h_33
 obtain rfl : c0x5 = Value.bool a0_5 := (List.cons.inj (show [c0x5] = [Value.bool a0_5] from e_34)).1
 obtain ⟨k, hk⟩ := Pure.FnExactAmountsIn l0_0 a0_1 a0_2 a0_3 a0_4 a0_5 hm0_0 hw0_0 w0_1 w0_2 w0_3 w0_4
 clear hA0 hval0 hsz0 hsz
 refine (laws_FnExactAmountsIn.calls k _ _ l0_0 a0_1 a0_2 a0_3 a0_4 a0_5 true W hr0_0 hc0_0 hk).mono fun e W' ⟨he, bel0⟩ => ?_
 have bel : Below W.heap.size W W' := bel0
 subst he
 exact ⟨_, rfl, _, _, _, [], _, [], hW', trodAll_mk1 (shut_bool Try.underlying4 _), (trodAll_cons_mk (Below.trod laidOut (by kernel_rfl) (of_decide_eq_true (by kernel_rfl)) k0 bel lt0) trodAll_mk0), rfl, bel.frame _, fun h => by cases h⟩
theorem over : Rows.fnExactAmountsInRow.holds Try.pinned (OpenSpec.ofChange Rows.fnExactAmountsInSpec) :=
 OpenClaim.holds_of_wide 9 Try.f9 rfl rfl rfl rfl rfl rfl rfl ⟨rfl, rfl, rfl, rfl, rfl⟩ rfl rfl rfl rfl rfl (by kernel_rfl) Try.func9 (by kernel_rfl)
  (of_decide_eq_true (by kernel_rfl)) (by unfold Func.isWrapper; first | (rw [if_pos (by decide +kernel)]; kernel_rfl) | (rw [if_neg (by decide +kernel)]; exact ⟨rfl, rfl⟩))
  (fun os started H enc _ => lifted os started H enc)
theorem proved : Rows.FnExactAmountsInSaid := over
#print axioms proved
end Go.Proofs.Yteciomagemjjaaa.fnExactAmountsIn
namespace Go.Proofs.Yteciomagemjjaaa
/-- The row, under a short name, for the claim. -/
theorem fnExactAmountsIn_holds : Rows.FnExactAmountsInSaid := fnExactAmountsIn.proved
end Go.Proofs.Yteciomagemjjaaa
